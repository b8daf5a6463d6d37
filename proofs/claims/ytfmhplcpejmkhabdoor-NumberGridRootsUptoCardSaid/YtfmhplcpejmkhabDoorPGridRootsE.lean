/-
  The reference's natural and rational numbers as values of a known number: contracts by what they denote; two rational numbers in variables.
  Contracts: number.Sign, the reference's Mag. Under the premise that the table of math/bits lies as its initialiser lays it.
  Contracts of the reference's Pow.
  Contracts of the reference's Exact.
  Contracts of the reference's RootBelow, RootAbove.
  Contracts of number.Root. Under the premise that the table of math/bits lies as its initialiser lays it.
  Contracts of the reference's Root, GridRoot.
  Contract of the statements' own awake.
-/
import Derived.Test.YtfmhplcpejmkhabDoorPGridRootsD
namespace Go.Proofs.YtfmhplcpejmkhabDoor
open Go.RowKit Dig
set_option linter.unusedVariables false
set_option linter.unusedSimpArgs false
/-- the slice of n digits is the number a -/
def RAt (w : World) (A : Option Addr) (n c a : Nat) : Prop := (R a).length = n ∧ Rd w A c (R a)
theorem RAt.below {w w' : World} {A : Option Addr} {n c a : Nat} (h : RAt w A n c a) (hb : Below w.heap.size w w') : RAt w' A n c a := ⟨h.1, h.2.below hb⟩
theorem RAt.of {w : World} {A : Option Addr} {c a : Nat} (h : Rd w A c (R a)) : RAt w A (R a).length c a := ⟨rfl, h⟩
theorem IsQ.at_ {w : World} {t : Bool} {A B : Option Addr} {n c m d : Nat} {q : Rat} (h : IsQ w (.agg #[.bool t, .slice A n c, .slice B m d]) q) : t = ng q ∧ RAt w A n c q.num.natAbs ∧ RAt w B m d q.den := by
  obtain ⟨A1, c1, A2, c2, e, h1, h2⟩ := h
  simp only [Value.agg.injEq, Array.mk.injEq, List.cons.injEq, Value.bool.injEq, Value.slice.injEq, and_true] at e
  obtain ⟨rfl, ⟨rfl, rfl, rfl⟩, rfl, rfl, rfl⟩ := e
  exact ⟨rfl, ⟨rfl, h1⟩, rfl, h2⟩
theorem bShl (a k : Nat) (w : World) (A : Option Addr) (n c : Nat) (h : RAt w A n c a) (hs : (R a).length ≤ 500000) (hk : k ≤ 1000000) :
    Calls Tryd.prog 84 #[.slice A n c, .int .i64 k] w fun e w' => ∃ A' n' c', e = .returned (.slice A' n' c') ∧ Hid (RAt w' A' n' c' (a * 2 ^ k)) ∧ Below w.heap.size w w' := by
  obtain ⟨rfl, hr⟩ := h
  refine (rShl a k w A c hr (by omega) (by omega)).mono ?_
  rintro e w' ⟨B, d, rfl, hB, hb⟩
  exact ⟨_, _, _, rfl, RAt.of hB, hb⟩
theorem bDiv (a b : Nat) (w : World) (A A' : Option Addr) (n c n' c' : Nat) (h : RAt w A n c a) (h' : RAt w A' n' c' b) (hs : (R a).length ≤ 1000000) (hb : 0 < b) :
    Calls Tryd.prog 107 #[.slice A n c, .slice A' n' c'] w fun e w' => ∃ B x y B' x' y', e = .returned (.tuple #[.slice B x y, .slice B' x' y']) ∧ Hid (RAt w' B x y (a / b)) ∧ Hid (RAt w' B' x' y' (a % b)) ∧ Below w.heap.size w w' := by
  obtain ⟨rfl, hr⟩ := h
  obtain ⟨rfl, hr'⟩ := h'
  refine (rDiv a b w A A' c c' hr hr' (by omega) hb).mono ?_
  rintro e w' ⟨B, d, B', d', rfl, hB, hB', hbl⟩
  exact ⟨_, _, _, _, _, _, rfl, RAt.of hB, RAt.of hB', hbl⟩
theorem bMul (a b : Nat) (w : World) (A A' : Option Addr) (n c n' c' : Nat) (h : RAt w A n c a) (h' : RAt w A' n' c' b) (hs : (R a).length ≤ 1000000) (hs' : (R b).length ≤ 1000000) :
    Calls Tryd.prog 96 #[.slice A n c, .slice A' n' c'] w fun e w' => ∃ B x y, e = .returned (.slice B x y) ∧ Hid (RAt w' B x y (a * b)) ∧ Below w.heap.size w w' := by
  obtain ⟨rfl, hr⟩ := h
  obtain ⟨rfl, hr'⟩ := h'
  refine (rMul a b w A A' c c' hr hr' (by omega) (by omega)).mono ?_
  rintro e w' ⟨B, d, rfl, hB, hbl⟩
  exact ⟨_, _, _, rfl, RAt.of hB, hbl⟩
theorem bAdd (a b : Nat) (w : World) (A A' : Option Addr) (n c n' c' : Nat) (h : RAt w A n c a) (h' : RAt w A' n' c' b) (hs : (R a).length ≤ 1000000) (hs' : (R b).length ≤ 1000000) :
    Calls Tryd.prog 129 #[.slice A n c, .slice A' n' c'] w fun e w' => ∃ B x y, e = .returned (.slice B x y) ∧ Hid (RAt w' B x y (a + b)) ∧ Below w.heap.size w w' := by
  obtain ⟨rfl, hr⟩ := h
  obtain ⟨rfl, hr'⟩ := h'
  refine (rAdd a b w A A' c c' hr hr' (by omega) (by omega)).mono ?_
  rintro e w' ⟨B, d, rfl, hB, hbl⟩
  exact ⟨_, _, _, rfl, RAt.of hB, hbl⟩
theorem bSub (a b : Nat) (w : World) (A A' : Option Addr) (n c n' c' : Nat) (h : RAt w A n c a) (h' : RAt w A' n' c' b) (hs : (R a).length ≤ 1000000) (hle : b ≤ a) :
    Calls Tryd.prog 130 #[.slice A n c, .slice A' n' c'] w fun e w' => ∃ B x y, e = .returned (.slice B x y) ∧ Hid (RAt w' B x y (a - b)) ∧ Below w.heap.size w w' := by
  obtain ⟨rfl, hr⟩ := h
  obtain ⟨rfl, hr'⟩ := h'
  refine (rSub a b w A A' c c' hr hr' (by omega) hle).mono ?_
  rintro e w' ⟨B, d, rfl, hB, hbl⟩
  exact ⟨_, _, _, rfl, RAt.of hB, hbl⟩
theorem bCmp (a b : Nat) (w : World) (A A' : Option Addr) (n c n' c' : Nat) (h : RAt w A n c a) (h' : RAt w A' n' c' b) :
    Calls Tryd.prog 49 #[.slice A n c, .slice A' n' c'] w fun e w' => e = .returned (.int .i64 (cmpI a b)) ∧ Below w.heap.size w w' := by
  obtain ⟨rfl, hr⟩ := h
  obtain ⟨rfl, hr'⟩ := h'
  exact rCmp a b w A A' c c' hr hr'
theorem bOne (w : World) : Calls Tryd.prog 69 #[.int .u64 1] w fun e w' => ∃ B x y, e = .returned (.slice B x y) ∧ Hid (RAt w' B x y 1) ∧ Below w.heap.size w w' := by
  refine (rNatOf1 w).mono ?_
  rintro e w' ⟨B, d, rfl, hB, hbl⟩
  exact ⟨_, _, _, rfl, RAt.of hB, hbl⟩
theorem bRoot (a k : Nat) (w : World) (A : Option Addr) (n c : Nat) (h : RAt w A n c a) (hs : (R a).length ≤ 4000) (h2 : 2 ≤ k) (h8 : k ≤ 12) :
    Calls Tryd.prog 113 #[.slice A n c, .int .i64 k] w fun e w' => ∃ A' n' c', e = .returned (.slice A' n' c') ∧ Hid (RAt w' A' n' c' (irt k a)) ∧ Below w.heap.size w w' := by
  obtain ⟨m, rfl⟩ : ∃ m, k = m + 2 := ⟨k - 2, by omega⟩
  obtain ⟨rfl, hr⟩ := h
  refine (rRoot a m w A c hr hs (by omega)).mono ?_
  rintro e w' ⟨B, d, rfl, hB, hb⟩
  exact ⟨_, _, _, rfl, RAt.of hB, hb⟩
theorem bMake (s : Bool) (a d : Nat) (w : World) (A A' : Option Addr) (n c n' c' : Nat) (h : RAt w A n c a) (h' : RAt w A' n' c' d) (hd : d ≠ 0) (hs : (R a).length ≤ 1000000) (hs' : (R d).length ≤ 1000000) (q : Rat) (hq : mkRat (sg s a) d = q) :
    Calls Tryd.prog 70 #[.bool s, .slice A n c, .slice A' n' c'] w fun e w' => ∃ t B1 m1 e1 B2 m2 e2, e = .returned (.agg #[.bool t, .slice B1 m1 e1, .slice B2 m2 e2]) ∧ Hid (IsQ w' (.agg #[.bool t, .slice B1 m1 e1, .slice B2 m2 e2]) q) ∧ Below w.heap.size w w' := by
  obtain ⟨rfl, hr⟩ := h
  obtain ⟨rfl, hr'⟩ := h'
  subst hq
  exact Calls.parts (rMake s a d w A A' c c' hr hr' hd (by omega) (by omega))
theorem bDen (q : Rat) (w : World) (v : Value) (h : IsQ w v q) : Calls Tryd.prog 85 #[v] w fun e w' => ∃ B x y, e = .returned (.slice B x y) ∧ Hid (RAt w' B x y q.den) ∧ Below w.heap.size w w' := by
  obtain ⟨A1, c1, A2, c2, rfl, r1, r2⟩ := h
  refine (rDen _ _ _ w A1 A2 c1 c2 r2 q.den_nz).mono ?_
  rintro e w' ⟨B, d, rfl, hB, hb⟩
  exact ⟨_, _, _, rfl, RAt.of hB, hb⟩
theorem bOpp (a q : Rat) (hq : -a = q) (w : World) (v1 : Value) (h1 : IsQ w v1 a) : Calls Tryd.prog 28 #[v1] w fun e w' => ∃ t B1 m1 e1 B2 m2 e2, e = .returned (.agg #[.bool t, .slice B1 m1 e1, .slice B2 m2 e2]) ∧ Hid (IsQ w' (.agg #[.bool t, .slice B1 m1 e1, .slice B2 m2 e2]) q) ∧ Below w.heap.size w w' := by
  subst hq
  exact Calls.parts (qOpp a w v1 h1)
theorem bCmpQ (a b : Rat) (c : Int) (hc : cmpQ a b = c) (w : World) (v1 v2 : Value) (h1 : IsQ w v1 a) (h2 : IsQ w v2 b) (k1 : Rq 400000 a) (k2 : Rq 400000 b) :
    Calls Tryd.prog 40 #[v1, v2] w fun e w' => e = .returned (.int .i64 c) ∧ Below w.heap.size w w' := by
  obtain ⟨A1, c1, A2, c2, rfl, r1, r2⟩ := h1
  obtain ⟨A3, c3, A4, c4, rfl, r3, r4⟩ := h2
  subst hc
  exact rCmpQ (ng a) a.num.natAbs a.den (ng b) b.num.natAbs b.den w _ _ _ _ _ _ _ _ r1 r2 r3 r4 k1.1 k1.2 k2.1 k2.2 a.den_nz b.den_nz (a - b) (rat_sub a b)
theorem XP.newer {w M : World} {g1 g3 : Nat} {s1 : Bool} {A1 : Option Addr} {n1 c1 : Nat} {B1 : Option Addr} {m1 d1 : Nat} {q : Rat} (h : XP w M g1 g3 s1 A1 n1 c1 B1 m1 d1 q) : g1 ≠ M.heap.size ∧ g3 ≠ M.heap.size ∧ w.heap.size ≤ M.heap.size := by
  have h1 := h.f.lt
  obtain ⟨_, _, _, _, _, _, h4⟩ := h.res
  have h2 := h4.lt
  exact ⟨by omega, by omega, h.bel.size⟩
theorem IsQ.grown {w w' : World} {v : Value} {q : Rat} {g : Nat} {x y z : Value} {t : TypeId} (h : IsQ w v q) (hb : Box w g x y z t) (hx : NI x) (hy : NI y) (hz : NI z) (hg : w.grownBy w' (some g)) : IsQ w' v q := by
  obtain ⟨A1, c1, A2, c2, e, r1, r2⟩ := h
  exact ⟨A1, c1, A2, c2, e, r1.grown_box hb hx hy hz hg, r2.grown_box hb hx hy hz hg⟩
/-- two rational numbers of the reference in variables, and a variable for a result -/
structure XQ (w M : World) (g1 g2 g3 : Nat) (s1 : Bool) (A1 : Option Addr) (n1 c1 : Nat) (B1 : Option Addr) (m1 d1 : Nat) (a : Rat) (s2 : Bool) (A2 : Option Addr) (n2 c2 : Nat) (B2 : Option Addr) (m2 d2 : Nat) (b : Rat) : Prop where
  p : XP w M g1 g3 s1 A1 n1 c1 B1 m1 d1 a
  g : Box M g2 (.bool s2) (.slice A2 n2 c2) (.slice B2 m2 d2) 39
  r2 : IsQ M (.agg #[.bool s2, .slice A2 n2 c2, .slice B2 m2 d2]) b
  ne : g2 ≠ g3
section
variable {w M M' : World} {g1 g2 g3 : Nat} {s1 : Bool} {A1 : Option Addr} {n1 c1 : Nat} {B1 : Option Addr} {m1 d1 : Nat} {a : Rat} {s2 : Bool} {A2 : Option Addr} {n2 c2 : Nat} {B2 : Option Addr} {m2 d2 : Nat} {b : Rat}
theorem XQ.below (h : XQ w M g1 g2 g3 s1 A1 n1 c1 B1 m1 d1 a s2 A2 n2 c2 B2 m2 d2 b) (hb : Below M.heap.size M M') : XQ w M' g1 g2 g3 s1 A1 n1 c1 B1 m1 d1 a s2 A2 n2 c2 B2 m2 d2 b :=
  ⟨h.p.below hb, h.g.below hb, h.r2.below hb, h.ne⟩
theorem XQ.drew (h : XQ w M g1 g2 g3 s1 A1 n1 c1 B1 m1 d1 a s2 A2 n2 c2 B2 m2 d2 b) : XQ w M.drew g1 g2 g3 s1 A1 n1 c1 B1 m1 d1 a s2 A2 n2 c2 B2 m2 d2 b := h.below (Below.refl _ _).drew
theorem XQ.cells (h : XQ w M g1 g2 g3 s1 A1 n1 c1 B1 m1 d1 a s2 A2 n2 c2 B2 m2 d2 b) : (World.cell? M ⟨g1, 0, none⟩ = some (.bool s1) ∧ World.cell? M ⟨g1, 1, none⟩ = some (.slice A1 n1 c1) ∧ World.cell? M ⟨g1, 2, none⟩ = some (.slice B1 m1 d1) ∧ World.cell? M ⟨g2, 0, none⟩ = some (.bool s2) ∧ World.cell? M ⟨g2, 1, none⟩ = some (.slice A2 n2 c2) ∧ World.cell? M ⟨g2, 2, none⟩ = some (.slice B2 m2 d2) ∧ Hid (XQ w M g1 g2 g3 s1 A1 n1 c1 B1 m1 d1 a s2 A2 n2 c2 B2 m2 d2 b)) := by
  obtain ⟨a1, a2, a3, _, _, _⟩ := h.p.f.cells
  obtain ⟨b1, b2, b3, _, _, _⟩ := h.g.cells
  exact ⟨a1, a2, a3, b1, b2, b3, h⟩
theorem XQ.of (h : (World.cell? M ⟨g1, 0, none⟩ = some (.bool s1) ∧ World.cell? M ⟨g1, 1, none⟩ = some (.slice A1 n1 c1) ∧ World.cell? M ⟨g1, 2, none⟩ = some (.slice B1 m1 d1) ∧ World.cell? M ⟨g2, 0, none⟩ = some (.bool s2) ∧ World.cell? M ⟨g2, 1, none⟩ = some (.slice A2 n2 c2) ∧ World.cell? M ⟨g2, 2, none⟩ = some (.slice B2 m2 d2) ∧ Hid (XQ w M g1 g2 g3 s1 A1 n1 c1 B1 m1 d1 a s2 A2 n2 c2 B2 m2 d2 b))) : XQ w M g1 g2 g3 s1 A1 n1 c1 B1 m1 d1 a s2 A2 n2 c2 B2 m2 d2 b := h.2.2.2.2.2.2.out
theorem XQ.next (h : (World.cell? M ⟨g1, 0, none⟩ = some (.bool s1) ∧ World.cell? M ⟨g1, 1, none⟩ = some (.slice A1 n1 c1) ∧ World.cell? M ⟨g1, 2, none⟩ = some (.slice B1 m1 d1) ∧ World.cell? M ⟨g2, 0, none⟩ = some (.bool s2) ∧ World.cell? M ⟨g2, 1, none⟩ = some (.slice A2 n2 c2) ∧ World.cell? M ⟨g2, 2, none⟩ = some (.slice B2 m2 d2) ∧ Hid (XQ w M g1 g2 g3 s1 A1 n1 c1 B1 m1 d1 a s2 A2 n2 c2 B2 m2 d2 b))) (hb : Below M.heap.size M M') : (World.cell? M' ⟨g1, 0, none⟩ = some (.bool s1) ∧ World.cell? M' ⟨g1, 1, none⟩ = some (.slice A1 n1 c1) ∧ World.cell? M' ⟨g1, 2, none⟩ = some (.slice B1 m1 d1) ∧ World.cell? M' ⟨g2, 0, none⟩ = some (.bool s2) ∧ World.cell? M' ⟨g2, 1, none⟩ = some (.slice A2 n2 c2) ∧ World.cell? M' ⟨g2, 2, none⟩ = some (.slice B2 m2 d2) ∧ Hid (XQ w M' g1 g2 g3 s1 A1 n1 c1 B1 m1 d1 a s2 A2 n2 c2 B2 m2 d2 b)) := ((XQ.of h).below hb).cells
theorem XQ.nextS (h : (World.cell? M ⟨g1, 0, none⟩ = some (.bool s1) ∧ World.cell? M ⟨g1, 1, none⟩ = some (.slice A1 n1 c1) ∧ World.cell? M ⟨g1, 2, none⟩ = some (.slice B1 m1 d1) ∧ World.cell? M ⟨g2, 0, none⟩ = some (.bool s2) ∧ World.cell? M ⟨g2, 1, none⟩ = some (.slice A2 n2 c2) ∧ World.cell? M ⟨g2, 2, none⟩ = some (.slice B2 m2 d2) ∧ Hid (XQ w M g1 g2 g3 s1 A1 n1 c1 B1 m1 d1 a s2 A2 n2 c2 B2 m2 d2 b))) {x : Bool} {B C : Option Addr} {k k' c c' : Nat} : (World.cell? (((M.setCell ⟨g3, 0, none⟩ (.bool x)).setCell ⟨g3, 1, none⟩ (.slice B k k')).setCell ⟨g3, 2, none⟩ (.slice C c c')) ⟨g1, 0, none⟩ = some (.bool s1) ∧ World.cell? (((M.setCell ⟨g3, 0, none⟩ (.bool x)).setCell ⟨g3, 1, none⟩ (.slice B k k')).setCell ⟨g3, 2, none⟩ (.slice C c c')) ⟨g1, 1, none⟩ = some (.slice A1 n1 c1) ∧ World.cell? (((M.setCell ⟨g3, 0, none⟩ (.bool x)).setCell ⟨g3, 1, none⟩ (.slice B k k')).setCell ⟨g3, 2, none⟩ (.slice C c c')) ⟨g1, 2, none⟩ = some (.slice B1 m1 d1) ∧ World.cell? (((M.setCell ⟨g3, 0, none⟩ (.bool x)).setCell ⟨g3, 1, none⟩ (.slice B k k')).setCell ⟨g3, 2, none⟩ (.slice C c c')) ⟨g2, 0, none⟩ = some (.bool s2) ∧ World.cell? (((M.setCell ⟨g3, 0, none⟩ (.bool x)).setCell ⟨g3, 1, none⟩ (.slice B k k')).setCell ⟨g3, 2, none⟩ (.slice C c c')) ⟨g2, 1, none⟩ = some (.slice A2 n2 c2) ∧ World.cell? (((M.setCell ⟨g3, 0, none⟩ (.bool x)).setCell ⟨g3, 1, none⟩ (.slice B k k')).setCell ⟨g3, 2, none⟩ (.slice C c c')) ⟨g2, 2, none⟩ = some (.slice B2 m2 d2) ∧ Hid (XQ w (((M.setCell ⟨g3, 0, none⟩ (.bool x)).setCell ⟨g3, 1, none⟩ (.slice B k k')).setCell ⟨g3, 2, none⟩ (.slice C c c')) g1 g2 g3 s1 A1 n1 c1 B1 m1 d1 a s2 A2 n2 c2 B2 m2 d2 b)) := by
  have h := XQ.of h
  have hg := grown_set3 M g3 (.bool x) (.slice B k k') (.slice C c c')
  obtain ⟨x, y, z, hx, hy, hz, h4⟩ := h.p.res
  exact XQ.cells ⟨XP.of (XP.nextS h.p.cells), (hg.block g2 h.g.lt (fun e => h.ne (Option.some.inj e))).trans h.g, h.r2.grown h4 hx hy hz hg, h.ne⟩
theorem XP.boxed {g5 : Nat} {x y z : Value} {t' : TypeId} (h : (World.cell? M ⟨g1, 0, none⟩ = some (.bool s1) ∧ World.cell? M ⟨g1, 1, none⟩ = some (.slice A1 n1 c1) ∧ World.cell? M ⟨g1, 2, none⟩ = some (.slice B1 m1 d1) ∧ Hid (XP w M g1 g3 s1 A1 n1 c1 B1 m1 d1 a))) (h5 : Box M g5 (.bool false) (.slice none 0 0) (.slice none 0 0) t') (hn : g1 ≠ g5 ∧ g3 ≠ g5 ∧ w.heap.size ≤ g5) (hx : NI x) (hy : NI y) (hz : NI z) :
    (World.cell? (((M.setCell ⟨g5, 0, none⟩ x).setCell ⟨g5, 1, none⟩ y).setCell ⟨g5, 2, none⟩ z) ⟨g1, 0, none⟩ = some (.bool s1) ∧ World.cell? (((M.setCell ⟨g5, 0, none⟩ x).setCell ⟨g5, 1, none⟩ y).setCell ⟨g5, 2, none⟩ z) ⟨g1, 1, none⟩ = some (.slice A1 n1 c1) ∧ World.cell? (((M.setCell ⟨g5, 0, none⟩ x).setCell ⟨g5, 1, none⟩ y).setCell ⟨g5, 2, none⟩ z) ⟨g1, 2, none⟩ = some (.slice B1 m1 d1) ∧ Hid (XP w (((M.setCell ⟨g5, 0, none⟩ x).setCell ⟨g5, 1, none⟩ y).setCell ⟨g5, 2, none⟩ z) g1 g3 s1 A1 n1 c1 B1 m1 d1 a)) := by
  have hg := grown_set3 M g5 x y z
  have h := XP.of h
  obtain ⟨x', y', z', hx', hy', hz', h4⟩ := h.res
  exact XP.cells ⟨(hg.block g1 h.f.lt (fun e => hn.1 (Option.some.inj e))).trans h.f, ⟨x', y', z', hx', hy', hz', (hg.block g3 h4.lt (fun e => hn.2.1 (Option.some.inj e))).trans h4⟩, h.r1.grown h5 (NI.bool _) (NI.slice _ _ _) (NI.slice _ _ _) hg, below_set3 h.bel hn.2.2 _ _ _, h.n3, h.ne⟩
/-- a result that is stored in a new variable, which was made last -/
theorem XP.last (h : XP w M g1 g3 s1 A1 n1 c1 B1 m1 d1 a) (h2 : IsQ M (.agg #[.bool s2, .slice A2 n2 c2, .slice B2 m2 d2]) b) :
    XQ w (M.alloc (.cells #[.bool s2, .slice A2 n2 c2, .slice B2 m2 d2] 39)) g1 M.heap.size g3 s1 A1 n1 c1 B1 m1 d1 a s2 A2 n2 c2 B2 m2 d2 b :=
  ⟨h.below (below_alloc _ _), Box.new _ _ _ _ _, h2.below (below_alloc _ _), fun e => h.newer.2.1 e.symm⟩
/-- .. which was made before -/
theorem XP.first {g5 : Nat} (h : XP w M g1 g3 s1 A1 n1 c1 B1 m1 d1 a) (h2 : IsQ M (.agg #[.bool s2, .slice A2 n2 c2, .slice B2 m2 d2]) b) (h5 : Box M g5 (.bool false) (.slice none 0 0) (.slice none 0 0) 39) (hn : g1 ≠ g5 ∧ g3 ≠ g5 ∧ w.heap.size ≤ g5) :
    XQ w (((M.setCell ⟨g5, 0, none⟩ (.bool s2)).setCell ⟨g5, 1, none⟩ (.slice A2 n2 c2)).setCell ⟨g5, 2, none⟩ (.slice B2 m2 d2)) g1 g5 g3 s1 A1 n1 c1 B1 m1 d1 a s2 A2 n2 c2 B2 m2 d2 b := by
  have hg := grown_set3 M g5 (.bool s2) (.slice A2 n2 c2) (.slice B2 m2 d2)
  exact ⟨XP.of (XP.boxed h.cells h5 hn (NI.bool _) (NI.slice _ _ _) (NI.slice _ _ _)), h5.set3 _ _ _, h2.grown h5 (NI.bool _) (NI.slice _ _ _) (NI.slice _ _ _) hg, fun e => hn.2.1 e.symm⟩
end
/-- a rational number that comes in -/
theorem XP.start (w : World) {s1 : Bool} {A1 : Option Addr} {n1 c1 : Nat} {B1 : Option Addr} {m1 d1 : Nat} {q : Rat} (h : IsQ w (.agg #[.bool s1, .slice A1 n1 c1, .slice B1 m1 d1]) q) : ∃ M, M = ((w.alloc (.cells #[.bool s1, .slice A1 n1 c1, .slice B1 m1 d1] 39)).alloc (.cells #[.bool false, .slice none 0 0, .slice none 0 0] 39)) ∧
    XP w M w.heap.size (w.heap.size + 1) s1 A1 n1 c1 B1 m1 d1 q := by
  obtain ⟨M, hM, k1, k2, bM⟩ := start1 w (.bool s1) (.slice A1 n1 c1) (.slice B1 m1 d1) (.bool false) (.slice none 0 0) (.slice none 0 0) 39 39
  exact ⟨M, hM, k1, ⟨_, _, _, NI.bool _, NI.slice _ _ _, NI.slice _ _ _, k2⟩, h.below bM, bM, by omega, by omega⟩
end Go.Proofs.YtfmhplcpejmkhabDoor

namespace Go.Proofs.YtfmhplcpejmkhabDoor
open Go.RowKit Dig
set_option linter.unusedVariables false
set_option linter.unusedSimpArgs false
set_option maxHeartbeats 2000000 in
set_option maxRecDepth 100000 in
theorem nSign (s1 : Bool) (N1 D1 : Nat) (w : World) (v1 : Value) (h1 : RawV w v1 s1 N1 D1) (hT : Tab w) (q : Rat) (hq : ratOf s1 N1 D1 = q) (k : Int) (hk : sgnI (ng q) q.num.natAbs = k) (L1 : Bool) (hL1 : largeB s1 N1 D1 = L1) (x y : Int) (hx : (if L1 = true then 0 else k) = x) (hy : (if L1 = true then 1 else 0) = y) :
    Calls Tryd.prog 20 #[v1] w fun e w' => e = .returned (.tuple #[.int .i64 x, .int .i64 y]) ∧ Below w.heap.size w w' := by
  have H1 := Lib.hid h1
  have HT := Lib.hid hT
  obtain ⟨A1, n1, c1, A1', n1', c1', rfl⟩ := h1.shape
  have bM := below_alloc w (.cells #[.bool s1, .slice A1 n1 c1, .slice A1' n1' c1'] 24)
  have HX := Lib.hid (Box.new w (.bool s1) (.slice A1 n1 c1) (.slice A1' n1' c1') 24)
  have BM := Lib.hid bM
  have HQ := Lib.hid hq
  have HK := Lib.hid hk
  have HL1 := Lib.hid hL1
  replace H1 := Lib.hid (H1.out.below bM)
  replace HT := Lib.hid (HT.out.below bM)
  have HXX := Lib.hid hx
  have HYY := Lib.hid hy
  clear h1 hT bM hq hk hL1 hx hy
  go_enter Tryd.func20, Tryd.ntmps20
  go_upto_region 1 with (fail)
  obtain ⟨x1, x2, x3, _, _, _⟩ := HX.out.cells
  go_wp2_with fail
  refine (readV _ s1 N1 D1 _ H1.out HT.out).mono ?_
  rw [HL1.out, HQ.out]
  rintro e wa ⟨t1, B1, m1, d1, B1', m1', d1', rfl, f1, ba⟩
  have bb := below_step ba ba.size (below_alloc wa (.cells #[.bool t1, .slice B1 m1 d1, .slice B1' m1' d1'] 65))
  have HF1 := Lib.hid (Box.new wa (.bool t1) (.slice B1 m1 d1) (.slice B1' m1' d1') 65)
  have F1 : Hid (L1 = false → IsF (wa.alloc (.cells #[.bool t1, .slice B1 m1 d1, .slice B1' m1' d1'] 65)) (.agg #[.bool t1, .slice B1 m1 d1, .slice B1' m1' d1']) q) := Lib.hid (fun h => (f1.out h).below (below_alloc _ _))
  have BM := Lib.hid (below_step BM.out BM.out.size bb)
  clear x1 x2 x3 ba bb f1
  obtain ⟨w1, hw1⟩ : ∃ w1, wa.alloc (.cells #[.bool t1, .slice B1 m1 d1, .slice B1' m1' d1'] 65) = w1 := ⟨_, rfl⟩
  go_upto_region 2 with (fail)
  rw [hw1] at BM HF1 F1
  try rw [hw1]
  clear hw1
  rcases L1 with _ | _
  · obtain rfl : k = x := by have := HXX.out; simpa using this
    obtain rfl : 0 = y := by have := HYY.out; simpa using this
    obtain ⟨E1, e1, E2, e2, ev, r1, r2⟩ := F1.out rfl
    obtain ⟨rfl, ⟨rfl, rfl, rfl⟩, rfl, rfl, rfl⟩ : t1 = ng q ∧ (B1 = E1 ∧ m1 = (W q.num.natAbs).length ∧ d1 = e1) ∧ B1' = E2 ∧ m1' = (W q.den).length ∧ d1' = e2 := by simpa using ev
    obtain ⟨x1, x2, x3, _, _, _⟩ := HF1.out.cells
    clear ev r1 r2
    go_wp2_with fail
    refine (fracSign _ _ _ _ _ _ _ _).mono ?_
    rw [HK.out]
    rintro e wb ⟨rfl, bb⟩
    have BM := Lib.hid (below_step BM.out BM.out.size bb)
    clear bb x1 x2 x3
    go_wp2_with fail
    refine bodyPost_ret (v := .tuple #[.int .i64 k, .int .i64 0]) (by simp [results, Tryd.results20, go_sem]) rfl ⟨rfl, BM.out⟩
  · obtain rfl : 0 = x := by have := HXX.out; simpa using this
    obtain rfl : 1 = y := by have := HYY.out; simpa using this
    go_wp2_with fail
    refine bodyPost_ret (v := .tuple #[.int .i64 0, .int .i64 1]) (by simp [results, Tryd.results20, go_sem]) rfl ⟨rfl, BM.out⟩
theorem qSgn (b : Rat) (w : World) (v : Value) (h : IsQ w v b) :
    Calls Tryd.prog 26 #[v] w fun e w' => e = .returned (.int .i64 (sgnI (ng b) b.num.natAbs)) ∧ Below w.heap.size w w' := by
  obtain ⟨A1, c1, A2, c2, rfl, r1, r2⟩ := h
  exact rSgn _ _ _ w _ _ _ _
set_option maxHeartbeats 1000000 in
theorem rMag (s1 : Bool) (n1 d1 : Nat) (w : World) (A1 A2 : Option Addr) (c1 c2 : Nat) :
    Calls Tryd.prog 29 #[.agg #[.bool s1, .slice A1 n1 c1, .slice A2 d1 c2]] w fun e w' => e = .returned (.agg #[.bool false, .slice A1 n1 c1, .slice A2 d1 c2]) ∧ Below w.heap.size w w' := by
  go_enter Tryd.func29, Tryd.ntmps29
  go_wp2_with fail
  refine bodyPost_ret (v := .agg #[.bool false, .slice A1 n1 c1, .slice A2 d1 c2]) (by simp [results, Tryd.results29, go_sem]) rfl ⟨rfl, below_alloc2 _ _ _ _ _ _ _ _ _⟩
theorem qMag (a : Rat) (w : World) (v1 : Value) (h1 : IsQ w v1 a) :
    Calls Tryd.prog 29 #[v1] w fun e w' => ∃ u, e = .returned u ∧ IsQ w' u (absQ a) ∧ Below w.heap.size w w' := by
  obtain ⟨A1, c1, A2, c2, rfl, r1, r2⟩ := h1
  obtain ⟨e1, e2, e3⟩ := absQ_facts a
  refine (rMag _ _ _ w A1 A2 c1 c2).mono ?_
  rintro e w' ⟨rfl, hb⟩
  exact ⟨_, rfl, by unfold IsQ; rw [e1, e2, e3]; exact ⟨_, _, _, _, rfl, r1.below hb, r2.below hb⟩, hb⟩
end Go.Proofs.YtfmhplcpejmkhabDoor

namespace Go.Proofs.YtfmhplcpejmkhabDoor
open Go.RowKit Dig
set_option linter.unusedVariables false
set_option linter.unusedSimpArgs false
theorem sgnI_nzP {b : Rat} (h : b ≠ 0) : sgnI (ng b) b.num.natAbs ≠ 0 := by
  have hn : b.num ≠ 0 := fun h0 => h (Rat.num_eq_zero.1 h0)
  unfold sgnI
  rw [if_neg (by omega)]
  split <;> decide
theorem pow_Rq {a : Rat} {k p : Nat} (h : Rq k a) (hp : p ≤ 32) : Rq (k * 32 + 1) (powN a p) := by
  obtain ⟨_, e2, e3⟩ := powN_facts a p
  unfold Rq
  rw [e2, e3]
  have h1 := R_pow_len a.num.natAbs p
  have h2 := R_pow_len a.den p
  have h3 : (R a.num.natAbs).length * p ≤ k * 32 := Nat.mul_le_mul h.1 hp
  have h4 : (R a.den).length * p ≤ k * 32 := Nat.mul_le_mul h.2 hp
  exact ⟨by omega, by omega⟩
theorem inv_Rq {b : Rat} {k : Nat} (h : b ≠ 0) (hk : Rq k b) : Rq k b⁻¹ := by
  obtain ⟨_, e2, e3⟩ := inv_facts h
  unfold Rq
  rw [e2, e3]
  exact ⟨hk.2, hk.1⟩
set_option maxHeartbeats 2000000 in
set_option maxRecDepth 100000 in
theorem lPow_large (s1 : Bool) (N1 D1 : Nat) (p : Int) (w : World) (v1 : Value) (h1 : RawV w v1 s1 N1 D1) (q : Rat) (hq : ratOf s1 N1 D1 = q) (hL : largeB s1 N1 D1 = true) :
    Calls Tryd.prog 15 #[v1, .int .i64 p] w (OutPost w (Out.err 1)) := by
  have H1 := Lib.hid h1
  obtain ⟨A1, n1, c1, A1', n1', c1', rfl⟩ := h1.shape
  clear h1
  obtain ⟨M, hM, k1, k3, bM⟩ := start1 w (.bool s1) (.slice A1 n1 c1) (.slice A1' n1' c1') (.bool false) (.slice none 0 0) (.slice none 0 0) 24 24
  have TA : Hid (P1 w M w.heap.size (w.heap.size + 1) s1 A1 n1 c1 A1' n1' c1' N1 D1) := Lib.hid ⟨k1, ⟨_, _, _, NI.bool _, NI.slice _ _ _, NI.slice _ _ _, k3⟩, H1.out.below bM, bM, by omega, by omega⟩
  have HQ := Lib.hid hq
  have HL := Lib.hid hL
  obtain ⟨o, ho⟩ : ∃ o, Out.err 1 = o := ⟨_, rfl⟩
  have HO := Lib.hid ho
  rw [ho]
  clear hq hL k1 k3 bM H1 ho
  go_enter Tryd.func15, Tryd.ntmps15
  go_upto_region 1 with (fail)
  rw [← hM]
  clear hM
  obtain ⟨x1, x2, x3, _⟩ := TA.out.cells
  go_wp2_with fail
  refine (largeV _ s1 N1 D1 _ TA.out.r1).mono ?_
  rw [HL.out]
  rintro e wa ⟨rfl, ba⟩
  replace TA := Lib.hid (TA.out.below ba)
  clear ba x1 x2 x3
  obtain ⟨x1, x2, x3, _⟩ := TA.out.cells
  obtain ⟨y1, y2, y3, hy1, hy2, hy3, f1, f2, f3⟩ := TA.out.res.cells
  obtain ⟨q0, q1, q2, hs, hb⟩ := OutIs.stored (o := .err 1) (k := 1) (s := false) (A1 := none) (A2 := none) (n1 := 0) (c1 := 0) (n2 := 0) (c2 := 0) ⟨rfl, rfl, by omega, by omega⟩ TA.out.res TA.out.bel TA.out.n3
  have Q := Lib.hid (And.intro q0 (And.intro q1 q2))
  have HBB := Lib.hid hb
  clear q0 q1 q2 hs hb
  go_wp2_with fail
  obtain ⟨q0, q1, q2⟩ := Q.out
  refine bodyPost_ret (v := .tuple #[noRat, .int .i64 1]) (by simp [results, Tryd.results15, go_sem, q0, q1, q2, noRat]) rfl ?_
  rw [← HO.out]
  exact OutPost.err rfl (by omega) (by omega) HBB.out
set_option maxHeartbeats 2000000 in
set_option maxRecDepth 100000 in
theorem lPow_low (s1 : Bool) (N1 D1 : Nat) (p : Int) (hp : p < -32) (w : World) (v1 : Value) (h1 : RawV w v1 s1 N1 D1) (q : Rat) (hq : ratOf s1 N1 D1 = q) (hL : largeB s1 N1 D1 = false) :
    Calls Tryd.prog 15 #[v1, .int .i64 p] w (OutPost w (Out.err 2)) := by
  have H1 := Lib.hid h1
  obtain ⟨A1, n1, c1, A1', n1', c1', rfl⟩ := h1.shape
  clear h1
  obtain ⟨M, hM, k1, k3, bM⟩ := start1 w (.bool s1) (.slice A1 n1 c1) (.slice A1' n1' c1') (.bool false) (.slice none 0 0) (.slice none 0 0) 24 24
  have TA : Hid (P1 w M w.heap.size (w.heap.size + 1) s1 A1 n1 c1 A1' n1' c1' N1 D1) := Lib.hid ⟨k1, ⟨_, _, _, NI.bool _, NI.slice _ _ _, NI.slice _ _ _, k3⟩, H1.out.below bM, bM, by omega, by omega⟩
  have HQ := Lib.hid hq
  have HL := Lib.hid hL
  have hp1 : decide (p < -32) = true := decide_eq_true hp
  clear hp
  obtain ⟨o, ho⟩ : ∃ o, Out.err 2 = o := ⟨_, rfl⟩
  have HO := Lib.hid ho
  rw [ho]
  clear hq hL k1 k3 bM H1 ho
  go_enter Tryd.func15, Tryd.ntmps15
  go_upto_region 1 with (fail)
  rw [← hM]
  clear hM
  obtain ⟨x1, x2, x3, _⟩ := TA.out.cells
  go_wp2_with fail
  refine (largeV _ s1 N1 D1 _ TA.out.r1).mono ?_
  rw [HL.out]
  rintro e wa ⟨rfl, ba⟩
  replace TA := Lib.hid (TA.out.below ba)
  clear ba x1 x2 x3
  obtain ⟨x1, x2, x3, _⟩ := TA.out.cells
  obtain ⟨y1, y2, y3, hy1, hy2, hy3, f1, f2, f3⟩ := TA.out.res.cells
  obtain ⟨q0, q1, q2, hs, hb⟩ := OutIs.stored (o := .err 2) (k := 2) (s := false) (A1 := none) (A2 := none) (n1 := 0) (c1 := 0) (n2 := 0) (c2 := 0) ⟨rfl, rfl, by omega, by omega⟩ TA.out.res TA.out.bel TA.out.n3
  have Q := Lib.hid (And.intro q0 (And.intro q1 q2))
  have HBB := Lib.hid hb
  clear q0 q1 q2 hs hb
  go_wp2_with fail
  obtain ⟨q0, q1, q2⟩ := Q.out
  refine bodyPost_ret (v := .tuple #[noRat, .int .i64 2]) (by simp [results, Tryd.results15, go_sem, q0, q1, q2, noRat]) rfl ?_
  rw [← HO.out]
  exact OutPost.err rfl (by omega) (by omega) HBB.out
set_option maxHeartbeats 2000000 in
set_option maxRecDepth 100000 in
theorem lPow_high (s1 : Bool) (N1 D1 : Nat) (p : Int) (hp : 32 < p) (w : World) (v1 : Value) (h1 : RawV w v1 s1 N1 D1) (q : Rat) (hq : ratOf s1 N1 D1 = q) (hL : largeB s1 N1 D1 = false) :
    Calls Tryd.prog 15 #[v1, .int .i64 p] w (OutPost w (Out.err 2)) := by
  have H1 := Lib.hid h1
  obtain ⟨A1, n1, c1, A1', n1', c1', rfl⟩ := h1.shape
  clear h1
  obtain ⟨M, hM, k1, k3, bM⟩ := start1 w (.bool s1) (.slice A1 n1 c1) (.slice A1' n1' c1') (.bool false) (.slice none 0 0) (.slice none 0 0) 24 24
  have TA : Hid (P1 w M w.heap.size (w.heap.size + 1) s1 A1 n1 c1 A1' n1' c1' N1 D1) := Lib.hid ⟨k1, ⟨_, _, _, NI.bool _, NI.slice _ _ _, NI.slice _ _ _, k3⟩, H1.out.below bM, bM, by omega, by omega⟩
  have HQ := Lib.hid hq
  have HL := Lib.hid hL
  have hp1 : decide (p < -32) = false := decide_eq_false (by omega)
  have hp2 : decide (32 < p) = true := decide_eq_true hp
  clear hp
  obtain ⟨o, ho⟩ : ∃ o, Out.err 2 = o := ⟨_, rfl⟩
  have HO := Lib.hid ho
  rw [ho]
  clear hq hL k1 k3 bM H1 ho
  go_enter Tryd.func15, Tryd.ntmps15
  go_upto_region 1 with (fail)
  rw [← hM]
  clear hM
  obtain ⟨x1, x2, x3, _⟩ := TA.out.cells
  go_wp2_with fail
  refine (largeV _ s1 N1 D1 _ TA.out.r1).mono ?_
  rw [HL.out]
  rintro e wa ⟨rfl, ba⟩
  replace TA := Lib.hid (TA.out.below ba)
  clear ba x1 x2 x3
  obtain ⟨x1, x2, x3, _⟩ := TA.out.cells
  obtain ⟨y1, y2, y3, hy1, hy2, hy3, f1, f2, f3⟩ := TA.out.res.cells
  obtain ⟨q0, q1, q2, hs, hb⟩ := OutIs.stored (o := .err 2) (k := 2) (s := false) (A1 := none) (A2 := none) (n1 := 0) (c1 := 0) (n2 := 0) (c2 := 0) ⟨rfl, rfl, by omega, by omega⟩ TA.out.res TA.out.bel TA.out.n3
  have Q := Lib.hid (And.intro q0 (And.intro q1 q2))
  have HBB := Lib.hid hb
  clear q0 q1 q2 hs hb
  go_wp2_with fail
  obtain ⟨q0, q1, q2⟩ := Q.out
  refine bodyPost_ret (v := .tuple #[noRat, .int .i64 2]) (by simp [results, Tryd.results15, go_sem, q0, q1, q2, noRat]) rfl ?_
  rw [← HO.out]
  exact OutPost.err rfl (by omega) (by omega) HBB.out
set_option maxHeartbeats 2000000 in
set_option maxRecDepth 100000 in
theorem lPow_zero (s1 : Bool) (N1 D1 : Nat) (p : Int) (hp : -32 ≤ p) (hn : p < 0) (hz : ratOf s1 N1 D1 = 0) (w : World) (v1 : Value) (h1 : RawV w v1 s1 N1 D1) (q : Rat) (hq : ratOf s1 N1 D1 = q) (hL : largeB s1 N1 D1 = false) :
    Calls Tryd.prog 15 #[v1, .int .i64 p] w (OutPost w (Out.err 10)) := by
  have H1 := Lib.hid h1
  obtain ⟨A1, n1, c1, A1', n1', c1', rfl⟩ := h1.shape
  clear h1
  obtain ⟨M, hM, k1, k3, bM⟩ := start1 w (.bool s1) (.slice A1 n1 c1) (.slice A1' n1' c1') (.bool false) (.slice none 0 0) (.slice none 0 0) 24 24
  have TA : Hid (P1 w M w.heap.size (w.heap.size + 1) s1 A1 n1 c1 A1' n1' c1' N1 D1) := Lib.hid ⟨k1, ⟨_, _, _, NI.bool _, NI.slice _ _ _, NI.slice _ _ _, k3⟩, H1.out.below bM, bM, by omega, by omega⟩
  have HQ := Lib.hid hq
  have HL := Lib.hid hL
  have hp1 : decide (p < -32) = false := decide_eq_false (by omega)
  have hp2 : decide (32 < p) = false := decide_eq_false (by omega)
  have hp3 : decide (p < 0) = true := decide_eq_true (by omega)
  have HSG := Lib.hid (show sgnI (ng q) q.num.natAbs = 0 by rw [← hq, hz]; decide)
  clear hp hn hz
  obtain ⟨o, ho⟩ : ∃ o, Out.err 10 = o := ⟨_, rfl⟩
  have HO := Lib.hid ho
  rw [ho]
  clear hq hL k1 k3 bM H1 ho
  go_enter Tryd.func15, Tryd.ntmps15
  go_upto_region 1 with (fail)
  rw [← hM]
  clear hM
  obtain ⟨x1, x2, x3, _⟩ := TA.out.cells
  go_wp2_with fail
  refine (largeV _ s1 N1 D1 _ TA.out.r1).mono ?_
  rw [HL.out]
  rintro e wa ⟨rfl, ba⟩
  replace TA := Lib.hid (TA.out.below ba)
  clear ba x1 x2 x3
  obtain ⟨x1, x2, x3, _⟩ := TA.out.cells
  go_wp2_with fail
  refine (ofQ _ _ _ _ q _ TA.out.r1 HL.out HQ.out).mono ?_
  rintro e wb ⟨t0, B0, m0, e0, B0', m0', e0', rfl, i0, bb⟩
  replace TA := Lib.hid (TA.out.below bb)
  clear bb x1 x2 x3
  go_wp2_with fail
  refine (qSgn q _ _ i0.out).mono ?_
  rw [HSG.out]
  rintro e wb ⟨rfl, bb⟩
  replace TA := Lib.hid (TA.out.below bb)
  clear bb
  obtain ⟨y1, y2, y3, hy1, hy2, hy3, f1, f2, f3⟩ := TA.out.res.cells
  obtain ⟨q0, q1, q2, hs, hb⟩ := OutIs.stored (o := .err 10) (k := 10) (s := false) (A1 := none) (A2 := none) (n1 := 0) (c1 := 0) (n2 := 0) (c2 := 0) ⟨rfl, rfl, by omega, by omega⟩ TA.out.res TA.out.bel TA.out.n3
  have Q := Lib.hid (And.intro q0 (And.intro q1 q2))
  have HBB := Lib.hid hb
  clear q0 q1 q2 hs hb
  go_wp2_with fail
  obtain ⟨q0, q1, q2⟩ := Q.out
  refine bodyPost_ret (v := .tuple #[noRat, .int .i64 10]) (by simp [results, Tryd.results15, go_sem, q0, q1, q2, noRat]) rfl ?_
  rw [← HO.out]
  exact OutPost.err rfl (by omega) (by omega) HBB.out
set_option maxHeartbeats 2000000 in
set_option maxRecDepth 100000 in
theorem lPow_neg (s1 : Bool) (N1 D1 : Nat) (k : Nat) (hp : k ≤ 32) (hn : 0 < k) (hz : ratOf s1 N1 D1 ≠ 0) (r : Rat) (hr : powN (ratOf s1 N1 D1)⁻¹ k = r) (w : World) (v1 : Value) (h1 : RawV w v1 s1 N1 D1) (q : Rat) (hq : ratOf s1 N1 D1 = q) (hL : largeB s1 N1 D1 = false) :
    Calls Tryd.prog 15 #[v1, .int .i64 (-(k : Int))] w (OutPost w (give r)) := by
  have H1 := Lib.hid h1
  obtain ⟨A1, n1, c1, A1', n1', c1', rfl⟩ := h1.shape
  clear h1
  obtain ⟨M, hM, k1, k3, bM⟩ := start1 w (.bool s1) (.slice A1 n1 c1) (.slice A1' n1' c1') (.bool false) (.slice none 0 0) (.slice none 0 0) 24 24
  have TA : Hid (P1 w M w.heap.size (w.heap.size + 1) s1 A1 n1 c1 A1' n1' c1' N1 D1) := Lib.hid ⟨k1, ⟨_, _, _, NI.bool _, NI.slice _ _ _, NI.slice _ _ _, k3⟩, H1.out.below bM, bM, by omega, by omega⟩
  have HQ := Lib.hid hq
  have HL := Lib.hid hL
  have hf := (largeB_false hL).2.2
  rw [hq] at hf
  have HF := Lib.hid hf
  clear hf
  have hp1 : decide (-(k : Int) < -32) = false := decide_eq_false (by omega)
  have hp1' : decide (32 < k) = false := decide_eq_false (by omega)
  have hp1'' : decide (32 < (k : Int)) = false := decide_eq_false (by omega)
  have hp2 : decide (32 < -(k : Int)) = false := decide_eq_false (by omega)
  have hp3 : decide (-(k : Int) < 0) = true := decide_eq_true (by omega)
  have hp4 : decide (0 < k) = true := decide_eq_true (by omega)
  obtain ⟨cc, hcc⟩ : ∃ c, sgnI (ng q) q.num.natAbs = c := ⟨_, rfl⟩
  have HSG := Lib.hid hcc
  have hc0 : cc ≠ 0 := by rw [← hcc]; exact sgnI_nzP (by rw [← hq]; exact hz)
  have hc1 : (cc == 0) = false := beq_eq_false_iff_ne.2 hc0
  have hc2 : decide (cc = 0) = false := decide_eq_false hc0
  clear hcc hc0
  rw [hq] at hr hz
  have HR := Lib.hid hr
  have HZ := Lib.hid hz
  have HP := Lib.hid hp
  have HN := Lib.hid hn
  have KI := Lib.hid (inv_Rq hz (fit_Rq HF.out (k := 10000) (by omega)))
  have HK := Lib.hid (show Rq 2000000 r by rw [← hr]; exact (pow_Rq (inv_Rq hz (fit_Rq HF.out (k := 10000) (by omega))) hp).le (by omega))
  clear hr hz hp hn
  obtain ⟨o, ho⟩ : ∃ o, give r = o := ⟨_, rfl⟩
  have HO := Lib.hid ho
  rw [ho]
  clear hq hL k1 k3 bM H1 ho
  go_enter Tryd.func15, Tryd.ntmps15
  go_upto_region 1 with (fail)
  rw [← hM]
  clear hM
  obtain ⟨x1, x2, x3, _⟩ := TA.out.cells
  go_wp2_with fail
  refine (largeV _ s1 N1 D1 _ TA.out.r1).mono ?_
  rw [HL.out]
  rintro e wa ⟨rfl, ba⟩
  replace TA := Lib.hid (TA.out.below ba)
  clear ba x1 x2 x3
  obtain ⟨x1, x2, x3, _⟩ := TA.out.cells
  go_wp2_with fail
  refine (ofQ _ _ _ _ q _ TA.out.r1 HL.out HQ.out).mono ?_
  rintro e wb ⟨t0, B0, m0, e0, B0', m0', e0', rfl, i0, bb⟩
  replace TA := Lib.hid (TA.out.below bb)
  clear bb x1 x2 x3
  go_wp2_with fail
  refine (qSgn q _ _ i0.out).mono ?_
  rw [HSG.out]
  rintro e wb ⟨rfl, bb⟩
  replace TA := Lib.hid (TA.out.below bb)
  clear bb
  obtain ⟨x1, x2, x3, _⟩ := TA.out.cells
  go_wp2_with fail
  refine (ofQ _ _ _ _ q _ TA.out.r1 HL.out HQ.out).mono ?_
  rintro e wb ⟨t0, B0, m0, e0, B0', m0', e0', rfl, i0, bb⟩
  replace TA := Lib.hid (TA.out.below bb)
  clear bb x1 x2 x3
  go_wp2_with fail
  refine (rPower_neg k HP.out HN.out _ _ _ _ _ _ _ _ q q⁻¹ r i0.out (fit_Rq HF.out (by omega)) HZ.out (one_div_inv q) KI.out HR.out).mono ?_
  rintro e wb ⟨t1, B1, m1, e1, B1', m1', e1', rfl, i1, bb⟩
  replace TA := Lib.hid (TA.out.below bb)
  clear bb
  go_wp2_with fail
  refine (qDone _ _ _ i1.out HK.out).mono ?_
  rintro e we ⟨s9, A9, n9, c9, A9', n9', c9', k9, rfl, h9, b9⟩
  replace TA := Lib.hid (TA.out.below b9)
  obtain ⟨z1, z2, z3, hz1, hz2, hz3, k1, k2, k3⟩ := TA.out.res.cells
  obtain ⟨q0, q1, q2, hs, hb⟩ := OutIs.stored h9 TA.out.res TA.out.bel TA.out.n3
  have Q := Lib.hid (And.intro q0 (And.intro q1 q2))
  have HS := Lib.hid hs
  have HBB := Lib.hid hb
  clear q0 q1 q2 hs hb h9 b9
  go_wp2
  obtain ⟨q0, q1, q2⟩ := Q.out
  refine bodyPost_ret (v := .tuple #[.agg #[.bool s9, .slice A9 n9 c9, .slice A9' n9' c9'], .int .i64 k9]) (by simp [results, Tryd.results15, go_sem, q0, q1, q2]) rfl ?_
  rw [← HO.out]
  exact ⟨_, _, _, _, _, _, _, _, rfl, HS.out, HBB.out⟩
set_option maxHeartbeats 2000000 in
set_option maxRecDepth 100000 in
theorem lPow_nn (s1 : Bool) (N1 D1 : Nat) (k : Nat) (hp : k ≤ 32) (r : Rat) (hr : powN (ratOf s1 N1 D1) k = r) (w : World) (v1 : Value) (h1 : RawV w v1 s1 N1 D1) (q : Rat) (hq : ratOf s1 N1 D1 = q) (hL : largeB s1 N1 D1 = false) :
    Calls Tryd.prog 15 #[v1, .int .i64 k] w (OutPost w (give r)) := by
  have H1 := Lib.hid h1
  obtain ⟨A1, n1, c1, A1', n1', c1', rfl⟩ := h1.shape
  clear h1
  obtain ⟨M, hM, k1, k3, bM⟩ := start1 w (.bool s1) (.slice A1 n1 c1) (.slice A1' n1' c1') (.bool false) (.slice none 0 0) (.slice none 0 0) 24 24
  have TA : Hid (P1 w M w.heap.size (w.heap.size + 1) s1 A1 n1 c1 A1' n1' c1' N1 D1) := Lib.hid ⟨k1, ⟨_, _, _, NI.bool _, NI.slice _ _ _, NI.slice _ _ _, k3⟩, H1.out.below bM, bM, by omega, by omega⟩
  have HQ := Lib.hid hq
  have HL := Lib.hid hL
  have hf := (largeB_false hL).2.2
  rw [hq] at hf
  have HF := Lib.hid hf
  clear hf
  have hp1 : decide ((k : Int) < -32) = false := decide_eq_false (by omega)
  have hp2 : decide (32 < (k : Int)) = false := decide_eq_false (by omega)
  have hp4 : decide (32 < k) = false := decide_eq_false (by omega)
  have hp3 : decide ((k : Int) < 0) = false := decide_eq_false (by omega)
  rw [hq] at hr
  have HR := Lib.hid hr
  have HP := Lib.hid hp
  have HK := Lib.hid (show Rq 2000000 r by rw [← hr]; exact (pow_Rq (fit_Rq HF.out (k := 10000) (by omega)) hp).le (by omega))
  clear hr hp
  obtain ⟨o, ho⟩ : ∃ o, give r = o := ⟨_, rfl⟩
  have HO := Lib.hid ho
  rw [ho]
  clear hq hL k1 k3 bM H1 ho
  go_enter Tryd.func15, Tryd.ntmps15
  go_upto_region 1 with (fail)
  rw [← hM]
  clear hM
  obtain ⟨x1, x2, x3, _⟩ := TA.out.cells
  go_wp2_with fail
  refine (largeV _ s1 N1 D1 _ TA.out.r1).mono ?_
  rw [HL.out]
  rintro e wa ⟨rfl, ba⟩
  replace TA := Lib.hid (TA.out.below ba)
  clear ba x1 x2 x3
  obtain ⟨x1, x2, x3, _⟩ := TA.out.cells
  go_wp2_with fail
  refine (ofQ _ _ _ _ q _ TA.out.r1 HL.out HQ.out).mono ?_
  rintro e wb ⟨t0, B0, m0, e0, B0', m0', e0', rfl, i0, bb⟩
  replace TA := Lib.hid (TA.out.below bb)
  clear bb x1 x2 x3
  go_wp2_with fail
  refine (Calls.parts (qPowerN q k HP.out _ _ i0.out (fit_Rq HF.out (by omega)) r HR.out)).mono ?_
  rintro e wb ⟨t1, B1, m1, e1, B1', m1', e1', rfl, i1, bb⟩
  replace TA := Lib.hid (TA.out.below bb)
  clear bb
  go_wp2_with fail
  refine (qDone _ _ _ i1.out HK.out).mono ?_
  rintro e we ⟨s9, A9, n9, c9, A9', n9', c9', k9, rfl, h9, b9⟩
  replace TA := Lib.hid (TA.out.below b9)
  obtain ⟨z1, z2, z3, hz1, hz2, hz3, k1, k2, k3⟩ := TA.out.res.cells
  obtain ⟨q0, q1, q2, hs, hb⟩ := OutIs.stored h9 TA.out.res TA.out.bel TA.out.n3
  have Q := Lib.hid (And.intro q0 (And.intro q1 q2))
  have HS := Lib.hid hs
  have HBB := Lib.hid hb
  clear q0 q1 q2 hs hb h9 b9
  go_wp2
  obtain ⟨q0, q1, q2⟩ := Q.out
  refine bodyPost_ret (v := .tuple #[.agg #[.bool s9, .slice A9 n9 c9, .slice A9' n9' c9'], .int .i64 k9]) (by simp [results, Tryd.results15, go_sem, q0, q1, q2]) rfl ?_
  rw [← HO.out]
  exact ⟨_, _, _, _, _, _, _, _, rfl, HS.out, HBB.out⟩
theorem lPow (s1 : Bool) (N1 D1 : Nat) (p : Int) (w : World) (v1 : Value) (h1 : RawV w v1 s1 N1 D1) :
    Calls Tryd.prog 15 #[v1, .int .i64 p] w (OutPost w (powOut (largeB s1 N1 D1) p (ratOf s1 N1 D1))) := by
  unfold powOut
  by_cases h : largeB s1 N1 D1 = true
  · rw [if_pos h]; exact lPow_large s1 N1 D1 p w v1 h1 _ rfl h
  · rw [if_neg h]
    have h' : largeB s1 N1 D1 = false := by simpa using h
    by_cases hl : p < -32
    · rw [if_pos (Or.inl hl)]; exact lPow_low s1 N1 D1 p hl w v1 h1 _ rfl h'
    · by_cases hh : 32 < p
      · rw [if_pos (Or.inr hh)]; exact lPow_high s1 N1 D1 p hh w v1 h1 _ rfl h'
      · rw [if_neg (by omega)]
        by_cases hn : p < 0
        · obtain ⟨k, rfl⟩ : ∃ k : Nat, p = -(k : Int) := ⟨p.natAbs, by omega⟩
          by_cases hz : ratOf s1 N1 D1 = 0
          · rw [if_pos ⟨hn, hz⟩]; exact lPow_zero s1 N1 D1 _ (by omega) hn hz w v1 h1 _ rfl h'
          · rw [if_neg (fun h => hz h.2), powZ, if_pos hn]
            have e : (-(k : Int)).natAbs = k := by omega
            rw [e]
            exact lPow_neg s1 N1 D1 k (by omega) (by omega) hz _ rfl w v1 h1 _ rfl h'
        · obtain ⟨k, rfl⟩ : ∃ k : Nat, p = (k : Int) := ⟨p.natAbs, by omega⟩
          rw [if_neg (fun h => hn h.1), powZ, if_neg hn]
          have e : ((k : Int)).natAbs = k := by omega
          rw [e]
          exact lPow_nn s1 N1 D1 k (by omega) _ rfl w v1 h1 _ rfl h'
end Go.Proofs.YtfmhplcpejmkhabDoor

namespace Go.Proofs.YtfmhplcpejmkhabDoor
open Go.RowKit Dig
set_option linter.unusedVariables false
set_option linter.unusedSimpArgs false
theorem irt_selfR {k : Nat} (hk : 0 < k) (a : Nat) : irt k a ≤ a := by
  have h1 := irt_le (a := a) hk
  rcases Nat.eq_zero_or_pos (irt k a) with h0 | h0
  · omega
  · exact Nat.le_trans (by have := Nat.pow_le_pow_right h0 (show 1 ≤ k by omega); simpa using this) h1
theorem rt_Rq {a : Rat} {k j : Nat} (hk : 0 < k) (h : Rq j a) : Rq j (rtQ k a) := by
  refine mk_Rq (irt_den hk a) ?_ ?_
  · rw [sg_abs]; exact Nat.le_trans (dig_length_mono B16_two (irt_selfR hk _)) h.1
  · exact Nat.le_trans (dig_length_mono B16_two (irt_selfR hk _)) h.2
theorem cmpQ_zero (a b : Rat) : cmpQ a b = 0 ↔ a = b := by
  rcases cmp_cases a b with ⟨h, e⟩ | ⟨h, e⟩ | ⟨h, e⟩
  · rw [e]; constructor
    · intro h; exact absurd h (by decide)
    · intro h2; subst h2; exact absurd h (by grind)
  · exact ⟨fun _ => h, fun _ => e⟩
  · rw [e]; constructor
    · intro h; exact absurd h (by decide)
    · intro h2; subst h2; exact absurd h (by grind)
set_option maxHeartbeats 4000000 in
set_option maxRecDepth 100000 in
theorem rExact_even (a : Rat) (k : Nat) (h2 : 2 ≤ k) (h8 : k ≤ 8) (hs : ng a = true) (he : k % 2 = 0) (ka : Rq 200 a) (s1 : Bool) (A1 : Option Addr) (n1 c1 : Nat) (A2 : Option Addr) (n2 c2 : Nat) (w : World) (h : IsQ w (.agg #[.bool s1, .slice A1 n1 c1, .slice A2 n2 c2]) a) :
    Calls Tryd.prog 74 #[(.agg #[.bool s1, .slice A1 n1 c1, .slice A2 n2 c2]), .int .i64 k] w fun e w' => ∃ t B1 m1 e1 B2 m2 e2, e = .returned (.tuple #[.agg #[.bool t, .slice B1 m1 e1, .slice B2 m2 e2], .bool false]) ∧ Hid (IsQ w' (.agg #[.bool t, .slice B1 m1 e1, .slice B2 m2 e2]) 0) ∧ Below w.heap.size w w' := by
  obtain ⟨M, hM, T0⟩ := XP.start w h
  have T0 := Lib.hid T0
  obtain ⟨hs1, _⟩ := h.at_
  have HNG := Lib.hid hs
  rw [hs] at hs1
  subst hs1
  have hm := tmod_two k
  have hm2 : IntKind.i64.wrap ((k % 2 : Nat) : Int) = ((k % 2 : Nat) : Int) := wraps_i64 _ (by omega) (by omega)
  have u1 : IntKind.i64.wrap (k : Int) = (k : Int) := wrap_i64 _ (by omega) (by omega)
  have HK2 := Lib.hid h2
  have HK8 := Lib.hid h8
  have CI := Lib.hid (fun w => rInt 0 (by omega) (by omega) w)
  have hz : ((0 : Int) : Rat) = 0 := rfl
  rw [hz] at CI
  clear hs h hz
  rw [he] at hm hm2
  clear he
  go_enter Tryd.func74, Tryd.ntmps74
  go_upto_region 1 with (fail)
  rw [← hM]
  clear hM
  obtain ⟨x1, y1, z1, _, _, _⟩ := T0.out.f.cells
  go_wp2_with fail
  refine (CI.out _).mono ?_
  rintro e wi ⟨t4, B4, m4, e4, B4', m4', e4', rfl, i4, bi⟩
  have hh := Lib.hid ((T0.out).below bi)
  obtain ⟨z1', z2', z3', hz1, hz2, hz3, k1, k2, k3⟩ := hh.out.res.cells
  obtain ⟨q0, q1, q2, hs, hb⟩ := IsQ.stored i4.out hh.out.res hh.out.bel hh.out.n3
  have Q := Lib.hid (And.intro q0 (And.intro q1 q2))
  have HS := Lib.hid hs
  have HBB := Lib.hid hb
  clear q0 q1 q2 hs hb bi
  go_wp2_with fail
  obtain ⟨q0, q1, q2⟩ := Q.out
  refine bodyPost_ret (v := .tuple #[.agg #[.bool t4, .slice B4 m4 e4, .slice B4' m4' e4'], .bool false]) (by simp [results, Tryd.results74, go_sem, q0, q1, q2]) rfl ?_
  exact ⟨_, _, _, _, _, _, _, rfl, HS, HBB.out⟩
set_option maxHeartbeats 4000000 in
set_option maxRecDepth 100000 in
theorem rExact_false_good (a : Rat) (k : Nat) (h2 : 2 ≤ k) (h8 : k ≤ 8) (hs : ng a = false) (hr : isRt k a = true) (ka : Rq 200 a) (s1 : Bool) (A1 : Option Addr) (n1 c1 : Nat) (A2 : Option Addr) (n2 c2 : Nat) (w : World) (h : IsQ w (.agg #[.bool s1, .slice A1 n1 c1, .slice A2 n2 c2]) a) :
    Calls Tryd.prog 74 #[(.agg #[.bool s1, .slice A1 n1 c1, .slice A2 n2 c2]), .int .i64 k] w fun e w' => ∃ t B1 m1 e1 B2 m2 e2, e = .returned (.tuple #[.agg #[.bool t, .slice B1 m1 e1, .slice B2 m2 e2], .bool true]) ∧ Hid (IsQ w' (.agg #[.bool t, .slice B1 m1 e1, .slice B2 m2 e2]) (rtQ k a)) ∧ Below w.heap.size w w' := by
  obtain ⟨r, hrr⟩ : ∃ r, rtQ k a = r := ⟨_, rfl⟩
  obtain ⟨p, hp⟩ : ∃ p, powN r k = p := ⟨_, rfl⟩
  obtain ⟨c, hc⟩ : ∃ c, cmpQ p a = c := ⟨_, rfl⟩
  have hi := rt_iff (n := k) (q := a) (by omega) (by rw [hs]; exact fun h => by cases h)
  rw [hrr, hp] at hi
  have hc0 : c = 0 := by rw [← hc, cmpQ_zero]; exact hi.2 hr
  subst hc0
  have HC := Lib.hid hc
  have HR := Lib.hid hrr
  have HP := Lib.hid hp
  have KA := Lib.hid ka
  have KR := Lib.hid (show Rq 200 r by rw [← hrr]; exact rt_Rq (by omega) ka)
  have KP := Lib.hid (show Rq 10000 p by rw [← hp]; exact (pow_Rq KR.out (by omega)).le (by omega))
  rw [hrr]
  clear hi hr ka hc hrr hp
  obtain ⟨M, hM, T0⟩ := XP.start w h
  have T0 := Lib.hid T0
  obtain ⟨hs1, _⟩ := h.at_
  have HNG := Lib.hid hs
  rw [hs] at hs1
  subst hs1
  have hm := tmod_two k
  have hm2 : IntKind.i64.wrap ((k % 2 : Nat) : Int) = ((k % 2 : Nat) : Int) := wraps_i64 _ (by omega) (by omega)
  have u1 : IntKind.i64.wrap (k : Int) = (k : Int) := wrap_i64 _ (by omega) (by omega)
  have HK2 := Lib.hid h2
  have HK8 := Lib.hid h8
  have CI := Lib.hid (fun w => rInt 0 (by omega) (by omega) w)
  have hz : ((0 : Int) : Rat) = 0 := rfl
  rw [hz] at CI
  clear hs h hz
  have HW := Lib.hid T0.out.newer
  have HMK := Lib.hid (show mkRat (sg false (irt k a.num.natAbs)) (irt k a.den) = r by rw [← HR.out]; unfold rtQ; rw [HNG.out])
  go_enter Tryd.func74, Tryd.ntmps74
  go_upto_region 1 with (fail)
  rw [← hM]
  clear hM
  obtain ⟨x1, y1, z1, _, _, _⟩ := T0.out.f.cells
  go_upto_region 3 with (fail)
  clear x1 y1 z1
  go_cut [6] (fun v6 wc => ∃ (g4 : Nat) (t5 : Bool) (B5 : Option Addr) (m5 e5 : Nat) (B5' : Option Addr) (m5' e5' : Nat), v6 = .pointer (some ⟨g4, 0, none⟩) ∧ Hid (XQ w wc w.heap.size g4 (w.heap.size + 1) false A1 n1 c1 A2 n2 c2 a t5 B5 m5 e5 B5' m5' e5' r))
  case first =>
    go_region_held3 (fun W' => (World.cell? W' ⟨w.heap.size, 0, none⟩ = some (.bool false) ∧ World.cell? W' ⟨w.heap.size, 1, none⟩ = some (.slice A1 n1 c1) ∧ World.cell? W' ⟨w.heap.size, 2, none⟩ = some (.slice A2 n2 c2) ∧ Hid (XP w W' w.heap.size (w.heap.size + 1) false A1 n1 c1 A2 n2 c2 a)))
      (with_reducible (first | assumption | exact T0.out.drew.cells | exact XP.next (by assumption) (by assumption) | exact XP.next (by assumption) (below_alloc _ _) | exact (T0.out.below (below_alloc _ _).drew).cells | exact (XP.below (by assumption) (below_alloc _ _)).cells | exact XP.boxed (by assumption) (by assumption) (by assumption) (NI.bool _) (NI.slice _ _ _) (NI.slice _ _ _) | exact XP.boxed (by assumption) (by assumption) HW.out (NI.bool _) (NI.slice _ _ _) (NI.slice _ _ _)))
      (first
       | (go_at_call_of 113 (Value.slice A1 n1 c1)
          refine (bRoot _ k _ _ _ _ (XP.of (by assumption)).r1.at_.2.1 (Nat.le_trans KA.out.1 (by omega)) HK2.out (Nat.le_trans HK8.out (by omega))).mono ?_
          rintro e wf ⟨B1, b1, d1, rfl, i1, bf⟩
          have hnew1 := ((XP.of (by assumption)).below bf).newer
          try (have hbx1 := Box.below (Box.drew (Box.new M (.bool false) (.slice none 0 0) (.slice none 0 0) 39)) bf))
       | (go_at_call 85
          refine (bDen a _ _ (XP.of (by assumption)).r1).mono ?_
          rintro e wg ⟨B2, b2, d2, rfl, i2, bg⟩
          have i1b := by first | exact Lib.hid (i1.out.below bg) | exact Lib.hid ((i1.out.below (below_alloc _ _)).below bg)
          have hnew2 := ((XP.of (by assumption)).below bg).newer
          first
            | (have hbx2 := Box.below hbx1 bg)
            | (have hbx2 := Box.below (Box.new wf (.bool false) (.slice none 0 0) (.slice none 0 0) 39) bg)
            | skip)
       | (go_at_call 113
          refine (bRoot _ k _ _ _ _ (by first | exact i2.out | exact i2.out.below (below_alloc _ _)) (Nat.le_trans KA.out.2 (by omega)) HK2.out (Nat.le_trans HK8.out (by omega))).mono ?_
          rintro e wh ⟨B3, b3, d3, rfl, i3, bh⟩
          have i1c := by first | exact Lib.hid (i1b.out.below bh) | exact Lib.hid ((i1b.out.below (below_alloc _ _)).below bh)
          have hnew3 := ((XP.of (by assumption)).below bh).newer
          first
            | (have hbx3 := Box.below hbx2 bh)
            | (have hbx3 := Box.below (Box.new wg (.bool false) (.slice none 0 0) (.slice none 0 0) 39) bh)
            | skip)
       | (go_at_call 70
          refine (bMake false _ _ _ _ _ _ _ _ _ (by first | exact i1c.out | exact i1c.out.below (below_alloc _ _)) (by first | exact i3.out | exact i3.out.below (below_alloc _ _)) (irt_den (Nat.lt_of_lt_of_le (by omega) HK2.out) a) (Nat.le_trans (dig_length_mono B16_two (irt_selfR (Nat.lt_of_lt_of_le (by omega) HK2.out) _)) (Nat.le_trans KA.out.1 (by omega))) (Nat.le_trans (dig_length_mono B16_two (irt_selfR (Nat.lt_of_lt_of_le (by omega) HK2.out) _)) (Nat.le_trans KA.out.2 (by omega))) r HMK.out).mono ?_
          rintro e we ⟨t5, B5, m5, e5, B5', m5', e5', rfl, i5, b5⟩
          have hh := (XP.of (by assumption)).below b5
          first
            | (have hbx4 := Box.below hbx3 b5; obtain ⟨k1, k2, k3, f1, f2, f3⟩ := hbx4.cells)
            | (have hbx4 := Box.below (Box.new wh (.bool false) (.slice none 0 0) (.slice none 0 0) 39) b5; obtain ⟨k1, k2, k3, f1, f2, f3⟩ := hbx4.cells)
            | skip))
    all_goals (go_wp2; go_meet)
    all_goals first
      | exact ⟨_, _, _, _, _, _, _, _, rfl, Lib.hid (hh.last i5.out)⟩
      | exact ⟨_, _, _, _, _, _, _, _, rfl, Lib.hid (hh.first i5.out hbx4 HW.out)⟩
      | exact ⟨_, _, _, _, _, _, _, _, rfl, Lib.hid (hh.first i5.out hbx4 hnew1)⟩
      | exact ⟨_, _, _, _, _, _, _, _, rfl, Lib.hid (hh.first i5.out hbx4 hnew2)⟩
      | exact ⟨_, _, _, _, _, _, _, _, rfl, Lib.hid (hh.first i5.out hbx4 hnew3)⟩
  case rest =>
    obtain ⟨g4, t5, B5, m5, e5, B5', m5', e5', rfl, TQ⟩ := hcut
    clear T0 HW
    go_wp2_with fail
    go_region_held3 (fun W' => (World.cell? W' ⟨w.heap.size, 0, none⟩ = some (.bool false) ∧ World.cell? W' ⟨w.heap.size, 1, none⟩ = some (.slice A1 n1 c1) ∧ World.cell? W' ⟨w.heap.size, 2, none⟩ = some (.slice A2 n2 c2) ∧ World.cell? W' ⟨g4, 0, none⟩ = some (.bool t5) ∧ World.cell? W' ⟨g4, 1, none⟩ = some (.slice B5 m5 e5) ∧ World.cell? W' ⟨g4, 2, none⟩ = some (.slice B5' m5' e5') ∧ Hid (XQ w W' w.heap.size g4 (w.heap.size + 1) false A1 n1 c1 A2 n2 c2 a t5 B5 m5 e5 B5' m5' e5' r)))
      (with_reducible (first | assumption | exact TQ.out.drew.cells | exact XQ.next (by assumption) (by assumption)))
      (first
       | (go_at_call 59
          refine (Calls.parts (qPowerN r k (Nat.le_trans HK8.out (by omega)) _ _ (XQ.of (by assumption)).r2 (KR.out.le (by omega)) p HP.out)).mono ?_
          rintro e wd ⟨t6, B6, m6, e6, B6', m6', e6', rfl, i6, bd⟩)
       | (go_at_call 40
          refine (bCmpQ p a 0 HC.out _ _ _ i6.out (XQ.of (by assumption)).p.r1 (KP.out.le (by omega)) (KA.out.le (by omega))).mono ?_
          rintro e we ⟨rfl, be⟩
          have hh := Lib.hid ((XQ.of (by assumption)).below be)))
    obtain ⟨x1, y1, z1, _, _, _⟩ := hh.out.g.cells
    obtain ⟨z1', z2', z3', hz1, hz2, hz3, k1, k2, k3⟩ := hh.out.p.res.cells
    obtain ⟨q0, q1, q2, hs, hb⟩ := IsQ.stored hh.out.r2 hh.out.p.res hh.out.p.bel hh.out.p.n3
    have Q := Lib.hid (And.intro q0 (And.intro q1 q2))
    have HS := Lib.hid hs
    have HBB := Lib.hid hb
    clear q0 q1 q2 hs hb
    go_wp2_with fail
    obtain ⟨q0, q1, q2⟩ := Q.out
    refine bodyPost_ret (v := .tuple #[.agg #[.bool t5, .slice B5 m5 e5, .slice B5' m5' e5'], .bool true]) (by simp [results, Tryd.results74, go_sem, q0, q1, q2]) rfl ?_
    exact ⟨_, _, _, _, _, _, _, rfl, HS, HBB.out⟩
set_option maxHeartbeats 4000000 in
set_option maxRecDepth 100000 in
theorem rExact_false_bad (a : Rat) (k : Nat) (h2 : 2 ≤ k) (h8 : k ≤ 8) (hs : ng a = false) (hr : isRt k a = false) (ka : Rq 200 a) (s1 : Bool) (A1 : Option Addr) (n1 c1 : Nat) (A2 : Option Addr) (n2 c2 : Nat) (w : World) (h : IsQ w (.agg #[.bool s1, .slice A1 n1 c1, .slice A2 n2 c2]) a) :
    Calls Tryd.prog 74 #[(.agg #[.bool s1, .slice A1 n1 c1, .slice A2 n2 c2]), .int .i64 k] w fun e w' => ∃ t B1 m1 e1 B2 m2 e2, e = .returned (.tuple #[.agg #[.bool t, .slice B1 m1 e1, .slice B2 m2 e2], .bool false]) ∧ Hid (IsQ w' (.agg #[.bool t, .slice B1 m1 e1, .slice B2 m2 e2]) 0) ∧ Below w.heap.size w w' := by
  obtain ⟨r, hrr⟩ : ∃ r, rtQ k a = r := ⟨_, rfl⟩
  obtain ⟨p, hp⟩ : ∃ p, powN r k = p := ⟨_, rfl⟩
  obtain ⟨c, hc⟩ : ∃ c, cmpQ p a = c := ⟨_, rfl⟩
  have hi := rt_iff (n := k) (q := a) (by omega) (by rw [hs]; exact fun h => by cases h)
  rw [hrr, hp] at hi
  have hc0 : c ≠ 0 := by
    rw [← hc]
    intro h0
    have := hi.1 ((cmpQ_zero _ _).1 h0)
    rw [hr] at this
    cases this
  have f1 : (c == 0) = false := beq_eq_false_iff_ne.2 hc0
  have f2 : decide (c = 0) = false := decide_eq_false hc0
  have f3 : (c != 0) = true := by simp [bne, f1]
  have HC := Lib.hid hc
  have HR := Lib.hid hrr
  have HP := Lib.hid hp
  have KA := Lib.hid ka
  have KR := Lib.hid (show Rq 200 r by rw [← hrr]; exact rt_Rq (by omega) ka)
  have KP := Lib.hid (show Rq 10000 p by rw [← hp]; exact (pow_Rq KR.out (by omega)).le (by omega))
  clear hi hr ka hc hc0 hrr hp
  obtain ⟨M, hM, T0⟩ := XP.start w h
  have T0 := Lib.hid T0
  obtain ⟨hs1, _⟩ := h.at_
  have HNG := Lib.hid hs
  rw [hs] at hs1
  subst hs1
  have hm := tmod_two k
  have hm2 : IntKind.i64.wrap ((k % 2 : Nat) : Int) = ((k % 2 : Nat) : Int) := wraps_i64 _ (by omega) (by omega)
  have u1 : IntKind.i64.wrap (k : Int) = (k : Int) := wrap_i64 _ (by omega) (by omega)
  have HK2 := Lib.hid h2
  have HK8 := Lib.hid h8
  have CI := Lib.hid (fun w => rInt 0 (by omega) (by omega) w)
  have hz : ((0 : Int) : Rat) = 0 := rfl
  rw [hz] at CI
  clear hs h hz
  have HW := Lib.hid T0.out.newer
  have HMK := Lib.hid (show mkRat (sg false (irt k a.num.natAbs)) (irt k a.den) = r by rw [← HR.out]; unfold rtQ; rw [HNG.out])
  go_enter Tryd.func74, Tryd.ntmps74
  go_upto_region 1 with (fail)
  rw [← hM]
  clear hM
  obtain ⟨x1, y1, z1, _, _, _⟩ := T0.out.f.cells
  go_upto_region 3 with (fail)
  clear x1 y1 z1
  go_cut [6] (fun v6 wc => ∃ (g4 : Nat) (t5 : Bool) (B5 : Option Addr) (m5 e5 : Nat) (B5' : Option Addr) (m5' e5' : Nat), v6 = .pointer (some ⟨g4, 0, none⟩) ∧ Hid (XQ w wc w.heap.size g4 (w.heap.size + 1) false A1 n1 c1 A2 n2 c2 a t5 B5 m5 e5 B5' m5' e5' r))
  case first =>
    go_region_held3 (fun W' => (World.cell? W' ⟨w.heap.size, 0, none⟩ = some (.bool false) ∧ World.cell? W' ⟨w.heap.size, 1, none⟩ = some (.slice A1 n1 c1) ∧ World.cell? W' ⟨w.heap.size, 2, none⟩ = some (.slice A2 n2 c2) ∧ Hid (XP w W' w.heap.size (w.heap.size + 1) false A1 n1 c1 A2 n2 c2 a)))
      (with_reducible (first | assumption | exact T0.out.drew.cells | exact XP.next (by assumption) (by assumption) | exact XP.next (by assumption) (below_alloc _ _) | exact (T0.out.below (below_alloc _ _).drew).cells | exact (XP.below (by assumption) (below_alloc _ _)).cells | exact XP.boxed (by assumption) (by assumption) (by assumption) (NI.bool _) (NI.slice _ _ _) (NI.slice _ _ _) | exact XP.boxed (by assumption) (by assumption) HW.out (NI.bool _) (NI.slice _ _ _) (NI.slice _ _ _)))
      (first
       | (go_at_call_of 113 (Value.slice A1 n1 c1)
          refine (bRoot _ k _ _ _ _ (XP.of (by assumption)).r1.at_.2.1 (Nat.le_trans KA.out.1 (by omega)) HK2.out (Nat.le_trans HK8.out (by omega))).mono ?_
          rintro e wf ⟨B1, b1, d1, rfl, i1, bf⟩
          have hnew1 := ((XP.of (by assumption)).below bf).newer
          try (have hbx1 := Box.below (Box.drew (Box.new M (.bool false) (.slice none 0 0) (.slice none 0 0) 39)) bf))
       | (go_at_call 85
          refine (bDen a _ _ (XP.of (by assumption)).r1).mono ?_
          rintro e wg ⟨B2, b2, d2, rfl, i2, bg⟩
          have i1b := by first | exact Lib.hid (i1.out.below bg) | exact Lib.hid ((i1.out.below (below_alloc _ _)).below bg)
          have hnew2 := ((XP.of (by assumption)).below bg).newer
          first
            | (have hbx2 := Box.below hbx1 bg)
            | (have hbx2 := Box.below (Box.new wf (.bool false) (.slice none 0 0) (.slice none 0 0) 39) bg)
            | skip)
       | (go_at_call 113
          refine (bRoot _ k _ _ _ _ (by first | exact i2.out | exact i2.out.below (below_alloc _ _)) (Nat.le_trans KA.out.2 (by omega)) HK2.out (Nat.le_trans HK8.out (by omega))).mono ?_
          rintro e wh ⟨B3, b3, d3, rfl, i3, bh⟩
          have i1c := by first | exact Lib.hid (i1b.out.below bh) | exact Lib.hid ((i1b.out.below (below_alloc _ _)).below bh)
          have hnew3 := ((XP.of (by assumption)).below bh).newer
          first
            | (have hbx3 := Box.below hbx2 bh)
            | (have hbx3 := Box.below (Box.new wg (.bool false) (.slice none 0 0) (.slice none 0 0) 39) bh)
            | skip)
       | (go_at_call 70
          refine (bMake false _ _ _ _ _ _ _ _ _ (by first | exact i1c.out | exact i1c.out.below (below_alloc _ _)) (by first | exact i3.out | exact i3.out.below (below_alloc _ _)) (irt_den (Nat.lt_of_lt_of_le (by omega) HK2.out) a) (Nat.le_trans (dig_length_mono B16_two (irt_selfR (Nat.lt_of_lt_of_le (by omega) HK2.out) _)) (Nat.le_trans KA.out.1 (by omega))) (Nat.le_trans (dig_length_mono B16_two (irt_selfR (Nat.lt_of_lt_of_le (by omega) HK2.out) _)) (Nat.le_trans KA.out.2 (by omega))) r HMK.out).mono ?_
          rintro e we ⟨t5, B5, m5, e5, B5', m5', e5', rfl, i5, b5⟩
          have hh := (XP.of (by assumption)).below b5
          first
            | (have hbx4 := Box.below hbx3 b5; obtain ⟨k1, k2, k3, f1, f2, f3⟩ := hbx4.cells)
            | (have hbx4 := Box.below (Box.new wh (.bool false) (.slice none 0 0) (.slice none 0 0) 39) b5; obtain ⟨k1, k2, k3, f1, f2, f3⟩ := hbx4.cells)
            | skip))
    all_goals (go_wp2; go_meet)
    all_goals first
      | exact ⟨_, _, _, _, _, _, _, _, rfl, Lib.hid (hh.last i5.out)⟩
      | exact ⟨_, _, _, _, _, _, _, _, rfl, Lib.hid (hh.first i5.out hbx4 HW.out)⟩
      | exact ⟨_, _, _, _, _, _, _, _, rfl, Lib.hid (hh.first i5.out hbx4 hnew1)⟩
      | exact ⟨_, _, _, _, _, _, _, _, rfl, Lib.hid (hh.first i5.out hbx4 hnew2)⟩
      | exact ⟨_, _, _, _, _, _, _, _, rfl, Lib.hid (hh.first i5.out hbx4 hnew3)⟩
  case rest =>
    obtain ⟨g4, t5, B5, m5, e5, B5', m5', e5', rfl, TQ⟩ := hcut
    clear T0 HW
    go_wp2_with fail
    go_region_held3 (fun W' => (World.cell? W' ⟨w.heap.size, 0, none⟩ = some (.bool false) ∧ World.cell? W' ⟨w.heap.size, 1, none⟩ = some (.slice A1 n1 c1) ∧ World.cell? W' ⟨w.heap.size, 2, none⟩ = some (.slice A2 n2 c2) ∧ World.cell? W' ⟨g4, 0, none⟩ = some (.bool t5) ∧ World.cell? W' ⟨g4, 1, none⟩ = some (.slice B5 m5 e5) ∧ World.cell? W' ⟨g4, 2, none⟩ = some (.slice B5' m5' e5') ∧ Hid (XQ w W' w.heap.size g4 (w.heap.size + 1) false A1 n1 c1 A2 n2 c2 a t5 B5 m5 e5 B5' m5' e5' r)))
      (with_reducible (first | assumption | exact TQ.out.drew.cells | exact XQ.next (by assumption) (by assumption)))
      (first
       | (go_at_call 59
          refine (Calls.parts (qPowerN r k (Nat.le_trans HK8.out (by omega)) _ _ (XQ.of (by assumption)).r2 (KR.out.le (by omega)) p HP.out)).mono ?_
          rintro e wd ⟨t6, B6, m6, e6, B6', m6', e6', rfl, i6, bd⟩)
       | (go_at_call 40
          refine (bCmpQ p a c HC.out _ _ _ i6.out (XQ.of (by assumption)).p.r1 (KP.out.le (by omega)) (KA.out.le (by omega))).mono ?_
          rintro e we ⟨rfl, be⟩
          have hh := Lib.hid ((XQ.of (by assumption)).below be)))
    go_wp2_with fail
    refine (CI.out _).mono ?_
    rintro e wi ⟨t4, B4, m4, e4, B4', m4', e4', rfl, i4, bi⟩
    have hh := Lib.hid ((hh.out).below bi)
    obtain ⟨z1', z2', z3', hz1, hz2, hz3, k1, k2, k3⟩ := hh.out.p.res.cells
    obtain ⟨q0, q1, q2, hs, hb⟩ := IsQ.stored i4.out hh.out.p.res hh.out.p.bel hh.out.p.n3
    have Q := Lib.hid (And.intro q0 (And.intro q1 q2))
    have HS := Lib.hid hs
    have HBB := Lib.hid hb
    clear q0 q1 q2 hs hb bi
    go_wp2_with fail
    obtain ⟨q0, q1, q2⟩ := Q.out
    refine bodyPost_ret (v := .tuple #[.agg #[.bool t4, .slice B4 m4 e4, .slice B4' m4' e4'], .bool false]) (by simp [results, Tryd.results74, go_sem, q0, q1, q2]) rfl ?_
    exact ⟨_, _, _, _, _, _, _, rfl, HS, HBB.out⟩
set_option maxHeartbeats 4000000 in
set_option maxRecDepth 100000 in
theorem rExact_true_good (a : Rat) (k : Nat) (h2 : 2 ≤ k) (h8 : k ≤ 8) (hs : ng a = true) (ho : k % 2 = 1) (hr : isRt k a = true) (ka : Rq 200 a) (s1 : Bool) (A1 : Option Addr) (n1 c1 : Nat) (A2 : Option Addr) (n2 c2 : Nat) (w : World) (h : IsQ w (.agg #[.bool s1, .slice A1 n1 c1, .slice A2 n2 c2]) a) :
    Calls Tryd.prog 74 #[(.agg #[.bool s1, .slice A1 n1 c1, .slice A2 n2 c2]), .int .i64 k] w fun e w' => ∃ t B1 m1 e1 B2 m2 e2, e = .returned (.tuple #[.agg #[.bool t, .slice B1 m1 e1, .slice B2 m2 e2], .bool true]) ∧ Hid (IsQ w' (.agg #[.bool t, .slice B1 m1 e1, .slice B2 m2 e2]) (rtQ k a)) ∧ Below w.heap.size w w' := by
  obtain ⟨r, hrr⟩ : ∃ r, rtQ k a = r := ⟨_, rfl⟩
  obtain ⟨p, hp⟩ : ∃ p, powN r k = p := ⟨_, rfl⟩
  obtain ⟨c, hc⟩ : ∃ c, cmpQ p a = c := ⟨_, rfl⟩
  have hi := rt_iff (n := k) (q := a) (by omega) (by rw [hs]; exact fun _ => ho)
  rw [hrr, hp] at hi
  have hc0 : c = 0 := by rw [← hc, cmpQ_zero]; exact hi.2 hr
  subst hc0
  have HC := Lib.hid hc
  have HR := Lib.hid hrr
  have HP := Lib.hid hp
  have KA := Lib.hid ka
  have KR := Lib.hid (show Rq 200 r by rw [← hrr]; exact rt_Rq (by omega) ka)
  have KP := Lib.hid (show Rq 10000 p by rw [← hp]; exact (pow_Rq KR.out (by omega)).le (by omega))
  rw [hrr]
  clear hi hr ka hc hrr hp
  obtain ⟨M, hM, T0⟩ := XP.start w h
  have T0 := Lib.hid T0
  obtain ⟨hs1, _⟩ := h.at_
  have HNG := Lib.hid hs
  rw [hs] at hs1
  subst hs1
  have hm := tmod_two k
  have hm2 : IntKind.i64.wrap ((k % 2 : Nat) : Int) = ((k % 2 : Nat) : Int) := wraps_i64 _ (by omega) (by omega)
  have u1 : IntKind.i64.wrap (k : Int) = (k : Int) := wrap_i64 _ (by omega) (by omega)
  have HK2 := Lib.hid h2
  have HK8 := Lib.hid h8
  have CI := Lib.hid (fun w => rInt 0 (by omega) (by omega) w)
  have hz : ((0 : Int) : Rat) = 0 := rfl
  rw [hz] at CI
  clear hs h hz
  rw [ho] at hm hm2
  clear ho
  have HW := Lib.hid T0.out.newer
  have HMK := Lib.hid (show mkRat (sg true (irt k a.num.natAbs)) (irt k a.den) = r by rw [← HR.out]; unfold rtQ; rw [HNG.out])
  go_enter Tryd.func74, Tryd.ntmps74
  go_upto_region 1 with (fail)
  rw [← hM]
  clear hM
  obtain ⟨x1, y1, z1, _, _, _⟩ := T0.out.f.cells
  go_upto_region 3 with (fail)
  clear x1 y1 z1
  go_cut [6] (fun v6 wc => ∃ (g4 : Nat) (t5 : Bool) (B5 : Option Addr) (m5 e5 : Nat) (B5' : Option Addr) (m5' e5' : Nat), v6 = .pointer (some ⟨g4, 0, none⟩) ∧ Hid (XQ w wc w.heap.size g4 (w.heap.size + 1) true A1 n1 c1 A2 n2 c2 a t5 B5 m5 e5 B5' m5' e5' r))
  case first =>
    go_region_held3 (fun W' => (World.cell? W' ⟨w.heap.size, 0, none⟩ = some (.bool true) ∧ World.cell? W' ⟨w.heap.size, 1, none⟩ = some (.slice A1 n1 c1) ∧ World.cell? W' ⟨w.heap.size, 2, none⟩ = some (.slice A2 n2 c2) ∧ Hid (XP w W' w.heap.size (w.heap.size + 1) true A1 n1 c1 A2 n2 c2 a)))
      (with_reducible (first | assumption | exact T0.out.drew.cells | exact XP.next (by assumption) (by assumption) | exact XP.next (by assumption) (below_alloc _ _) | exact (T0.out.below (below_alloc _ _).drew).cells | exact (XP.below (by assumption) (below_alloc _ _)).cells | exact XP.boxed (by assumption) (by assumption) (by assumption) (NI.bool _) (NI.slice _ _ _) (NI.slice _ _ _) | exact XP.boxed (by assumption) (by assumption) HW.out (NI.bool _) (NI.slice _ _ _) (NI.slice _ _ _)))
      (first
       | (go_at_call_of 113 (Value.slice A1 n1 c1)
          refine (bRoot _ k _ _ _ _ (XP.of (by assumption)).r1.at_.2.1 (Nat.le_trans KA.out.1 (by omega)) HK2.out (Nat.le_trans HK8.out (by omega))).mono ?_
          rintro e wf ⟨B1, b1, d1, rfl, i1, bf⟩
          have hnew1 := ((XP.of (by assumption)).below bf).newer
          try (have hbx1 := Box.below (Box.drew (Box.new M (.bool false) (.slice none 0 0) (.slice none 0 0) 39)) bf))
       | (go_at_call 85
          refine (bDen a _ _ (XP.of (by assumption)).r1).mono ?_
          rintro e wg ⟨B2, b2, d2, rfl, i2, bg⟩
          have i1b := by first | exact Lib.hid (i1.out.below bg) | exact Lib.hid ((i1.out.below (below_alloc _ _)).below bg)
          have hnew2 := ((XP.of (by assumption)).below bg).newer
          first
            | (have hbx2 := Box.below hbx1 bg)
            | (have hbx2 := Box.below (Box.new wf (.bool false) (.slice none 0 0) (.slice none 0 0) 39) bg)
            | skip)
       | (go_at_call 113
          refine (bRoot _ k _ _ _ _ (by first | exact i2.out | exact i2.out.below (below_alloc _ _)) (Nat.le_trans KA.out.2 (by omega)) HK2.out (Nat.le_trans HK8.out (by omega))).mono ?_
          rintro e wh ⟨B3, b3, d3, rfl, i3, bh⟩
          have i1c := by first | exact Lib.hid (i1b.out.below bh) | exact Lib.hid ((i1b.out.below (below_alloc _ _)).below bh)
          have hnew3 := ((XP.of (by assumption)).below bh).newer
          first
            | (have hbx3 := Box.below hbx2 bh)
            | (have hbx3 := Box.below (Box.new wg (.bool false) (.slice none 0 0) (.slice none 0 0) 39) bh)
            | skip)
       | (go_at_call 70
          refine (bMake true _ _ _ _ _ _ _ _ _ (by first | exact i1c.out | exact i1c.out.below (below_alloc _ _)) (by first | exact i3.out | exact i3.out.below (below_alloc _ _)) (irt_den (Nat.lt_of_lt_of_le (by omega) HK2.out) a) (Nat.le_trans (dig_length_mono B16_two (irt_selfR (Nat.lt_of_lt_of_le (by omega) HK2.out) _)) (Nat.le_trans KA.out.1 (by omega))) (Nat.le_trans (dig_length_mono B16_two (irt_selfR (Nat.lt_of_lt_of_le (by omega) HK2.out) _)) (Nat.le_trans KA.out.2 (by omega))) r HMK.out).mono ?_
          rintro e we ⟨t5, B5, m5, e5, B5', m5', e5', rfl, i5, b5⟩
          have hh := (XP.of (by assumption)).below b5
          first
            | (have hbx4 := Box.below hbx3 b5; obtain ⟨k1, k2, k3, f1, f2, f3⟩ := hbx4.cells)
            | (have hbx4 := Box.below (Box.new wh (.bool false) (.slice none 0 0) (.slice none 0 0) 39) b5; obtain ⟨k1, k2, k3, f1, f2, f3⟩ := hbx4.cells)
            | skip))
    all_goals (go_wp2; go_meet)
    all_goals first
      | exact ⟨_, _, _, _, _, _, _, _, rfl, Lib.hid (hh.last i5.out)⟩
      | exact ⟨_, _, _, _, _, _, _, _, rfl, Lib.hid (hh.first i5.out hbx4 HW.out)⟩
      | exact ⟨_, _, _, _, _, _, _, _, rfl, Lib.hid (hh.first i5.out hbx4 hnew1)⟩
      | exact ⟨_, _, _, _, _, _, _, _, rfl, Lib.hid (hh.first i5.out hbx4 hnew2)⟩
      | exact ⟨_, _, _, _, _, _, _, _, rfl, Lib.hid (hh.first i5.out hbx4 hnew3)⟩
  case rest =>
    obtain ⟨g4, t5, B5, m5, e5, B5', m5', e5', rfl, TQ⟩ := hcut
    clear T0 HW
    go_wp2_with fail
    go_region_held3 (fun W' => (World.cell? W' ⟨w.heap.size, 0, none⟩ = some (.bool true) ∧ World.cell? W' ⟨w.heap.size, 1, none⟩ = some (.slice A1 n1 c1) ∧ World.cell? W' ⟨w.heap.size, 2, none⟩ = some (.slice A2 n2 c2) ∧ World.cell? W' ⟨g4, 0, none⟩ = some (.bool t5) ∧ World.cell? W' ⟨g4, 1, none⟩ = some (.slice B5 m5 e5) ∧ World.cell? W' ⟨g4, 2, none⟩ = some (.slice B5' m5' e5') ∧ Hid (XQ w W' w.heap.size g4 (w.heap.size + 1) true A1 n1 c1 A2 n2 c2 a t5 B5 m5 e5 B5' m5' e5' r)))
      (with_reducible (first | assumption | exact TQ.out.drew.cells | exact XQ.next (by assumption) (by assumption)))
      (first
       | (go_at_call 59
          refine (Calls.parts (qPowerN r k (Nat.le_trans HK8.out (by omega)) _ _ (XQ.of (by assumption)).r2 (KR.out.le (by omega)) p HP.out)).mono ?_
          rintro e wd ⟨t6, B6, m6, e6, B6', m6', e6', rfl, i6, bd⟩)
       | (go_at_call 40
          refine (bCmpQ p a 0 HC.out _ _ _ i6.out (XQ.of (by assumption)).p.r1 (KP.out.le (by omega)) (KA.out.le (by omega))).mono ?_
          rintro e we ⟨rfl, be⟩
          have hh := Lib.hid ((XQ.of (by assumption)).below be)))
    obtain ⟨x1, y1, z1, _, _, _⟩ := hh.out.g.cells
    obtain ⟨z1', z2', z3', hz1, hz2, hz3, k1, k2, k3⟩ := hh.out.p.res.cells
    obtain ⟨q0, q1, q2, hs, hb⟩ := IsQ.stored hh.out.r2 hh.out.p.res hh.out.p.bel hh.out.p.n3
    have Q := Lib.hid (And.intro q0 (And.intro q1 q2))
    have HS := Lib.hid hs
    have HBB := Lib.hid hb
    clear q0 q1 q2 hs hb
    go_wp2_with fail
    obtain ⟨q0, q1, q2⟩ := Q.out
    refine bodyPost_ret (v := .tuple #[.agg #[.bool t5, .slice B5 m5 e5, .slice B5' m5' e5'], .bool true]) (by simp [results, Tryd.results74, go_sem, q0, q1, q2]) rfl ?_
    exact ⟨_, _, _, _, _, _, _, rfl, HS, HBB.out⟩
set_option maxHeartbeats 4000000 in
set_option maxRecDepth 100000 in
theorem rExact_true_bad (a : Rat) (k : Nat) (h2 : 2 ≤ k) (h8 : k ≤ 8) (hs : ng a = true) (ho : k % 2 = 1) (hr : isRt k a = false) (ka : Rq 200 a) (s1 : Bool) (A1 : Option Addr) (n1 c1 : Nat) (A2 : Option Addr) (n2 c2 : Nat) (w : World) (h : IsQ w (.agg #[.bool s1, .slice A1 n1 c1, .slice A2 n2 c2]) a) :
    Calls Tryd.prog 74 #[(.agg #[.bool s1, .slice A1 n1 c1, .slice A2 n2 c2]), .int .i64 k] w fun e w' => ∃ t B1 m1 e1 B2 m2 e2, e = .returned (.tuple #[.agg #[.bool t, .slice B1 m1 e1, .slice B2 m2 e2], .bool false]) ∧ Hid (IsQ w' (.agg #[.bool t, .slice B1 m1 e1, .slice B2 m2 e2]) 0) ∧ Below w.heap.size w w' := by
  obtain ⟨r, hrr⟩ : ∃ r, rtQ k a = r := ⟨_, rfl⟩
  obtain ⟨p, hp⟩ : ∃ p, powN r k = p := ⟨_, rfl⟩
  obtain ⟨c, hc⟩ : ∃ c, cmpQ p a = c := ⟨_, rfl⟩
  have hi := rt_iff (n := k) (q := a) (by omega) (by rw [hs]; exact fun _ => ho)
  rw [hrr, hp] at hi
  have hc0 : c ≠ 0 := by
    rw [← hc]
    intro h0
    have := hi.1 ((cmpQ_zero _ _).1 h0)
    rw [hr] at this
    cases this
  have f1 : (c == 0) = false := beq_eq_false_iff_ne.2 hc0
  have f2 : decide (c = 0) = false := decide_eq_false hc0
  have f3 : (c != 0) = true := by simp [bne, f1]
  have HC := Lib.hid hc
  have HR := Lib.hid hrr
  have HP := Lib.hid hp
  have KA := Lib.hid ka
  have KR := Lib.hid (show Rq 200 r by rw [← hrr]; exact rt_Rq (by omega) ka)
  have KP := Lib.hid (show Rq 10000 p by rw [← hp]; exact (pow_Rq KR.out (by omega)).le (by omega))
  clear hi hr ka hc hc0 hrr hp
  obtain ⟨M, hM, T0⟩ := XP.start w h
  have T0 := Lib.hid T0
  obtain ⟨hs1, _⟩ := h.at_
  have HNG := Lib.hid hs
  rw [hs] at hs1
  subst hs1
  have hm := tmod_two k
  have hm2 : IntKind.i64.wrap ((k % 2 : Nat) : Int) = ((k % 2 : Nat) : Int) := wraps_i64 _ (by omega) (by omega)
  have u1 : IntKind.i64.wrap (k : Int) = (k : Int) := wrap_i64 _ (by omega) (by omega)
  have HK2 := Lib.hid h2
  have HK8 := Lib.hid h8
  have CI := Lib.hid (fun w => rInt 0 (by omega) (by omega) w)
  have hz : ((0 : Int) : Rat) = 0 := rfl
  rw [hz] at CI
  clear hs h hz
  rw [ho] at hm hm2
  clear ho
  have HW := Lib.hid T0.out.newer
  have HMK := Lib.hid (show mkRat (sg true (irt k a.num.natAbs)) (irt k a.den) = r by rw [← HR.out]; unfold rtQ; rw [HNG.out])
  go_enter Tryd.func74, Tryd.ntmps74
  go_upto_region 1 with (fail)
  rw [← hM]
  clear hM
  obtain ⟨x1, y1, z1, _, _, _⟩ := T0.out.f.cells
  go_upto_region 3 with (fail)
  clear x1 y1 z1
  go_cut [6] (fun v6 wc => ∃ (g4 : Nat) (t5 : Bool) (B5 : Option Addr) (m5 e5 : Nat) (B5' : Option Addr) (m5' e5' : Nat), v6 = .pointer (some ⟨g4, 0, none⟩) ∧ Hid (XQ w wc w.heap.size g4 (w.heap.size + 1) true A1 n1 c1 A2 n2 c2 a t5 B5 m5 e5 B5' m5' e5' r))
  case first =>
    go_region_held3 (fun W' => (World.cell? W' ⟨w.heap.size, 0, none⟩ = some (.bool true) ∧ World.cell? W' ⟨w.heap.size, 1, none⟩ = some (.slice A1 n1 c1) ∧ World.cell? W' ⟨w.heap.size, 2, none⟩ = some (.slice A2 n2 c2) ∧ Hid (XP w W' w.heap.size (w.heap.size + 1) true A1 n1 c1 A2 n2 c2 a)))
      (with_reducible (first | assumption | exact T0.out.drew.cells | exact XP.next (by assumption) (by assumption) | exact XP.next (by assumption) (below_alloc _ _) | exact (T0.out.below (below_alloc _ _).drew).cells | exact (XP.below (by assumption) (below_alloc _ _)).cells | exact XP.boxed (by assumption) (by assumption) (by assumption) (NI.bool _) (NI.slice _ _ _) (NI.slice _ _ _) | exact XP.boxed (by assumption) (by assumption) HW.out (NI.bool _) (NI.slice _ _ _) (NI.slice _ _ _)))
      (first
       | (go_at_call_of 113 (Value.slice A1 n1 c1)
          refine (bRoot _ k _ _ _ _ (XP.of (by assumption)).r1.at_.2.1 (Nat.le_trans KA.out.1 (by omega)) HK2.out (Nat.le_trans HK8.out (by omega))).mono ?_
          rintro e wf ⟨B1, b1, d1, rfl, i1, bf⟩
          have hnew1 := ((XP.of (by assumption)).below bf).newer
          try (have hbx1 := Box.below (Box.drew (Box.new M (.bool false) (.slice none 0 0) (.slice none 0 0) 39)) bf))
       | (go_at_call 85
          refine (bDen a _ _ (XP.of (by assumption)).r1).mono ?_
          rintro e wg ⟨B2, b2, d2, rfl, i2, bg⟩
          have i1b := by first | exact Lib.hid (i1.out.below bg) | exact Lib.hid ((i1.out.below (below_alloc _ _)).below bg)
          have hnew2 := ((XP.of (by assumption)).below bg).newer
          first
            | (have hbx2 := Box.below hbx1 bg)
            | (have hbx2 := Box.below (Box.new wf (.bool false) (.slice none 0 0) (.slice none 0 0) 39) bg)
            | skip)
       | (go_at_call 113
          refine (bRoot _ k _ _ _ _ (by first | exact i2.out | exact i2.out.below (below_alloc _ _)) (Nat.le_trans KA.out.2 (by omega)) HK2.out (Nat.le_trans HK8.out (by omega))).mono ?_
          rintro e wh ⟨B3, b3, d3, rfl, i3, bh⟩
          have i1c := by first | exact Lib.hid (i1b.out.below bh) | exact Lib.hid ((i1b.out.below (below_alloc _ _)).below bh)
          have hnew3 := ((XP.of (by assumption)).below bh).newer
          first
            | (have hbx3 := Box.below hbx2 bh)
            | (have hbx3 := Box.below (Box.new wg (.bool false) (.slice none 0 0) (.slice none 0 0) 39) bh)
            | skip)
       | (go_at_call 70
          refine (bMake true _ _ _ _ _ _ _ _ _ (by first | exact i1c.out | exact i1c.out.below (below_alloc _ _)) (by first | exact i3.out | exact i3.out.below (below_alloc _ _)) (irt_den (Nat.lt_of_lt_of_le (by omega) HK2.out) a) (Nat.le_trans (dig_length_mono B16_two (irt_selfR (Nat.lt_of_lt_of_le (by omega) HK2.out) _)) (Nat.le_trans KA.out.1 (by omega))) (Nat.le_trans (dig_length_mono B16_two (irt_selfR (Nat.lt_of_lt_of_le (by omega) HK2.out) _)) (Nat.le_trans KA.out.2 (by omega))) r HMK.out).mono ?_
          rintro e we ⟨t5, B5, m5, e5, B5', m5', e5', rfl, i5, b5⟩
          have hh := (XP.of (by assumption)).below b5
          first
            | (have hbx4 := Box.below hbx3 b5; obtain ⟨k1, k2, k3, f1, f2, f3⟩ := hbx4.cells)
            | (have hbx4 := Box.below (Box.new wh (.bool false) (.slice none 0 0) (.slice none 0 0) 39) b5; obtain ⟨k1, k2, k3, f1, f2, f3⟩ := hbx4.cells)
            | skip))
    all_goals (go_wp2; go_meet)
    all_goals first
      | exact ⟨_, _, _, _, _, _, _, _, rfl, Lib.hid (hh.last i5.out)⟩
      | exact ⟨_, _, _, _, _, _, _, _, rfl, Lib.hid (hh.first i5.out hbx4 HW.out)⟩
      | exact ⟨_, _, _, _, _, _, _, _, rfl, Lib.hid (hh.first i5.out hbx4 hnew1)⟩
      | exact ⟨_, _, _, _, _, _, _, _, rfl, Lib.hid (hh.first i5.out hbx4 hnew2)⟩
      | exact ⟨_, _, _, _, _, _, _, _, rfl, Lib.hid (hh.first i5.out hbx4 hnew3)⟩
  case rest =>
    obtain ⟨g4, t5, B5, m5, e5, B5', m5', e5', rfl, TQ⟩ := hcut
    clear T0 HW
    go_wp2_with fail
    go_region_held3 (fun W' => (World.cell? W' ⟨w.heap.size, 0, none⟩ = some (.bool true) ∧ World.cell? W' ⟨w.heap.size, 1, none⟩ = some (.slice A1 n1 c1) ∧ World.cell? W' ⟨w.heap.size, 2, none⟩ = some (.slice A2 n2 c2) ∧ World.cell? W' ⟨g4, 0, none⟩ = some (.bool t5) ∧ World.cell? W' ⟨g4, 1, none⟩ = some (.slice B5 m5 e5) ∧ World.cell? W' ⟨g4, 2, none⟩ = some (.slice B5' m5' e5') ∧ Hid (XQ w W' w.heap.size g4 (w.heap.size + 1) true A1 n1 c1 A2 n2 c2 a t5 B5 m5 e5 B5' m5' e5' r)))
      (with_reducible (first | assumption | exact TQ.out.drew.cells | exact XQ.next (by assumption) (by assumption)))
      (first
       | (go_at_call 59
          refine (Calls.parts (qPowerN r k (Nat.le_trans HK8.out (by omega)) _ _ (XQ.of (by assumption)).r2 (KR.out.le (by omega)) p HP.out)).mono ?_
          rintro e wd ⟨t6, B6, m6, e6, B6', m6', e6', rfl, i6, bd⟩)
       | (go_at_call 40
          refine (bCmpQ p a c HC.out _ _ _ i6.out (XQ.of (by assumption)).p.r1 (KP.out.le (by omega)) (KA.out.le (by omega))).mono ?_
          rintro e we ⟨rfl, be⟩
          have hh := Lib.hid ((XQ.of (by assumption)).below be)))
    go_wp2_with fail
    refine (CI.out _).mono ?_
    rintro e wi ⟨t4, B4, m4, e4, B4', m4', e4', rfl, i4, bi⟩
    have hh := Lib.hid ((hh.out).below bi)
    obtain ⟨z1', z2', z3', hz1, hz2, hz3, k1, k2, k3⟩ := hh.out.p.res.cells
    obtain ⟨q0, q1, q2, hs, hb⟩ := IsQ.stored i4.out hh.out.p.res hh.out.p.bel hh.out.p.n3
    have Q := Lib.hid (And.intro q0 (And.intro q1 q2))
    have HS := Lib.hid hs
    have HBB := Lib.hid hb
    clear q0 q1 q2 hs hb bi
    go_wp2_with fail
    obtain ⟨q0, q1, q2⟩ := Q.out
    refine bodyPost_ret (v := .tuple #[.agg #[.bool t4, .slice B4 m4 e4, .slice B4' m4' e4'], .bool false]) (by simp [results, Tryd.results74, go_sem, q0, q1, q2]) rfl ?_
    exact ⟨_, _, _, _, _, _, _, rfl, HS, HBB.out⟩
def exactQ (k : Nat) (a : Rat) : Rat × Bool := if ng a = true ∧ k % 2 = 0 then (0, false) else if isRt k a = true then (rtQ k a, true) else (0, false)
theorem qExact (a : Rat) (k : Nat) (h2 : 2 ≤ k) (h8 : k ≤ 8) (ka : Rq 200 a) (w : World) (v : Value) (h : IsQ w v a) (r : Rat) (b : Bool) (hr : exactQ k a = (r, b)) :
    Calls Tryd.prog 74 #[v, .int .i64 k] w fun e w' => ∃ t B1 m1 e1 B2 m2 e2, e = .returned (.tuple #[.agg #[.bool t, .slice B1 m1 e1, .slice B2 m2 e2], .bool b]) ∧ Hid (IsQ w' (.agg #[.bool t, .slice B1 m1 e1, .slice B2 m2 e2]) r) ∧ Below w.heap.size w w' := by
  obtain ⟨A1, c1, A2, c2, rfl, h1, h3⟩ := id h
  unfold exactQ at hr
  cases hs : ng a
  · rw [hs] at hr h
    rw [if_neg (by simp)] at hr
    cases hg : isRt k a
    · rw [hg] at hr
      simp only [Bool.false_eq_true, if_false, Prod.mk.injEq] at hr
      obtain ⟨rfl, rfl⟩ := hr
      exact rExact_false_bad a k h2 h8 hs hg ka _ _ _ _ _ _ _ w h
    · rw [hg] at hr
      simp only [if_true, Prod.mk.injEq] at hr
      obtain ⟨rfl, rfl⟩ := hr
      exact rExact_false_good a k h2 h8 hs hg ka _ _ _ _ _ _ _ w h
  · rw [hs] at hr h
    by_cases he : k % 2 = 0
    · rw [if_pos ⟨rfl, he⟩, Prod.mk.injEq] at hr
      obtain ⟨rfl, rfl⟩ := hr
      exact rExact_even a k h2 h8 hs he ka _ _ _ _ _ _ _ w h
    · have ho : k % 2 = 1 := by omega
      rw [if_neg (fun h => he h.2)] at hr
      cases hg : isRt k a
      · rw [hg] at hr
        simp only [Bool.false_eq_true, if_false, Prod.mk.injEq] at hr
        obtain ⟨rfl, rfl⟩ := hr
        exact rExact_true_bad a k h2 h8 hs ho hg ka _ _ _ _ _ _ _ w h
      · rw [hg] at hr
        simp only [if_true, Prod.mk.injEq] at hr
        obtain ⟨rfl, rfl⟩ := hr
        exact rExact_true_good a k h2 h8 hs ho hg ka _ _ _ _ _ _ _ w h
end Go.Proofs.YtfmhplcpejmkhabDoor

namespace Go.Proofs.YtfmhplcpejmkhabDoor
open Go.RowKit Dig
set_option linter.unusedVariables false
set_option linter.unusedSimpArgs false
theorem dn_int (n p : Nat) : dnQ (mkRat (sg false n) 1) p = mkRat (n : Nat) (2 ^ p) := by
  rw [mk_int_one]
  show mkRat (sg (ng ((sg false n : Int) : Rat)) ((sg false n : Int) : Rat).num.natAbs) (((sg false n : Int) : Rat).den * 2 ^ p) = _
  rw [sg_ng]
  show mkRat (n : Int) (1 * 2 ^ p) = _
  rw [Nat.one_mul]
theorem dn_1 (p : Nat) : dnQ ((1 : Int) : Rat) p = mkRat 1 (2 ^ p) := by
  unfold dnQ
  rw [sg_ng]
  show mkRat 1 (1 * 2 ^ p) = _
  rw [Nat.one_mul]
theorem R_mul_two (n m : Nat) : (R (n * 2 ^ m)).length ≤ (R n).length + (m / 16 + 1) := by
  have h1 := R_mul_length n (2 ^ m)
  have h2 := R_two_pow16 m
  omega
theorem low_len {n m : Nat} (h : (R n).length ≤ 200) (hm : m ≤ 2048) : (R (n * 2 ^ m)).length ≤ 400 := by
  have := R_mul_two n m
  omega
theorem low_Rq {a : Rat} {k p : Nat} (hk : 0 < k) (h8 : k ≤ 8) (hp : p ≤ 256) (h : Rq 200 a) : Rq 400 (lowQ a k p) := by
  refine mk_Rq (Nat.ne_of_gt (Nat.two_pow_pos p)) ?_ ?_
  · show (R (irt k (a.num.natAbs * 2 ^ (p * k) / a.den))).length ≤ 400
    refine Nat.le_trans (dig_length_mono B16_two (Nat.le_trans (irt_selfR hk _) (Nat.div_le_self _ _))) ?_
    have h1 := R_mul_two a.num.natAbs (p * k)
    have h2 := h.1
    have h3 : p * k ≤ 256 * 8 := Nat.mul_le_mul hp h8
    unfold R at *
    omega
  · have := R_two_pow p
    omega
set_option maxHeartbeats 4000000 in
set_option maxRecDepth 100000 in
theorem rBelow_pos (a : Rat) (k p : Nat) (h2 : 2 ≤ k) (h8 : k ≤ 8) (hp : p ≤ 256) (hs : ng a = false) (ka : Rq 200 a) (s1 : Bool) (A1 : Option Addr) (n1 c1 : Nat) (A2 : Option Addr) (n2 c2 : Nat) (w : World) (h : IsQ w (.agg #[.bool s1, .slice A1 n1 c1, .slice A2 n2 c2]) a) :
    Calls Tryd.prog 81 #[(.agg #[.bool s1, .slice A1 n1 c1, .slice A2 n2 c2]), .int .i64 k, .int .i64 p] w fun e w' => ∃ t B1 m1 e1 B2 m2 e2, e = .returned (.agg #[.bool t, .slice B1 m1 e1, .slice B2 m2 e2]) ∧ Hid (IsQ w' (.agg #[.bool t, .slice B1 m1 e1, .slice B2 m2 e2]) (lowQ a k p)) ∧ Below w.heap.size w w' := by
  obtain ⟨M, hM, T0⟩ := XP.start w h
  have T0 := Lib.hid T0
  obtain ⟨hs1, _⟩ := h.at_
  have HNG := Lib.hid hs
  rw [hs] at hs1
  subst hs1
  have u1 : IntKind.i64.wrap (k : Int) = (k : Int) := wrap_i64 _ (by omega) (by omega)
  have u2 : IntKind.i64.wrap (p : Int) = (p : Int) := wrap_i64 _ (by omega) (by omega)
  have u3 : IntKind.i64.wrap (-(p : Int)) = -(p : Int) := wrap_i64 _ (by omega) (by omega)
  have u4 : wrap64 (-(p : Int)) = -(p : Int) := by unfold wrap64; omega
  have HK2 := Lib.hid h2
  have HK8 := Lib.hid h8
  have HPP := Lib.hid hp
  have KA := Lib.hid ka
  clear hs h ka
  obtain ⟨m, hmk⟩ : ∃ m, p * k = m := ⟨_, rfl⟩
  have hmi : (k : Int) * (p : Int) = (m : Int) := by rw [← hmk]; push_cast; exact Int.mul_comm _ _
  have hmb : m ≤ 2048 := by rw [← hmk]; exact Nat.mul_le_mul hp h8
  have u5 : IntKind.i64.wrap (m : Int) = (m : Int) := wrap_i64 _ (by omega) (by omega)
  have u6 : wrap64 (m : Int) = (m : Int) := by unfold wrap64; omega
  have HXL := Lib.hid (low_len KA.out.1 hmb)
  obtain ⟨r, hr⟩ : ∃ r, lowQ a k p = r := ⟨_, rfl⟩
  obtain ⟨q1, hq1⟩ : ∃ q, mkRat (sg false (irt k (a.num.natAbs * 2 ^ m / a.den))) 1 = q := ⟨_, rfl⟩
  have HLOW := Lib.hid (show dnQ q1 p = r by rw [← hr, ← hq1, dn_int]; unfold lowQ; rw [hmk])
  have HQ1 := Lib.hid hq1
  have HIR := Lib.hid (show (R (irt k (a.num.natAbs * 2 ^ m / a.den))).length ≤ 400 from Nat.le_trans (dig_length_mono B16_two (Nat.le_trans (irt_selfR (by omega) _) (Nat.div_le_self _ _))) HXL.out)
  have KQ1 := Lib.hid (show Rq 400 q1 by
    rw [← hq1]
    refine mk_Rq (by omega) ?_ ?_
    · rw [sg_abs]; exact HIR.out
    · rw [R_one]; simp)
  rw [hr]
  clear hr hq1 hmk
  go_enter Tryd.func81, Tryd.ntmps81
  go_upto_region 1 with (fail)
  rw [← hM]
  clear hM
  obtain ⟨x1, y1, z1, _, _, _⟩ := T0.out.f.cells
  go_wp2_with fail
  clear x1 y1 z1
  go_region_held3 (fun W' => (World.cell? W' ⟨w.heap.size, 0, none⟩ = some (.bool false) ∧ World.cell? W' ⟨w.heap.size, 1, none⟩ = some (.slice A1 n1 c1) ∧ World.cell? W' ⟨w.heap.size, 2, none⟩ = some (.slice A2 n2 c2) ∧ Hid (XP w W' w.heap.size (w.heap.size + 1) false A1 n1 c1 A2 n2 c2 a)))
    (with_reducible (first | assumption | exact T0.out.drew.cells | exact XP.next (by assumption) (by assumption)))
    (first
     | (go_at_call 84
        refine (bShl _ m _ _ _ _ (XP.of (by assumption)).r1.at_.2.1 (Nat.le_trans KA.out.1 (by omega)) (by omega)).mono ?_
        rintro e wf ⟨B1, b1, d1, rfl, i1, bf⟩)
     | (go_at_call 85
        refine (bDen a _ _ (XP.of (by assumption)).r1).mono ?_
        rintro e wg ⟨B2, b2, d2, rfl, i2, bg⟩)
     | (go_at_call 107
        refine (bDiv _ _ _ _ _ _ _ _ _ (i1.out.below bg) i2.out (Nat.le_trans HXL.out (by omega)) a.den_pos).mono ?_
        rintro e wh ⟨B3, b3, d3, B3', b3', d3', rfl, i3, _, bh⟩
        have hh := Lib.hid ((XP.of (by assumption)).below bh)))
  go_wp2_with fail
  refine (bRoot _ k _ _ _ _ i3.out (Nat.le_trans (dig_length_mono B16_two (Nat.div_le_self _ _)) (Nat.le_trans HXL.out (by omega))) HK2.out (Nat.le_trans HK8.out (by omega))).mono ?_
  rintro e wb ⟨B4, b4, d4, rfl, i4, bb⟩
  replace hh := Lib.hid (hh.out.below bb)
  clear bb
  go_wp2_with fail
  refine (bOne _).mono ?_
  rintro e wb ⟨B5, b5, d5, rfl, i5, bb⟩
  replace hh := Lib.hid (hh.out.below bb)
  replace i4 := Lib.hid (i4.out.below bb)
  clear bb
  go_wp2_with fail
  refine (bMake false _ _ _ _ _ _ _ _ _ i4.out i5.out (by omega) (Nat.le_trans HIR.out (by omega)) (by rw [R_one]; simp) q1 HQ1.out).mono ?_
  rintro e wb ⟨t6, B6, m6, e6, B6', m6', e6', rfl, i6, bb⟩
  replace hh := Lib.hid (hh.out.below bb)
  clear bb
  go_wp2_with fail
  refine (qDn q1 p (Nat.le_trans HPP.out (by omega)) _ _ i6.out (KQ1.out.le (by omega)) r HLOW.out).mono ?_
  rintro e wb ⟨t7, B7, m7, e7, B7', m7', e7', rfl, i7, bb⟩
  replace hh := Lib.hid (hh.out.below bb)
  clear bb
  obtain ⟨z1', z2', z3', hz1, hz2, hz3, k1, k2, k3⟩ := hh.out.res.cells
  obtain ⟨q0, q1, q2, hs, hb⟩ := IsQ.stored i7.out hh.out.res hh.out.bel hh.out.n3
  have Q := Lib.hid (And.intro q0 (And.intro q1 q2))
  have HS := Lib.hid hs
  have HBB := Lib.hid hb
  clear q0 q1 q2 hs hb
  go_wp2_with fail
  obtain ⟨q0, q1, q2⟩ := Q.out
  refine bodyPost_ret (v := .agg #[.bool t7, .slice B7 m7 e7, .slice B7' m7' e7']) (by simp [results, Tryd.results81, go_sem, q0, q1, q2]) rfl ?_
  exact ⟨_, _, _, _, _, _, _, rfl, HS, HBB.out⟩
set_option maxHeartbeats 4000000 in
set_option maxRecDepth 100000 in
theorem rAbove_eq (a : Rat) (k p : Nat) (h2 : 2 ≤ k) (h8 : k ≤ 8) (hp : p ≤ 256) (hs : ng a = false) (hg : powN (lowQ a k p) k = a) (ka : Rq 200 a) (s1 : Bool) (A1 : Option Addr) (n1 c1 : Nat) (A2 : Option Addr) (n2 c2 : Nat) (w : World) (h : IsQ w (.agg #[.bool s1, .slice A1 n1 c1, .slice A2 n2 c2]) a) :
    Calls Tryd.prog 80 #[(.agg #[.bool s1, .slice A1 n1 c1, .slice A2 n2 c2]), .int .i64 k, .int .i64 p] w fun e w' => ∃ t B1 m1 e1 B2 m2 e2, e = .returned (.agg #[.bool t, .slice B1 m1 e1, .slice B2 m2 e2]) ∧ Hid (IsQ w' (.agg #[.bool t, .slice B1 m1 e1, .slice B2 m2 e2]) (lowQ a k p)) ∧ Below w.heap.size w w' := by
  obtain ⟨M, hM, T0⟩ := XP.start w h
  have T0 := Lib.hid T0
  obtain ⟨hs1, _⟩ := h.at_
  have HNG := Lib.hid hs
  rw [hs] at hs1
  subst hs1
  have u1 : IntKind.i64.wrap (k : Int) = (k : Int) := wrap_i64 _ (by omega) (by omega)
  have u2 : IntKind.i64.wrap (p : Int) = (p : Int) := wrap_i64 _ (by omega) (by omega)
  have u3 : IntKind.i64.wrap (-(p : Int)) = -(p : Int) := wrap_i64 _ (by omega) (by omega)
  have u4 : wrap64 (-(p : Int)) = -(p : Int) := by unfold wrap64; omega
  have HK2 := Lib.hid h2
  have HK8 := Lib.hid h8
  have HPP := Lib.hid hp
  have KA := Lib.hid ka
  clear hs h ka
  have CB := Lib.hid (fun (w : World) (h : IsQ w (.agg #[.bool false, .slice A1 n1 c1, .slice A2 n2 c2]) a) => rBelow_pos a k p h2 h8 hp HNG.out KA.out false A1 n1 c1 A2 n2 c2 w h)
  have KR := Lib.hid (low_Rq (k := k) (p := p) (by omega) h8 hp KA.out)
  obtain ⟨r, hr⟩ : ∃ r, lowQ a k p = r := ⟨_, rfl⟩
  rw [hr] at CB KR hg ⊢
  obtain ⟨pw, hpw⟩ : ∃ x, powN r k = x := ⟨_, rfl⟩
  rw [hpw] at hg
  have HP := Lib.hid hpw
  have KP := Lib.hid (show Rq 13000 pw by rw [← hpw]; exact (pow_Rq KR.out (by omega)).le (by omega))
  clear hr hpw
  have hc0 : cmpQ pw a = 0 := (cmpQ_zero _ _).2 hg
  have HC := Lib.hid hc0
  clear hg hc0
  go_enter Tryd.func80, Tryd.ntmps80
  go_upto_region 1 with (fail)
  rw [← hM]
  clear hM
  obtain ⟨x1, y1, z1, _, _, _⟩ := T0.out.f.cells
  go_wp2_with fail
  refine (CB.out _ T0.out.r1).mono ?_
  rintro e wb ⟨t5, B5, m5, e5, B5', m5', e5', rfl, i5, bb⟩
  have TQ := Lib.hid ((T0.out.below bb).last i5.out)
  obtain ⟨w2, hw2⟩ : ∃ v, wb.alloc (.cells #[.bool t5, .slice B5 m5 e5, .slice B5' m5' e5'] 39) = v := ⟨_, rfl⟩
  obtain ⟨g4, hg4⟩ : ∃ v, wb.heap.size = v := ⟨_, rfl⟩
  clear bb i5 T0 x1 y1 z1
  go_upto_region 4 with (fail)
  rw [hw2, hg4] at TQ
  try rw [hw2]
  try rw [hg4]
  clear hw2 hg4
  go_region_held3 (fun W' => (World.cell? W' ⟨w.heap.size, 0, none⟩ = some (.bool false) ∧ World.cell? W' ⟨w.heap.size, 1, none⟩ = some (.slice A1 n1 c1) ∧ World.cell? W' ⟨w.heap.size, 2, none⟩ = some (.slice A2 n2 c2) ∧ World.cell? W' ⟨g4, 0, none⟩ = some (.bool t5) ∧ World.cell? W' ⟨g4, 1, none⟩ = some (.slice B5 m5 e5) ∧ World.cell? W' ⟨g4, 2, none⟩ = some (.slice B5' m5' e5') ∧ Hid (XQ w W' w.heap.size g4 (w.heap.size + 1) false A1 n1 c1 A2 n2 c2 a t5 B5 m5 e5 B5' m5' e5' r)))
    (with_reducible (first | assumption | exact TQ.out.drew.cells | exact XQ.next (by assumption) (by assumption)))
    (first
     | (go_at_call 59
        refine (Calls.parts (qPowerN r k (Nat.le_trans HK8.out (by omega)) _ _ (XQ.of (by assumption)).r2 (KR.out.le (by omega)) pw HP.out)).mono ?_
        rintro e wd ⟨t6, B6, m6, e6, B6', m6', e6', rfl, i6, bd⟩)
     | (go_at_call 40
        refine (bCmpQ pw a 0 HC.out _ _ _ i6.out (XQ.of (by assumption)).p.r1 (KP.out.le (by omega)) (KA.out.le (by omega))).mono ?_
        rintro e we ⟨rfl, be⟩
        have hh := Lib.hid ((XQ.of (by assumption)).below be)))
  obtain ⟨x1, y1, z1, _, _, _⟩ := hh.out.g.cells
  obtain ⟨z1', z2', z3', hz1, hz2, hz3, k1, k2, k3⟩ := hh.out.p.res.cells
  obtain ⟨q0, q1, q2, hs, hb⟩ := IsQ.stored hh.out.r2 hh.out.p.res hh.out.p.bel hh.out.p.n3
  have Q := Lib.hid (And.intro q0 (And.intro q1 q2))
  have HS := Lib.hid hs
  have HBB := Lib.hid hb
  clear q0 q1 q2 hs hb
  go_wp2_with fail
  obtain ⟨q0, q1, q2⟩ := Q.out
  refine bodyPost_ret (v := .agg #[.bool t5, .slice B5 m5 e5, .slice B5' m5' e5']) (by simp [results, Tryd.results80, go_sem, q0, q1, q2]) rfl ?_
  exact ⟨_, _, _, _, _, _, _, rfl, HS, HBB.out⟩
set_option maxHeartbeats 4000000 in
set_option maxRecDepth 100000 in
theorem rAbove_ne (a : Rat) (k p : Nat) (h2 : 2 ≤ k) (h8 : k ≤ 8) (hp : p ≤ 256) (hs : ng a = false) (hg : powN (lowQ a k p) k ≠ a) (ka : Rq 200 a) (s1 : Bool) (A1 : Option Addr) (n1 c1 : Nat) (A2 : Option Addr) (n2 c2 : Nat) (w : World) (h : IsQ w (.agg #[.bool s1, .slice A1 n1 c1, .slice A2 n2 c2]) a) :
    Calls Tryd.prog 80 #[(.agg #[.bool s1, .slice A1 n1 c1, .slice A2 n2 c2]), .int .i64 k, .int .i64 p] w fun e w' => ∃ t B1 m1 e1 B2 m2 e2, e = .returned (.agg #[.bool t, .slice B1 m1 e1, .slice B2 m2 e2]) ∧ Hid (IsQ w' (.agg #[.bool t, .slice B1 m1 e1, .slice B2 m2 e2]) (lowQ a k p + mkRat 1 (2 ^ p))) ∧ Below w.heap.size w w' := by
  obtain ⟨M, hM, T0⟩ := XP.start w h
  have T0 := Lib.hid T0
  obtain ⟨hs1, _⟩ := h.at_
  have HNG := Lib.hid hs
  rw [hs] at hs1
  subst hs1
  have u1 : IntKind.i64.wrap (k : Int) = (k : Int) := wrap_i64 _ (by omega) (by omega)
  have u2 : IntKind.i64.wrap (p : Int) = (p : Int) := wrap_i64 _ (by omega) (by omega)
  have u3 : IntKind.i64.wrap (-(p : Int)) = -(p : Int) := wrap_i64 _ (by omega) (by omega)
  have u4 : wrap64 (-(p : Int)) = -(p : Int) := by unfold wrap64; omega
  have HK2 := Lib.hid h2
  have HK8 := Lib.hid h8
  have HPP := Lib.hid hp
  have KA := Lib.hid ka
  clear hs h ka
  have CB := Lib.hid (fun (w : World) (h : IsQ w (.agg #[.bool false, .slice A1 n1 c1, .slice A2 n2 c2]) a) => rBelow_pos a k p h2 h8 hp HNG.out KA.out false A1 n1 c1 A2 n2 c2 w h)
  have KR := Lib.hid (low_Rq (k := k) (p := p) (by omega) h8 hp KA.out)
  obtain ⟨r, hr⟩ : ∃ r, lowQ a k p = r := ⟨_, rfl⟩
  rw [hr] at CB KR hg ⊢
  obtain ⟨pw, hpw⟩ : ∃ x, powN r k = x := ⟨_, rfl⟩
  rw [hpw] at hg
  have HP := Lib.hid hpw
  have KP := Lib.hid (show Rq 13000 pw by rw [← hpw]; exact (pow_Rq KR.out (by omega)).le (by omega))
  clear hr hpw
  obtain ⟨c, hc⟩ : ∃ c, cmpQ pw a = c := ⟨_, rfl⟩
  have hc0 : c ≠ 0 := by rw [← hc]; exact fun h0 => hg ((cmpQ_zero _ _).1 h0)
  have f1 : (c == 0) = false := beq_eq_false_iff_ne.2 hc0
  have f2 : decide (c = 0) = false := decide_eq_false hc0
  have HC := Lib.hid hc
  clear hg hc0 hc
  have CI := Lib.hid (fun w => rInt 1 (by omega) (by omega) w)
  have K1 := Lib.hid (show Rq 400 ((1 : Int) : Rat) from ⟨Nat.le_trans ((dig_length_le B16_two _ 4).2 (by unfold B16; decide)) (by omega : 4 ≤ 400), Nat.le_trans ((dig_length_le B16_two _ 4).2 (by unfold B16; decide)) (by omega : 4 ≤ 400)⟩)
  obtain ⟨st, hst⟩ : ∃ x, mkRat 1 (2 ^ p) = x := ⟨_, rfl⟩
  have HST := Lib.hid (show dnQ ((1 : Int) : Rat) p = st by rw [dn_1, hst])
  have KST := Lib.hid (show Rq 400 st by
    rw [← hst]
    refine mk_Rq (Nat.ne_of_gt (Nat.two_pow_pos p)) ?_ ?_
    · show (R 1).length ≤ 400
      rw [R_one]; simp
    · have := R_two_pow p; omega)
  rw [hst]
  generalize ((1 : Int) : Rat) = one at *
  clear hst
  go_enter Tryd.func80, Tryd.ntmps80
  go_upto_region 1 with (fail)
  rw [← hM]
  clear hM
  obtain ⟨x1, y1, z1, _, _, _⟩ := T0.out.f.cells
  go_wp2_with fail
  refine (CB.out _ T0.out.r1).mono ?_
  rintro e wb ⟨t5, B5, m5, e5, B5', m5', e5', rfl, i5, bb⟩
  have TQ := Lib.hid ((T0.out.below bb).last i5.out)
  obtain ⟨w2, hw2⟩ : ∃ v, wb.alloc (.cells #[.bool t5, .slice B5 m5 e5, .slice B5' m5' e5'] 39) = v := ⟨_, rfl⟩
  obtain ⟨g4, hg4⟩ : ∃ v, wb.heap.size = v := ⟨_, rfl⟩
  clear bb i5 T0 x1 y1 z1
  go_upto_region 4 with (fail)
  rw [hw2, hg4] at TQ
  try rw [hw2]
  try rw [hg4]
  clear hw2 hg4
  go_region_held3 (fun W' => (World.cell? W' ⟨w.heap.size, 0, none⟩ = some (.bool false) ∧ World.cell? W' ⟨w.heap.size, 1, none⟩ = some (.slice A1 n1 c1) ∧ World.cell? W' ⟨w.heap.size, 2, none⟩ = some (.slice A2 n2 c2) ∧ World.cell? W' ⟨g4, 0, none⟩ = some (.bool t5) ∧ World.cell? W' ⟨g4, 1, none⟩ = some (.slice B5 m5 e5) ∧ World.cell? W' ⟨g4, 2, none⟩ = some (.slice B5' m5' e5') ∧ Hid (XQ w W' w.heap.size g4 (w.heap.size + 1) false A1 n1 c1 A2 n2 c2 a t5 B5 m5 e5 B5' m5' e5' r)))
    (with_reducible (first | assumption | exact TQ.out.drew.cells | exact XQ.next (by assumption) (by assumption)))
    (first
     | (go_at_call 59
        refine (Calls.parts (qPowerN r k (Nat.le_trans HK8.out (by omega)) _ _ (XQ.of (by assumption)).r2 (KR.out.le (by omega)) pw HP.out)).mono ?_
        rintro e wd ⟨t6, B6, m6, e6, B6', m6', e6', rfl, i6, bd⟩)
     | (go_at_call 40
        refine (bCmpQ pw a c HC.out _ _ _ i6.out (XQ.of (by assumption)).p.r1 (KP.out.le (by omega)) (KA.out.le (by omega))).mono ?_
        rintro e we ⟨rfl, be⟩
        have hh := Lib.hid ((XQ.of (by assumption)).below be)))
  obtain ⟨x1, y1, z1, _, _, _⟩ := hh.out.g.cells
  go_wp2_with fail
  clear x1 y1 z1
  go_region_held3 (fun W' => (World.cell? W' ⟨w.heap.size, 0, none⟩ = some (.bool false) ∧ World.cell? W' ⟨w.heap.size, 1, none⟩ = some (.slice A1 n1 c1) ∧ World.cell? W' ⟨w.heap.size, 2, none⟩ = some (.slice A2 n2 c2) ∧ World.cell? W' ⟨g4, 0, none⟩ = some (.bool t5) ∧ World.cell? W' ⟨g4, 1, none⟩ = some (.slice B5 m5 e5) ∧ World.cell? W' ⟨g4, 2, none⟩ = some (.slice B5' m5' e5') ∧ Hid (XQ w W' w.heap.size g4 (w.heap.size + 1) false A1 n1 c1 A2 n2 c2 a t5 B5 m5 e5 B5' m5' e5' r)))
    (with_reducible (first | assumption | exact hh.out.drew.cells | exact XQ.next (by assumption) (by assumption) | exact XQ.nextS (by assumption)))
    (first
     | (go_at_call 42
        refine (CI.out _).mono ?_
        rintro e wd ⟨t7, B7, m7, e7, B7', m7', e7', rfl, i7, bd⟩)
     | (go_at_call 41
        try rw [u3]
        refine (qDn one p (Nat.le_trans HPP.out (by omega)) _ _ i7.out (K1.out.le (by omega)) st HST.out).mono ?_
        rintro e we ⟨t8, B8, m8, e8, B8', m8', e8', rfl, i8, be⟩)
     | (go_at_call 115
        refine (Calls.parts (qSum r st _ _ _ (XQ.of (by assumption)).r2 i8.out (KR.out.le (by omega)) (KST.out.le (by omega)))).mono ?_
        rintro e wf ⟨t9, B9, m9, e9, B9', m9', e9', rfl, i9, bf⟩
        have hh := Lib.hid ((XQ.of (by assumption)).below bf)
        obtain ⟨z1', z2', z3', hz1, hz2, hz3, k1, k2, k3⟩ := hh.out.p.res.cells))
  obtain ⟨q0, q1, q2, hs, hb⟩ := IsQ.stored i9.out hh.out.p.res hh.out.p.bel hh.out.p.n3
  have Q := Lib.hid (And.intro q0 (And.intro q1 q2))
  have HS := Lib.hid hs
  have HBB := Lib.hid hb
  clear q0 q1 q2 hs hb
  go_wp2_with fail
  obtain ⟨q0, q1, q2⟩ := Q.out
  refine bodyPost_ret (v := .agg #[.bool t9, .slice B9 m9 e9, .slice B9' m9' e9']) (by simp [results, Tryd.results80, go_sem, q0, q1, q2]) rfl ?_
  exact ⟨_, _, _, _, _, _, _, rfl, HS, HBB.out⟩
theorem rAbove_pos (a : Rat) (k p : Nat) (h2 : 2 ≤ k) (h8 : k ≤ 8) (hp : p ≤ 256) (hs : ng a = false) (ka : Rq 200 a) (r : Rat) (hr : grtQ a k p true = r) (w : World) (v : Value) (h : IsQ w v a) :
    Calls Tryd.prog 80 #[v, .int .i64 k, .int .i64 p] w fun e w' => ∃ t B1 m1 e1 B2 m2 e2, e = .returned (.agg #[.bool t, .slice B1 m1 e1, .slice B2 m2 e2]) ∧ Hid (IsQ w' (.agg #[.bool t, .slice B1 m1 e1, .slice B2 m2 e2]) r) ∧ Below w.heap.size w w' := by
  obtain ⟨A1, c1, A2, c2, rfl, h1, h3⟩ := id h
  rw [grt_up a (by omega) hs] at hr
  by_cases hg : powN (lowQ a k p) k = a
  · rw [if_pos hg] at hr
    subst hr
    exact rAbove_eq a k p h2 h8 hp hs hg ka _ _ _ _ _ _ _ w h
  · rw [if_neg hg] at hr
    subst hr
    exact rAbove_ne a k p h2 h8 hp hs hg ka _ _ _ _ _ _ _ w h
theorem rBelow_nn (a : Rat) (k p : Nat) (h2 : 2 ≤ k) (h8 : k ≤ 8) (hp : p ≤ 256) (hs : ng a = false) (ka : Rq 200 a) (r : Rat) (hr : grtQ a k p false = r) (w : World) (v : Value) (h : IsQ w v a) :
    Calls Tryd.prog 81 #[v, .int .i64 k, .int .i64 p] w fun e w' => ∃ t B1 m1 e1 B2 m2 e2, e = .returned (.agg #[.bool t, .slice B1 m1 e1, .slice B2 m2 e2]) ∧ Hid (IsQ w' (.agg #[.bool t, .slice B1 m1 e1, .slice B2 m2 e2]) r) ∧ Below w.heap.size w w' := by
  obtain ⟨A1, c1, A2, c2, rfl, h1, h3⟩ := id h
  rw [grt_down a k p hs] at hr
  subst hr
  exact rBelow_pos a k p h2 h8 hp hs ka _ _ _ _ _ _ _ w h
set_option maxHeartbeats 4000000 in
set_option maxRecDepth 100000 in
theorem rRootBelow_neg (a : Rat) (k p : Nat) (h2 : 2 ≤ k) (h8 : k ≤ 8) (hp : p ≤ 256) (hs : ng a = true) (ka : Rq 200 a) (s1 : Bool) (A1 : Option Addr) (n1 c1 : Nat) (A2 : Option Addr) (n2 c2 : Nat) (w : World) (h : IsQ w (.agg #[.bool s1, .slice A1 n1 c1, .slice A2 n2 c2]) a) :
    Calls Tryd.prog 81 #[(.agg #[.bool s1, .slice A1 n1 c1, .slice A2 n2 c2]), .int .i64 k, .int .i64 p] w fun e w' => ∃ t B1 m1 e1 B2 m2 e2, e = .returned (.agg #[.bool t, .slice B1 m1 e1, .slice B2 m2 e2]) ∧ Hid (IsQ w' (.agg #[.bool t, .slice B1 m1 e1, .slice B2 m2 e2]) (grtQ a k p false)) ∧ Below w.heap.size w w' := by
  obtain ⟨M, hM, T0⟩ := XP.start w h
  have T0 := Lib.hid T0
  obtain ⟨hs1, _⟩ := h.at_
  have HNG := Lib.hid hs
  rw [hs] at hs1
  subst hs1
  have u1 : IntKind.i64.wrap (k : Int) = (k : Int) := wrap_i64 _ (by omega) (by omega)
  have u2 : IntKind.i64.wrap (p : Int) = (p : Int) := wrap_i64 _ (by omega) (by omega)
  have u3 : IntKind.i64.wrap (-(p : Int)) = -(p : Int) := wrap_i64 _ (by omega) (by omega)
  have u4 : wrap64 (-(p : Int)) = -(p : Int) := by unfold wrap64; omega
  have HK2 := Lib.hid h2
  have HK8 := Lib.hid h8
  have HPP := Lib.hid hp
  have KA := Lib.hid ka
  clear hs h ka
  obtain ⟨b, hb⟩ : ∃ b, -a = b := ⟨_, rfl⟩
  have hbn : ng b = false := by rw [← hb, ng_neg, HNG.out]; rfl
  have HB := Lib.hid hb
  have KB := Lib.hid (show Rq 200 b by rw [← hb]; exact KA.out.neg)
  obtain ⟨y, hy⟩ : ∃ y, grtQ b k p true = y := ⟨_, rfl⟩
  have C := Lib.hid (fun (w : World) (v : Value) (h : IsQ w v b) => rAbove_pos b k p h2 h8 hp hbn KB.out y hy w v h)
  have he := grt_neg a k p false HNG.out
  rw [hb, show (!false) = true from rfl, hy] at he
  obtain ⟨r, hr⟩ : ∃ r, grtQ a k p false = r := ⟨_, rfl⟩
  rw [hr] at he ⊢
  have HR := Lib.hid he.symm
  clear hb hbn hy he hr
  go_enter Tryd.func81, Tryd.ntmps81
  go_upto_region 1 with (fail)
  rw [← hM]
  clear hM
  obtain ⟨x1, y1, z1, _, _, _⟩ := T0.out.f.cells
  go_wp2_with fail
  refine (bOpp a b HB.out _ _ T0.out.r1).mono ?_
  rintro e wb ⟨t5, B5, m5, e5, B5', m5', e5', rfl, i5, bb⟩
  have hh := Lib.hid (T0.out.below bb)
  clear bb x1 y1 z1
  go_wp2_with fail
  refine (C.out _ _ i5.out).mono ?_
  rintro e wb ⟨t6, B6, m6, e6, B6', m6', e6', rfl, i6, bb⟩
  replace hh := Lib.hid (hh.out.below bb)
  clear bb
  go_wp2_with fail
  refine (bOpp y r HR.out _ _ i6.out).mono ?_
  rintro e wb ⟨t7, B7, m7, e7, B7', m7', e7', rfl, i7, bb⟩
  replace hh := Lib.hid (hh.out.below bb)
  clear bb
  obtain ⟨z1', z2', z3', hz1, hz2, hz3, k1, k2, k3⟩ := hh.out.res.cells
  obtain ⟨q0, q1, q2, hs, hb⟩ := IsQ.stored i7.out hh.out.res hh.out.bel hh.out.n3
  have Q := Lib.hid (And.intro q0 (And.intro q1 q2))
  have HS := Lib.hid hs
  have HBB := Lib.hid hb
  clear q0 q1 q2 hs hb
  go_wp2_with fail
  obtain ⟨q0, q1, q2⟩ := Q.out
  refine bodyPost_ret (v := .agg #[.bool t7, .slice B7 m7 e7, .slice B7' m7' e7']) (by simp [results, Tryd.results81, go_sem, q0, q1, q2]) rfl ?_
  exact ⟨_, _, _, _, _, _, _, rfl, HS, HBB.out⟩
set_option maxHeartbeats 4000000 in
set_option maxRecDepth 100000 in
theorem rRootAbove_neg (a : Rat) (k p : Nat) (h2 : 2 ≤ k) (h8 : k ≤ 8) (hp : p ≤ 256) (hs : ng a = true) (ka : Rq 200 a) (s1 : Bool) (A1 : Option Addr) (n1 c1 : Nat) (A2 : Option Addr) (n2 c2 : Nat) (w : World) (h : IsQ w (.agg #[.bool s1, .slice A1 n1 c1, .slice A2 n2 c2]) a) :
    Calls Tryd.prog 80 #[(.agg #[.bool s1, .slice A1 n1 c1, .slice A2 n2 c2]), .int .i64 k, .int .i64 p] w fun e w' => ∃ t B1 m1 e1 B2 m2 e2, e = .returned (.agg #[.bool t, .slice B1 m1 e1, .slice B2 m2 e2]) ∧ Hid (IsQ w' (.agg #[.bool t, .slice B1 m1 e1, .slice B2 m2 e2]) (grtQ a k p true)) ∧ Below w.heap.size w w' := by
  obtain ⟨M, hM, T0⟩ := XP.start w h
  have T0 := Lib.hid T0
  obtain ⟨hs1, _⟩ := h.at_
  have HNG := Lib.hid hs
  rw [hs] at hs1
  subst hs1
  have u1 : IntKind.i64.wrap (k : Int) = (k : Int) := wrap_i64 _ (by omega) (by omega)
  have u2 : IntKind.i64.wrap (p : Int) = (p : Int) := wrap_i64 _ (by omega) (by omega)
  have u3 : IntKind.i64.wrap (-(p : Int)) = -(p : Int) := wrap_i64 _ (by omega) (by omega)
  have u4 : wrap64 (-(p : Int)) = -(p : Int) := by unfold wrap64; omega
  have HK2 := Lib.hid h2
  have HK8 := Lib.hid h8
  have HPP := Lib.hid hp
  have KA := Lib.hid ka
  clear hs h ka
  obtain ⟨b, hb⟩ : ∃ b, -a = b := ⟨_, rfl⟩
  have hbn : ng b = false := by rw [← hb, ng_neg, HNG.out]; rfl
  have HB := Lib.hid hb
  have KB := Lib.hid (show Rq 200 b by rw [← hb]; exact KA.out.neg)
  obtain ⟨y, hy⟩ : ∃ y, grtQ b k p false = y := ⟨_, rfl⟩
  have C := Lib.hid (fun (w : World) (v : Value) (h : IsQ w v b) => rBelow_nn b k p h2 h8 hp hbn KB.out y hy w v h)
  have he := grt_neg a k p true HNG.out
  rw [hb, show (!true) = false from rfl, hy] at he
  obtain ⟨r, hr⟩ : ∃ r, grtQ a k p true = r := ⟨_, rfl⟩
  rw [hr] at he ⊢
  have HR := Lib.hid he.symm
  clear hb hbn hy he hr
  go_enter Tryd.func80, Tryd.ntmps80
  go_upto_region 1 with (fail)
  rw [← hM]
  clear hM
  obtain ⟨x1, y1, z1, _, _, _⟩ := T0.out.f.cells
  go_wp2_with fail
  refine (bOpp a b HB.out _ _ T0.out.r1).mono ?_
  rintro e wb ⟨t5, B5, m5, e5, B5', m5', e5', rfl, i5, bb⟩
  have hh := Lib.hid (T0.out.below bb)
  clear bb x1 y1 z1
  go_wp2_with fail
  refine (C.out _ _ i5.out).mono ?_
  rintro e wb ⟨t6, B6, m6, e6, B6', m6', e6', rfl, i6, bb⟩
  replace hh := Lib.hid (hh.out.below bb)
  clear bb
  go_wp2_with fail
  refine (bOpp y r HR.out _ _ i6.out).mono ?_
  rintro e wb ⟨t7, B7, m7, e7, B7', m7', e7', rfl, i7, bb⟩
  replace hh := Lib.hid (hh.out.below bb)
  clear bb
  obtain ⟨z1', z2', z3', hz1, hz2, hz3, k1, k2, k3⟩ := hh.out.res.cells
  obtain ⟨q0, q1, q2, hs, hb⟩ := IsQ.stored i7.out hh.out.res hh.out.bel hh.out.n3
  have Q := Lib.hid (And.intro q0 (And.intro q1 q2))
  have HS := Lib.hid hs
  have HBB := Lib.hid hb
  clear q0 q1 q2 hs hb
  go_wp2_with fail
  obtain ⟨q0, q1, q2⟩ := Q.out
  refine bodyPost_ret (v := .agg #[.bool t7, .slice B7 m7 e7, .slice B7' m7' e7']) (by simp [results, Tryd.results80, go_sem, q0, q1, q2]) rfl ?_
  exact ⟨_, _, _, _, _, _, _, rfl, HS, HBB.out⟩
theorem qRootBelow (a : Rat) (k p : Nat) (h2 : 2 ≤ k) (h8 : k ≤ 8) (hp : p ≤ 256) (ka : Rq 200 a) (r : Rat) (hr : grtQ a k p false = r) (w : World) (v : Value) (h : IsQ w v a) :
    Calls Tryd.prog 81 #[v, .int .i64 k, .int .i64 p] w fun e w' => ∃ t B1 m1 e1 B2 m2 e2, e = .returned (.agg #[.bool t, .slice B1 m1 e1, .slice B2 m2 e2]) ∧ Hid (IsQ w' (.agg #[.bool t, .slice B1 m1 e1, .slice B2 m2 e2]) r) ∧ Below w.heap.size w w' := by
  cases hs : ng a
  · exact rBelow_nn a k p h2 h8 hp hs ka r hr w v h
  · obtain ⟨A1, c1, A2, c2, rfl, h1, h3⟩ := id h
    subst hr
    exact rRootBelow_neg a k p h2 h8 hp hs ka _ _ _ _ _ _ _ w h
theorem qRootAbove (a : Rat) (k p : Nat) (h2 : 2 ≤ k) (h8 : k ≤ 8) (hp : p ≤ 256) (ka : Rq 200 a) (r : Rat) (hr : grtQ a k p true = r) (w : World) (v : Value) (h : IsQ w v a) :
    Calls Tryd.prog 80 #[v, .int .i64 k, .int .i64 p] w fun e w' => ∃ t B1 m1 e1 B2 m2 e2, e = .returned (.agg #[.bool t, .slice B1 m1 e1, .slice B2 m2 e2]) ∧ Hid (IsQ w' (.agg #[.bool t, .slice B1 m1 e1, .slice B2 m2 e2]) r) ∧ Below w.heap.size w w' := by
  cases hs : ng a
  · exact rAbove_pos a k p h2 h8 hp hs ka r hr w v h
  · obtain ⟨A1, c1, A2, c2, rfl, h1, h3⟩ := id h
    subst hr
    exact rRootAbove_neg a k p h2 h8 hp hs ka _ _ _ _ _ _ _ w h
end Go.Proofs.YtfmhplcpejmkhabDoor

namespace Go.Proofs.YtfmhplcpejmkhabDoor
open Go.RowKit Dig
set_option linter.unusedVariables false
set_option linter.unusedSimpArgs false
/-- a value, whether there is one, and an error -/
def Out3 (w : World) (o : Out) (b : Bool) (e : Ending) (w' : World) : Prop :=
  ∃ s A n c A' n' c' k, e = .returned (.tuple #[.agg #[.bool s, .slice A n c, .slice A' n' c'], .bool b, .int .i64 k]) ∧ OutIs w' o (.agg #[.bool s, .slice A n c, .slice A' n' c']) k ∧ Below w.heap.size w w'
/-- what Root returns -/
def rootOut (L : Bool) (n : Int) (q : Rat) : Out × Bool :=
  if L = true then (.err 1, false) else if n < 2 ∨ 8 < n then (.err 2, false) else if ng q = true ∧ n.toNat % 2 = 0 then (.ok 0, false) else if isRt n.toNat q = true then (.ok (rtQ n.toNat q), true) else (.ok 0, false)
theorem rt_fit {q : Rat} {k : Nat} (hk : 0 < k) (hf : fitQ q) (h : isRt k q = true) : fitQ (rtQ k q) := by
  obtain ⟨_, e2, e3⟩ := rt_facts hk h
  have l : ∀ a, irt k a ≤ a := by
    intro a
    have h1 := irt_le (a := a) hk
    rcases Nat.eq_zero_or_pos (irt k a) with h0 | h0
    · omega
    · exact Nat.le_trans (by have := Nat.pow_le_pow_right h0 (show 1 ≤ k by omega); simpa using this) h1
  unfold fitQ
  rw [e2, e3]
  exact ⟨Nat.le_trans (dig_length_mono B32_two (l _)) hf.1, Nat.le_trans (dig_length_mono B32_two (l _)) hf.2⟩
set_option maxHeartbeats 2000000 in
set_option maxRecDepth 100000 in
theorem nRoot_large (s1 : Bool) (N1' D1' : Nat) (p : Int) (w : World) (v1 : Value) (h1 : RawV w v1 s1 N1' D1') (hT : Tab w) (q : Rat) (hq : ratOf s1 N1' D1' = q) (hL : largeB s1 N1' D1' = true) :
    Calls Tryd.prog 30 #[v1, .int .i64 p] w (Out3 w (Out.err 1) false) := by
  have H1 := Lib.hid h1
  have HT := Lib.hid hT
  obtain ⟨A1, n1, c1, A1', n1', c1', rfl⟩ := h1.shape
  clear h1 hT
  obtain ⟨M, hM, k1, k3, bM⟩ := start1 w (.bool s1) (.slice A1 n1 c1) (.slice A1' n1' c1') (.bool false) (.slice none 0 0) (.slice none 0 0) 24 24
  have HX := Lib.hid k1
  have HR := Lib.hid (show Res M (w.heap.size + 1) 24 from ⟨_, _, _, NI.bool _, NI.slice _ _ _, NI.slice _ _ _, k3⟩)
  have BM := Lib.hid bM
  replace H1 := Lib.hid (H1.out.below bM)
  replace HT := Lib.hid (HT.out.below bM)
  have HQ := Lib.hid hq
  have HL := Lib.hid hL
  obtain ⟨o, ho⟩ : ∃ o, Out.err 1 = o := ⟨_, rfl⟩
  have HO := Lib.hid ho
  rw [ho]
  clear hq hL k1 k3 bM ho
  go_enter Tryd.func30, Tryd.ntmps30
  go_upto_region 1 with (fail)
  rw [← hM]
  clear hM
  obtain ⟨x1, x2, x3, _, _, _⟩ := HX.out.cells
  go_wp2_with fail
  refine (readV _ s1 N1' D1' _ H1.out HT.out).mono ?_
  rw [HL.out, Bool.not_true]
  rintro e wa ⟨t1, B1, m1, d1, B1', m1', d1', rfl, f1, ba⟩
  have bb := below_step ba ba.size (below_alloc wa (.cells #[.bool t1, .slice B1 m1 d1, .slice B1' m1' d1'] 65))
  have hf1 := Box.new wa (.bool t1) (.slice B1 m1 d1) (.slice B1' m1' d1') 65
  have szw : w.heap.size + 1 < wa.heap.size := Nat.lt_of_lt_of_le (by obtain ⟨_, _, _, _, _, _, hh⟩ := HR.out; exact hh.lt) ba.size
  have TA : Hid (N1 w (wa.alloc (.cells #[.bool t1, .slice B1 m1 d1, .slice B1' m1' d1'] 65)) (w.heap.size + 1) wa.heap.size t1 B1 m1 d1 B1' m1' d1') :=
    Lib.hid ⟨HR.out.below bb, hf1, HT.out.below bb, below_step BM.out BM.out.size bb, by omega, by omega⟩
  obtain ⟨w2, hw2⟩ : ∃ w2, wa.alloc (.cells #[.bool t1, .slice B1 m1 d1, .slice B1' m1' d1'] 65) = w2 := ⟨_, rfl⟩
  obtain ⟨gf, hgf⟩ : ∃ gf, wa.heap.size = gf := ⟨_, rfl⟩
  clear x1 x2 x3 ba bb f1 hf1 szw HR BM HX H1 HT
  go_upto_region 2 with (fail)
  rw [hw2] at TA
  try rw [hw2]
  rw [hgf] at TA
  try rw [hgf]
  clear hw2 hgf
  obtain ⟨y1, y2, y3, _⟩ := TA.out.box.cells
  obtain ⟨z1, z2, z3, hy1, hy2, hy3, f1, f2, f3⟩ := TA.out.res.cells
  obtain ⟨q0, q1, q2, hs, hb⟩ := OutIs.stored (o := .err 1) (k := 1) (s := false) (A1 := none) (A2 := none) (n1 := 0) (c1 := 0) (n2 := 0) (c2 := 0) ⟨rfl, rfl, by omega, by omega⟩ TA.out.res TA.out.bel TA.out.n3
  have Q := Lib.hid (And.intro q0 (And.intro q1 q2))
  have HS := Lib.hid hs
  have HBB := Lib.hid hb
  clear q0 q1 q2 hs hb
  go_wp2_with fail
  obtain ⟨q0, q1, q2⟩ := Q.out
  refine bodyPost_ret (v := .tuple #[noRat, .bool false, .int .i64 1]) (by simp [results, Tryd.results30, go_sem, q0, q1, q2, noRat]) rfl ?_
  rw [← HO.out]
  exact ⟨_, _, _, _, _, _, _, _, rfl, HS.out, HBB.out⟩
set_option maxHeartbeats 2000000 in
set_option maxRecDepth 100000 in
theorem nRoot_low (s1 : Bool) (N1' D1' : Nat) (p : Int) (hp : p < 2) (w : World) (v1 : Value) (h1 : RawV w v1 s1 N1' D1') (hT : Tab w) (q : Rat) (hq : ratOf s1 N1' D1' = q) (hL : largeB s1 N1' D1' = false) :
    Calls Tryd.prog 30 #[v1, .int .i64 p] w (Out3 w (Out.err 2) false) := by
  have H1 := Lib.hid h1
  have HT := Lib.hid hT
  obtain ⟨A1, n1, c1, A1', n1', c1', rfl⟩ := h1.shape
  clear h1 hT
  obtain ⟨M, hM, k1, k3, bM⟩ := start1 w (.bool s1) (.slice A1 n1 c1) (.slice A1' n1' c1') (.bool false) (.slice none 0 0) (.slice none 0 0) 24 24
  have HX := Lib.hid k1
  have HR := Lib.hid (show Res M (w.heap.size + 1) 24 from ⟨_, _, _, NI.bool _, NI.slice _ _ _, NI.slice _ _ _, k3⟩)
  have BM := Lib.hid bM
  replace H1 := Lib.hid (H1.out.below bM)
  replace HT := Lib.hid (HT.out.below bM)
  have HQ := Lib.hid hq
  have HL := Lib.hid hL
  have hp1 : decide (p < 2) = true := decide_eq_true hp
  clear hp
  obtain ⟨o, ho⟩ : ∃ o, Out.err 2 = o := ⟨_, rfl⟩
  have HO := Lib.hid ho
  rw [ho]
  clear hq hL k1 k3 bM ho
  go_enter Tryd.func30, Tryd.ntmps30
  go_upto_region 1 with (fail)
  rw [← hM]
  clear hM
  obtain ⟨x1, x2, x3, _, _, _⟩ := HX.out.cells
  go_wp2_with fail
  refine (readV _ s1 N1' D1' _ H1.out HT.out).mono ?_
  rw [HL.out, Bool.not_false]
  rintro e wa ⟨t1, B1, m1, d1, B1', m1', d1', rfl, f1, ba⟩
  have bb := below_step ba ba.size (below_alloc wa (.cells #[.bool t1, .slice B1 m1 d1, .slice B1' m1' d1'] 65))
  have hf1 := Box.new wa (.bool t1) (.slice B1 m1 d1) (.slice B1' m1' d1') 65
  have szw : w.heap.size + 1 < wa.heap.size := Nat.lt_of_lt_of_le (by obtain ⟨_, _, _, _, _, _, hh⟩ := HR.out; exact hh.lt) ba.size
  have TA : Hid (N1 w (wa.alloc (.cells #[.bool t1, .slice B1 m1 d1, .slice B1' m1' d1'] 65)) (w.heap.size + 1) wa.heap.size t1 B1 m1 d1 B1' m1' d1') :=
    Lib.hid ⟨HR.out.below bb, hf1, HT.out.below bb, below_step BM.out BM.out.size bb, by omega, by omega⟩
  have F1 : Hid (IsF (wa.alloc (.cells #[.bool t1, .slice B1 m1 d1, .slice B1' m1' d1'] 65)) (.agg #[.bool t1, .slice B1 m1 d1, .slice B1' m1' d1']) q) := Lib.hid (by rw [← HQ.out]; exact (f1.out rfl).below (below_alloc _ _))
  obtain ⟨w2, hw2⟩ : ∃ w2, wa.alloc (.cells #[.bool t1, .slice B1 m1 d1, .slice B1' m1' d1'] 65) = w2 := ⟨_, rfl⟩
  obtain ⟨gf, hgf⟩ : ∃ gf, wa.heap.size = gf := ⟨_, rfl⟩
  clear x1 x2 x3 ba bb f1 hf1 szw HR BM HX H1 HT
  go_upto_region 2 with (fail)
  rw [hw2] at TA F1
  try rw [hw2]
  rw [hgf] at TA
  try rw [hgf]
  clear hw2 hgf
  obtain ⟨y1, y2, y3, _⟩ := TA.out.box.cells
  obtain ⟨z1, z2, z3, hy1, hy2, hy3, f1, f2, f3⟩ := TA.out.res.cells
  obtain ⟨q0, q1, q2, hs, hb⟩ := OutIs.stored (o := .err 2) (k := 2) (s := false) (A1 := none) (A2 := none) (n1 := 0) (c1 := 0) (n2 := 0) (c2 := 0) ⟨rfl, rfl, by omega, by omega⟩ TA.out.res TA.out.bel TA.out.n3
  have Q := Lib.hid (And.intro q0 (And.intro q1 q2))
  have HS := Lib.hid hs
  have HBB := Lib.hid hb
  clear q0 q1 q2 hs hb
  go_wp2_with fail
  obtain ⟨q0, q1, q2⟩ := Q.out
  refine bodyPost_ret (v := .tuple #[noRat, .bool false, .int .i64 2]) (by simp [results, Tryd.results30, go_sem, q0, q1, q2, noRat]) rfl ?_
  rw [← HO.out]
  exact ⟨_, _, _, _, _, _, _, _, rfl, HS.out, HBB.out⟩
set_option maxHeartbeats 2000000 in
set_option maxRecDepth 100000 in
theorem nRoot_high (s1 : Bool) (N1' D1' : Nat) (p : Int) (hp : 8 < p) (w : World) (v1 : Value) (h1 : RawV w v1 s1 N1' D1') (hT : Tab w) (q : Rat) (hq : ratOf s1 N1' D1' = q) (hL : largeB s1 N1' D1' = false) :
    Calls Tryd.prog 30 #[v1, .int .i64 p] w (Out3 w (Out.err 2) false) := by
  have H1 := Lib.hid h1
  have HT := Lib.hid hT
  obtain ⟨A1, n1, c1, A1', n1', c1', rfl⟩ := h1.shape
  clear h1 hT
  obtain ⟨M, hM, k1, k3, bM⟩ := start1 w (.bool s1) (.slice A1 n1 c1) (.slice A1' n1' c1') (.bool false) (.slice none 0 0) (.slice none 0 0) 24 24
  have HX := Lib.hid k1
  have HR := Lib.hid (show Res M (w.heap.size + 1) 24 from ⟨_, _, _, NI.bool _, NI.slice _ _ _, NI.slice _ _ _, k3⟩)
  have BM := Lib.hid bM
  replace H1 := Lib.hid (H1.out.below bM)
  replace HT := Lib.hid (HT.out.below bM)
  have HQ := Lib.hid hq
  have HL := Lib.hid hL
  have hp1 : decide (p < 2) = false := decide_eq_false (by omega)
  have hp2 : decide (8 < p) = true := decide_eq_true hp
  clear hp
  obtain ⟨o, ho⟩ : ∃ o, Out.err 2 = o := ⟨_, rfl⟩
  have HO := Lib.hid ho
  rw [ho]
  clear hq hL k1 k3 bM ho
  go_enter Tryd.func30, Tryd.ntmps30
  go_upto_region 1 with (fail)
  rw [← hM]
  clear hM
  obtain ⟨x1, x2, x3, _, _, _⟩ := HX.out.cells
  go_wp2_with fail
  refine (readV _ s1 N1' D1' _ H1.out HT.out).mono ?_
  rw [HL.out, Bool.not_false]
  rintro e wa ⟨t1, B1, m1, d1, B1', m1', d1', rfl, f1, ba⟩
  have bb := below_step ba ba.size (below_alloc wa (.cells #[.bool t1, .slice B1 m1 d1, .slice B1' m1' d1'] 65))
  have hf1 := Box.new wa (.bool t1) (.slice B1 m1 d1) (.slice B1' m1' d1') 65
  have szw : w.heap.size + 1 < wa.heap.size := Nat.lt_of_lt_of_le (by obtain ⟨_, _, _, _, _, _, hh⟩ := HR.out; exact hh.lt) ba.size
  have TA : Hid (N1 w (wa.alloc (.cells #[.bool t1, .slice B1 m1 d1, .slice B1' m1' d1'] 65)) (w.heap.size + 1) wa.heap.size t1 B1 m1 d1 B1' m1' d1') :=
    Lib.hid ⟨HR.out.below bb, hf1, HT.out.below bb, below_step BM.out BM.out.size bb, by omega, by omega⟩
  have F1 : Hid (IsF (wa.alloc (.cells #[.bool t1, .slice B1 m1 d1, .slice B1' m1' d1'] 65)) (.agg #[.bool t1, .slice B1 m1 d1, .slice B1' m1' d1']) q) := Lib.hid (by rw [← HQ.out]; exact (f1.out rfl).below (below_alloc _ _))
  obtain ⟨w2, hw2⟩ : ∃ w2, wa.alloc (.cells #[.bool t1, .slice B1 m1 d1, .slice B1' m1' d1'] 65) = w2 := ⟨_, rfl⟩
  obtain ⟨gf, hgf⟩ : ∃ gf, wa.heap.size = gf := ⟨_, rfl⟩
  clear x1 x2 x3 ba bb f1 hf1 szw HR BM HX H1 HT
  go_upto_region 2 with (fail)
  rw [hw2] at TA F1
  try rw [hw2]
  rw [hgf] at TA
  try rw [hgf]
  clear hw2 hgf
  obtain ⟨y1, y2, y3, _⟩ := TA.out.box.cells
  obtain ⟨z1, z2, z3, hy1, hy2, hy3, f1, f2, f3⟩ := TA.out.res.cells
  obtain ⟨q0, q1, q2, hs, hb⟩ := OutIs.stored (o := .err 2) (k := 2) (s := false) (A1 := none) (A2 := none) (n1 := 0) (c1 := 0) (n2 := 0) (c2 := 0) ⟨rfl, rfl, by omega, by omega⟩ TA.out.res TA.out.bel TA.out.n3
  have Q := Lib.hid (And.intro q0 (And.intro q1 q2))
  have HS := Lib.hid hs
  have HBB := Lib.hid hb
  clear q0 q1 q2 hs hb
  go_wp2_with fail
  obtain ⟨q0, q1, q2⟩ := Q.out
  refine bodyPost_ret (v := .tuple #[noRat, .bool false, .int .i64 2]) (by simp [results, Tryd.results30, go_sem, q0, q1, q2, noRat]) rfl ?_
  rw [← HO.out]
  exact ⟨_, _, _, _, _, _, _, _, rfl, HS.out, HBB.out⟩
set_option maxHeartbeats 2000000 in
set_option maxRecDepth 100000 in
theorem nRoot_even (s1 : Bool) (N1' D1' : Nat) (k : Nat) (h2 : 2 ≤ k) (h8 : k ≤ 8) (hs : ng (ratOf s1 N1' D1') = true) (he : k % 2 = 0) (w : World) (v1 : Value) (h1 : RawV w v1 s1 N1' D1') (hT : Tab w) (q : Rat) (hq : ratOf s1 N1' D1' = q) (hL : largeB s1 N1' D1' = false) :
    Calls Tryd.prog 30 #[v1, .int .i64 (k : Int)] w (Out3 w (Out.ok 0) false) := by
  have H1 := Lib.hid h1
  have HT := Lib.hid hT
  obtain ⟨A1, n1, c1, A1', n1', c1', rfl⟩ := h1.shape
  clear h1 hT
  obtain ⟨M, hM, k1, k3, bM⟩ := start1 w (.bool s1) (.slice A1 n1 c1) (.slice A1' n1' c1') (.bool false) (.slice none 0 0) (.slice none 0 0) 24 24
  have HX := Lib.hid k1
  have HR := Lib.hid (show Res M (w.heap.size + 1) 24 from ⟨_, _, _, NI.bool _, NI.slice _ _ _, NI.slice _ _ _, k3⟩)
  have BM := Lib.hid bM
  replace H1 := Lib.hid (H1.out.below bM)
  replace HT := Lib.hid (HT.out.below bM)
  have HQ := Lib.hid hq
  have HL := Lib.hid hL
  have hp1 : decide ((k : Int) < 2) = false := decide_eq_false (by omega)
  have hp1' : decide (k < 2) = false := decide_eq_false (by omega)
  have hp2 : decide (8 < (k : Int)) = false := decide_eq_false (by omega)
  have hp2' : decide (8 < k) = false := decide_eq_false (by omega)
  have hm := tmod_two k
  have hm2 : IntKind.i64.wrap ((k % 2 : Nat) : Int) = ((k % 2 : Nat) : Int) := wraps_i64 _ (by omega) (by omega)
  have HK2 := Lib.hid h2
  have HK8 := Lib.hid h8
  rw [hq] at hs
  have HNG := Lib.hid hs
  clear hs
  rw [he] at hm hm2
  clear he
  obtain ⟨o, ho⟩ : ∃ o, Out.ok 0 = o := ⟨_, rfl⟩
  have HO := Lib.hid ho
  rw [ho]
  clear hq hL k1 k3 bM ho
  go_enter Tryd.func30, Tryd.ntmps30
  go_upto_region 1 with (fail)
  rw [← hM]
  clear hM
  obtain ⟨x1, x2, x3, _, _, _⟩ := HX.out.cells
  go_wp2_with fail
  refine (readV _ s1 N1' D1' _ H1.out HT.out).mono ?_
  rw [HL.out, Bool.not_false]
  rintro e wa ⟨t1, B1, m1, d1, B1', m1', d1', rfl, f1, ba⟩
  have bb := below_step ba ba.size (below_alloc wa (.cells #[.bool t1, .slice B1 m1 d1, .slice B1' m1' d1'] 65))
  have hf1 := Box.new wa (.bool t1) (.slice B1 m1 d1) (.slice B1' m1' d1') 65
  have szw : w.heap.size + 1 < wa.heap.size := Nat.lt_of_lt_of_le (by obtain ⟨_, _, _, _, _, _, hh⟩ := HR.out; exact hh.lt) ba.size
  have TA : Hid (N1 w (wa.alloc (.cells #[.bool t1, .slice B1 m1 d1, .slice B1' m1' d1'] 65)) (w.heap.size + 1) wa.heap.size t1 B1 m1 d1 B1' m1' d1') :=
    Lib.hid ⟨HR.out.below bb, hf1, HT.out.below bb, below_step BM.out BM.out.size bb, by omega, by omega⟩
  have F1 : Hid (IsF (wa.alloc (.cells #[.bool t1, .slice B1 m1 d1, .slice B1' m1' d1'] 65)) (.agg #[.bool t1, .slice B1 m1 d1, .slice B1' m1' d1']) q) := Lib.hid (by rw [← HQ.out]; exact (f1.out rfl).below (below_alloc _ _))
  obtain ⟨w2, hw2⟩ : ∃ w2, wa.alloc (.cells #[.bool t1, .slice B1 m1 d1, .slice B1' m1' d1'] 65) = w2 := ⟨_, rfl⟩
  obtain ⟨gf, hgf⟩ : ∃ gf, wa.heap.size = gf := ⟨_, rfl⟩
  clear x1 x2 x3 ba bb f1 hf1 szw HR BM HX H1 HT
  go_upto_region 2 with (fail)
  rw [hw2] at TA F1
  try rw [hw2]
  rw [hgf] at TA
  try rw [hgf]
  clear hw2 hgf
  obtain ⟨y1, y2, y3, _⟩ := TA.out.box.cells
  obtain ⟨ht, a1, a2⟩ := F1.out.at_
  obtain rfl : t1 = true := ht.trans HNG.out
  have NA := Lib.hid a1
  have NB := Lib.hid a2
  clear ht a1 a2
  obtain ⟨z1, z2, z3, hy1, hy2, hy3, f1, f2, f3⟩ := TA.out.res.cells
  obtain ⟨q0, q1, q2, hs, hb⟩ := OutIs.stored (o := .ok 0) (k := 0) (s := false) (A1 := none) (A2 := none) (n1 := 0) (c1 := 0) (n2 := 0) (c2 := 0) (OutIs.zero _) TA.out.res TA.out.bel TA.out.n3
  have Q := Lib.hid (And.intro q0 (And.intro q1 q2))
  have HS := Lib.hid hs
  have HBB := Lib.hid hb
  clear q0 q1 q2 hs hb
  go_wp2_with fail
  obtain ⟨q0, q1, q2⟩ := Q.out
  refine bodyPost_ret (v := .tuple #[noRat, .bool false, .int .i64 0]) (by simp [results, Tryd.results30, go_sem, q0, q1, q2, noRat]) rfl ?_
  rw [← HO.out]
  exact ⟨_, _, _, _, _, _, _, _, rfl, HS.out, HBB.out⟩
set_option maxHeartbeats 2000000 in
set_option maxRecDepth 100000 in
theorem nRoot_false_true_true (s1 : Bool) (N1' D1' : Nat) (k : Nat) (h2 : 2 ≤ k) (h8 : k ≤ 8) (hs : ng (ratOf s1 N1' D1') = false) (x1 : decide (irt k (ratOf s1 N1' D1').num.natAbs ^ k = (ratOf s1 N1' D1').num.natAbs) = true) (x2 : decide (irt k (ratOf s1 N1' D1').den ^ k = (ratOf s1 N1' D1').den) = true) (r : Rat) (hr : rtQ k (ratOf s1 N1' D1') = r) (w : World) (v1 : Value) (h1 : RawV w v1 s1 N1' D1') (hT : Tab w) (q : Rat) (hq : ratOf s1 N1' D1' = q) (hL : largeB s1 N1' D1' = false) :
    Calls Tryd.prog 30 #[v1, .int .i64 (k : Int)] w (Out3 w (Out.ok r) true) := by
  have H1 := Lib.hid h1
  have HT := Lib.hid hT
  obtain ⟨A1, n1, c1, A1', n1', c1', rfl⟩ := h1.shape
  clear h1 hT
  obtain ⟨M, hM, k1, k3, bM⟩ := start1 w (.bool s1) (.slice A1 n1 c1) (.slice A1' n1' c1') (.bool false) (.slice none 0 0) (.slice none 0 0) 24 24
  have HX := Lib.hid k1
  have HR := Lib.hid (show Res M (w.heap.size + 1) 24 from ⟨_, _, _, NI.bool _, NI.slice _ _ _, NI.slice _ _ _, k3⟩)
  have BM := Lib.hid bM
  replace H1 := Lib.hid (H1.out.below bM)
  replace HT := Lib.hid (HT.out.below bM)
  have HQ := Lib.hid hq
  have HL := Lib.hid hL
  have hf := (largeB_false hL).2.2
  rw [hq] at hf
  have HF := Lib.hid hf
  clear hf
  have hp1 : decide ((k : Int) < 2) = false := decide_eq_false (by omega)
  have hp1' : decide (k < 2) = false := decide_eq_false (by omega)
  have hp2 : decide (8 < (k : Int)) = false := decide_eq_false (by omega)
  have hp2' : decide (8 < k) = false := decide_eq_false (by omega)
  have hm := tmod_two k
  have hm2 : IntKind.i64.wrap ((k % 2 : Nat) : Int) = ((k % 2 : Nat) : Int) := wraps_i64 _ (by omega) (by omega)
  have HK2 := Lib.hid h2
  have HK8 := Lib.hid h8
  rw [hq] at hs
  have HNG := Lib.hid hs
  clear hs
  rw [hq] at x1 x2
  have HAE := Lib.hid x1
  have HBE := Lib.hid x2
  clear x1 x2
  rw [hq] at hr
  have HR2 := Lib.hid hr
  clear hr
  obtain ⟨o, ho⟩ : ∃ o, Out.ok r = o := ⟨_, rfl⟩
  have HO := Lib.hid ho
  rw [ho]
  clear hq hL k1 k3 bM ho
  go_enter Tryd.func30, Tryd.ntmps30
  go_upto_region 1 with (fail)
  rw [← hM]
  clear hM
  obtain ⟨x1, x2, x3, _, _, _⟩ := HX.out.cells
  go_wp2_with fail
  refine (readV _ s1 N1' D1' _ H1.out HT.out).mono ?_
  rw [HL.out, Bool.not_false]
  rintro e wa ⟨t1, B1, m1, d1, B1', m1', d1', rfl, f1, ba⟩
  have bb := below_step ba ba.size (below_alloc wa (.cells #[.bool t1, .slice B1 m1 d1, .slice B1' m1' d1'] 65))
  have hf1 := Box.new wa (.bool t1) (.slice B1 m1 d1) (.slice B1' m1' d1') 65
  have szw : w.heap.size + 1 < wa.heap.size := Nat.lt_of_lt_of_le (by obtain ⟨_, _, _, _, _, _, hh⟩ := HR.out; exact hh.lt) ba.size
  have TA : Hid (N1 w (wa.alloc (.cells #[.bool t1, .slice B1 m1 d1, .slice B1' m1' d1'] 65)) (w.heap.size + 1) wa.heap.size t1 B1 m1 d1 B1' m1' d1') :=
    Lib.hid ⟨HR.out.below bb, hf1, HT.out.below bb, below_step BM.out BM.out.size bb, by omega, by omega⟩
  have F1 : Hid (IsF (wa.alloc (.cells #[.bool t1, .slice B1 m1 d1, .slice B1' m1' d1'] 65)) (.agg #[.bool t1, .slice B1 m1 d1, .slice B1' m1' d1']) q) := Lib.hid (by rw [← HQ.out]; exact (f1.out rfl).below (below_alloc _ _))
  obtain ⟨w2, hw2⟩ : ∃ w2, wa.alloc (.cells #[.bool t1, .slice B1 m1 d1, .slice B1' m1' d1'] 65) = w2 := ⟨_, rfl⟩
  obtain ⟨gf, hgf⟩ : ∃ gf, wa.heap.size = gf := ⟨_, rfl⟩
  clear x1 x2 x3 ba bb f1 hf1 szw HR BM HX H1 HT
  go_upto_region 2 with (fail)
  rw [hw2] at TA F1
  try rw [hw2]
  rw [hgf] at TA
  try rw [hgf]
  clear hw2 hgf
  obtain ⟨y1, y2, y3, _⟩ := TA.out.box.cells
  obtain ⟨ht, a1, a2⟩ := F1.out.at_
  obtain rfl : t1 = false := ht.trans HNG.out
  have NA := Lib.hid a1
  have NB := Lib.hid a2
  clear ht a1 a2
  go_wp2_with fail
  refine (aRoot _ k _ _ _ _ NA.out (Nat.le_trans HF.out.1 (by omega)) HK2.out (Nat.le_trans HK8.out (by omega))).mono ?_
  rw [HAE.out]
  rintro e wr ⟨RA, rA, sA, rfl, iA, bb⟩
  replace TA := Lib.hid (TA.out.below bb)
  replace NA := Lib.hid (NA.out.below bb)
  replace NB := Lib.hid (NB.out.below bb)
  clear bb y1 y2 y3
  obtain ⟨y1, y2, y3, _⟩ := TA.out.box.cells
  go_wp2_with fail
  refine (aRoot _ k _ _ _ _ NB.out (Nat.le_trans HF.out.2 (by omega)) HK2.out (Nat.le_trans HK8.out (by omega))).mono ?_
  rw [HBE.out]
  rintro e wr ⟨RB, rB, sB, rfl, iB, bb⟩
  replace TA := Lib.hid (TA.out.below bb)
  replace NA := Lib.hid (NA.out.below bb)
  replace NB := Lib.hid (NB.out.below bb)
  replace iA := Lib.hid (iA.out.below bb)
  clear bb y1 y2 y3
  obtain ⟨y1, y2, y3, _⟩ := TA.out.box.cells
  obtain ⟨g1, g2, g3⟩ := rt_facts (n := k) (q := q) (Nat.lt_of_lt_of_le (by omega) HK2.out) (isRt_iff.2 ⟨of_decide_eq_true HAE.out, of_decide_eq_true HBE.out⟩)
  have gf2 := rt_fit (k := k) (q := q) (Nat.lt_of_lt_of_le (by omega) HK2.out) HF.out (isRt_iff.2 ⟨of_decide_eq_true HAE.out, of_decide_eq_true HBE.out⟩)
  have IR := Lib.hid (IsF.mk_at (t := false) (q := rtQ k q) (by rw [g1, HNG.out]) (by rw [g2]; exact iA.out) (by rw [g3]; exact iB.out))
  rw [HR2.out] at IR gf2
  have FQ := Lib.hid gf2
  clear g1 g2 g3 gf2
  go_wp2_with fail
  refine (giveF _ r _ IR.out).mono ?_
  rintro e wb ⟨s9, A9, n9, c9, A9', n9', c9', k9, rfl, h9, b9⟩
  have e0 : give r = .ok r := by unfold give; rw [if_pos FQ.out]
  rw [e0] at h9
  obtain rfl : k9 = 0 := h9.1
  have bb := below_step b9 b9.size (below_alloc wb (.cells #[.bool s9, .slice A9 n9 c9, .slice A9' n9' c9'] 24))
  have hg := h9.2.1.below (below_alloc wb (.cells #[.bool s9, .slice A9 n9 c9, .slice A9' n9' c9'] 24))
  have HZ := Lib.hid (Box.new wb (.bool s9) (.slice A9 n9 c9) (.slice A9' n9' c9') 24)
  have HG := Lib.hid hg
  replace TA := Lib.hid (TA.out.below bb)
  obtain ⟨w3, hw3⟩ : ∃ v, wb.alloc (.cells #[.bool s9, .slice A9 n9 c9, .slice A9' n9' c9'] 24) = v := ⟨_, rfl⟩
  clear bb b9 h9 hg e0 IR iA iB NA NB y1 y2 y3
  go_upto_region 13 with (fail)
  rw [hw3] at TA HZ HG
  try rw [hw3]
  clear hw3
  obtain ⟨x1, y1, z1, _, _, _⟩ := HZ.out.cells
  obtain ⟨u1, u2, u3, hu1, hu2, hu3, k1, k2, k3⟩ := TA.out.res.cells
  obtain ⟨q0, q1, q2, hs, hb⟩ := OutIs.stored (o := .ok r) ⟨rfl, HG.out, FQ.out⟩ TA.out.res TA.out.bel TA.out.n3
  have Q := Lib.hid (And.intro q0 (And.intro q1 q2))
  have HS := Lib.hid hs
  have HBB := Lib.hid hb
  clear q0 q1 q2 hs hb
  go_wp2_with fail
  obtain ⟨q0, q1, q2⟩ := Q.out
  refine bodyPost_ret (v := .tuple #[.agg #[.bool s9, .slice A9 n9 c9, .slice A9' n9' c9'], .bool true, .int .i64 0]) (by simp [results, Tryd.results30, go_sem, q0, q1, q2]) rfl ?_
  rw [← HO.out]
  exact ⟨_, _, _, _, _, _, _, _, rfl, HS.out, HBB.out⟩
set_option maxHeartbeats 2000000 in
set_option maxRecDepth 100000 in
theorem nRoot_false_true_false (s1 : Bool) (N1' D1' : Nat) (k : Nat) (h2 : 2 ≤ k) (h8 : k ≤ 8) (hs : ng (ratOf s1 N1' D1') = false) (x1 : decide (irt k (ratOf s1 N1' D1').num.natAbs ^ k = (ratOf s1 N1' D1').num.natAbs) = true) (x2 : decide (irt k (ratOf s1 N1' D1').den ^ k = (ratOf s1 N1' D1').den) = false) (w : World) (v1 : Value) (h1 : RawV w v1 s1 N1' D1') (hT : Tab w) (q : Rat) (hq : ratOf s1 N1' D1' = q) (hL : largeB s1 N1' D1' = false) :
    Calls Tryd.prog 30 #[v1, .int .i64 (k : Int)] w (Out3 w (Out.ok 0) false) := by
  have H1 := Lib.hid h1
  have HT := Lib.hid hT
  obtain ⟨A1, n1, c1, A1', n1', c1', rfl⟩ := h1.shape
  clear h1 hT
  obtain ⟨M, hM, k1, k3, bM⟩ := start1 w (.bool s1) (.slice A1 n1 c1) (.slice A1' n1' c1') (.bool false) (.slice none 0 0) (.slice none 0 0) 24 24
  have HX := Lib.hid k1
  have HR := Lib.hid (show Res M (w.heap.size + 1) 24 from ⟨_, _, _, NI.bool _, NI.slice _ _ _, NI.slice _ _ _, k3⟩)
  have BM := Lib.hid bM
  replace H1 := Lib.hid (H1.out.below bM)
  replace HT := Lib.hid (HT.out.below bM)
  have HQ := Lib.hid hq
  have HL := Lib.hid hL
  have hf := (largeB_false hL).2.2
  rw [hq] at hf
  have HF := Lib.hid hf
  clear hf
  have hp1 : decide ((k : Int) < 2) = false := decide_eq_false (by omega)
  have hp1' : decide (k < 2) = false := decide_eq_false (by omega)
  have hp2 : decide (8 < (k : Int)) = false := decide_eq_false (by omega)
  have hp2' : decide (8 < k) = false := decide_eq_false (by omega)
  have hm := tmod_two k
  have hm2 : IntKind.i64.wrap ((k % 2 : Nat) : Int) = ((k % 2 : Nat) : Int) := wraps_i64 _ (by omega) (by omega)
  have HK2 := Lib.hid h2
  have HK8 := Lib.hid h8
  rw [hq] at hs
  have HNG := Lib.hid hs
  clear hs
  rw [hq] at x1 x2
  have HAE := Lib.hid x1
  have HBE := Lib.hid x2
  clear x1 x2
  obtain ⟨o, ho⟩ : ∃ o, Out.ok 0 = o := ⟨_, rfl⟩
  have HO := Lib.hid ho
  rw [ho]
  clear hq hL k1 k3 bM ho
  go_enter Tryd.func30, Tryd.ntmps30
  go_upto_region 1 with (fail)
  rw [← hM]
  clear hM
  obtain ⟨x1, x2, x3, _, _, _⟩ := HX.out.cells
  go_wp2_with fail
  refine (readV _ s1 N1' D1' _ H1.out HT.out).mono ?_
  rw [HL.out, Bool.not_false]
  rintro e wa ⟨t1, B1, m1, d1, B1', m1', d1', rfl, f1, ba⟩
  have bb := below_step ba ba.size (below_alloc wa (.cells #[.bool t1, .slice B1 m1 d1, .slice B1' m1' d1'] 65))
  have hf1 := Box.new wa (.bool t1) (.slice B1 m1 d1) (.slice B1' m1' d1') 65
  have szw : w.heap.size + 1 < wa.heap.size := Nat.lt_of_lt_of_le (by obtain ⟨_, _, _, _, _, _, hh⟩ := HR.out; exact hh.lt) ba.size
  have TA : Hid (N1 w (wa.alloc (.cells #[.bool t1, .slice B1 m1 d1, .slice B1' m1' d1'] 65)) (w.heap.size + 1) wa.heap.size t1 B1 m1 d1 B1' m1' d1') :=
    Lib.hid ⟨HR.out.below bb, hf1, HT.out.below bb, below_step BM.out BM.out.size bb, by omega, by omega⟩
  have F1 : Hid (IsF (wa.alloc (.cells #[.bool t1, .slice B1 m1 d1, .slice B1' m1' d1'] 65)) (.agg #[.bool t1, .slice B1 m1 d1, .slice B1' m1' d1']) q) := Lib.hid (by rw [← HQ.out]; exact (f1.out rfl).below (below_alloc _ _))
  obtain ⟨w2, hw2⟩ : ∃ w2, wa.alloc (.cells #[.bool t1, .slice B1 m1 d1, .slice B1' m1' d1'] 65) = w2 := ⟨_, rfl⟩
  obtain ⟨gf, hgf⟩ : ∃ gf, wa.heap.size = gf := ⟨_, rfl⟩
  clear x1 x2 x3 ba bb f1 hf1 szw HR BM HX H1 HT
  go_upto_region 2 with (fail)
  rw [hw2] at TA F1
  try rw [hw2]
  rw [hgf] at TA
  try rw [hgf]
  clear hw2 hgf
  obtain ⟨y1, y2, y3, _⟩ := TA.out.box.cells
  obtain ⟨ht, a1, a2⟩ := F1.out.at_
  obtain rfl : t1 = false := ht.trans HNG.out
  have NA := Lib.hid a1
  have NB := Lib.hid a2
  clear ht a1 a2
  go_wp2_with fail
  refine (aRoot _ k _ _ _ _ NA.out (Nat.le_trans HF.out.1 (by omega)) HK2.out (Nat.le_trans HK8.out (by omega))).mono ?_
  rw [HAE.out]
  rintro e wr ⟨RA, rA, sA, rfl, iA, bb⟩
  replace TA := Lib.hid (TA.out.below bb)
  replace NA := Lib.hid (NA.out.below bb)
  replace NB := Lib.hid (NB.out.below bb)
  clear bb y1 y2 y3
  obtain ⟨y1, y2, y3, _⟩ := TA.out.box.cells
  go_wp2_with fail
  refine (aRoot _ k _ _ _ _ NB.out (Nat.le_trans HF.out.2 (by omega)) HK2.out (Nat.le_trans HK8.out (by omega))).mono ?_
  rw [HBE.out]
  rintro e wr ⟨RB, rB, sB, rfl, iB, bb⟩
  replace TA := Lib.hid (TA.out.below bb)
  replace NA := Lib.hid (NA.out.below bb)
  replace NB := Lib.hid (NB.out.below bb)
  replace iA := Lib.hid (iA.out.below bb)
  clear bb y1 y2 y3
  obtain ⟨y1, y2, y3, _⟩ := TA.out.box.cells
  obtain ⟨z1, z2, z3, hy1, hy2, hy3, f1, f2, f3⟩ := TA.out.res.cells
  obtain ⟨q0, q1, q2, hs, hb⟩ := OutIs.stored (o := .ok 0) (k := 0) (s := false) (A1 := none) (A2 := none) (n1 := 0) (c1 := 0) (n2 := 0) (c2 := 0) (OutIs.zero _) TA.out.res TA.out.bel TA.out.n3
  have Q := Lib.hid (And.intro q0 (And.intro q1 q2))
  have HS := Lib.hid hs
  have HBB := Lib.hid hb
  clear q0 q1 q2 hs hb
  go_wp2_with fail
  obtain ⟨q0, q1, q2⟩ := Q.out
  refine bodyPost_ret (v := .tuple #[noRat, .bool false, .int .i64 0]) (by simp [results, Tryd.results30, go_sem, q0, q1, q2, noRat]) rfl ?_
  rw [← HO.out]
  exact ⟨_, _, _, _, _, _, _, _, rfl, HS.out, HBB.out⟩
set_option maxHeartbeats 2000000 in
set_option maxRecDepth 100000 in
theorem nRoot_false_false_true (s1 : Bool) (N1' D1' : Nat) (k : Nat) (h2 : 2 ≤ k) (h8 : k ≤ 8) (hs : ng (ratOf s1 N1' D1') = false) (x1 : decide (irt k (ratOf s1 N1' D1').num.natAbs ^ k = (ratOf s1 N1' D1').num.natAbs) = false) (x2 : decide (irt k (ratOf s1 N1' D1').den ^ k = (ratOf s1 N1' D1').den) = true) (w : World) (v1 : Value) (h1 : RawV w v1 s1 N1' D1') (hT : Tab w) (q : Rat) (hq : ratOf s1 N1' D1' = q) (hL : largeB s1 N1' D1' = false) :
    Calls Tryd.prog 30 #[v1, .int .i64 (k : Int)] w (Out3 w (Out.ok 0) false) := by
  have H1 := Lib.hid h1
  have HT := Lib.hid hT
  obtain ⟨A1, n1, c1, A1', n1', c1', rfl⟩ := h1.shape
  clear h1 hT
  obtain ⟨M, hM, k1, k3, bM⟩ := start1 w (.bool s1) (.slice A1 n1 c1) (.slice A1' n1' c1') (.bool false) (.slice none 0 0) (.slice none 0 0) 24 24
  have HX := Lib.hid k1
  have HR := Lib.hid (show Res M (w.heap.size + 1) 24 from ⟨_, _, _, NI.bool _, NI.slice _ _ _, NI.slice _ _ _, k3⟩)
  have BM := Lib.hid bM
  replace H1 := Lib.hid (H1.out.below bM)
  replace HT := Lib.hid (HT.out.below bM)
  have HQ := Lib.hid hq
  have HL := Lib.hid hL
  have hf := (largeB_false hL).2.2
  rw [hq] at hf
  have HF := Lib.hid hf
  clear hf
  have hp1 : decide ((k : Int) < 2) = false := decide_eq_false (by omega)
  have hp1' : decide (k < 2) = false := decide_eq_false (by omega)
  have hp2 : decide (8 < (k : Int)) = false := decide_eq_false (by omega)
  have hp2' : decide (8 < k) = false := decide_eq_false (by omega)
  have hm := tmod_two k
  have hm2 : IntKind.i64.wrap ((k % 2 : Nat) : Int) = ((k % 2 : Nat) : Int) := wraps_i64 _ (by omega) (by omega)
  have HK2 := Lib.hid h2
  have HK8 := Lib.hid h8
  rw [hq] at hs
  have HNG := Lib.hid hs
  clear hs
  rw [hq] at x1 x2
  have HAE := Lib.hid x1
  have HBE := Lib.hid x2
  clear x1 x2
  obtain ⟨o, ho⟩ : ∃ o, Out.ok 0 = o := ⟨_, rfl⟩
  have HO := Lib.hid ho
  rw [ho]
  clear hq hL k1 k3 bM ho
  go_enter Tryd.func30, Tryd.ntmps30
  go_upto_region 1 with (fail)
  rw [← hM]
  clear hM
  obtain ⟨x1, x2, x3, _, _, _⟩ := HX.out.cells
  go_wp2_with fail
  refine (readV _ s1 N1' D1' _ H1.out HT.out).mono ?_
  rw [HL.out, Bool.not_false]
  rintro e wa ⟨t1, B1, m1, d1, B1', m1', d1', rfl, f1, ba⟩
  have bb := below_step ba ba.size (below_alloc wa (.cells #[.bool t1, .slice B1 m1 d1, .slice B1' m1' d1'] 65))
  have hf1 := Box.new wa (.bool t1) (.slice B1 m1 d1) (.slice B1' m1' d1') 65
  have szw : w.heap.size + 1 < wa.heap.size := Nat.lt_of_lt_of_le (by obtain ⟨_, _, _, _, _, _, hh⟩ := HR.out; exact hh.lt) ba.size
  have TA : Hid (N1 w (wa.alloc (.cells #[.bool t1, .slice B1 m1 d1, .slice B1' m1' d1'] 65)) (w.heap.size + 1) wa.heap.size t1 B1 m1 d1 B1' m1' d1') :=
    Lib.hid ⟨HR.out.below bb, hf1, HT.out.below bb, below_step BM.out BM.out.size bb, by omega, by omega⟩
  have F1 : Hid (IsF (wa.alloc (.cells #[.bool t1, .slice B1 m1 d1, .slice B1' m1' d1'] 65)) (.agg #[.bool t1, .slice B1 m1 d1, .slice B1' m1' d1']) q) := Lib.hid (by rw [← HQ.out]; exact (f1.out rfl).below (below_alloc _ _))
  obtain ⟨w2, hw2⟩ : ∃ w2, wa.alloc (.cells #[.bool t1, .slice B1 m1 d1, .slice B1' m1' d1'] 65) = w2 := ⟨_, rfl⟩
  obtain ⟨gf, hgf⟩ : ∃ gf, wa.heap.size = gf := ⟨_, rfl⟩
  clear x1 x2 x3 ba bb f1 hf1 szw HR BM HX H1 HT
  go_upto_region 2 with (fail)
  rw [hw2] at TA F1
  try rw [hw2]
  rw [hgf] at TA
  try rw [hgf]
  clear hw2 hgf
  obtain ⟨y1, y2, y3, _⟩ := TA.out.box.cells
  obtain ⟨ht, a1, a2⟩ := F1.out.at_
  obtain rfl : t1 = false := ht.trans HNG.out
  have NA := Lib.hid a1
  have NB := Lib.hid a2
  clear ht a1 a2
  go_wp2_with fail
  refine (aRoot _ k _ _ _ _ NA.out (Nat.le_trans HF.out.1 (by omega)) HK2.out (Nat.le_trans HK8.out (by omega))).mono ?_
  rw [HAE.out]
  rintro e wr ⟨RA, rA, sA, rfl, iA, bb⟩
  replace TA := Lib.hid (TA.out.below bb)
  replace NA := Lib.hid (NA.out.below bb)
  replace NB := Lib.hid (NB.out.below bb)
  clear bb y1 y2 y3
  obtain ⟨y1, y2, y3, _⟩ := TA.out.box.cells
  go_wp2_with fail
  refine (aRoot _ k _ _ _ _ NB.out (Nat.le_trans HF.out.2 (by omega)) HK2.out (Nat.le_trans HK8.out (by omega))).mono ?_
  rw [HBE.out]
  rintro e wr ⟨RB, rB, sB, rfl, iB, bb⟩
  replace TA := Lib.hid (TA.out.below bb)
  replace NA := Lib.hid (NA.out.below bb)
  replace NB := Lib.hid (NB.out.below bb)
  replace iA := Lib.hid (iA.out.below bb)
  clear bb y1 y2 y3
  obtain ⟨y1, y2, y3, _⟩ := TA.out.box.cells
  obtain ⟨z1, z2, z3, hy1, hy2, hy3, f1, f2, f3⟩ := TA.out.res.cells
  obtain ⟨q0, q1, q2, hs, hb⟩ := OutIs.stored (o := .ok 0) (k := 0) (s := false) (A1 := none) (A2 := none) (n1 := 0) (c1 := 0) (n2 := 0) (c2 := 0) (OutIs.zero _) TA.out.res TA.out.bel TA.out.n3
  have Q := Lib.hid (And.intro q0 (And.intro q1 q2))
  have HS := Lib.hid hs
  have HBB := Lib.hid hb
  clear q0 q1 q2 hs hb
  go_wp2_with fail
  obtain ⟨q0, q1, q2⟩ := Q.out
  refine bodyPost_ret (v := .tuple #[noRat, .bool false, .int .i64 0]) (by simp [results, Tryd.results30, go_sem, q0, q1, q2, noRat]) rfl ?_
  rw [← HO.out]
  exact ⟨_, _, _, _, _, _, _, _, rfl, HS.out, HBB.out⟩
set_option maxHeartbeats 2000000 in
set_option maxRecDepth 100000 in
theorem nRoot_false_false_false (s1 : Bool) (N1' D1' : Nat) (k : Nat) (h2 : 2 ≤ k) (h8 : k ≤ 8) (hs : ng (ratOf s1 N1' D1') = false) (x1 : decide (irt k (ratOf s1 N1' D1').num.natAbs ^ k = (ratOf s1 N1' D1').num.natAbs) = false) (x2 : decide (irt k (ratOf s1 N1' D1').den ^ k = (ratOf s1 N1' D1').den) = false) (w : World) (v1 : Value) (h1 : RawV w v1 s1 N1' D1') (hT : Tab w) (q : Rat) (hq : ratOf s1 N1' D1' = q) (hL : largeB s1 N1' D1' = false) :
    Calls Tryd.prog 30 #[v1, .int .i64 (k : Int)] w (Out3 w (Out.ok 0) false) := by
  have H1 := Lib.hid h1
  have HT := Lib.hid hT
  obtain ⟨A1, n1, c1, A1', n1', c1', rfl⟩ := h1.shape
  clear h1 hT
  obtain ⟨M, hM, k1, k3, bM⟩ := start1 w (.bool s1) (.slice A1 n1 c1) (.slice A1' n1' c1') (.bool false) (.slice none 0 0) (.slice none 0 0) 24 24
  have HX := Lib.hid k1
  have HR := Lib.hid (show Res M (w.heap.size + 1) 24 from ⟨_, _, _, NI.bool _, NI.slice _ _ _, NI.slice _ _ _, k3⟩)
  have BM := Lib.hid bM
  replace H1 := Lib.hid (H1.out.below bM)
  replace HT := Lib.hid (HT.out.below bM)
  have HQ := Lib.hid hq
  have HL := Lib.hid hL
  have hf := (largeB_false hL).2.2
  rw [hq] at hf
  have HF := Lib.hid hf
  clear hf
  have hp1 : decide ((k : Int) < 2) = false := decide_eq_false (by omega)
  have hp1' : decide (k < 2) = false := decide_eq_false (by omega)
  have hp2 : decide (8 < (k : Int)) = false := decide_eq_false (by omega)
  have hp2' : decide (8 < k) = false := decide_eq_false (by omega)
  have hm := tmod_two k
  have hm2 : IntKind.i64.wrap ((k % 2 : Nat) : Int) = ((k % 2 : Nat) : Int) := wraps_i64 _ (by omega) (by omega)
  have HK2 := Lib.hid h2
  have HK8 := Lib.hid h8
  rw [hq] at hs
  have HNG := Lib.hid hs
  clear hs
  rw [hq] at x1 x2
  have HAE := Lib.hid x1
  have HBE := Lib.hid x2
  clear x1 x2
  obtain ⟨o, ho⟩ : ∃ o, Out.ok 0 = o := ⟨_, rfl⟩
  have HO := Lib.hid ho
  rw [ho]
  clear hq hL k1 k3 bM ho
  go_enter Tryd.func30, Tryd.ntmps30
  go_upto_region 1 with (fail)
  rw [← hM]
  clear hM
  obtain ⟨x1, x2, x3, _, _, _⟩ := HX.out.cells
  go_wp2_with fail
  refine (readV _ s1 N1' D1' _ H1.out HT.out).mono ?_
  rw [HL.out, Bool.not_false]
  rintro e wa ⟨t1, B1, m1, d1, B1', m1', d1', rfl, f1, ba⟩
  have bb := below_step ba ba.size (below_alloc wa (.cells #[.bool t1, .slice B1 m1 d1, .slice B1' m1' d1'] 65))
  have hf1 := Box.new wa (.bool t1) (.slice B1 m1 d1) (.slice B1' m1' d1') 65
  have szw : w.heap.size + 1 < wa.heap.size := Nat.lt_of_lt_of_le (by obtain ⟨_, _, _, _, _, _, hh⟩ := HR.out; exact hh.lt) ba.size
  have TA : Hid (N1 w (wa.alloc (.cells #[.bool t1, .slice B1 m1 d1, .slice B1' m1' d1'] 65)) (w.heap.size + 1) wa.heap.size t1 B1 m1 d1 B1' m1' d1') :=
    Lib.hid ⟨HR.out.below bb, hf1, HT.out.below bb, below_step BM.out BM.out.size bb, by omega, by omega⟩
  have F1 : Hid (IsF (wa.alloc (.cells #[.bool t1, .slice B1 m1 d1, .slice B1' m1' d1'] 65)) (.agg #[.bool t1, .slice B1 m1 d1, .slice B1' m1' d1']) q) := Lib.hid (by rw [← HQ.out]; exact (f1.out rfl).below (below_alloc _ _))
  obtain ⟨w2, hw2⟩ : ∃ w2, wa.alloc (.cells #[.bool t1, .slice B1 m1 d1, .slice B1' m1' d1'] 65) = w2 := ⟨_, rfl⟩
  obtain ⟨gf, hgf⟩ : ∃ gf, wa.heap.size = gf := ⟨_, rfl⟩
  clear x1 x2 x3 ba bb f1 hf1 szw HR BM HX H1 HT
  go_upto_region 2 with (fail)
  rw [hw2] at TA F1
  try rw [hw2]
  rw [hgf] at TA
  try rw [hgf]
  clear hw2 hgf
  obtain ⟨y1, y2, y3, _⟩ := TA.out.box.cells
  obtain ⟨ht, a1, a2⟩ := F1.out.at_
  obtain rfl : t1 = false := ht.trans HNG.out
  have NA := Lib.hid a1
  have NB := Lib.hid a2
  clear ht a1 a2
  go_wp2_with fail
  refine (aRoot _ k _ _ _ _ NA.out (Nat.le_trans HF.out.1 (by omega)) HK2.out (Nat.le_trans HK8.out (by omega))).mono ?_
  rw [HAE.out]
  rintro e wr ⟨RA, rA, sA, rfl, iA, bb⟩
  replace TA := Lib.hid (TA.out.below bb)
  replace NA := Lib.hid (NA.out.below bb)
  replace NB := Lib.hid (NB.out.below bb)
  clear bb y1 y2 y3
  obtain ⟨y1, y2, y3, _⟩ := TA.out.box.cells
  go_wp2_with fail
  refine (aRoot _ k _ _ _ _ NB.out (Nat.le_trans HF.out.2 (by omega)) HK2.out (Nat.le_trans HK8.out (by omega))).mono ?_
  rw [HBE.out]
  rintro e wr ⟨RB, rB, sB, rfl, iB, bb⟩
  replace TA := Lib.hid (TA.out.below bb)
  replace NA := Lib.hid (NA.out.below bb)
  replace NB := Lib.hid (NB.out.below bb)
  replace iA := Lib.hid (iA.out.below bb)
  clear bb y1 y2 y3
  obtain ⟨y1, y2, y3, _⟩ := TA.out.box.cells
  obtain ⟨z1, z2, z3, hy1, hy2, hy3, f1, f2, f3⟩ := TA.out.res.cells
  obtain ⟨q0, q1, q2, hs, hb⟩ := OutIs.stored (o := .ok 0) (k := 0) (s := false) (A1 := none) (A2 := none) (n1 := 0) (c1 := 0) (n2 := 0) (c2 := 0) (OutIs.zero _) TA.out.res TA.out.bel TA.out.n3
  have Q := Lib.hid (And.intro q0 (And.intro q1 q2))
  have HS := Lib.hid hs
  have HBB := Lib.hid hb
  clear q0 q1 q2 hs hb
  go_wp2_with fail
  obtain ⟨q0, q1, q2⟩ := Q.out
  refine bodyPost_ret (v := .tuple #[noRat, .bool false, .int .i64 0]) (by simp [results, Tryd.results30, go_sem, q0, q1, q2, noRat]) rfl ?_
  rw [← HO.out]
  exact ⟨_, _, _, _, _, _, _, _, rfl, HS.out, HBB.out⟩
set_option maxHeartbeats 2000000 in
set_option maxRecDepth 100000 in
theorem nRoot_true_true_true (s1 : Bool) (N1' D1' : Nat) (k : Nat) (h2 : 2 ≤ k) (h8 : k ≤ 8) (hs : ng (ratOf s1 N1' D1') = true) (ho : k % 2 = 1) (x1 : decide (irt k (ratOf s1 N1' D1').num.natAbs ^ k = (ratOf s1 N1' D1').num.natAbs) = true) (x2 : decide (irt k (ratOf s1 N1' D1').den ^ k = (ratOf s1 N1' D1').den) = true) (r : Rat) (hr : rtQ k (ratOf s1 N1' D1') = r) (w : World) (v1 : Value) (h1 : RawV w v1 s1 N1' D1') (hT : Tab w) (q : Rat) (hq : ratOf s1 N1' D1' = q) (hL : largeB s1 N1' D1' = false) :
    Calls Tryd.prog 30 #[v1, .int .i64 (k : Int)] w (Out3 w (Out.ok r) true) := by
  have H1 := Lib.hid h1
  have HT := Lib.hid hT
  obtain ⟨A1, n1, c1, A1', n1', c1', rfl⟩ := h1.shape
  clear h1 hT
  obtain ⟨M, hM, k1, k3, bM⟩ := start1 w (.bool s1) (.slice A1 n1 c1) (.slice A1' n1' c1') (.bool false) (.slice none 0 0) (.slice none 0 0) 24 24
  have HX := Lib.hid k1
  have HR := Lib.hid (show Res M (w.heap.size + 1) 24 from ⟨_, _, _, NI.bool _, NI.slice _ _ _, NI.slice _ _ _, k3⟩)
  have BM := Lib.hid bM
  replace H1 := Lib.hid (H1.out.below bM)
  replace HT := Lib.hid (HT.out.below bM)
  have HQ := Lib.hid hq
  have HL := Lib.hid hL
  have hf := (largeB_false hL).2.2
  rw [hq] at hf
  have HF := Lib.hid hf
  clear hf
  have hp1 : decide ((k : Int) < 2) = false := decide_eq_false (by omega)
  have hp1' : decide (k < 2) = false := decide_eq_false (by omega)
  have hp2 : decide (8 < (k : Int)) = false := decide_eq_false (by omega)
  have hp2' : decide (8 < k) = false := decide_eq_false (by omega)
  have hm := tmod_two k
  have hm2 : IntKind.i64.wrap ((k % 2 : Nat) : Int) = ((k % 2 : Nat) : Int) := wraps_i64 _ (by omega) (by omega)
  have HK2 := Lib.hid h2
  have HK8 := Lib.hid h8
  rw [hq] at hs
  have HNG := Lib.hid hs
  clear hs
  rw [ho] at hm hm2
  clear ho
  rw [hq] at x1 x2
  have HAE := Lib.hid x1
  have HBE := Lib.hid x2
  clear x1 x2
  rw [hq] at hr
  have HR2 := Lib.hid hr
  clear hr
  obtain ⟨o, ho⟩ : ∃ o, Out.ok r = o := ⟨_, rfl⟩
  have HO := Lib.hid ho
  rw [ho]
  clear hq hL k1 k3 bM ho
  go_enter Tryd.func30, Tryd.ntmps30
  go_upto_region 1 with (fail)
  rw [← hM]
  clear hM
  obtain ⟨x1, x2, x3, _, _, _⟩ := HX.out.cells
  go_wp2_with fail
  refine (readV _ s1 N1' D1' _ H1.out HT.out).mono ?_
  rw [HL.out, Bool.not_false]
  rintro e wa ⟨t1, B1, m1, d1, B1', m1', d1', rfl, f1, ba⟩
  have bb := below_step ba ba.size (below_alloc wa (.cells #[.bool t1, .slice B1 m1 d1, .slice B1' m1' d1'] 65))
  have hf1 := Box.new wa (.bool t1) (.slice B1 m1 d1) (.slice B1' m1' d1') 65
  have szw : w.heap.size + 1 < wa.heap.size := Nat.lt_of_lt_of_le (by obtain ⟨_, _, _, _, _, _, hh⟩ := HR.out; exact hh.lt) ba.size
  have TA : Hid (N1 w (wa.alloc (.cells #[.bool t1, .slice B1 m1 d1, .slice B1' m1' d1'] 65)) (w.heap.size + 1) wa.heap.size t1 B1 m1 d1 B1' m1' d1') :=
    Lib.hid ⟨HR.out.below bb, hf1, HT.out.below bb, below_step BM.out BM.out.size bb, by omega, by omega⟩
  have F1 : Hid (IsF (wa.alloc (.cells #[.bool t1, .slice B1 m1 d1, .slice B1' m1' d1'] 65)) (.agg #[.bool t1, .slice B1 m1 d1, .slice B1' m1' d1']) q) := Lib.hid (by rw [← HQ.out]; exact (f1.out rfl).below (below_alloc _ _))
  obtain ⟨w2, hw2⟩ : ∃ w2, wa.alloc (.cells #[.bool t1, .slice B1 m1 d1, .slice B1' m1' d1'] 65) = w2 := ⟨_, rfl⟩
  obtain ⟨gf, hgf⟩ : ∃ gf, wa.heap.size = gf := ⟨_, rfl⟩
  clear x1 x2 x3 ba bb f1 hf1 szw HR BM HX H1 HT
  go_upto_region 2 with (fail)
  rw [hw2] at TA F1
  try rw [hw2]
  rw [hgf] at TA
  try rw [hgf]
  clear hw2 hgf
  obtain ⟨y1, y2, y3, _⟩ := TA.out.box.cells
  obtain ⟨ht, a1, a2⟩ := F1.out.at_
  obtain rfl : t1 = true := ht.trans HNG.out
  have NA := Lib.hid a1
  have NB := Lib.hid a2
  clear ht a1 a2
  go_wp2_with fail
  refine (aRoot _ k _ _ _ _ NA.out (Nat.le_trans HF.out.1 (by omega)) HK2.out (Nat.le_trans HK8.out (by omega))).mono ?_
  rw [HAE.out]
  rintro e wr ⟨RA, rA, sA, rfl, iA, bb⟩
  replace TA := Lib.hid (TA.out.below bb)
  replace NA := Lib.hid (NA.out.below bb)
  replace NB := Lib.hid (NB.out.below bb)
  clear bb y1 y2 y3
  obtain ⟨y1, y2, y3, _⟩ := TA.out.box.cells
  go_wp2_with fail
  refine (aRoot _ k _ _ _ _ NB.out (Nat.le_trans HF.out.2 (by omega)) HK2.out (Nat.le_trans HK8.out (by omega))).mono ?_
  rw [HBE.out]
  rintro e wr ⟨RB, rB, sB, rfl, iB, bb⟩
  replace TA := Lib.hid (TA.out.below bb)
  replace NA := Lib.hid (NA.out.below bb)
  replace NB := Lib.hid (NB.out.below bb)
  replace iA := Lib.hid (iA.out.below bb)
  clear bb y1 y2 y3
  obtain ⟨y1, y2, y3, _⟩ := TA.out.box.cells
  obtain ⟨g1, g2, g3⟩ := rt_facts (n := k) (q := q) (Nat.lt_of_lt_of_le (by omega) HK2.out) (isRt_iff.2 ⟨of_decide_eq_true HAE.out, of_decide_eq_true HBE.out⟩)
  have gf2 := rt_fit (k := k) (q := q) (Nat.lt_of_lt_of_le (by omega) HK2.out) HF.out (isRt_iff.2 ⟨of_decide_eq_true HAE.out, of_decide_eq_true HBE.out⟩)
  have IR := Lib.hid (IsF.mk_at (t := true) (q := rtQ k q) (by rw [g1, HNG.out]) (by rw [g2]; exact iA.out) (by rw [g3]; exact iB.out))
  rw [HR2.out] at IR gf2
  have FQ := Lib.hid gf2
  clear g1 g2 g3 gf2
  go_wp2_with fail
  refine (giveF _ r _ IR.out).mono ?_
  rintro e wb ⟨s9, A9, n9, c9, A9', n9', c9', k9, rfl, h9, b9⟩
  have e0 : give r = .ok r := by unfold give; rw [if_pos FQ.out]
  rw [e0] at h9
  obtain rfl : k9 = 0 := h9.1
  have bb := below_step b9 b9.size (below_alloc wb (.cells #[.bool s9, .slice A9 n9 c9, .slice A9' n9' c9'] 24))
  have hg := h9.2.1.below (below_alloc wb (.cells #[.bool s9, .slice A9 n9 c9, .slice A9' n9' c9'] 24))
  have HZ := Lib.hid (Box.new wb (.bool s9) (.slice A9 n9 c9) (.slice A9' n9' c9') 24)
  have HG := Lib.hid hg
  replace TA := Lib.hid (TA.out.below bb)
  obtain ⟨w3, hw3⟩ : ∃ v, wb.alloc (.cells #[.bool s9, .slice A9 n9 c9, .slice A9' n9' c9'] 24) = v := ⟨_, rfl⟩
  clear bb b9 h9 hg e0 IR iA iB NA NB y1 y2 y3
  go_upto_region 13 with (fail)
  rw [hw3] at TA HZ HG
  try rw [hw3]
  clear hw3
  obtain ⟨x1, y1, z1, _, _, _⟩ := HZ.out.cells
  obtain ⟨u1, u2, u3, hu1, hu2, hu3, k1, k2, k3⟩ := TA.out.res.cells
  obtain ⟨q0, q1, q2, hs, hb⟩ := OutIs.stored (o := .ok r) ⟨rfl, HG.out, FQ.out⟩ TA.out.res TA.out.bel TA.out.n3
  have Q := Lib.hid (And.intro q0 (And.intro q1 q2))
  have HS := Lib.hid hs
  have HBB := Lib.hid hb
  clear q0 q1 q2 hs hb
  go_wp2_with fail
  obtain ⟨q0, q1, q2⟩ := Q.out
  refine bodyPost_ret (v := .tuple #[.agg #[.bool s9, .slice A9 n9 c9, .slice A9' n9' c9'], .bool true, .int .i64 0]) (by simp [results, Tryd.results30, go_sem, q0, q1, q2]) rfl ?_
  rw [← HO.out]
  exact ⟨_, _, _, _, _, _, _, _, rfl, HS.out, HBB.out⟩
set_option maxHeartbeats 2000000 in
set_option maxRecDepth 100000 in
theorem nRoot_true_true_false (s1 : Bool) (N1' D1' : Nat) (k : Nat) (h2 : 2 ≤ k) (h8 : k ≤ 8) (hs : ng (ratOf s1 N1' D1') = true) (ho : k % 2 = 1) (x1 : decide (irt k (ratOf s1 N1' D1').num.natAbs ^ k = (ratOf s1 N1' D1').num.natAbs) = true) (x2 : decide (irt k (ratOf s1 N1' D1').den ^ k = (ratOf s1 N1' D1').den) = false) (w : World) (v1 : Value) (h1 : RawV w v1 s1 N1' D1') (hT : Tab w) (q : Rat) (hq : ratOf s1 N1' D1' = q) (hL : largeB s1 N1' D1' = false) :
    Calls Tryd.prog 30 #[v1, .int .i64 (k : Int)] w (Out3 w (Out.ok 0) false) := by
  have H1 := Lib.hid h1
  have HT := Lib.hid hT
  obtain ⟨A1, n1, c1, A1', n1', c1', rfl⟩ := h1.shape
  clear h1 hT
  obtain ⟨M, hM, k1, k3, bM⟩ := start1 w (.bool s1) (.slice A1 n1 c1) (.slice A1' n1' c1') (.bool false) (.slice none 0 0) (.slice none 0 0) 24 24
  have HX := Lib.hid k1
  have HR := Lib.hid (show Res M (w.heap.size + 1) 24 from ⟨_, _, _, NI.bool _, NI.slice _ _ _, NI.slice _ _ _, k3⟩)
  have BM := Lib.hid bM
  replace H1 := Lib.hid (H1.out.below bM)
  replace HT := Lib.hid (HT.out.below bM)
  have HQ := Lib.hid hq
  have HL := Lib.hid hL
  have hf := (largeB_false hL).2.2
  rw [hq] at hf
  have HF := Lib.hid hf
  clear hf
  have hp1 : decide ((k : Int) < 2) = false := decide_eq_false (by omega)
  have hp1' : decide (k < 2) = false := decide_eq_false (by omega)
  have hp2 : decide (8 < (k : Int)) = false := decide_eq_false (by omega)
  have hp2' : decide (8 < k) = false := decide_eq_false (by omega)
  have hm := tmod_two k
  have hm2 : IntKind.i64.wrap ((k % 2 : Nat) : Int) = ((k % 2 : Nat) : Int) := wraps_i64 _ (by omega) (by omega)
  have HK2 := Lib.hid h2
  have HK8 := Lib.hid h8
  rw [hq] at hs
  have HNG := Lib.hid hs
  clear hs
  rw [ho] at hm hm2
  clear ho
  rw [hq] at x1 x2
  have HAE := Lib.hid x1
  have HBE := Lib.hid x2
  clear x1 x2
  obtain ⟨o, ho⟩ : ∃ o, Out.ok 0 = o := ⟨_, rfl⟩
  have HO := Lib.hid ho
  rw [ho]
  clear hq hL k1 k3 bM ho
  go_enter Tryd.func30, Tryd.ntmps30
  go_upto_region 1 with (fail)
  rw [← hM]
  clear hM
  obtain ⟨x1, x2, x3, _, _, _⟩ := HX.out.cells
  go_wp2_with fail
  refine (readV _ s1 N1' D1' _ H1.out HT.out).mono ?_
  rw [HL.out, Bool.not_false]
  rintro e wa ⟨t1, B1, m1, d1, B1', m1', d1', rfl, f1, ba⟩
  have bb := below_step ba ba.size (below_alloc wa (.cells #[.bool t1, .slice B1 m1 d1, .slice B1' m1' d1'] 65))
  have hf1 := Box.new wa (.bool t1) (.slice B1 m1 d1) (.slice B1' m1' d1') 65
  have szw : w.heap.size + 1 < wa.heap.size := Nat.lt_of_lt_of_le (by obtain ⟨_, _, _, _, _, _, hh⟩ := HR.out; exact hh.lt) ba.size
  have TA : Hid (N1 w (wa.alloc (.cells #[.bool t1, .slice B1 m1 d1, .slice B1' m1' d1'] 65)) (w.heap.size + 1) wa.heap.size t1 B1 m1 d1 B1' m1' d1') :=
    Lib.hid ⟨HR.out.below bb, hf1, HT.out.below bb, below_step BM.out BM.out.size bb, by omega, by omega⟩
  have F1 : Hid (IsF (wa.alloc (.cells #[.bool t1, .slice B1 m1 d1, .slice B1' m1' d1'] 65)) (.agg #[.bool t1, .slice B1 m1 d1, .slice B1' m1' d1']) q) := Lib.hid (by rw [← HQ.out]; exact (f1.out rfl).below (below_alloc _ _))
  obtain ⟨w2, hw2⟩ : ∃ w2, wa.alloc (.cells #[.bool t1, .slice B1 m1 d1, .slice B1' m1' d1'] 65) = w2 := ⟨_, rfl⟩
  obtain ⟨gf, hgf⟩ : ∃ gf, wa.heap.size = gf := ⟨_, rfl⟩
  clear x1 x2 x3 ba bb f1 hf1 szw HR BM HX H1 HT
  go_upto_region 2 with (fail)
  rw [hw2] at TA F1
  try rw [hw2]
  rw [hgf] at TA
  try rw [hgf]
  clear hw2 hgf
  obtain ⟨y1, y2, y3, _⟩ := TA.out.box.cells
  obtain ⟨ht, a1, a2⟩ := F1.out.at_
  obtain rfl : t1 = true := ht.trans HNG.out
  have NA := Lib.hid a1
  have NB := Lib.hid a2
  clear ht a1 a2
  go_wp2_with fail
  refine (aRoot _ k _ _ _ _ NA.out (Nat.le_trans HF.out.1 (by omega)) HK2.out (Nat.le_trans HK8.out (by omega))).mono ?_
  rw [HAE.out]
  rintro e wr ⟨RA, rA, sA, rfl, iA, bb⟩
  replace TA := Lib.hid (TA.out.below bb)
  replace NA := Lib.hid (NA.out.below bb)
  replace NB := Lib.hid (NB.out.below bb)
  clear bb y1 y2 y3
  obtain ⟨y1, y2, y3, _⟩ := TA.out.box.cells
  go_wp2_with fail
  refine (aRoot _ k _ _ _ _ NB.out (Nat.le_trans HF.out.2 (by omega)) HK2.out (Nat.le_trans HK8.out (by omega))).mono ?_
  rw [HBE.out]
  rintro e wr ⟨RB, rB, sB, rfl, iB, bb⟩
  replace TA := Lib.hid (TA.out.below bb)
  replace NA := Lib.hid (NA.out.below bb)
  replace NB := Lib.hid (NB.out.below bb)
  replace iA := Lib.hid (iA.out.below bb)
  clear bb y1 y2 y3
  obtain ⟨y1, y2, y3, _⟩ := TA.out.box.cells
  obtain ⟨z1, z2, z3, hy1, hy2, hy3, f1, f2, f3⟩ := TA.out.res.cells
  obtain ⟨q0, q1, q2, hs, hb⟩ := OutIs.stored (o := .ok 0) (k := 0) (s := false) (A1 := none) (A2 := none) (n1 := 0) (c1 := 0) (n2 := 0) (c2 := 0) (OutIs.zero _) TA.out.res TA.out.bel TA.out.n3
  have Q := Lib.hid (And.intro q0 (And.intro q1 q2))
  have HS := Lib.hid hs
  have HBB := Lib.hid hb
  clear q0 q1 q2 hs hb
  go_wp2_with fail
  obtain ⟨q0, q1, q2⟩ := Q.out
  refine bodyPost_ret (v := .tuple #[noRat, .bool false, .int .i64 0]) (by simp [results, Tryd.results30, go_sem, q0, q1, q2, noRat]) rfl ?_
  rw [← HO.out]
  exact ⟨_, _, _, _, _, _, _, _, rfl, HS.out, HBB.out⟩
set_option maxHeartbeats 2000000 in
set_option maxRecDepth 100000 in
theorem nRoot_true_false_true (s1 : Bool) (N1' D1' : Nat) (k : Nat) (h2 : 2 ≤ k) (h8 : k ≤ 8) (hs : ng (ratOf s1 N1' D1') = true) (ho : k % 2 = 1) (x1 : decide (irt k (ratOf s1 N1' D1').num.natAbs ^ k = (ratOf s1 N1' D1').num.natAbs) = false) (x2 : decide (irt k (ratOf s1 N1' D1').den ^ k = (ratOf s1 N1' D1').den) = true) (w : World) (v1 : Value) (h1 : RawV w v1 s1 N1' D1') (hT : Tab w) (q : Rat) (hq : ratOf s1 N1' D1' = q) (hL : largeB s1 N1' D1' = false) :
    Calls Tryd.prog 30 #[v1, .int .i64 (k : Int)] w (Out3 w (Out.ok 0) false) := by
  have H1 := Lib.hid h1
  have HT := Lib.hid hT
  obtain ⟨A1, n1, c1, A1', n1', c1', rfl⟩ := h1.shape
  clear h1 hT
  obtain ⟨M, hM, k1, k3, bM⟩ := start1 w (.bool s1) (.slice A1 n1 c1) (.slice A1' n1' c1') (.bool false) (.slice none 0 0) (.slice none 0 0) 24 24
  have HX := Lib.hid k1
  have HR := Lib.hid (show Res M (w.heap.size + 1) 24 from ⟨_, _, _, NI.bool _, NI.slice _ _ _, NI.slice _ _ _, k3⟩)
  have BM := Lib.hid bM
  replace H1 := Lib.hid (H1.out.below bM)
  replace HT := Lib.hid (HT.out.below bM)
  have HQ := Lib.hid hq
  have HL := Lib.hid hL
  have hf := (largeB_false hL).2.2
  rw [hq] at hf
  have HF := Lib.hid hf
  clear hf
  have hp1 : decide ((k : Int) < 2) = false := decide_eq_false (by omega)
  have hp1' : decide (k < 2) = false := decide_eq_false (by omega)
  have hp2 : decide (8 < (k : Int)) = false := decide_eq_false (by omega)
  have hp2' : decide (8 < k) = false := decide_eq_false (by omega)
  have hm := tmod_two k
  have hm2 : IntKind.i64.wrap ((k % 2 : Nat) : Int) = ((k % 2 : Nat) : Int) := wraps_i64 _ (by omega) (by omega)
  have HK2 := Lib.hid h2
  have HK8 := Lib.hid h8
  rw [hq] at hs
  have HNG := Lib.hid hs
  clear hs
  rw [ho] at hm hm2
  clear ho
  rw [hq] at x1 x2
  have HAE := Lib.hid x1
  have HBE := Lib.hid x2
  clear x1 x2
  obtain ⟨o, ho⟩ : ∃ o, Out.ok 0 = o := ⟨_, rfl⟩
  have HO := Lib.hid ho
  rw [ho]
  clear hq hL k1 k3 bM ho
  go_enter Tryd.func30, Tryd.ntmps30
  go_upto_region 1 with (fail)
  rw [← hM]
  clear hM
  obtain ⟨x1, x2, x3, _, _, _⟩ := HX.out.cells
  go_wp2_with fail
  refine (readV _ s1 N1' D1' _ H1.out HT.out).mono ?_
  rw [HL.out, Bool.not_false]
  rintro e wa ⟨t1, B1, m1, d1, B1', m1', d1', rfl, f1, ba⟩
  have bb := below_step ba ba.size (below_alloc wa (.cells #[.bool t1, .slice B1 m1 d1, .slice B1' m1' d1'] 65))
  have hf1 := Box.new wa (.bool t1) (.slice B1 m1 d1) (.slice B1' m1' d1') 65
  have szw : w.heap.size + 1 < wa.heap.size := Nat.lt_of_lt_of_le (by obtain ⟨_, _, _, _, _, _, hh⟩ := HR.out; exact hh.lt) ba.size
  have TA : Hid (N1 w (wa.alloc (.cells #[.bool t1, .slice B1 m1 d1, .slice B1' m1' d1'] 65)) (w.heap.size + 1) wa.heap.size t1 B1 m1 d1 B1' m1' d1') :=
    Lib.hid ⟨HR.out.below bb, hf1, HT.out.below bb, below_step BM.out BM.out.size bb, by omega, by omega⟩
  have F1 : Hid (IsF (wa.alloc (.cells #[.bool t1, .slice B1 m1 d1, .slice B1' m1' d1'] 65)) (.agg #[.bool t1, .slice B1 m1 d1, .slice B1' m1' d1']) q) := Lib.hid (by rw [← HQ.out]; exact (f1.out rfl).below (below_alloc _ _))
  obtain ⟨w2, hw2⟩ : ∃ w2, wa.alloc (.cells #[.bool t1, .slice B1 m1 d1, .slice B1' m1' d1'] 65) = w2 := ⟨_, rfl⟩
  obtain ⟨gf, hgf⟩ : ∃ gf, wa.heap.size = gf := ⟨_, rfl⟩
  clear x1 x2 x3 ba bb f1 hf1 szw HR BM HX H1 HT
  go_upto_region 2 with (fail)
  rw [hw2] at TA F1
  try rw [hw2]
  rw [hgf] at TA
  try rw [hgf]
  clear hw2 hgf
  obtain ⟨y1, y2, y3, _⟩ := TA.out.box.cells
  obtain ⟨ht, a1, a2⟩ := F1.out.at_
  obtain rfl : t1 = true := ht.trans HNG.out
  have NA := Lib.hid a1
  have NB := Lib.hid a2
  clear ht a1 a2
  go_wp2_with fail
  refine (aRoot _ k _ _ _ _ NA.out (Nat.le_trans HF.out.1 (by omega)) HK2.out (Nat.le_trans HK8.out (by omega))).mono ?_
  rw [HAE.out]
  rintro e wr ⟨RA, rA, sA, rfl, iA, bb⟩
  replace TA := Lib.hid (TA.out.below bb)
  replace NA := Lib.hid (NA.out.below bb)
  replace NB := Lib.hid (NB.out.below bb)
  clear bb y1 y2 y3
  obtain ⟨y1, y2, y3, _⟩ := TA.out.box.cells
  go_wp2_with fail
  refine (aRoot _ k _ _ _ _ NB.out (Nat.le_trans HF.out.2 (by omega)) HK2.out (Nat.le_trans HK8.out (by omega))).mono ?_
  rw [HBE.out]
  rintro e wr ⟨RB, rB, sB, rfl, iB, bb⟩
  replace TA := Lib.hid (TA.out.below bb)
  replace NA := Lib.hid (NA.out.below bb)
  replace NB := Lib.hid (NB.out.below bb)
  replace iA := Lib.hid (iA.out.below bb)
  clear bb y1 y2 y3
  obtain ⟨y1, y2, y3, _⟩ := TA.out.box.cells
  obtain ⟨z1, z2, z3, hy1, hy2, hy3, f1, f2, f3⟩ := TA.out.res.cells
  obtain ⟨q0, q1, q2, hs, hb⟩ := OutIs.stored (o := .ok 0) (k := 0) (s := false) (A1 := none) (A2 := none) (n1 := 0) (c1 := 0) (n2 := 0) (c2 := 0) (OutIs.zero _) TA.out.res TA.out.bel TA.out.n3
  have Q := Lib.hid (And.intro q0 (And.intro q1 q2))
  have HS := Lib.hid hs
  have HBB := Lib.hid hb
  clear q0 q1 q2 hs hb
  go_wp2_with fail
  obtain ⟨q0, q1, q2⟩ := Q.out
  refine bodyPost_ret (v := .tuple #[noRat, .bool false, .int .i64 0]) (by simp [results, Tryd.results30, go_sem, q0, q1, q2, noRat]) rfl ?_
  rw [← HO.out]
  exact ⟨_, _, _, _, _, _, _, _, rfl, HS.out, HBB.out⟩
set_option maxHeartbeats 2000000 in
set_option maxRecDepth 100000 in
theorem nRoot_true_false_false (s1 : Bool) (N1' D1' : Nat) (k : Nat) (h2 : 2 ≤ k) (h8 : k ≤ 8) (hs : ng (ratOf s1 N1' D1') = true) (ho : k % 2 = 1) (x1 : decide (irt k (ratOf s1 N1' D1').num.natAbs ^ k = (ratOf s1 N1' D1').num.natAbs) = false) (x2 : decide (irt k (ratOf s1 N1' D1').den ^ k = (ratOf s1 N1' D1').den) = false) (w : World) (v1 : Value) (h1 : RawV w v1 s1 N1' D1') (hT : Tab w) (q : Rat) (hq : ratOf s1 N1' D1' = q) (hL : largeB s1 N1' D1' = false) :
    Calls Tryd.prog 30 #[v1, .int .i64 (k : Int)] w (Out3 w (Out.ok 0) false) := by
  have H1 := Lib.hid h1
  have HT := Lib.hid hT
  obtain ⟨A1, n1, c1, A1', n1', c1', rfl⟩ := h1.shape
  clear h1 hT
  obtain ⟨M, hM, k1, k3, bM⟩ := start1 w (.bool s1) (.slice A1 n1 c1) (.slice A1' n1' c1') (.bool false) (.slice none 0 0) (.slice none 0 0) 24 24
  have HX := Lib.hid k1
  have HR := Lib.hid (show Res M (w.heap.size + 1) 24 from ⟨_, _, _, NI.bool _, NI.slice _ _ _, NI.slice _ _ _, k3⟩)
  have BM := Lib.hid bM
  replace H1 := Lib.hid (H1.out.below bM)
  replace HT := Lib.hid (HT.out.below bM)
  have HQ := Lib.hid hq
  have HL := Lib.hid hL
  have hf := (largeB_false hL).2.2
  rw [hq] at hf
  have HF := Lib.hid hf
  clear hf
  have hp1 : decide ((k : Int) < 2) = false := decide_eq_false (by omega)
  have hp1' : decide (k < 2) = false := decide_eq_false (by omega)
  have hp2 : decide (8 < (k : Int)) = false := decide_eq_false (by omega)
  have hp2' : decide (8 < k) = false := decide_eq_false (by omega)
  have hm := tmod_two k
  have hm2 : IntKind.i64.wrap ((k % 2 : Nat) : Int) = ((k % 2 : Nat) : Int) := wraps_i64 _ (by omega) (by omega)
  have HK2 := Lib.hid h2
  have HK8 := Lib.hid h8
  rw [hq] at hs
  have HNG := Lib.hid hs
  clear hs
  rw [ho] at hm hm2
  clear ho
  rw [hq] at x1 x2
  have HAE := Lib.hid x1
  have HBE := Lib.hid x2
  clear x1 x2
  obtain ⟨o, ho⟩ : ∃ o, Out.ok 0 = o := ⟨_, rfl⟩
  have HO := Lib.hid ho
  rw [ho]
  clear hq hL k1 k3 bM ho
  go_enter Tryd.func30, Tryd.ntmps30
  go_upto_region 1 with (fail)
  rw [← hM]
  clear hM
  obtain ⟨x1, x2, x3, _, _, _⟩ := HX.out.cells
  go_wp2_with fail
  refine (readV _ s1 N1' D1' _ H1.out HT.out).mono ?_
  rw [HL.out, Bool.not_false]
  rintro e wa ⟨t1, B1, m1, d1, B1', m1', d1', rfl, f1, ba⟩
  have bb := below_step ba ba.size (below_alloc wa (.cells #[.bool t1, .slice B1 m1 d1, .slice B1' m1' d1'] 65))
  have hf1 := Box.new wa (.bool t1) (.slice B1 m1 d1) (.slice B1' m1' d1') 65
  have szw : w.heap.size + 1 < wa.heap.size := Nat.lt_of_lt_of_le (by obtain ⟨_, _, _, _, _, _, hh⟩ := HR.out; exact hh.lt) ba.size
  have TA : Hid (N1 w (wa.alloc (.cells #[.bool t1, .slice B1 m1 d1, .slice B1' m1' d1'] 65)) (w.heap.size + 1) wa.heap.size t1 B1 m1 d1 B1' m1' d1') :=
    Lib.hid ⟨HR.out.below bb, hf1, HT.out.below bb, below_step BM.out BM.out.size bb, by omega, by omega⟩
  have F1 : Hid (IsF (wa.alloc (.cells #[.bool t1, .slice B1 m1 d1, .slice B1' m1' d1'] 65)) (.agg #[.bool t1, .slice B1 m1 d1, .slice B1' m1' d1']) q) := Lib.hid (by rw [← HQ.out]; exact (f1.out rfl).below (below_alloc _ _))
  obtain ⟨w2, hw2⟩ : ∃ w2, wa.alloc (.cells #[.bool t1, .slice B1 m1 d1, .slice B1' m1' d1'] 65) = w2 := ⟨_, rfl⟩
  obtain ⟨gf, hgf⟩ : ∃ gf, wa.heap.size = gf := ⟨_, rfl⟩
  clear x1 x2 x3 ba bb f1 hf1 szw HR BM HX H1 HT
  go_upto_region 2 with (fail)
  rw [hw2] at TA F1
  try rw [hw2]
  rw [hgf] at TA
  try rw [hgf]
  clear hw2 hgf
  obtain ⟨y1, y2, y3, _⟩ := TA.out.box.cells
  obtain ⟨ht, a1, a2⟩ := F1.out.at_
  obtain rfl : t1 = true := ht.trans HNG.out
  have NA := Lib.hid a1
  have NB := Lib.hid a2
  clear ht a1 a2
  go_wp2_with fail
  refine (aRoot _ k _ _ _ _ NA.out (Nat.le_trans HF.out.1 (by omega)) HK2.out (Nat.le_trans HK8.out (by omega))).mono ?_
  rw [HAE.out]
  rintro e wr ⟨RA, rA, sA, rfl, iA, bb⟩
  replace TA := Lib.hid (TA.out.below bb)
  replace NA := Lib.hid (NA.out.below bb)
  replace NB := Lib.hid (NB.out.below bb)
  clear bb y1 y2 y3
  obtain ⟨y1, y2, y3, _⟩ := TA.out.box.cells
  go_wp2_with fail
  refine (aRoot _ k _ _ _ _ NB.out (Nat.le_trans HF.out.2 (by omega)) HK2.out (Nat.le_trans HK8.out (by omega))).mono ?_
  rw [HBE.out]
  rintro e wr ⟨RB, rB, sB, rfl, iB, bb⟩
  replace TA := Lib.hid (TA.out.below bb)
  replace NA := Lib.hid (NA.out.below bb)
  replace NB := Lib.hid (NB.out.below bb)
  replace iA := Lib.hid (iA.out.below bb)
  clear bb y1 y2 y3
  obtain ⟨y1, y2, y3, _⟩ := TA.out.box.cells
  obtain ⟨z1, z2, z3, hy1, hy2, hy3, f1, f2, f3⟩ := TA.out.res.cells
  obtain ⟨q0, q1, q2, hs, hb⟩ := OutIs.stored (o := .ok 0) (k := 0) (s := false) (A1 := none) (A2 := none) (n1 := 0) (c1 := 0) (n2 := 0) (c2 := 0) (OutIs.zero _) TA.out.res TA.out.bel TA.out.n3
  have Q := Lib.hid (And.intro q0 (And.intro q1 q2))
  have HS := Lib.hid hs
  have HBB := Lib.hid hb
  clear q0 q1 q2 hs hb
  go_wp2_with fail
  obtain ⟨q0, q1, q2⟩ := Q.out
  refine bodyPost_ret (v := .tuple #[noRat, .bool false, .int .i64 0]) (by simp [results, Tryd.results30, go_sem, q0, q1, q2, noRat]) rfl ?_
  rw [← HO.out]
  exact ⟨_, _, _, _, _, _, _, _, rfl, HS.out, HBB.out⟩
theorem nRoot (s1 : Bool) (N1' D1' : Nat) (p : Int) (w : World) (v1 : Value) (h1 : RawV w v1 s1 N1' D1') (hT : Tab w) :
    Calls Tryd.prog 30 #[v1, .int .i64 p] w (Out3 w (rootOut (largeB s1 N1' D1') p (ratOf s1 N1' D1')).1 (rootOut (largeB s1 N1' D1') p (ratOf s1 N1' D1')).2) := by
  unfold rootOut
  by_cases h : largeB s1 N1' D1' = true
  · rw [if_pos h]; exact nRoot_large s1 N1' D1' p w v1 h1 hT _ rfl h
  · rw [if_neg h]
    have h' : largeB s1 N1' D1' = false := by simpa using h
    by_cases hl : p < 2
    · rw [if_pos (Or.inl hl)]; exact nRoot_low s1 N1' D1' p hl w v1 h1 hT _ rfl h'
    · by_cases hh : 8 < p
      · rw [if_pos (Or.inr hh)]; exact nRoot_high s1 N1' D1' p hh w v1 h1 hT _ rfl h'
      · rw [if_neg (by omega)]
        obtain ⟨k, rfl⟩ : ∃ k : Nat, p = (k : Int) := ⟨p.toNat, by omega⟩
        rw [Int.toNat_natCast]
        have h2 : 2 ≤ k := by omega
        have h8 : k ≤ 8 := by omega
        cases hs : ng (ratOf s1 N1' D1')
        · rw [if_neg (by simp)]
          cases x1 : decide (irt k (ratOf s1 N1' D1').num.natAbs ^ k = (ratOf s1 N1' D1').num.natAbs) <;> cases x2 : decide (irt k (ratOf s1 N1' D1').den ^ k = (ratOf s1 N1' D1').den)
          · rw [if_neg (by unfold isRt; rw [x1]; simp)]; exact nRoot_false_false_false s1 N1' D1' k h2 h8 hs x1 x2 w v1 h1 hT _ rfl h'
          · rw [if_neg (by unfold isRt; rw [x1]; simp)]; exact nRoot_false_false_true s1 N1' D1' k h2 h8 hs x1 x2 w v1 h1 hT _ rfl h'
          · rw [if_neg (by unfold isRt; rw [x2]; simp)]; exact nRoot_false_true_false s1 N1' D1' k h2 h8 hs x1 x2 w v1 h1 hT _ rfl h'
          · rw [if_pos (by unfold isRt; rw [x1, x2]; rfl)]; exact nRoot_false_true_true s1 N1' D1' k h2 h8 hs x1 x2 _ rfl w v1 h1 hT _ rfl h'
        · by_cases he : k % 2 = 0
          · rw [if_pos ⟨rfl, he⟩]; exact nRoot_even s1 N1' D1' k h2 h8 hs he w v1 h1 hT _ rfl h'
          · have ho : k % 2 = 1 := by omega
            rw [if_neg (fun h => he h.2)]
            cases x1 : decide (irt k (ratOf s1 N1' D1').num.natAbs ^ k = (ratOf s1 N1' D1').num.natAbs) <;> cases x2 : decide (irt k (ratOf s1 N1' D1').den ^ k = (ratOf s1 N1' D1').den)
            · rw [if_neg (by unfold isRt; rw [x1]; simp)]; exact nRoot_true_false_false s1 N1' D1' k h2 h8 hs ho x1 x2 w v1 h1 hT _ rfl h'
            · rw [if_neg (by unfold isRt; rw [x1]; simp)]; exact nRoot_true_false_true s1 N1' D1' k h2 h8 hs ho x1 x2 w v1 h1 hT _ rfl h'
            · rw [if_neg (by unfold isRt; rw [x2]; simp)]; exact nRoot_true_true_false s1 N1' D1' k h2 h8 hs ho x1 x2 w v1 h1 hT _ rfl h'
            · rw [if_pos (by unfold isRt; rw [x1, x2]; rfl)]; exact nRoot_true_true_true s1 N1' D1' k h2 h8 hs ho x1 x2 _ rfl w v1 h1 hT _ rfl h'
end Go.Proofs.YtfmhplcpejmkhabDoor

namespace Go.Proofs.YtfmhplcpejmkhabDoor
open Go.RowKit Dig
set_option linter.unusedVariables false
set_option linter.unusedSimpArgs false
theorem cRat (q : Rat) (w : World) (v : Value) (h : IsQ w v q) (k : Rq 2000000 q) :
    Calls Tryd.prog 27 #[v] w fun e w' => ∃ t B1 m1 e1 B2 m2 e2, e = .returned (.agg #[.bool t, .slice B1 m1 e1, .slice B2 m2 e2]) ∧ Hid (GrQ w' (.agg #[.bool t, .slice B1 m1 e1, .slice B2 m2 e2]) q) ∧ Below w.heap.size w w' := by
  obtain ⟨A1, c1, A2, c2, rfl, r1, r2⟩ := h
  refine (rRat _ _ _ w _ _ _ _ r1 r2 (fun h => ng_nz h) q.den_nz k.1 k.2).mono ?_
  rintro e w' ⟨u, rfl, hu, hb⟩
  have h2 := hu
  obtain ⟨A1, c1, A2, c2, rfl, r1, r2⟩ := hu
  exact ⟨_, _, _, _, _, _, _, rfl, h2, hb⟩
theorem exact_fit {a : Rat} {k : Nat} (hk : 0 < k) (h : fitQ a) : fitQ (exactQ k a).1 := by
  unfold exactQ
  split
  · exact fit_zero
  · split
    · exact rt_fit hk h (by assumption)
    · exact fit_zero
theorem rootOut_exact {q : Rat} {k : Nat} (h2 : 2 ≤ k) (h8 : k ≤ 8) : rootOut false (k : Int) q = (.ok (exactQ k q).1, (exactQ k q).2) := by
  unfold rootOut exactQ
  rw [if_neg (by simp), if_neg (by omega), Int.toNat_natCast]
  split
  · rfl
  · split <;> rfl
set_option maxHeartbeats 2000000 in
set_option maxRecDepth 100000 in
theorem lRoot_large (s1 : Bool) (N1 D1 : Nat) (p : Int) (w : World) (v1 : Value) (h1 : RawV w v1 s1 N1 D1) (q : Rat) (hq : ratOf s1 N1 D1 = q) (hL : largeB s1 N1 D1 = true) :
    Calls Tryd.prog 31 #[v1, .int .i64 p] w (Out3 w (Out.err 1) false) := by
  have H1 := Lib.hid h1
  obtain ⟨A1, n1, c1, A1', n1', c1', rfl⟩ := h1.shape
  clear h1
  obtain ⟨M, hM, k1, k3, bM⟩ := start1 w (.bool s1) (.slice A1 n1 c1) (.slice A1' n1' c1') (.bool false) (.slice none 0 0) (.slice none 0 0) 24 24
  have TA : Hid (P1 w M w.heap.size (w.heap.size + 1) s1 A1 n1 c1 A1' n1' c1' N1 D1) := Lib.hid ⟨k1, ⟨_, _, _, NI.bool _, NI.slice _ _ _, NI.slice _ _ _, k3⟩, H1.out.below bM, bM, by omega, by omega⟩
  have HQ := Lib.hid hq
  have HL := Lib.hid hL
  obtain ⟨o, ho⟩ : ∃ o, Out.err 1 = o := ⟨_, rfl⟩
  have HO := Lib.hid ho
  rw [ho]
  clear hq hL k1 k3 bM H1 ho
  go_enter Tryd.func31, Tryd.ntmps31
  go_upto_region 1 with (fail)
  rw [← hM]
  clear hM
  obtain ⟨x1, x2, x3, _⟩ := TA.out.cells
  go_wp2_with fail
  refine (largeV _ s1 N1 D1 _ TA.out.r1).mono ?_
  rw [HL.out]
  rintro e wa ⟨rfl, ba⟩
  replace TA := Lib.hid (TA.out.below ba)
  clear ba x1 x2 x3
  obtain ⟨x1, x2, x3, _⟩ := TA.out.cells
  obtain ⟨y1, y2, y3, hy1, hy2, hy3, f1, f2, f3⟩ := TA.out.res.cells
  obtain ⟨q0, q1, q2, hs, hb⟩ := OutIs.stored (o := .err 1) (k := 1) (s := false) (A1 := none) (A2 := none) (n1 := 0) (c1 := 0) (n2 := 0) (c2 := 0) ⟨rfl, rfl, by omega, by omega⟩ TA.out.res TA.out.bel TA.out.n3
  have Q := Lib.hid (And.intro q0 (And.intro q1 q2))
  have HS := Lib.hid hs
  have HBB := Lib.hid hb
  clear q0 q1 q2 hs hb
  go_wp2_with fail
  obtain ⟨q0, q1, q2⟩ := Q.out
  refine bodyPost_ret (v := .tuple #[noRat, .bool false, .int .i64 1]) (by simp [results, Tryd.results31, go_sem, q0, q1, q2, noRat]) rfl ?_
  rw [← HO.out]
  exact ⟨_, _, _, _, _, _, _, _, rfl, HS.out, HBB.out⟩
set_option maxHeartbeats 2000000 in
set_option maxRecDepth 100000 in
theorem lRoot_low (s1 : Bool) (N1 D1 : Nat) (p : Int) (hp : p < 2) (w : World) (v1 : Value) (h1 : RawV w v1 s1 N1 D1) (q : Rat) (hq : ratOf s1 N1 D1 = q) (hL : largeB s1 N1 D1 = false) :
    Calls Tryd.prog 31 #[v1, .int .i64 p] w (Out3 w (Out.err 2) false) := by
  have H1 := Lib.hid h1
  obtain ⟨A1, n1, c1, A1', n1', c1', rfl⟩ := h1.shape
  clear h1
  obtain ⟨M, hM, k1, k3, bM⟩ := start1 w (.bool s1) (.slice A1 n1 c1) (.slice A1' n1' c1') (.bool false) (.slice none 0 0) (.slice none 0 0) 24 24
  have TA : Hid (P1 w M w.heap.size (w.heap.size + 1) s1 A1 n1 c1 A1' n1' c1' N1 D1) := Lib.hid ⟨k1, ⟨_, _, _, NI.bool _, NI.slice _ _ _, NI.slice _ _ _, k3⟩, H1.out.below bM, bM, by omega, by omega⟩
  have HQ := Lib.hid hq
  have HL := Lib.hid hL
  have hp1 : decide (p < 2) = true := decide_eq_true hp
  clear hp
  obtain ⟨o, ho⟩ : ∃ o, Out.err 2 = o := ⟨_, rfl⟩
  have HO := Lib.hid ho
  rw [ho]
  clear hq hL k1 k3 bM H1 ho
  go_enter Tryd.func31, Tryd.ntmps31
  go_upto_region 1 with (fail)
  rw [← hM]
  clear hM
  obtain ⟨x1, x2, x3, _⟩ := TA.out.cells
  go_wp2_with fail
  refine (largeV _ s1 N1 D1 _ TA.out.r1).mono ?_
  rw [HL.out]
  rintro e wa ⟨rfl, ba⟩
  replace TA := Lib.hid (TA.out.below ba)
  clear ba x1 x2 x3
  obtain ⟨x1, x2, x3, _⟩ := TA.out.cells
  obtain ⟨y1, y2, y3, hy1, hy2, hy3, f1, f2, f3⟩ := TA.out.res.cells
  obtain ⟨q0, q1, q2, hs, hb⟩ := OutIs.stored (o := .err 2) (k := 2) (s := false) (A1 := none) (A2 := none) (n1 := 0) (c1 := 0) (n2 := 0) (c2 := 0) ⟨rfl, rfl, by omega, by omega⟩ TA.out.res TA.out.bel TA.out.n3
  have Q := Lib.hid (And.intro q0 (And.intro q1 q2))
  have HS := Lib.hid hs
  have HBB := Lib.hid hb
  clear q0 q1 q2 hs hb
  go_wp2_with fail
  obtain ⟨q0, q1, q2⟩ := Q.out
  refine bodyPost_ret (v := .tuple #[noRat, .bool false, .int .i64 2]) (by simp [results, Tryd.results31, go_sem, q0, q1, q2, noRat]) rfl ?_
  rw [← HO.out]
  exact ⟨_, _, _, _, _, _, _, _, rfl, HS.out, HBB.out⟩
set_option maxHeartbeats 2000000 in
set_option maxRecDepth 100000 in
theorem lRoot_high (s1 : Bool) (N1 D1 : Nat) (p : Int) (hp : 8 < p) (w : World) (v1 : Value) (h1 : RawV w v1 s1 N1 D1) (q : Rat) (hq : ratOf s1 N1 D1 = q) (hL : largeB s1 N1 D1 = false) :
    Calls Tryd.prog 31 #[v1, .int .i64 p] w (Out3 w (Out.err 2) false) := by
  have H1 := Lib.hid h1
  obtain ⟨A1, n1, c1, A1', n1', c1', rfl⟩ := h1.shape
  clear h1
  obtain ⟨M, hM, k1, k3, bM⟩ := start1 w (.bool s1) (.slice A1 n1 c1) (.slice A1' n1' c1') (.bool false) (.slice none 0 0) (.slice none 0 0) 24 24
  have TA : Hid (P1 w M w.heap.size (w.heap.size + 1) s1 A1 n1 c1 A1' n1' c1' N1 D1) := Lib.hid ⟨k1, ⟨_, _, _, NI.bool _, NI.slice _ _ _, NI.slice _ _ _, k3⟩, H1.out.below bM, bM, by omega, by omega⟩
  have HQ := Lib.hid hq
  have HL := Lib.hid hL
  have hp1 : decide (p < 2) = false := decide_eq_false (by omega)
  have hp2 : decide (8 < p) = true := decide_eq_true hp
  clear hp
  obtain ⟨o, ho⟩ : ∃ o, Out.err 2 = o := ⟨_, rfl⟩
  have HO := Lib.hid ho
  rw [ho]
  clear hq hL k1 k3 bM H1 ho
  go_enter Tryd.func31, Tryd.ntmps31
  go_upto_region 1 with (fail)
  rw [← hM]
  clear hM
  obtain ⟨x1, x2, x3, _⟩ := TA.out.cells
  go_wp2_with fail
  refine (largeV _ s1 N1 D1 _ TA.out.r1).mono ?_
  rw [HL.out]
  rintro e wa ⟨rfl, ba⟩
  replace TA := Lib.hid (TA.out.below ba)
  clear ba x1 x2 x3
  obtain ⟨x1, x2, x3, _⟩ := TA.out.cells
  obtain ⟨y1, y2, y3, hy1, hy2, hy3, f1, f2, f3⟩ := TA.out.res.cells
  obtain ⟨q0, q1, q2, hs, hb⟩ := OutIs.stored (o := .err 2) (k := 2) (s := false) (A1 := none) (A2 := none) (n1 := 0) (c1 := 0) (n2 := 0) (c2 := 0) ⟨rfl, rfl, by omega, by omega⟩ TA.out.res TA.out.bel TA.out.n3
  have Q := Lib.hid (And.intro q0 (And.intro q1 q2))
  have HS := Lib.hid hs
  have HBB := Lib.hid hb
  clear q0 q1 q2 hs hb
  go_wp2_with fail
  obtain ⟨q0, q1, q2⟩ := Q.out
  refine bodyPost_ret (v := .tuple #[noRat, .bool false, .int .i64 2]) (by simp [results, Tryd.results31, go_sem, q0, q1, q2, noRat]) rfl ?_
  rw [← HO.out]
  exact ⟨_, _, _, _, _, _, _, _, rfl, HS.out, HBB.out⟩
set_option maxHeartbeats 2000000 in
set_option maxRecDepth 100000 in
theorem lRoot_ok (s1 : Bool) (N1 D1 : Nat) (k : Nat) (h2 : 2 ≤ k) (h8 : k ≤ 8) (r : Rat) (b : Bool) (hr : exactQ k (ratOf s1 N1 D1) = (r, b)) (w : World) (v1 : Value) (h1 : RawV w v1 s1 N1 D1) (q : Rat) (hq : ratOf s1 N1 D1 = q) (hL : largeB s1 N1 D1 = false) :
    Calls Tryd.prog 31 #[v1, .int .i64 (k : Int)] w (Out3 w (Out.ok r) b) := by
  have H1 := Lib.hid h1
  obtain ⟨A1, n1, c1, A1', n1', c1', rfl⟩ := h1.shape
  clear h1
  obtain ⟨M, hM, k1, k3, bM⟩ := start1 w (.bool s1) (.slice A1 n1 c1) (.slice A1' n1' c1') (.bool false) (.slice none 0 0) (.slice none 0 0) 24 24
  have TA : Hid (P1 w M w.heap.size (w.heap.size + 1) s1 A1 n1 c1 A1' n1' c1' N1 D1) := Lib.hid ⟨k1, ⟨_, _, _, NI.bool _, NI.slice _ _ _, NI.slice _ _ _, k3⟩, H1.out.below bM, bM, by omega, by omega⟩
  have HQ := Lib.hid hq
  have HL := Lib.hid hL
  have hf := (largeB_false hL).2.2
  rw [hq] at hf
  have HF := Lib.hid hf
  clear hf
  have hp1 : decide ((k : Int) < 2) = false := decide_eq_false (by omega)
  have hp1' : decide (k < 2) = false := decide_eq_false (by omega)
  have hp2 : decide (8 < (k : Int)) = false := decide_eq_false (by omega)
  have hp2' : decide (8 < k) = false := decide_eq_false (by omega)
  have HK2 := Lib.hid h2
  have HK8 := Lib.hid h8
  rw [hq] at hr
  have HR := Lib.hid hr
  have FR := Lib.hid (show fitQ r by have := exact_fit (k := k) (by omega) HF.out; rwa [hr] at this)
  clear hr
  obtain ⟨o, ho⟩ : ∃ o, Out.ok r = o := ⟨_, rfl⟩
  have HO := Lib.hid ho
  rw [ho]
  clear hq hL k1 k3 bM H1 ho
  go_enter Tryd.func31, Tryd.ntmps31
  go_upto_region 1 with (fail)
  rw [← hM]
  clear hM
  obtain ⟨x1, x2, x3, _⟩ := TA.out.cells
  go_wp2_with fail
  refine (largeV _ s1 N1 D1 _ TA.out.r1).mono ?_
  rw [HL.out]
  rintro e wa ⟨rfl, ba⟩
  replace TA := Lib.hid (TA.out.below ba)
  clear ba x1 x2 x3
  obtain ⟨x1, x2, x3, _⟩ := TA.out.cells
  go_wp2_with fail
  refine (ofQ _ _ _ _ q _ TA.out.r1 HL.out HQ.out).mono ?_
  rintro e wb ⟨t0, B0, m0, e0, B0', m0', e0', rfl, i0, bb⟩
  replace TA := Lib.hid (TA.out.below bb)
  clear bb x1 x2 x3
  go_wp2_with fail
  refine (qExact q k HK2.out HK8.out (fit_Rq HF.out (by omega)) _ _ i0.out r b HR.out).mono ?_
  rintro e wc ⟨t1, B1, m1, e1, B1', m1', e1', rfl, i1, bc⟩
  have bq := below_step bc bc.size (below_alloc wc (.cells #[.bool t1, .slice B1 m1 e1, .slice B1' m1' e1'] 39))
  have IR := Lib.hid (i1.out.below (below_alloc wc (.cells #[.bool t1, .slice B1 m1 e1, .slice B1' m1' e1'] 39)))
  have HZ := Lib.hid (Box.new wc (.bool t1) (.slice B1 m1 e1) (.slice B1' m1' e1') 39)
  replace TA := Lib.hid (TA.out.below bq)
  obtain ⟨w2, hw2⟩ : ∃ v, wc.alloc (.cells #[.bool t1, .slice B1 m1 e1, .slice B1' m1' e1'] 39) = v := ⟨_, rfl⟩
  clear bc bq i1 i0
  go_upto_region 6 with (fail)
  rw [hw2] at IR HZ TA
  try rw [hw2]
  clear hw2
  obtain ⟨x1, x2, x3, _, _, _⟩ := HZ.out.cells
  go_wp2_with fail
  refine (cRat r _ _ IR.out (fit_Rq FR.out (by omega))).mono ?_
  rintro e wd ⟨t9, B9, m9, e9, B9', m9', e9', rfl, i9, bd⟩
  replace TA := Lib.hid (TA.out.below bd)
  obtain ⟨z1, z2, z3, hz1, hz2, hz3, k1, k2, k3⟩ := TA.out.res.cells
  obtain ⟨q0, q1, q2, hs, hb⟩ := OutIs.stored (o := .ok r) (k := 0) ⟨rfl, i9.out, FR.out⟩ TA.out.res TA.out.bel TA.out.n3
  have Q := Lib.hid (And.intro q0 (And.intro q1 q2))
  have HS := Lib.hid hs
  have HBB := Lib.hid hb
  clear q0 q1 q2 hs hb bd
  go_wp2
  obtain ⟨q0, q1, q2⟩ := Q.out
  refine bodyPost_ret (v := .tuple #[.agg #[.bool t9, .slice B9 m9 e9, .slice B9' m9' e9'], .bool b, .int .i64 0]) (by simp [results, Tryd.results31, go_sem, q0, q1, q2]) rfl ?_
  rw [← HO.out]
  exact ⟨_, _, _, _, _, _, _, _, rfl, HS.out, HBB.out⟩
theorem lRoot (s1 : Bool) (N1 D1 : Nat) (p : Int) (w : World) (v1 : Value) (h1 : RawV w v1 s1 N1 D1) :
    Calls Tryd.prog 31 #[v1, .int .i64 p] w (Out3 w (rootOut (largeB s1 N1 D1) p (ratOf s1 N1 D1)).1 (rootOut (largeB s1 N1 D1) p (ratOf s1 N1 D1)).2) := by
  by_cases h : largeB s1 N1 D1 = true
  · unfold rootOut; rw [if_pos h]; exact lRoot_large s1 N1 D1 p w v1 h1 _ rfl h
  · have h' : largeB s1 N1 D1 = false := by simpa using h
    by_cases hl : p < 2
    · unfold rootOut; rw [if_neg h, if_pos (Or.inl hl)]; exact lRoot_low s1 N1 D1 p hl w v1 h1 _ rfl h'
    · by_cases hh : 8 < p
      · unfold rootOut; rw [if_neg h, if_pos (Or.inr hh)]; exact lRoot_high s1 N1 D1 p hh w v1 h1 _ rfl h'
      · obtain ⟨k, rfl⟩ : ∃ k : Nat, p = (k : Int) := ⟨p.toNat, by omega⟩
        rw [h', rootOut_exact (by omega) (by omega)]
        exact lRoot_ok s1 N1 D1 k (by omega) (by omega) _ _ rfl w v1 h1 _ rfl h'
set_option maxHeartbeats 2000000 in
set_option maxRecDepth 100000 in
theorem lGroot_large (s1 : Bool) (N1 D1 : Nat) (n p : Int) (up : Bool) (w : World) (v1 : Value) (h1 : RawV w v1 s1 N1 D1) (q : Rat) (hq : ratOf s1 N1 D1 = q) (hL : largeB s1 N1 D1 = true) :
    Calls Tryd.prog 37 #[v1, .int .i64 n, .int .i64 p, .bool up] w (OutPost w (Out.err 1)) := by
  have H1 := Lib.hid h1
  obtain ⟨A1, n1, c1, A1', n1', c1', rfl⟩ := h1.shape
  clear h1
  obtain ⟨M, hM, k1, k3, bM⟩ := start1 w (.bool s1) (.slice A1 n1 c1) (.slice A1' n1' c1') (.bool false) (.slice none 0 0) (.slice none 0 0) 24 24
  have TA : Hid (P1 w M w.heap.size (w.heap.size + 1) s1 A1 n1 c1 A1' n1' c1' N1 D1) := Lib.hid ⟨k1, ⟨_, _, _, NI.bool _, NI.slice _ _ _, NI.slice _ _ _, k3⟩, H1.out.below bM, bM, by omega, by omega⟩
  have HQ := Lib.hid hq
  have HL := Lib.hid hL
  obtain ⟨o, ho⟩ : ∃ o, Out.err 1 = o := ⟨_, rfl⟩
  have HO := Lib.hid ho
  rw [ho]
  clear hq hL k1 k3 bM H1 ho
  go_enter Tryd.func37, Tryd.ntmps37
  go_upto_region 1 with (fail)
  rw [← hM]
  clear hM
  obtain ⟨x1, x2, x3, _⟩ := TA.out.cells
  go_wp2_with fail
  refine (largeV _ s1 N1 D1 _ TA.out.r1).mono ?_
  rw [HL.out]
  rintro e wa ⟨rfl, ba⟩
  replace TA := Lib.hid (TA.out.below ba)
  clear ba x1 x2 x3
  obtain ⟨x1, x2, x3, _⟩ := TA.out.cells
  obtain ⟨y1, y2, y3, hy1, hy2, hy3, f1, f2, f3⟩ := TA.out.res.cells
  obtain ⟨q0, q1, q2, hs, hb⟩ := OutIs.stored (o := .err 1) (k := 1) (s := false) (A1 := none) (A2 := none) (n1 := 0) (c1 := 0) (n2 := 0) (c2 := 0) ⟨rfl, rfl, by omega, by omega⟩ TA.out.res TA.out.bel TA.out.n3
  have Q := Lib.hid (And.intro q0 (And.intro q1 q2))
  have HBB := Lib.hid hb
  clear q0 q1 q2 hs hb
  go_wp2_with fail
  obtain ⟨q0, q1, q2⟩ := Q.out
  refine bodyPost_ret (v := .tuple #[noRat, .int .i64 1]) (by simp [results, Tryd.results37, go_sem, q0, q1, q2, noRat]) rfl ?_
  rw [← HO.out]
  exact OutPost.err rfl (by omega) (by omega) HBB.out
set_option maxHeartbeats 2000000 in
set_option maxRecDepth 100000 in
theorem lGroot_n2 (s1 : Bool) (N1 D1 : Nat) (n p : Int) (up : Bool) (hn : n < 2) (w : World) (v1 : Value) (h1 : RawV w v1 s1 N1 D1) (q : Rat) (hq : ratOf s1 N1 D1 = q) (hL : largeB s1 N1 D1 = false) :
    Calls Tryd.prog 37 #[v1, .int .i64 n, .int .i64 p, .bool up] w (OutPost w (Out.err 2)) := by
  have H1 := Lib.hid h1
  obtain ⟨A1, n1, c1, A1', n1', c1', rfl⟩ := h1.shape
  clear h1
  obtain ⟨M, hM, k1, k3, bM⟩ := start1 w (.bool s1) (.slice A1 n1 c1) (.slice A1' n1' c1') (.bool false) (.slice none 0 0) (.slice none 0 0) 24 24
  have TA : Hid (P1 w M w.heap.size (w.heap.size + 1) s1 A1 n1 c1 A1' n1' c1' N1 D1) := Lib.hid ⟨k1, ⟨_, _, _, NI.bool _, NI.slice _ _ _, NI.slice _ _ _, k3⟩, H1.out.below bM, bM, by omega, by omega⟩
  have HQ := Lib.hid hq
  have HL := Lib.hid hL
  have hp1 : decide (n < 2) = true := decide_eq_true hn
  clear hn
  obtain ⟨o, ho⟩ : ∃ o, Out.err 2 = o := ⟨_, rfl⟩
  have HO := Lib.hid ho
  rw [ho]
  clear hq hL k1 k3 bM H1 ho
  go_enter Tryd.func37, Tryd.ntmps37
  go_upto_region 1 with (fail)
  rw [← hM]
  clear hM
  obtain ⟨x1, x2, x3, _⟩ := TA.out.cells
  go_wp2_with fail
  refine (largeV _ s1 N1 D1 _ TA.out.r1).mono ?_
  rw [HL.out]
  rintro e wa ⟨rfl, ba⟩
  replace TA := Lib.hid (TA.out.below ba)
  clear ba x1 x2 x3
  obtain ⟨x1, x2, x3, _⟩ := TA.out.cells
  obtain ⟨y1, y2, y3, hy1, hy2, hy3, f1, f2, f3⟩ := TA.out.res.cells
  obtain ⟨q0, q1, q2, hs, hb⟩ := OutIs.stored (o := .err 2) (k := 2) (s := false) (A1 := none) (A2 := none) (n1 := 0) (c1 := 0) (n2 := 0) (c2 := 0) ⟨rfl, rfl, by omega, by omega⟩ TA.out.res TA.out.bel TA.out.n3
  have Q := Lib.hid (And.intro q0 (And.intro q1 q2))
  have HBB := Lib.hid hb
  clear q0 q1 q2 hs hb
  go_wp2_with fail
  obtain ⟨q0, q1, q2⟩ := Q.out
  refine bodyPost_ret (v := .tuple #[noRat, .int .i64 2]) (by simp [results, Tryd.results37, go_sem, q0, q1, q2, noRat]) rfl ?_
  rw [← HO.out]
  exact OutPost.err rfl (by omega) (by omega) HBB.out
set_option maxHeartbeats 2000000 in
set_option maxRecDepth 100000 in
theorem lGroot_n8 (s1 : Bool) (N1 D1 : Nat) (n p : Int) (up : Bool) (hn : 8 < n) (w : World) (v1 : Value) (h1 : RawV w v1 s1 N1 D1) (q : Rat) (hq : ratOf s1 N1 D1 = q) (hL : largeB s1 N1 D1 = false) :
    Calls Tryd.prog 37 #[v1, .int .i64 n, .int .i64 p, .bool up] w (OutPost w (Out.err 2)) := by
  have H1 := Lib.hid h1
  obtain ⟨A1, n1, c1, A1', n1', c1', rfl⟩ := h1.shape
  clear h1
  obtain ⟨M, hM, k1, k3, bM⟩ := start1 w (.bool s1) (.slice A1 n1 c1) (.slice A1' n1' c1') (.bool false) (.slice none 0 0) (.slice none 0 0) 24 24
  have TA : Hid (P1 w M w.heap.size (w.heap.size + 1) s1 A1 n1 c1 A1' n1' c1' N1 D1) := Lib.hid ⟨k1, ⟨_, _, _, NI.bool _, NI.slice _ _ _, NI.slice _ _ _, k3⟩, H1.out.below bM, bM, by omega, by omega⟩
  have HQ := Lib.hid hq
  have HL := Lib.hid hL
  have hp1 : decide (n < 2) = false := decide_eq_false (by omega)
  have hp2 : decide (8 < n) = true := decide_eq_true hn
  clear hn
  obtain ⟨o, ho⟩ : ∃ o, Out.err 2 = o := ⟨_, rfl⟩
  have HO := Lib.hid ho
  rw [ho]
  clear hq hL k1 k3 bM H1 ho
  go_enter Tryd.func37, Tryd.ntmps37
  go_upto_region 1 with (fail)
  rw [← hM]
  clear hM
  obtain ⟨x1, x2, x3, _⟩ := TA.out.cells
  go_wp2_with fail
  refine (largeV _ s1 N1 D1 _ TA.out.r1).mono ?_
  rw [HL.out]
  rintro e wa ⟨rfl, ba⟩
  replace TA := Lib.hid (TA.out.below ba)
  clear ba x1 x2 x3
  obtain ⟨x1, x2, x3, _⟩ := TA.out.cells
  obtain ⟨y1, y2, y3, hy1, hy2, hy3, f1, f2, f3⟩ := TA.out.res.cells
  obtain ⟨q0, q1, q2, hs, hb⟩ := OutIs.stored (o := .err 2) (k := 2) (s := false) (A1 := none) (A2 := none) (n1 := 0) (c1 := 0) (n2 := 0) (c2 := 0) ⟨rfl, rfl, by omega, by omega⟩ TA.out.res TA.out.bel TA.out.n3
  have Q := Lib.hid (And.intro q0 (And.intro q1 q2))
  have HBB := Lib.hid hb
  clear q0 q1 q2 hs hb
  go_wp2_with fail
  obtain ⟨q0, q1, q2⟩ := Q.out
  refine bodyPost_ret (v := .tuple #[noRat, .int .i64 2]) (by simp [results, Tryd.results37, go_sem, q0, q1, q2, noRat]) rfl ?_
  rw [← HO.out]
  exact OutPost.err rfl (by omega) (by omega) HBB.out
set_option maxHeartbeats 2000000 in
set_option maxRecDepth 100000 in
theorem lGroot_p0 (s1 : Bool) (N1 D1 : Nat) (n p : Int) (up : Bool) (h2 : 2 ≤ n) (h8 : n ≤ 8) (hn : p < 0) (w : World) (v1 : Value) (h1 : RawV w v1 s1 N1 D1) (q : Rat) (hq : ratOf s1 N1 D1 = q) (hL : largeB s1 N1 D1 = false) :
    Calls Tryd.prog 37 #[v1, .int .i64 n, .int .i64 p, .bool up] w (OutPost w (Out.err 2)) := by
  have H1 := Lib.hid h1
  obtain ⟨A1, n1, c1, A1', n1', c1', rfl⟩ := h1.shape
  clear h1
  obtain ⟨M, hM, k1, k3, bM⟩ := start1 w (.bool s1) (.slice A1 n1 c1) (.slice A1' n1' c1') (.bool false) (.slice none 0 0) (.slice none 0 0) 24 24
  have TA : Hid (P1 w M w.heap.size (w.heap.size + 1) s1 A1 n1 c1 A1' n1' c1' N1 D1) := Lib.hid ⟨k1, ⟨_, _, _, NI.bool _, NI.slice _ _ _, NI.slice _ _ _, k3⟩, H1.out.below bM, bM, by omega, by omega⟩
  have HQ := Lib.hid hq
  have HL := Lib.hid hL
  have hp1 : decide (n < 2) = false := decide_eq_false (by omega)
  have hp2 : decide (8 < n) = false := decide_eq_false (by omega)
  have hp3 : decide (p < 0) = true := decide_eq_true hn
  clear hn h2 h8
  obtain ⟨o, ho⟩ : ∃ o, Out.err 2 = o := ⟨_, rfl⟩
  have HO := Lib.hid ho
  rw [ho]
  clear hq hL k1 k3 bM H1 ho
  go_enter Tryd.func37, Tryd.ntmps37
  go_upto_region 1 with (fail)
  rw [← hM]
  clear hM
  obtain ⟨x1, x2, x3, _⟩ := TA.out.cells
  go_wp2_with fail
  refine (largeV _ s1 N1 D1 _ TA.out.r1).mono ?_
  rw [HL.out]
  rintro e wa ⟨rfl, ba⟩
  replace TA := Lib.hid (TA.out.below ba)
  clear ba x1 x2 x3
  obtain ⟨x1, x2, x3, _⟩ := TA.out.cells
  obtain ⟨y1, y2, y3, hy1, hy2, hy3, f1, f2, f3⟩ := TA.out.res.cells
  obtain ⟨q0, q1, q2, hs, hb⟩ := OutIs.stored (o := .err 2) (k := 2) (s := false) (A1 := none) (A2 := none) (n1 := 0) (c1 := 0) (n2 := 0) (c2 := 0) ⟨rfl, rfl, by omega, by omega⟩ TA.out.res TA.out.bel TA.out.n3
  have Q := Lib.hid (And.intro q0 (And.intro q1 q2))
  have HBB := Lib.hid hb
  clear q0 q1 q2 hs hb
  go_wp2_with fail
  obtain ⟨q0, q1, q2⟩ := Q.out
  refine bodyPost_ret (v := .tuple #[noRat, .int .i64 2]) (by simp [results, Tryd.results37, go_sem, q0, q1, q2, noRat]) rfl ?_
  rw [← HO.out]
  exact OutPost.err rfl (by omega) (by omega) HBB.out
set_option maxHeartbeats 2000000 in
set_option maxRecDepth 100000 in
theorem lGroot_p256 (s1 : Bool) (N1 D1 : Nat) (n p : Int) (up : Bool) (h2 : 2 ≤ n) (h8 : n ≤ 8) (hn : 256 < p) (w : World) (v1 : Value) (h1 : RawV w v1 s1 N1 D1) (q : Rat) (hq : ratOf s1 N1 D1 = q) (hL : largeB s1 N1 D1 = false) :
    Calls Tryd.prog 37 #[v1, .int .i64 n, .int .i64 p, .bool up] w (OutPost w (Out.err 2)) := by
  have H1 := Lib.hid h1
  obtain ⟨A1, n1, c1, A1', n1', c1', rfl⟩ := h1.shape
  clear h1
  obtain ⟨M, hM, k1, k3, bM⟩ := start1 w (.bool s1) (.slice A1 n1 c1) (.slice A1' n1' c1') (.bool false) (.slice none 0 0) (.slice none 0 0) 24 24
  have TA : Hid (P1 w M w.heap.size (w.heap.size + 1) s1 A1 n1 c1 A1' n1' c1' N1 D1) := Lib.hid ⟨k1, ⟨_, _, _, NI.bool _, NI.slice _ _ _, NI.slice _ _ _, k3⟩, H1.out.below bM, bM, by omega, by omega⟩
  have HQ := Lib.hid hq
  have HL := Lib.hid hL
  have hp1 : decide (n < 2) = false := decide_eq_false (by omega)
  have hp2 : decide (8 < n) = false := decide_eq_false (by omega)
  have hp3 : decide (p < 0) = false := decide_eq_false (by omega)
  have hp4 : decide (256 < p) = true := decide_eq_true hn
  clear hn h2 h8
  obtain ⟨o, ho⟩ : ∃ o, Out.err 2 = o := ⟨_, rfl⟩
  have HO := Lib.hid ho
  rw [ho]
  clear hq hL k1 k3 bM H1 ho
  go_enter Tryd.func37, Tryd.ntmps37
  go_upto_region 1 with (fail)
  rw [← hM]
  clear hM
  obtain ⟨x1, x2, x3, _⟩ := TA.out.cells
  go_wp2_with fail
  refine (largeV _ s1 N1 D1 _ TA.out.r1).mono ?_
  rw [HL.out]
  rintro e wa ⟨rfl, ba⟩
  replace TA := Lib.hid (TA.out.below ba)
  clear ba x1 x2 x3
  obtain ⟨x1, x2, x3, _⟩ := TA.out.cells
  obtain ⟨y1, y2, y3, hy1, hy2, hy3, f1, f2, f3⟩ := TA.out.res.cells
  obtain ⟨q0, q1, q2, hs, hb⟩ := OutIs.stored (o := .err 2) (k := 2) (s := false) (A1 := none) (A2 := none) (n1 := 0) (c1 := 0) (n2 := 0) (c2 := 0) ⟨rfl, rfl, by omega, by omega⟩ TA.out.res TA.out.bel TA.out.n3
  have Q := Lib.hid (And.intro q0 (And.intro q1 q2))
  have HBB := Lib.hid hb
  clear q0 q1 q2 hs hb
  go_wp2_with fail
  obtain ⟨q0, q1, q2⟩ := Q.out
  refine bodyPost_ret (v := .tuple #[noRat, .int .i64 2]) (by simp [results, Tryd.results37, go_sem, q0, q1, q2, noRat]) rfl ?_
  rw [← HO.out]
  exact OutPost.err rfl (by omega) (by omega) HBB.out
theorem sgnI_neg (q : Rat) : decide (sgnI (ng q) q.num.natAbs < 0) = ng q := by
  unfold sgnI
  cases hs : ng q
  · split <;> simp
  · rw [if_neg (ng_nz hs)]
    decide
theorem grt_Rq {a : Rat} {k p : Nat} (up : Bool) (hk : 0 < k) (h8 : k ≤ 8) (hp : p ≤ 256) (h : Rq 200 a) : Rq 1000 (grtQ a k p up) := by
  have h1 := (low_Rq hk h8 hp h).1
  refine mk_Rq (Nat.ne_of_gt (Nat.two_pow_pos p)) ?_ ?_
  · rw [sg_abs]
    have h3 : rootN a.num.natAbs a.den k p (up != ng a) ≤ irt k (a.num.natAbs * 2 ^ (p * k) / a.den) + 1 := by
      unfold rootN
      split <;> omega
    have h4 : (R (irt k (a.num.natAbs * 2 ^ (p * k) / a.den))).length ≤ 400 := by
      refine Nat.le_trans (dig_length_mono B16_two (Nat.le_trans (irt_selfR hk _) (Nat.div_le_self _ _))) ?_
      exact low_len h.1 (Nat.mul_le_mul hp h8)
    have h5 := R_add_length (irt k (a.num.natAbs * 2 ^ (p * k) / a.den)) 1
    have h6 : (R 1).length ≤ 1 := by rw [R_one]; simp
    have h7 : (R (rootN a.num.natAbs a.den k p (up != ng a))).length ≤ (R (irt k (a.num.natAbs * 2 ^ (p * k) / a.den) + 1)).length := dig_length_mono B16_two h3
    omega
  · have := R_two_pow p
    omega
set_option maxHeartbeats 2000000 in
set_option maxRecDepth 100000 in
theorem lGroot_dom (s1 : Bool) (N1 D1 : Nat) (k p : Nat) (h2 : 2 ≤ k) (h8 : k ≤ 8) (hp : p ≤ 256) (up : Bool) (hs : ng (ratOf s1 N1 D1) = true) (he : k % 2 = 0) (w : World) (v1 : Value) (h1 : RawV w v1 s1 N1 D1) (q : Rat) (hq : ratOf s1 N1 D1 = q) (hL : largeB s1 N1 D1 = false) :
    Calls Tryd.prog 37 #[v1, .int .i64 (k : Int), .int .i64 (p : Int), .bool up] w (OutPost w (Out.err 5)) := by
  have H1 := Lib.hid h1
  obtain ⟨A1, n1, c1, A1', n1', c1', rfl⟩ := h1.shape
  clear h1
  obtain ⟨M, hM, k1, k3, bM⟩ := start1 w (.bool s1) (.slice A1 n1 c1) (.slice A1' n1' c1') (.bool false) (.slice none 0 0) (.slice none 0 0) 24 24
  have TA : Hid (P1 w M w.heap.size (w.heap.size + 1) s1 A1 n1 c1 A1' n1' c1' N1 D1) := Lib.hid ⟨k1, ⟨_, _, _, NI.bool _, NI.slice _ _ _, NI.slice _ _ _, k3⟩, H1.out.below bM, bM, by omega, by omega⟩
  have HQ := Lib.hid hq
  have HL := Lib.hid hL
  have hf := (largeB_false hL).2.2
  rw [hq] at hf
  have HF := Lib.hid hf
  clear hf
  have hp1 : decide ((k : Int) < 2) = false := decide_eq_false (by omega)
  have hp1' : decide (k < 2) = false := decide_eq_false (by omega)
  have hp2 : decide (8 < (k : Int)) = false := decide_eq_false (by omega)
  have hp2' : decide (8 < k) = false := decide_eq_false (by omega)
  have HK2 := Lib.hid h2
  have HK8 := Lib.hid h8
  have hp3 : decide ((p : Int) < 0) = false := decide_eq_false (by omega)
  have hp4 : decide (256 < (p : Int)) = false := decide_eq_false (by omega)
  have hp4' : decide (256 < p) = false := decide_eq_false (by omega)
  have hm := tmod_two k
  have hm2 : IntKind.i64.wrap ((k % 2 : Nat) : Int) = ((k % 2 : Nat) : Int) := wraps_i64 _ (by omega) (by omega)
  have HPP := Lib.hid hp
  obtain ⟨cc, hcc⟩ : ∃ c, sgnI (ng q) q.num.natAbs = c := ⟨_, rfl⟩
  have HSG := Lib.hid hcc
  have hc0 : decide (cc < 0) = ng q := by rw [← hcc]; exact sgnI_neg q
  rw [hq] at hs
  rw [hs] at hc0
  clear hcc hs
  rw [he] at hm hm2
  clear he
  obtain ⟨o, ho⟩ : ∃ o, Out.err 5 = o := ⟨_, rfl⟩
  have HO := Lib.hid ho
  rw [ho]
  clear hq hL k1 k3 bM H1 ho
  go_enter Tryd.func37, Tryd.ntmps37
  go_upto_region 1 with (fail)
  rw [← hM]
  clear hM
  obtain ⟨x1, x2, x3, _⟩ := TA.out.cells
  go_wp2_with fail
  refine (largeV _ s1 N1 D1 _ TA.out.r1).mono ?_
  rw [HL.out]
  rintro e wa ⟨rfl, ba⟩
  replace TA := Lib.hid (TA.out.below ba)
  clear ba x1 x2 x3
  obtain ⟨x1, x2, x3, _⟩ := TA.out.cells
  go_wp2_with fail
  refine (ofQ _ _ _ _ q _ TA.out.r1 HL.out HQ.out).mono ?_
  rintro e wc ⟨t1, B1, m1, e1, B1', m1', e1', rfl, i1, bc⟩
  have bq := below_step bc bc.size (below_alloc wc (.cells #[.bool t1, .slice B1 m1 e1, .slice B1' m1' e1'] 39))
  have IR := Lib.hid (i1.out.below (below_alloc wc (.cells #[.bool t1, .slice B1 m1 e1, .slice B1' m1' e1'] 39)))
  have HZ := Lib.hid (Box.new wc (.bool t1) (.slice B1 m1 e1) (.slice B1' m1' e1') 39)
  replace TA := Lib.hid (TA.out.below bq)
  obtain ⟨w2, hw2⟩ : ∃ v, wc.alloc (.cells #[.bool t1, .slice B1 m1 e1, .slice B1' m1' e1'] 39) = v := ⟨_, rfl⟩
  clear bc bq i1 x1 x2 x3
  go_upto_region 6 with (fail)
  rw [hw2] at IR HZ TA
  try rw [hw2]
  clear hw2
  obtain ⟨x1, x2, x3, _, _, _⟩ := HZ.out.cells
  go_wp2_with fail
  refine (qSgn q _ _ IR.out).mono ?_
  rw [HSG.out]
  rintro e wb ⟨rfl, bb⟩
  replace TA := Lib.hid (TA.out.below bb)
  replace IR := Lib.hid (IR.out.below bb)
  replace HZ := Lib.hid (HZ.out.below bb)
  clear bb x1 x2 x3
  obtain ⟨x1, x2, x3, _, _, _⟩ := HZ.out.cells
  obtain ⟨y1, y2, y3, hy1, hy2, hy3, f1, f2, f3⟩ := TA.out.res.cells
  obtain ⟨q0, q1, q2, hs, hb⟩ := OutIs.stored (o := .err 5) (k := 5) (s := false) (A1 := none) (A2 := none) (n1 := 0) (c1 := 0) (n2 := 0) (c2 := 0) ⟨rfl, rfl, by omega, by omega⟩ TA.out.res TA.out.bel TA.out.n3
  have Q := Lib.hid (And.intro q0 (And.intro q1 q2))
  have HBB := Lib.hid hb
  clear q0 q1 q2 hs hb
  go_wp2_with fail
  obtain ⟨q0, q1, q2⟩ := Q.out
  refine bodyPost_ret (v := .tuple #[noRat, .int .i64 5]) (by simp [results, Tryd.results37, go_sem, q0, q1, q2, noRat]) rfl ?_
  rw [← HO.out]
  exact OutPost.err rfl (by omega) (by omega) HBB.out
set_option maxHeartbeats 2000000 in
set_option maxRecDepth 100000 in
theorem lGroot_false_odd (s1 : Bool) (N1 D1 : Nat) (k p : Nat) (h2 : 2 ≤ k) (h8 : k ≤ 8) (hp : p ≤ 256) (ho : k % 2 = 1) (r : Rat) (hr : grtQ (ratOf s1 N1 D1) k p false = r) (w : World) (v1 : Value) (h1 : RawV w v1 s1 N1 D1) (q : Rat) (hq : ratOf s1 N1 D1 = q) (hL : largeB s1 N1 D1 = false) :
    Calls Tryd.prog 37 #[v1, .int .i64 (k : Int), .int .i64 (p : Int), .bool false] w (OutPost w (give r)) := by
  have H1 := Lib.hid h1
  obtain ⟨A1, n1, c1, A1', n1', c1', rfl⟩ := h1.shape
  clear h1
  obtain ⟨M, hM, k1, k3, bM⟩ := start1 w (.bool s1) (.slice A1 n1 c1) (.slice A1' n1' c1') (.bool false) (.slice none 0 0) (.slice none 0 0) 24 24
  have TA : Hid (P1 w M w.heap.size (w.heap.size + 1) s1 A1 n1 c1 A1' n1' c1' N1 D1) := Lib.hid ⟨k1, ⟨_, _, _, NI.bool _, NI.slice _ _ _, NI.slice _ _ _, k3⟩, H1.out.below bM, bM, by omega, by omega⟩
  have HQ := Lib.hid hq
  have HL := Lib.hid hL
  have hf := (largeB_false hL).2.2
  rw [hq] at hf
  have HF := Lib.hid hf
  clear hf
  have hp1 : decide ((k : Int) < 2) = false := decide_eq_false (by omega)
  have hp1' : decide (k < 2) = false := decide_eq_false (by omega)
  have hp2 : decide (8 < (k : Int)) = false := decide_eq_false (by omega)
  have hp2' : decide (8 < k) = false := decide_eq_false (by omega)
  have HK2 := Lib.hid h2
  have HK8 := Lib.hid h8
  have hp3 : decide ((p : Int) < 0) = false := decide_eq_false (by omega)
  have hp4 : decide (256 < (p : Int)) = false := decide_eq_false (by omega)
  have hp4' : decide (256 < p) = false := decide_eq_false (by omega)
  have hm := tmod_two k
  have hm2 : IntKind.i64.wrap ((k % 2 : Nat) : Int) = ((k % 2 : Nat) : Int) := wraps_i64 _ (by omega) (by omega)
  have HPP := Lib.hid hp
  rw [ho] at hm hm2
  clear ho
  rw [hq] at hr
  have HR := Lib.hid hr
  have HKK := Lib.hid (show Rq 2000000 r by rw [← hr]; exact (grt_Rq false (by omega) h8 hp (fit_Rq HF.out (by omega))).le (by omega))
  clear hr
  obtain ⟨o, ho⟩ : ∃ o, give r = o := ⟨_, rfl⟩
  have HO := Lib.hid ho
  rw [ho]
  clear hq hL k1 k3 bM H1 ho
  go_enter Tryd.func37, Tryd.ntmps37
  go_upto_region 1 with (fail)
  rw [← hM]
  clear hM
  obtain ⟨x1, x2, x3, _⟩ := TA.out.cells
  go_wp2_with fail
  refine (largeV _ s1 N1 D1 _ TA.out.r1).mono ?_
  rw [HL.out]
  rintro e wa ⟨rfl, ba⟩
  replace TA := Lib.hid (TA.out.below ba)
  clear ba x1 x2 x3
  obtain ⟨x1, x2, x3, _⟩ := TA.out.cells
  go_wp2_with fail
  refine (ofQ _ _ _ _ q _ TA.out.r1 HL.out HQ.out).mono ?_
  rintro e wc ⟨t1, B1, m1, e1, B1', m1', e1', rfl, i1, bc⟩
  have bq := below_step bc bc.size (below_alloc wc (.cells #[.bool t1, .slice B1 m1 e1, .slice B1' m1' e1'] 39))
  have IR := Lib.hid (i1.out.below (below_alloc wc (.cells #[.bool t1, .slice B1 m1 e1, .slice B1' m1' e1'] 39)))
  have HZ := Lib.hid (Box.new wc (.bool t1) (.slice B1 m1 e1) (.slice B1' m1' e1') 39)
  replace TA := Lib.hid (TA.out.below bq)
  obtain ⟨w2, hw2⟩ : ∃ v, wc.alloc (.cells #[.bool t1, .slice B1 m1 e1, .slice B1' m1' e1'] 39) = v := ⟨_, rfl⟩
  clear bc bq i1 x1 x2 x3
  go_upto_region 6 with (fail)
  rw [hw2] at IR HZ TA
  try rw [hw2]
  clear hw2
  obtain ⟨x1, x2, x3, _, _, _⟩ := HZ.out.cells
  go_wp2_with fail
  refine (qRootBelow q k p HK2.out HK8.out HPP.out (fit_Rq HF.out (by omega)) r HR.out _ _ IR.out).mono ?_
  rintro e wb ⟨t2, B2, m2, e2, B2', m2', e2', rfl, i2, bb⟩
  replace TA := Lib.hid (TA.out.below bb)
  clear bb
  go_wp2_with fail
  refine (qDone _ _ _ i2.out HKK.out).mono ?_
  rintro e we ⟨s9, A9, n9, c9, A9', n9', c9', k9, rfl, h9, b9⟩
  replace TA := Lib.hid (TA.out.below b9)
  obtain ⟨z1, z2, z3, hz1, hz2, hz3, k1, k2, k3⟩ := TA.out.res.cells
  obtain ⟨q0, q1, q2, hs, hb⟩ := OutIs.stored h9 TA.out.res TA.out.bel TA.out.n3
  have Q := Lib.hid (And.intro q0 (And.intro q1 q2))
  have HS := Lib.hid hs
  have HBB := Lib.hid hb
  clear q0 q1 q2 hs hb h9 b9
  go_wp2
  obtain ⟨q0, q1, q2⟩ := Q.out
  refine bodyPost_ret (v := .tuple #[.agg #[.bool s9, .slice A9 n9 c9, .slice A9' n9' c9'], .int .i64 k9]) (by simp [results, Tryd.results37, go_sem, q0, q1, q2]) rfl ?_
  rw [← HO.out]
  exact ⟨_, _, _, _, _, _, _, _, rfl, HS.out, HBB.out⟩
set_option maxHeartbeats 2000000 in
set_option maxRecDepth 100000 in
theorem lGroot_false_even (s1 : Bool) (N1 D1 : Nat) (k p : Nat) (h2 : 2 ≤ k) (h8 : k ≤ 8) (hp : p ≤ 256) (hs : ng (ratOf s1 N1 D1) = false) (he : k % 2 = 0) (r : Rat) (hr : grtQ (ratOf s1 N1 D1) k p false = r) (w : World) (v1 : Value) (h1 : RawV w v1 s1 N1 D1) (q : Rat) (hq : ratOf s1 N1 D1 = q) (hL : largeB s1 N1 D1 = false) :
    Calls Tryd.prog 37 #[v1, .int .i64 (k : Int), .int .i64 (p : Int), .bool false] w (OutPost w (give r)) := by
  have H1 := Lib.hid h1
  obtain ⟨A1, n1, c1, A1', n1', c1', rfl⟩ := h1.shape
  clear h1
  obtain ⟨M, hM, k1, k3, bM⟩ := start1 w (.bool s1) (.slice A1 n1 c1) (.slice A1' n1' c1') (.bool false) (.slice none 0 0) (.slice none 0 0) 24 24
  have TA : Hid (P1 w M w.heap.size (w.heap.size + 1) s1 A1 n1 c1 A1' n1' c1' N1 D1) := Lib.hid ⟨k1, ⟨_, _, _, NI.bool _, NI.slice _ _ _, NI.slice _ _ _, k3⟩, H1.out.below bM, bM, by omega, by omega⟩
  have HQ := Lib.hid hq
  have HL := Lib.hid hL
  have hf := (largeB_false hL).2.2
  rw [hq] at hf
  have HF := Lib.hid hf
  clear hf
  have hp1 : decide ((k : Int) < 2) = false := decide_eq_false (by omega)
  have hp1' : decide (k < 2) = false := decide_eq_false (by omega)
  have hp2 : decide (8 < (k : Int)) = false := decide_eq_false (by omega)
  have hp2' : decide (8 < k) = false := decide_eq_false (by omega)
  have HK2 := Lib.hid h2
  have HK8 := Lib.hid h8
  have hp3 : decide ((p : Int) < 0) = false := decide_eq_false (by omega)
  have hp4 : decide (256 < (p : Int)) = false := decide_eq_false (by omega)
  have hp4' : decide (256 < p) = false := decide_eq_false (by omega)
  have hm := tmod_two k
  have hm2 : IntKind.i64.wrap ((k % 2 : Nat) : Int) = ((k % 2 : Nat) : Int) := wraps_i64 _ (by omega) (by omega)
  have HPP := Lib.hid hp
  obtain ⟨cc, hcc⟩ : ∃ c, sgnI (ng q) q.num.natAbs = c := ⟨_, rfl⟩
  have HSG := Lib.hid hcc
  have hc0 : decide (cc < 0) = ng q := by rw [← hcc]; exact sgnI_neg q
  rw [hq] at hs
  rw [hs] at hc0
  clear hcc hs
  rw [he] at hm hm2
  clear he
  rw [hq] at hr
  have HR := Lib.hid hr
  have HKK := Lib.hid (show Rq 2000000 r by rw [← hr]; exact (grt_Rq false (by omega) h8 hp (fit_Rq HF.out (by omega))).le (by omega))
  clear hr
  obtain ⟨o, ho⟩ : ∃ o, give r = o := ⟨_, rfl⟩
  have HO := Lib.hid ho
  rw [ho]
  clear hq hL k1 k3 bM H1 ho
  go_enter Tryd.func37, Tryd.ntmps37
  go_upto_region 1 with (fail)
  rw [← hM]
  clear hM
  obtain ⟨x1, x2, x3, _⟩ := TA.out.cells
  go_wp2_with fail
  refine (largeV _ s1 N1 D1 _ TA.out.r1).mono ?_
  rw [HL.out]
  rintro e wa ⟨rfl, ba⟩
  replace TA := Lib.hid (TA.out.below ba)
  clear ba x1 x2 x3
  obtain ⟨x1, x2, x3, _⟩ := TA.out.cells
  go_wp2_with fail
  refine (ofQ _ _ _ _ q _ TA.out.r1 HL.out HQ.out).mono ?_
  rintro e wc ⟨t1, B1, m1, e1, B1', m1', e1', rfl, i1, bc⟩
  have bq := below_step bc bc.size (below_alloc wc (.cells #[.bool t1, .slice B1 m1 e1, .slice B1' m1' e1'] 39))
  have IR := Lib.hid (i1.out.below (below_alloc wc (.cells #[.bool t1, .slice B1 m1 e1, .slice B1' m1' e1'] 39)))
  have HZ := Lib.hid (Box.new wc (.bool t1) (.slice B1 m1 e1) (.slice B1' m1' e1') 39)
  replace TA := Lib.hid (TA.out.below bq)
  obtain ⟨w2, hw2⟩ : ∃ v, wc.alloc (.cells #[.bool t1, .slice B1 m1 e1, .slice B1' m1' e1'] 39) = v := ⟨_, rfl⟩
  clear bc bq i1 x1 x2 x3
  go_upto_region 6 with (fail)
  rw [hw2] at IR HZ TA
  try rw [hw2]
  clear hw2
  obtain ⟨x1, x2, x3, _, _, _⟩ := HZ.out.cells
  go_wp2_with fail
  refine (qSgn q _ _ IR.out).mono ?_
  rw [HSG.out]
  rintro e wb ⟨rfl, bb⟩
  replace TA := Lib.hid (TA.out.below bb)
  replace IR := Lib.hid (IR.out.below bb)
  replace HZ := Lib.hid (HZ.out.below bb)
  clear bb x1 x2 x3
  obtain ⟨x1, x2, x3, _, _, _⟩ := HZ.out.cells
  go_wp2_with fail
  refine (qRootBelow q k p HK2.out HK8.out HPP.out (fit_Rq HF.out (by omega)) r HR.out _ _ IR.out).mono ?_
  rintro e wb ⟨t2, B2, m2, e2, B2', m2', e2', rfl, i2, bb⟩
  replace TA := Lib.hid (TA.out.below bb)
  clear bb
  go_wp2_with fail
  refine (qDone _ _ _ i2.out HKK.out).mono ?_
  rintro e we ⟨s9, A9, n9, c9, A9', n9', c9', k9, rfl, h9, b9⟩
  replace TA := Lib.hid (TA.out.below b9)
  obtain ⟨z1, z2, z3, hz1, hz2, hz3, k1, k2, k3⟩ := TA.out.res.cells
  obtain ⟨q0, q1, q2, hs, hb⟩ := OutIs.stored h9 TA.out.res TA.out.bel TA.out.n3
  have Q := Lib.hid (And.intro q0 (And.intro q1 q2))
  have HS := Lib.hid hs
  have HBB := Lib.hid hb
  clear q0 q1 q2 hs hb h9 b9
  go_wp2
  obtain ⟨q0, q1, q2⟩ := Q.out
  refine bodyPost_ret (v := .tuple #[.agg #[.bool s9, .slice A9 n9 c9, .slice A9' n9' c9'], .int .i64 k9]) (by simp [results, Tryd.results37, go_sem, q0, q1, q2]) rfl ?_
  rw [← HO.out]
  exact ⟨_, _, _, _, _, _, _, _, rfl, HS.out, HBB.out⟩
set_option maxHeartbeats 2000000 in
set_option maxRecDepth 100000 in
theorem lGroot_true_odd (s1 : Bool) (N1 D1 : Nat) (k p : Nat) (h2 : 2 ≤ k) (h8 : k ≤ 8) (hp : p ≤ 256) (ho : k % 2 = 1) (r : Rat) (hr : grtQ (ratOf s1 N1 D1) k p true = r) (w : World) (v1 : Value) (h1 : RawV w v1 s1 N1 D1) (q : Rat) (hq : ratOf s1 N1 D1 = q) (hL : largeB s1 N1 D1 = false) :
    Calls Tryd.prog 37 #[v1, .int .i64 (k : Int), .int .i64 (p : Int), .bool true] w (OutPost w (give r)) := by
  have H1 := Lib.hid h1
  obtain ⟨A1, n1, c1, A1', n1', c1', rfl⟩ := h1.shape
  clear h1
  obtain ⟨M, hM, k1, k3, bM⟩ := start1 w (.bool s1) (.slice A1 n1 c1) (.slice A1' n1' c1') (.bool false) (.slice none 0 0) (.slice none 0 0) 24 24
  have TA : Hid (P1 w M w.heap.size (w.heap.size + 1) s1 A1 n1 c1 A1' n1' c1' N1 D1) := Lib.hid ⟨k1, ⟨_, _, _, NI.bool _, NI.slice _ _ _, NI.slice _ _ _, k3⟩, H1.out.below bM, bM, by omega, by omega⟩
  have HQ := Lib.hid hq
  have HL := Lib.hid hL
  have hf := (largeB_false hL).2.2
  rw [hq] at hf
  have HF := Lib.hid hf
  clear hf
  have hp1 : decide ((k : Int) < 2) = false := decide_eq_false (by omega)
  have hp1' : decide (k < 2) = false := decide_eq_false (by omega)
  have hp2 : decide (8 < (k : Int)) = false := decide_eq_false (by omega)
  have hp2' : decide (8 < k) = false := decide_eq_false (by omega)
  have HK2 := Lib.hid h2
  have HK8 := Lib.hid h8
  have hp3 : decide ((p : Int) < 0) = false := decide_eq_false (by omega)
  have hp4 : decide (256 < (p : Int)) = false := decide_eq_false (by omega)
  have hp4' : decide (256 < p) = false := decide_eq_false (by omega)
  have hm := tmod_two k
  have hm2 : IntKind.i64.wrap ((k % 2 : Nat) : Int) = ((k % 2 : Nat) : Int) := wraps_i64 _ (by omega) (by omega)
  have HPP := Lib.hid hp
  rw [ho] at hm hm2
  clear ho
  rw [hq] at hr
  have HR := Lib.hid hr
  have HKK := Lib.hid (show Rq 2000000 r by rw [← hr]; exact (grt_Rq true (by omega) h8 hp (fit_Rq HF.out (by omega))).le (by omega))
  clear hr
  obtain ⟨o, ho⟩ : ∃ o, give r = o := ⟨_, rfl⟩
  have HO := Lib.hid ho
  rw [ho]
  clear hq hL k1 k3 bM H1 ho
  go_enter Tryd.func37, Tryd.ntmps37
  go_upto_region 1 with (fail)
  rw [← hM]
  clear hM
  obtain ⟨x1, x2, x3, _⟩ := TA.out.cells
  go_wp2_with fail
  refine (largeV _ s1 N1 D1 _ TA.out.r1).mono ?_
  rw [HL.out]
  rintro e wa ⟨rfl, ba⟩
  replace TA := Lib.hid (TA.out.below ba)
  clear ba x1 x2 x3
  obtain ⟨x1, x2, x3, _⟩ := TA.out.cells
  go_wp2_with fail
  refine (ofQ _ _ _ _ q _ TA.out.r1 HL.out HQ.out).mono ?_
  rintro e wc ⟨t1, B1, m1, e1, B1', m1', e1', rfl, i1, bc⟩
  have bq := below_step bc bc.size (below_alloc wc (.cells #[.bool t1, .slice B1 m1 e1, .slice B1' m1' e1'] 39))
  have IR := Lib.hid (i1.out.below (below_alloc wc (.cells #[.bool t1, .slice B1 m1 e1, .slice B1' m1' e1'] 39)))
  have HZ := Lib.hid (Box.new wc (.bool t1) (.slice B1 m1 e1) (.slice B1' m1' e1') 39)
  replace TA := Lib.hid (TA.out.below bq)
  obtain ⟨w2, hw2⟩ : ∃ v, wc.alloc (.cells #[.bool t1, .slice B1 m1 e1, .slice B1' m1' e1'] 39) = v := ⟨_, rfl⟩
  clear bc bq i1 x1 x2 x3
  go_upto_region 6 with (fail)
  rw [hw2] at IR HZ TA
  try rw [hw2]
  clear hw2
  obtain ⟨x1, x2, x3, _, _, _⟩ := HZ.out.cells
  go_wp2_with fail
  refine (qRootAbove q k p HK2.out HK8.out HPP.out (fit_Rq HF.out (by omega)) r HR.out _ _ IR.out).mono ?_
  rintro e wb ⟨t2, B2, m2, e2, B2', m2', e2', rfl, i2, bb⟩
  replace TA := Lib.hid (TA.out.below bb)
  clear bb
  go_wp2_with fail
  refine (qDone _ _ _ i2.out HKK.out).mono ?_
  rintro e we ⟨s9, A9, n9, c9, A9', n9', c9', k9, rfl, h9, b9⟩
  replace TA := Lib.hid (TA.out.below b9)
  obtain ⟨z1, z2, z3, hz1, hz2, hz3, k1, k2, k3⟩ := TA.out.res.cells
  obtain ⟨q0, q1, q2, hs, hb⟩ := OutIs.stored h9 TA.out.res TA.out.bel TA.out.n3
  have Q := Lib.hid (And.intro q0 (And.intro q1 q2))
  have HS := Lib.hid hs
  have HBB := Lib.hid hb
  clear q0 q1 q2 hs hb h9 b9
  go_wp2
  obtain ⟨q0, q1, q2⟩ := Q.out
  refine bodyPost_ret (v := .tuple #[.agg #[.bool s9, .slice A9 n9 c9, .slice A9' n9' c9'], .int .i64 k9]) (by simp [results, Tryd.results37, go_sem, q0, q1, q2]) rfl ?_
  rw [← HO.out]
  exact ⟨_, _, _, _, _, _, _, _, rfl, HS.out, HBB.out⟩
set_option maxHeartbeats 2000000 in
set_option maxRecDepth 100000 in
theorem lGroot_true_even (s1 : Bool) (N1 D1 : Nat) (k p : Nat) (h2 : 2 ≤ k) (h8 : k ≤ 8) (hp : p ≤ 256) (hs : ng (ratOf s1 N1 D1) = false) (he : k % 2 = 0) (r : Rat) (hr : grtQ (ratOf s1 N1 D1) k p true = r) (w : World) (v1 : Value) (h1 : RawV w v1 s1 N1 D1) (q : Rat) (hq : ratOf s1 N1 D1 = q) (hL : largeB s1 N1 D1 = false) :
    Calls Tryd.prog 37 #[v1, .int .i64 (k : Int), .int .i64 (p : Int), .bool true] w (OutPost w (give r)) := by
  have H1 := Lib.hid h1
  obtain ⟨A1, n1, c1, A1', n1', c1', rfl⟩ := h1.shape
  clear h1
  obtain ⟨M, hM, k1, k3, bM⟩ := start1 w (.bool s1) (.slice A1 n1 c1) (.slice A1' n1' c1') (.bool false) (.slice none 0 0) (.slice none 0 0) 24 24
  have TA : Hid (P1 w M w.heap.size (w.heap.size + 1) s1 A1 n1 c1 A1' n1' c1' N1 D1) := Lib.hid ⟨k1, ⟨_, _, _, NI.bool _, NI.slice _ _ _, NI.slice _ _ _, k3⟩, H1.out.below bM, bM, by omega, by omega⟩
  have HQ := Lib.hid hq
  have HL := Lib.hid hL
  have hf := (largeB_false hL).2.2
  rw [hq] at hf
  have HF := Lib.hid hf
  clear hf
  have hp1 : decide ((k : Int) < 2) = false := decide_eq_false (by omega)
  have hp1' : decide (k < 2) = false := decide_eq_false (by omega)
  have hp2 : decide (8 < (k : Int)) = false := decide_eq_false (by omega)
  have hp2' : decide (8 < k) = false := decide_eq_false (by omega)
  have HK2 := Lib.hid h2
  have HK8 := Lib.hid h8
  have hp3 : decide ((p : Int) < 0) = false := decide_eq_false (by omega)
  have hp4 : decide (256 < (p : Int)) = false := decide_eq_false (by omega)
  have hp4' : decide (256 < p) = false := decide_eq_false (by omega)
  have hm := tmod_two k
  have hm2 : IntKind.i64.wrap ((k % 2 : Nat) : Int) = ((k % 2 : Nat) : Int) := wraps_i64 _ (by omega) (by omega)
  have HPP := Lib.hid hp
  obtain ⟨cc, hcc⟩ : ∃ c, sgnI (ng q) q.num.natAbs = c := ⟨_, rfl⟩
  have HSG := Lib.hid hcc
  have hc0 : decide (cc < 0) = ng q := by rw [← hcc]; exact sgnI_neg q
  rw [hq] at hs
  rw [hs] at hc0
  clear hcc hs
  rw [he] at hm hm2
  clear he
  rw [hq] at hr
  have HR := Lib.hid hr
  have HKK := Lib.hid (show Rq 2000000 r by rw [← hr]; exact (grt_Rq true (by omega) h8 hp (fit_Rq HF.out (by omega))).le (by omega))
  clear hr
  obtain ⟨o, ho⟩ : ∃ o, give r = o := ⟨_, rfl⟩
  have HO := Lib.hid ho
  rw [ho]
  clear hq hL k1 k3 bM H1 ho
  go_enter Tryd.func37, Tryd.ntmps37
  go_upto_region 1 with (fail)
  rw [← hM]
  clear hM
  obtain ⟨x1, x2, x3, _⟩ := TA.out.cells
  go_wp2_with fail
  refine (largeV _ s1 N1 D1 _ TA.out.r1).mono ?_
  rw [HL.out]
  rintro e wa ⟨rfl, ba⟩
  replace TA := Lib.hid (TA.out.below ba)
  clear ba x1 x2 x3
  obtain ⟨x1, x2, x3, _⟩ := TA.out.cells
  go_wp2_with fail
  refine (ofQ _ _ _ _ q _ TA.out.r1 HL.out HQ.out).mono ?_
  rintro e wc ⟨t1, B1, m1, e1, B1', m1', e1', rfl, i1, bc⟩
  have bq := below_step bc bc.size (below_alloc wc (.cells #[.bool t1, .slice B1 m1 e1, .slice B1' m1' e1'] 39))
  have IR := Lib.hid (i1.out.below (below_alloc wc (.cells #[.bool t1, .slice B1 m1 e1, .slice B1' m1' e1'] 39)))
  have HZ := Lib.hid (Box.new wc (.bool t1) (.slice B1 m1 e1) (.slice B1' m1' e1') 39)
  replace TA := Lib.hid (TA.out.below bq)
  obtain ⟨w2, hw2⟩ : ∃ v, wc.alloc (.cells #[.bool t1, .slice B1 m1 e1, .slice B1' m1' e1'] 39) = v := ⟨_, rfl⟩
  clear bc bq i1 x1 x2 x3
  go_upto_region 6 with (fail)
  rw [hw2] at IR HZ TA
  try rw [hw2]
  clear hw2
  obtain ⟨x1, x2, x3, _, _, _⟩ := HZ.out.cells
  go_wp2_with fail
  refine (qSgn q _ _ IR.out).mono ?_
  rw [HSG.out]
  rintro e wb ⟨rfl, bb⟩
  replace TA := Lib.hid (TA.out.below bb)
  replace IR := Lib.hid (IR.out.below bb)
  replace HZ := Lib.hid (HZ.out.below bb)
  clear bb x1 x2 x3
  obtain ⟨x1, x2, x3, _, _, _⟩ := HZ.out.cells
  go_wp2_with fail
  refine (qRootAbove q k p HK2.out HK8.out HPP.out (fit_Rq HF.out (by omega)) r HR.out _ _ IR.out).mono ?_
  rintro e wb ⟨t2, B2, m2, e2, B2', m2', e2', rfl, i2, bb⟩
  replace TA := Lib.hid (TA.out.below bb)
  clear bb
  go_wp2_with fail
  refine (qDone _ _ _ i2.out HKK.out).mono ?_
  rintro e we ⟨s9, A9, n9, c9, A9', n9', c9', k9, rfl, h9, b9⟩
  replace TA := Lib.hid (TA.out.below b9)
  obtain ⟨z1, z2, z3, hz1, hz2, hz3, k1, k2, k3⟩ := TA.out.res.cells
  obtain ⟨q0, q1, q2, hs, hb⟩ := OutIs.stored h9 TA.out.res TA.out.bel TA.out.n3
  have Q := Lib.hid (And.intro q0 (And.intro q1 q2))
  have HS := Lib.hid hs
  have HBB := Lib.hid hb
  clear q0 q1 q2 hs hb h9 b9
  go_wp2
  obtain ⟨q0, q1, q2⟩ := Q.out
  refine bodyPost_ret (v := .tuple #[.agg #[.bool s9, .slice A9 n9 c9, .slice A9' n9' c9'], .int .i64 k9]) (by simp [results, Tryd.results37, go_sem, q0, q1, q2]) rfl ?_
  rw [← HO.out]
  exact ⟨_, _, _, _, _, _, _, _, rfl, HS.out, HBB.out⟩
theorem lGridRoot (s1 : Bool) (N1 D1 : Nat) (n p : Int) (up : Bool) (w : World) (v1 : Value) (h1 : RawV w v1 s1 N1 D1) :
    Calls Tryd.prog 37 #[v1, .int .i64 n, .int .i64 p, .bool up] w (OutPost w (grootOut (largeB s1 N1 D1) n p up (ratOf s1 N1 D1))) := by
  unfold grootOut
  by_cases h : largeB s1 N1 D1 = true
  · rw [if_pos h]; exact lGroot_large s1 N1 D1 n p up w v1 h1 _ rfl h
  · rw [if_neg h]
    have h' : largeB s1 N1 D1 = false := by simpa using h
    by_cases c1 : n < 2
    · rw [if_pos (Or.inl c1)]; exact lGroot_n2 s1 N1 D1 n p up c1 w v1 h1 _ rfl h'
    · by_cases c2 : 8 < n
      · rw [if_pos (Or.inr (Or.inl c2))]; exact lGroot_n8 s1 N1 D1 n p up c2 w v1 h1 _ rfl h'
      · by_cases c3 : p < 0
        · rw [if_pos (Or.inr (Or.inr (Or.inl c3)))]; exact lGroot_p0 s1 N1 D1 n p up (by omega) (by omega) c3 w v1 h1 _ rfl h'
        · by_cases c4 : 256 < p
          · rw [if_pos (Or.inr (Or.inr (Or.inr c4)))]; exact lGroot_p256 s1 N1 D1 n p up (by omega) (by omega) c4 w v1 h1 _ rfl h'
          · rw [if_neg (by omega)]
            obtain ⟨k, rfl⟩ : ∃ k : Nat, n = (k : Int) := ⟨n.toNat, by omega⟩
            obtain ⟨j, rfl⟩ : ∃ j : Nat, p = (j : Int) := ⟨p.toNat, by omega⟩
            rw [Int.toNat_natCast, Int.toNat_natCast]
            have h2 : 2 ≤ k := by omega
            have h8 : k ≤ 8 := by omega
            have hj : j ≤ 256 := by omega
            by_cases he : ng (ratOf s1 N1 D1) = true ∧ k % 2 = 0
            · rw [if_pos he]; exact lGroot_dom s1 N1 D1 k j h2 h8 hj up he.1 he.2 w v1 h1 _ rfl h'
            · rw [if_neg he]
              rcases Nat.mod_two_eq_zero_or_one k with h0 | h0
              · have hs : ng (ratOf s1 N1 D1) = false := by
                  cases hs : ng (ratOf s1 N1 D1)
                  · rfl
                  · exact absurd ⟨hs, h0⟩ he
                cases up
                · exact lGroot_false_even s1 N1 D1 k j h2 h8 hj hs h0 _ rfl w v1 h1 _ rfl h'
                · exact lGroot_true_even s1 N1 D1 k j h2 h8 hj hs h0 _ rfl w v1 h1 _ rfl h'
              · cases up
                · exact lGroot_false_odd s1 N1 D1 k j h2 h8 hj h0 _ rfl w v1 h1 _ rfl h'
                · exact lGroot_true_odd s1 N1 D1 k j h2 h8 hj h0 _ rfl w v1 h1 _ rfl h'
end Go.Proofs.YtfmhplcpejmkhabDoor

namespace Go.Proofs.YtfmhplcpejmkhabDoor
open Go.RowKit Dig
set_option linter.unusedVariables false
set_option linter.unusedSimpArgs false
theorem W_single {n : Nat} (h0 : n ≠ 0) (h : n < 4294967296) : W n = [(n : Int)] := by
  unfold W
  rw [dig_pos B32_two h0]
  have h1 : n < B32 := by unfold B32; exact h
  rw [Nat.div_eq_of_lt h1, dig_zero, Nat.mod_eq_of_lt h1]
theorem half_third : ratOf false 1 2 + ratOf false 1 3 = mkRat 5 6 := by
  show mkRat 1 2 + mkRat 1 3 = mkRat 5 6
  rw [Rat.mkRat_add_mkRat _ _ (by omega) (by omega)]
  rfl
theorem five_sixths : ng (mkRat 5 6) = false ∧ (mkRat 5 6).num.natAbs = 5 ∧ (mkRat 5 6).den = 6 := by
  have h1 : (mkRat 5 6).num = 5 := by rw [Rat.num_mkRat, if_neg (by omega)]; rfl
  have h2 : (mkRat 5 6).den = 6 := by rw [Rat.den_mkRat, if_neg (by omega)]; rfl
  refine ⟨?_, ?_, h2⟩
  · unfold ng; rw [h1]; rfl
  · rw [h1]; rfl
theorem fit_half (d : Nat) (h0 : d ≠ 0) (h : d < 4294967296) : fitQ (ratOf false 1 d) := by
  have e : ratOf false 1 d = mkRat 1 d := by unfold ratOf sg; rw [if_neg h0]; rfl
  rw [e]
  have h1 : (mkRat 1 d).num.natAbs ≤ 1 := by
    rw [Rat.num_mkRat, if_neg h0]; simp
  have h2 : (mkRat 1 d).den ≤ d := by
    rw [Rat.den_mkRat, if_neg h0]; exact Nat.div_le_self _ _
  exact ⟨Nat.le_trans (W_le_one (by omega)) (by omega), Nat.le_trans (W_le_one (by omega)) (by omega)⟩
theorem small_large (d : Nat) (h0 : d ≠ 0) (h : d < 4294967296) : largeB false 1 d = false := by
  unfold largeB
  rw [decide_eq_true ⟨Nat.le_trans (W_le_one (by omega)) (by omega), Nat.le_trans (W_le_one (by omega)) (by omega), fit_half d h0 h⟩]
  rfl
theorem rd_one (w : World) (g : Nat) (x : Int) (h : w.cell? ⟨g, 0, none⟩ = some (.int .u32 x)) : Rd w (some ⟨g, 0, none⟩) 1 [x] :=
  ⟨by simp, by omega, fun j hj => by
    have : j = 0 := by simpa using hj
    subst this
    exact ⟨_, rfl, by simpa [Addr.add, rd] using h⟩⟩
theorem raw_one {w : World} {g g' : Nat} {d : Nat} (h1 : w.cell? ⟨g, 0, none⟩ = some (.int .u32 1)) (h2 : w.cell? ⟨g', 0, none⟩ = some (.int .u32 d)) (h : d < 4294967296) :
    RawV w (.agg #[.bool false, .slice (some ⟨g, 0, none⟩) 1 1, .slice (some ⟨g', 0, none⟩) 1 1]) false 1 d := by
  refine ⟨_, _, [1], _, _, [(d : Int)], rfl, rd_one _ _ _ h1, rd_one _ _ _ h2, ?_, ?_, by simp [val], by simp [val], by simp, by simp⟩
  · exact Ok.cons (by omega) (by rw [B32_cast]; omega) (Ok.nil _)
  · exact Ok.cons (by omega) (by rw [B32_cast]; omega) (Ok.nil _)
theorem four_new (w : World) (a b c d : Value) (t : TypeId) : ∃ M, M = ((((w.alloc (.cells #[a] t)).alloc (.cells #[b] t)).alloc (.cells #[c] t)).alloc (.cells #[d] t)) ∧
    M.cell? ⟨w.heap.size, 0, none⟩ = some a ∧ M.cell? ⟨w.heap.size + 1, 0, none⟩ = some b ∧ M.cell? ⟨w.heap.size + 1 + 1, 0, none⟩ = some c ∧ M.cell? ⟨w.heap.size + 1 + 1 + 1, 0, none⟩ = some d ∧ Below w.heap.size w M := by
  refine ⟨_, rfl, ?_⟩
  have key : ∀ (w : World) (x : Value), (w.alloc (.cells #[x] t)).cell? ⟨w.heap.size, 0, none⟩ = some x ∧ Below w.heap.size w (w.alloc (.cells #[x] t)) ∧ (w.alloc (.cells #[x] t)).heap.size = w.heap.size + 1 := by
    intro w x
    refine ⟨?_, below_alloc _ _, by simp⟩
    exact (cell_of_row _ _ 0 _ _ (0, 0) (heap_alloc_new w (.cells #[x] t))).trans rfl
  obtain ⟨a1, b1, s1⟩ := key w a
  generalize w.alloc (.cells #[a] t) = w1 at *
  obtain ⟨a2, b2, s2⟩ := key w1 b
  generalize w1.alloc (.cells #[b] t) = w2 at *
  obtain ⟨a3, b3, s3⟩ := key w2 c
  generalize w2.alloc (.cells #[c] t) = w3 at *
  obtain ⟨a4, b4, s4⟩ := key w3 d
  generalize w3.alloc (.cells #[d] t) = w4 at *
  rw [s1] at a2 s2
  rw [s2] at a3 s3
  rw [s3] at a4
  exact ⟨cell_later b4 (cell_later b3 (cell_later b2 a1)), cell_later b4 (cell_later b3 a2), cell_later b4 a3, a4, below_step b1 b1.size (below_step b2 b2.size (below_step b3 b3.size b4))⟩
set_option maxHeartbeats 1000000 in
set_option maxRecDepth 100000 in
theorem lAwake (w : World) (hT : Tab w) : Calls Tryd.prog 17 #[] w fun e w' => e = .returned (.bool true) ∧ Below w.heap.size w w' := by
  obtain ⟨M, hM, k1, k2, k3, k4, bM⟩ := four_new w (.int .u32 1) (.int .u32 2) (.int .u32 1) (.int .u32 3) 72
  have C := Lib.hid (nAdd false 1 2 false 1 3 M _ _ (raw_one k1 k2 (by omega)) (raw_one k3 k4 (by omega)) (hT.below bM))
  rw [small_large 2 (by omega) (by omega), small_large 3 (by omega) (by omega), half_third] at C
  have BM := Lib.hid bM
  clear k1 k2 k3 k4 bM hT
  go_enter Tryd.func17, Tryd.ntmps17
  go_wp2_with fail
  rw [← hM]
  clear hM
  refine C.out.mono ?_
  rintro e wa ⟨s9, A9, n9, c9, A9', n9', c9', k9, rfl, h9, b9⟩
  have BA := Lib.hid (below_step BM.out BM.out.size b9)
  have hf : fitQ (mkRat 5 6) := by
    obtain ⟨_, h2, h3⟩ := five_sixths
    unfold fitQ
    rw [h2, h3]
    exact ⟨Nat.le_trans (W_le_one (by omega)) (by omega), Nat.le_trans (W_le_one (by omega)) (by omega)⟩
  have hg : (if (false || false) = true then Out.err 1 else give (mkRat 5 6)) = .ok (mkRat 5 6) := by
    show give (mkRat 5 6) = _
    unfold give
    rw [if_pos hf]
  rw [hg] at h9
  obtain ⟨rfl, ⟨B1, b1, B2, b2, e, r1, r2⟩, _⟩ := h9
  obtain ⟨h1, h2, h3⟩ := five_sixths
  rw [h1, h2, h3] at e
  rw [h2, W_single (by omega) (by omega)] at r1
  rw [h3, DW, if_neg (by omega), W_single (by omega) (by omega)] at r2
  rw [W_single (by omega) (by omega), DW, if_neg (by omega), W_single (by omega) (by omega)] at e
  obtain ⟨p1, rfl⟩ := r1.some_ (by simp)
  obtain ⟨p2, rfl⟩ := r2.some_ (by simp)
  simp only [Value.agg.injEq, Array.mk.injEq, List.cons.injEq, Value.bool.injEq, Value.slice.injEq, and_true, List.length_cons, List.length_nil] at e
  obtain ⟨rfl, ⟨rfl, rfl, rfl⟩, rfl, rfl, rfl⟩ := e
  have q1 := r1.cell 0 (by simp)
  have q2 := r2.cell 0 (by simp)
  have e1 := r1.le
  have e2 := r2.le
  have e3 := r1.max
  have e4 := r2.max
  replace q1 : wa.cell? p1 = some (.int .u32 5) := by simpa [Addr.add, rd] using q1
  replace q2 : wa.cell? p2 = some (.int .u32 6) := by simpa [Addr.add, rd] using q2
  simp only [List.length_cons, List.length_nil] at e1 e2
  have ba := below_alloc wa (.cells #[.bool false, .slice (some p1) 1 c9, .slice (some p2) 1 c9'] 24)
  have q3 := cell_later ba q1
  have q4 := cell_later ba q2
  have BB := Lib.hid (below_step BA.out BA.out.size ba)
  clear r1 r2 ba C
  go_wp2
  go_ret
  exact ⟨rfl, BB.out⟩
end Go.Proofs.YtfmhplcpejmkhabDoor
