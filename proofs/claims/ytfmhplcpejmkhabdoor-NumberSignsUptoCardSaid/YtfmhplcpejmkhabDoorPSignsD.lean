/-
  The walk of the statement NumberCanons. Under the premise that the table of math/bits lies as its initialiser lays it.
  The walk of the statement NumberSigns. Under the premise that the table of math/bits lies as its initialiser lays it.
  From a row's reading to the walks' premises: a number as it comes in, the table of math/bits, and what an answer 'true' over untouched arguments gives.
  The statement NumberSignsUptoCardSaid: the row, and the card over it. Conditions: the walks' none but what the row's reading and its listed table give.
-/
import Derived.Test.YtfmhplcpejmkhabDoorCards
import Derived.Test.YtfmhplcpejmkhabDoorTie
import Derived.WalkKit
import Derived.ProofKit
import Derived.OpenShut
import Derived.Carry
import Derived.Deep.DeepHandedRow
import Derived.Lib.LaidTab
import Derived.Lib.SmallJoins
import Derived.ChangeSlices
import Derived.Test.YtfmhplcpejmkhabDoorPSignsC
namespace Go.Proofs.YtfmhplcpejmkhabDoor
open Go.RowKit Dig
set_option linter.unusedVariables false
set_option linter.unusedSimpArgs false
/-- a value and a result in variables -/
structure XO (w M : World) (g1 : Nat) (s1 : Bool) (A1 : Option Addr) (n1 c1 : Nat) (B1 : Option Addr) (m1 d1 N1 D1 : Nat) (g2 : Nat) (s2 : Bool) (A2 : Option Addr) (n2 c2 : Nat) (B2 : Option Addr) (m2 d2 : Nat) (k : Int) (o : Out) : Prop where
  f : Box M g1 (.bool s1) (.slice A1 n1 c1) (.slice B1 m1 d1) 24
  g : Box M g2 (.bool s2) (.slice A2 n2 c2) (.slice B2 m2 d2) 24
  r1 : RawV M (.agg #[.bool s1, .slice A1 n1 c1, .slice B1 m1 d1]) s1 N1 D1
  r2 : OutIs M o (.agg #[.bool s2, .slice A2 n2 c2, .slice B2 m2 d2]) k
  tab : Tab M
  bel : Below w.heap.size w M
section
variable {w M M' : World} {g1 g2 : Nat} {s1 : Bool} {A1 : Option Addr} {n1 c1 : Nat} {B1 : Option Addr} {m1 d1 N1 D1 : Nat} {s2 : Bool} {A2 : Option Addr} {n2 c2 : Nat} {B2 : Option Addr} {m2 d2 : Nat} {k : Int} {o : Out}
theorem XO.below (h : XO w M g1 s1 A1 n1 c1 B1 m1 d1 N1 D1 g2 s2 A2 n2 c2 B2 m2 d2 k o) (hb : Below M.heap.size M M') : XO w M' g1 s1 A1 n1 c1 B1 m1 d1 N1 D1 g2 s2 A2 n2 c2 B2 m2 d2 k o :=
  ⟨h.f.below hb, h.g.below hb, h.r1.below hb, h.r2.below hb, h.tab.below hb, below_step h.bel h.bel.size hb⟩
theorem XO.drew (h : XO w M g1 s1 A1 n1 c1 B1 m1 d1 N1 D1 g2 s2 A2 n2 c2 B2 m2 d2 k o) : XO w M.drew g1 s1 A1 n1 c1 B1 m1 d1 N1 D1 g2 s2 A2 n2 c2 B2 m2 d2 k o := h.below (Below.refl _ _).drew
theorem XO.cells (h : XO w M g1 s1 A1 n1 c1 B1 m1 d1 N1 D1 g2 s2 A2 n2 c2 B2 m2 d2 k o) : (World.cell? M ⟨g1, 0, none⟩ = some (.bool s1) ∧ World.cell? M ⟨g1, 1, none⟩ = some (.slice A1 n1 c1) ∧ World.cell? M ⟨g1, 2, none⟩ = some (.slice B1 m1 d1) ∧ World.cell? M ⟨g2, 0, none⟩ = some (.bool s2) ∧ World.cell? M ⟨g2, 1, none⟩ = some (.slice A2 n2 c2) ∧ World.cell? M ⟨g2, 2, none⟩ = some (.slice B2 m2 d2) ∧ Hid (XO w M g1 s1 A1 n1 c1 B1 m1 d1 N1 D1 g2 s2 A2 n2 c2 B2 m2 d2 k o)) := by
  obtain ⟨a1, a2, a3, _, _, _⟩ := h.f.cells
  obtain ⟨b1, b2, b3, _, _, _⟩ := h.g.cells
  exact ⟨a1, a2, a3, b1, b2, b3, h⟩
theorem XO.of (h : (World.cell? M ⟨g1, 0, none⟩ = some (.bool s1) ∧ World.cell? M ⟨g1, 1, none⟩ = some (.slice A1 n1 c1) ∧ World.cell? M ⟨g1, 2, none⟩ = some (.slice B1 m1 d1) ∧ World.cell? M ⟨g2, 0, none⟩ = some (.bool s2) ∧ World.cell? M ⟨g2, 1, none⟩ = some (.slice A2 n2 c2) ∧ World.cell? M ⟨g2, 2, none⟩ = some (.slice B2 m2 d2) ∧ Hid (XO w M g1 s1 A1 n1 c1 B1 m1 d1 N1 D1 g2 s2 A2 n2 c2 B2 m2 d2 k o))) : XO w M g1 s1 A1 n1 c1 B1 m1 d1 N1 D1 g2 s2 A2 n2 c2 B2 m2 d2 k o := h.2.2.2.2.2.2.out
theorem XO.next (h : (World.cell? M ⟨g1, 0, none⟩ = some (.bool s1) ∧ World.cell? M ⟨g1, 1, none⟩ = some (.slice A1 n1 c1) ∧ World.cell? M ⟨g1, 2, none⟩ = some (.slice B1 m1 d1) ∧ World.cell? M ⟨g2, 0, none⟩ = some (.bool s2) ∧ World.cell? M ⟨g2, 1, none⟩ = some (.slice A2 n2 c2) ∧ World.cell? M ⟨g2, 2, none⟩ = some (.slice B2 m2 d2) ∧ Hid (XO w M g1 s1 A1 n1 c1 B1 m1 d1 N1 D1 g2 s2 A2 n2 c2 B2 m2 d2 k o))) (hb : Below M.heap.size M M') : (World.cell? M' ⟨g1, 0, none⟩ = some (.bool s1) ∧ World.cell? M' ⟨g1, 1, none⟩ = some (.slice A1 n1 c1) ∧ World.cell? M' ⟨g1, 2, none⟩ = some (.slice B1 m1 d1) ∧ World.cell? M' ⟨g2, 0, none⟩ = some (.bool s2) ∧ World.cell? M' ⟨g2, 1, none⟩ = some (.slice A2 n2 c2) ∧ World.cell? M' ⟨g2, 2, none⟩ = some (.slice B2 m2 d2) ∧ Hid (XO w M' g1 s1 A1 n1 c1 B1 m1 d1 N1 D1 g2 s2 A2 n2 c2 B2 m2 d2 k o)) := ((XO.of h).below hb).cells
end
theorem qRat (q : Rat) (w : World) (v : Value) (h : IsQ w v q) (k : Rq 2000000 q) :
    Calls Tryd.prog 27 #[v] w fun e w' => ∃ t B1 m1 e1 B2 m2 e2, e = .returned (.agg #[.bool t, .slice B1 m1 e1, .slice B2 m2 e2]) ∧ Hid (GrQ w' (.agg #[.bool t, .slice B1 m1 e1, .slice B2 m2 e2]) q) ∧ Below w.heap.size w w' := by
  obtain ⟨A1, c1, A2, c2, rfl, r1, r2⟩ := h
  refine (rRat _ _ _ w _ _ _ _ r1 r2 (fun h => ng_nz h) q.den_nz k.1 k.2).mono ?_
  rintro e w' ⟨u, rfl, hu, hb⟩
  have h2 := hu
  obtain ⟨A1, c1, A2, c2, rfl, r1, r2⟩ := hu
  exact ⟨_, _, _, _, _, _, _, rfl, h2, hb⟩
end Go.Proofs.YtfmhplcpejmkhabDoor

namespace Go.Proofs.YtfmhplcpejmkhabDoor
open Go.RowKit Dig
set_option linter.unusedVariables false
set_option linter.unusedSimpArgs false
/-- a number of the reference and two canonical values in variables -/
structure XS (w M : World) (g0 : Nat) (s0 : Bool) (A0 : Option Addr) (n0 c0 : Nat) (B0 : Option Addr) (m0 d0 : Nat) (q0 : Rat) (g1 : Nat) (s1 : Bool) (A1 : Option Addr) (n1 c1 : Nat) (B1 : Option Addr) (m1 d1 : Nat) (q1 : Rat) (g2 : Nat) (s2 : Bool) (A2 : Option Addr) (n2 c2 : Nat) (B2 : Option Addr) (m2 d2 : Nat) (q2 : Rat) : Prop where
  e : Box M g0 (.bool s0) (.slice A0 n0 c0) (.slice B0 m0 d0) 39
  f : Box M g1 (.bool s1) (.slice A1 n1 c1) (.slice B1 m1 d1) 24
  g : Box M g2 (.bool s2) (.slice A2 n2 c2) (.slice B2 m2 d2) 24
  r0 : IsQ M (.agg #[.bool s0, .slice A0 n0 c0, .slice B0 m0 d0]) q0
  r1 : GrQ M (.agg #[.bool s1, .slice A1 n1 c1, .slice B1 m1 d1]) q1
  r2 : GrQ M (.agg #[.bool s2, .slice A2 n2 c2, .slice B2 m2 d2]) q2
  tab : Tab M
  bel : Below w.heap.size w M
section
variable {w M M' : World} {g0 : Nat} {s0 : Bool} {A0 : Option Addr} {n0 c0 : Nat} {B0 : Option Addr} {m0 d0 : Nat} {q0 : Rat} {g1 : Nat} {s1 : Bool} {A1 : Option Addr} {n1 c1 : Nat} {B1 : Option Addr} {m1 d1 : Nat} {q1 : Rat} {g2 : Nat} {s2 : Bool} {A2 : Option Addr} {n2 c2 : Nat} {B2 : Option Addr} {m2 d2 : Nat} {q2 : Rat}
theorem XS.below (h : XS w M g0 s0 A0 n0 c0 B0 m0 d0 q0 g1 s1 A1 n1 c1 B1 m1 d1 q1 g2 s2 A2 n2 c2 B2 m2 d2 q2) (hb : Below M.heap.size M M') : XS w M' g0 s0 A0 n0 c0 B0 m0 d0 q0 g1 s1 A1 n1 c1 B1 m1 d1 q1 g2 s2 A2 n2 c2 B2 m2 d2 q2 :=
  ⟨h.e.below hb, h.f.below hb, h.g.below hb, h.r0.below hb, h.r1.below hb, h.r2.below hb, h.tab.below hb, below_step h.bel h.bel.size hb⟩
theorem XS.drew (h : XS w M g0 s0 A0 n0 c0 B0 m0 d0 q0 g1 s1 A1 n1 c1 B1 m1 d1 q1 g2 s2 A2 n2 c2 B2 m2 d2 q2) : XS w M.drew g0 s0 A0 n0 c0 B0 m0 d0 q0 g1 s1 A1 n1 c1 B1 m1 d1 q1 g2 s2 A2 n2 c2 B2 m2 d2 q2 := h.below (Below.refl _ _).drew
theorem XS.cells (h : XS w M g0 s0 A0 n0 c0 B0 m0 d0 q0 g1 s1 A1 n1 c1 B1 m1 d1 q1 g2 s2 A2 n2 c2 B2 m2 d2 q2) : (World.cell? M ⟨g0, 0, none⟩ = some (.bool s0) ∧ World.cell? M ⟨g0, 1, none⟩ = some (.slice A0 n0 c0) ∧ World.cell? M ⟨g0, 2, none⟩ = some (.slice B0 m0 d0) ∧ World.cell? M ⟨g1, 0, none⟩ = some (.bool s1) ∧ World.cell? M ⟨g1, 1, none⟩ = some (.slice A1 n1 c1) ∧ World.cell? M ⟨g1, 2, none⟩ = some (.slice B1 m1 d1) ∧ World.cell? M ⟨g2, 0, none⟩ = some (.bool s2) ∧ World.cell? M ⟨g2, 1, none⟩ = some (.slice A2 n2 c2) ∧ World.cell? M ⟨g2, 2, none⟩ = some (.slice B2 m2 d2) ∧ Hid (XS w M g0 s0 A0 n0 c0 B0 m0 d0 q0 g1 s1 A1 n1 c1 B1 m1 d1 q1 g2 s2 A2 n2 c2 B2 m2 d2 q2)) := by
  obtain ⟨a1, a2, a3, _, _, _⟩ := h.e.cells
  obtain ⟨b1, b2, b3, _, _, _⟩ := h.f.cells
  obtain ⟨c1, c2, c3, _, _, _⟩ := h.g.cells
  exact ⟨a1, a2, a3, b1, b2, b3, c1, c2, c3, h⟩
theorem XS.of (h : (World.cell? M ⟨g0, 0, none⟩ = some (.bool s0) ∧ World.cell? M ⟨g0, 1, none⟩ = some (.slice A0 n0 c0) ∧ World.cell? M ⟨g0, 2, none⟩ = some (.slice B0 m0 d0) ∧ World.cell? M ⟨g1, 0, none⟩ = some (.bool s1) ∧ World.cell? M ⟨g1, 1, none⟩ = some (.slice A1 n1 c1) ∧ World.cell? M ⟨g1, 2, none⟩ = some (.slice B1 m1 d1) ∧ World.cell? M ⟨g2, 0, none⟩ = some (.bool s2) ∧ World.cell? M ⟨g2, 1, none⟩ = some (.slice A2 n2 c2) ∧ World.cell? M ⟨g2, 2, none⟩ = some (.slice B2 m2 d2) ∧ Hid (XS w M g0 s0 A0 n0 c0 B0 m0 d0 q0 g1 s1 A1 n1 c1 B1 m1 d1 q1 g2 s2 A2 n2 c2 B2 m2 d2 q2))) : XS w M g0 s0 A0 n0 c0 B0 m0 d0 q0 g1 s1 A1 n1 c1 B1 m1 d1 q1 g2 s2 A2 n2 c2 B2 m2 d2 q2 := h.2.2.2.2.2.2.2.2.2.out
theorem XS.next (h : (World.cell? M ⟨g0, 0, none⟩ = some (.bool s0) ∧ World.cell? M ⟨g0, 1, none⟩ = some (.slice A0 n0 c0) ∧ World.cell? M ⟨g0, 2, none⟩ = some (.slice B0 m0 d0) ∧ World.cell? M ⟨g1, 0, none⟩ = some (.bool s1) ∧ World.cell? M ⟨g1, 1, none⟩ = some (.slice A1 n1 c1) ∧ World.cell? M ⟨g1, 2, none⟩ = some (.slice B1 m1 d1) ∧ World.cell? M ⟨g2, 0, none⟩ = some (.bool s2) ∧ World.cell? M ⟨g2, 1, none⟩ = some (.slice A2 n2 c2) ∧ World.cell? M ⟨g2, 2, none⟩ = some (.slice B2 m2 d2) ∧ Hid (XS w M g0 s0 A0 n0 c0 B0 m0 d0 q0 g1 s1 A1 n1 c1 B1 m1 d1 q1 g2 s2 A2 n2 c2 B2 m2 d2 q2))) (hb : Below M.heap.size M M') : (World.cell? M' ⟨g0, 0, none⟩ = some (.bool s0) ∧ World.cell? M' ⟨g0, 1, none⟩ = some (.slice A0 n0 c0) ∧ World.cell? M' ⟨g0, 2, none⟩ = some (.slice B0 m0 d0) ∧ World.cell? M' ⟨g1, 0, none⟩ = some (.bool s1) ∧ World.cell? M' ⟨g1, 1, none⟩ = some (.slice A1 n1 c1) ∧ World.cell? M' ⟨g1, 2, none⟩ = some (.slice B1 m1 d1) ∧ World.cell? M' ⟨g2, 0, none⟩ = some (.bool s2) ∧ World.cell? M' ⟨g2, 1, none⟩ = some (.slice A2 n2 c2) ∧ World.cell? M' ⟨g2, 2, none⟩ = some (.slice B2 m2 d2) ∧ Hid (XS w M' g0 s0 A0 n0 c0 B0 m0 d0 q0 g1 s1 A1 n1 c1 B1 m1 d1 q1 g2 s2 A2 n2 c2 B2 m2 d2 q2)) := ((XS.of h).below hb).cells
end
set_option maxHeartbeats 4000000 in
set_option maxRecDepth 100000 in
theorem wNumberSigns (s1 : Bool) (N1 D1 : Nat) (w : World) (v1 : Value) (h1 : RawV w v1 s1 N1 D1) (hT : Tab w) :
    Calls Tryd.prog 5 #[v1] w fun e w' => e = .returned (.bool true) ∧ Below w.heap.size w w' := by
  have H1 := Lib.hid h1
  have HT := Lib.hid hT
  obtain ⟨A1, n1, c1, A1', n1', c1', rfl⟩ := h1.shape
  clear hT h1
  obtain ⟨M, hM, k1, bM⟩ : ∃ M, M = w.alloc (.cells #[.bool s1, .slice A1 n1 c1, .slice A1' n1' c1'] 24) ∧ Box M w.heap.size (.bool s1) (.slice A1 n1 c1) (.slice A1' n1' c1') 24 ∧ Below w.heap.size w M := ⟨_, rfl, Box.new _ _ _ _ _, below_alloc _ _⟩
  have HX1 := Lib.hid k1
  have BM := Lib.hid bM
  replace HT := Lib.hid (HT.out.below bM)
  replace H1 := Lib.hid (H1.out.below bM)
  obtain ⟨q, hq⟩ : ∃ q, ratOf s1 N1 D1 = q := ⟨_, rfl⟩
  obtain ⟨L1, hL1⟩ : ∃ L, largeB s1 N1 D1 = L := ⟨_, rfl⟩
  obtain ⟨k, hk⟩ : ∃ k, sgnI (ng q) q.num.natAbs = k := ⟨_, rfl⟩
  obtain ⟨x, hx⟩ : ∃ x, (if L1 = true then 0 else k) = x := ⟨_, rfl⟩
  obtain ⟨y, hy⟩ : ∃ x, (if L1 = true then 1 else (0 : Int)) = x := ⟨_, rfl⟩
  obtain ⟨oa, hoa⟩ : ∃ o, (if L1 = true then Out.err 1 else give (-q)) = o := ⟨_, rfl⟩
  obtain ⟨ob, hob⟩ : ∃ o, (if L1 = true then Out.err 1 else give (absQ q)) = o := ⟨_, rfl⟩
  have C0 := Lib.hid (fun (w : World) (h1 : RawV w (.agg #[.bool s1, .slice A1 n1 c1, .slice A1' n1' c1']) s1 N1 D1) (t : Tab w) => nSign s1 N1 D1 w _ h1 t q hq k hk L1 hL1 x y hx hy)
  have C1 := Lib.hid (fun (w : World) (h1 : RawV w (.agg #[.bool s1, .slice A1 n1 c1, .slice A1' n1' c1']) s1 N1 D1) (t : Tab w) => nNeg s1 N1 D1 w _ h1 t)
  have C2 := Lib.hid (fun (w : World) (h1 : RawV w (.agg #[.bool s1, .slice A1 n1 c1, .slice A1' n1' c1']) s1 N1 D1) (t : Tab w) => nAbs s1 N1 D1 w _ h1 t)
  rw [hL1, hq, hoa] at C1
  rw [hL1, hq, hob] at C2
  have HQ := Lib.hid hq
  have HK := Lib.hid hk
  have HL1 := Lib.hid hL1
  have HXX := Lib.hid hx
  have HYY := Lib.hid hy
  have HOA := Lib.hid hoa
  have HOB := Lib.hid hob
  clear bM k1 hq hL1 hoa hob hk hx hy
  go_enter Tryd.func5, Tryd.ntmps5
  go_upto_region 1 with (fail)
  rw [← hM]
  clear hM
  obtain ⟨x1, y1, z1, _, _, _⟩ := HX1.out.cells
  go_wp2_with fail
  refine (C0.out _ H1.out HT.out).mono ?_
  rintro e w0 ⟨rfl, b0⟩
  replace HT := Lib.hid (HT.out.below b0)
  replace H1 := Lib.hid (H1.out.below b0)
  replace HX1 := Lib.hid (HX1.out.below b0)
  replace BM := Lib.hid (below_step BM.out BM.out.size b0)
  clear b0 x1 y1 z1
  go_upto_region 2 with (fail)
  obtain ⟨x1, y1, z1, _, _, _⟩ := HX1.out.cells
  go_wp2_with fail
  refine (C1.out _ H1.out HT.out).mono ?_
  rintro e w1 ⟨p1, P1, m1, d1, P1', m1', d1', k1, rfl, h1, b1⟩
  have bb := below_step b1 b1.size (below_alloc w1 (.cells #[.bool p1, .slice P1 m1 d1, .slice P1' m1' d1'] 24))
  have HO1 := Lib.hid (h1.below (below_alloc w1 (.cells #[.bool p1, .slice P1 m1 d1, .slice P1' m1' d1'] 24)))
  have HZ1 := Lib.hid (Box.new w1 (.bool p1) (.slice P1 m1 d1) (.slice P1' m1' d1') 24)
  replace HT := Lib.hid (HT.out.below bb)
  replace H1 := Lib.hid (H1.out.below bb)
  replace HX1 := Lib.hid (HX1.out.below bb)
  replace BM := Lib.hid (below_step BM.out BM.out.size bb)
  obtain ⟨v1, hv⟩ : ∃ v, w1.alloc (.cells #[.bool p1, .slice P1 m1 d1, .slice P1' m1' d1'] 24) = v := ⟨_, rfl⟩
  obtain ⟨gz1, hgz⟩ : ∃ g, w1.heap.size = g := ⟨_, rfl⟩
  clear bb b1 h1 x1 y1 z1
  go_upto_region 3 with (fail)
  rw [hv] at BM HT H1 HX1 HO1 HZ1
  try rw [hv]
  rw [hgz] at HZ1
  try rw [hgz]
  clear hv hgz
  obtain ⟨x1, y1, z1, _, _, _⟩ := HX1.out.cells
  go_wp2_with fail
  refine (C2.out _ H1.out HT.out).mono ?_
  rintro e w2 ⟨p2, P2, m2, d2, P2', m2', d2', k2, rfl, h2, b2⟩
  have bb := below_step b2 b2.size (below_alloc w2 (.cells #[.bool p2, .slice P2 m2 d2, .slice P2' m2' d2'] 24))
  have HO2 := Lib.hid (h2.below (below_alloc w2 (.cells #[.bool p2, .slice P2 m2 d2, .slice P2' m2' d2'] 24)))
  have HZ2 := Lib.hid (Box.new w2 (.bool p2) (.slice P2 m2 d2) (.slice P2' m2' d2') 24)
  replace HT := Lib.hid (HT.out.below bb)
  replace H1 := Lib.hid (H1.out.below bb)
  replace HX1 := Lib.hid (HX1.out.below bb)
  replace HO1 := Lib.hid (HO1.out.below bb)
  replace HZ1 := Lib.hid (HZ1.out.below bb)
  replace BM := Lib.hid (below_step BM.out BM.out.size bb)
  obtain ⟨v2, hv⟩ : ∃ v, w2.alloc (.cells #[.bool p2, .slice P2 m2 d2, .slice P2' m2' d2'] 24) = v := ⟨_, rfl⟩
  obtain ⟨gz2, hgz⟩ : ∃ g, w2.heap.size = g := ⟨_, rfl⟩
  clear bb b2 h2 x1 y1 z1
  go_upto_region 4 with (fail)
  rw [hv] at BM HT H1 HX1 HO2 HZ2 HO1 HZ1
  try rw [hv]
  rw [hgz] at HZ2
  try rw [hgz]
  clear hv hgz
  obtain ⟨x1, y1, z1, _, _, _⟩ := HX1.out.cells
  go_wp2_with fail
  refine (largeV _ s1 N1 D1 _ H1.out).mono ?_
  rw [HL1.out]
  rintro e w3 ⟨rfl, b3⟩
  replace HT := Lib.hid (HT.out.below b3)
  replace H1 := Lib.hid (H1.out.below b3)
  replace HX1 := Lib.hid (HX1.out.below b3)
  replace HO1 := Lib.hid (HO1.out.below b3)
  replace HZ1 := Lib.hid (HZ1.out.below b3)
  replace HO2 := Lib.hid (HO2.out.below b3)
  replace HZ2 := Lib.hid (HZ2.out.below b3)
  replace BM := Lib.hid (below_step BM.out BM.out.size b3)
  clear b3 x1 y1 z1
  rcases L1 with _ | _
  · obtain rfl : k = x := by have := HXX.out; simpa using this
    obtain rfl : 0 = y := by have := HYY.out; simpa using this
    obtain rfl : give (-q) = oa := by have := HOA.out; simpa using this
    obtain rfl : give (absQ q) = ob := by have := HOB.out; simpa using this
    have fq := (largeB_false HL1.out).2.2
    rw [HQ.out] at fq
    have FQ := Lib.hid fq
    have fn : fitQ (-q) := by unfold fitQ; rw [neg_abs, neg_den]; exact fq
    have fa : fitQ (absQ q) := by obtain ⟨_, e2, e3⟩ := absQ_facts q; unfold fitQ; rw [e2, e3]; exact fq
    have FN := Lib.hid fn
    have FA := Lib.hid fa
    have e1 : give (-q) = .ok (-q) := by unfold give; rw [if_pos fn]
    have e2 : give (absQ q) = .ok (absQ q) := by unfold give; rw [if_pos fa]
    rw [e1] at HO1
    rw [e2] at HO2
    clear e1 e2 fq fn fa
    obtain rfl : k1 = 0 := HO1.out.1
    obtain rfl : k2 = 0 := HO2.out.1
    obtain ⟨x1, y1, z1, _, _, _⟩ := HX1.out.cells
    go_wp2_with fail
    refine (ofQ _ _ _ _ _ _ H1.out HL1.out HQ.out).mono ?_
    rintro e w4 ⟨p0, P0, m0, d0, P0', m0', d0', rfl, i0, b4⟩
    have bb := below_step b4 b4.size (below_alloc w4 (.cells #[.bool p0, .slice P0 m0 d0, .slice P0' m0' d0'] 39))
    have TX := Lib.hid (XS.mk (Box.new w4 (.bool p0) (.slice P0 m0 d0) (.slice P0' m0' d0') 39) (HZ1.out.below bb) (HZ2.out.below bb) (i0.out.below (below_alloc _ _)) (HO1.out.2.1.below bb) (HO2.out.2.1.below bb) (HT.out.below bb) (below_step BM.out BM.out.size bb))
    obtain ⟨v4, hv⟩ : ∃ v, w4.alloc (.cells #[.bool p0, .slice P0 m0 d0, .slice P0' m0' d0'] 39) = v := ⟨_, rfl⟩
    obtain ⟨gz0, hgz⟩ : ∃ g, w4.heap.size = g := ⟨_, rfl⟩
    clear bb b4 i0 x1 y1 z1 HZ1 HZ2 HO1 HO2 HT BM H1 HX1
    go_upto_region 7 with (fail)
    rw [hv, hgz] at TX
    try rw [hv]
    try rw [hgz]
    clear hv hgz
    have CO := Lib.hid (fun w v h => qOpp q w v h)
    obtain ⟨nq, hnq⟩ : ∃ n, -q = n := ⟨_, rfl⟩
    obtain ⟨aq, haq⟩ : ∃ n, absQ q = n := ⟨_, rfl⟩
    have CM := Lib.hid (fun w v h => qMag q w v h)
    rw [hnq] at TX CO FN
    rw [haq] at TX CM FA
    clear hnq haq
    go_region_held3 (fun W' => (World.cell? W' ⟨gz0, 0, none⟩ = some (.bool p0) ∧ World.cell? W' ⟨gz0, 1, none⟩ = some (.slice P0 m0 d0) ∧ World.cell? W' ⟨gz0, 2, none⟩ = some (.slice P0' m0' d0') ∧ World.cell? W' ⟨gz1, 0, none⟩ = some (.bool p1) ∧ World.cell? W' ⟨gz1, 1, none⟩ = some (.slice P1 m1 d1) ∧ World.cell? W' ⟨gz1, 2, none⟩ = some (.slice P1' m1' d1') ∧ World.cell? W' ⟨gz2, 0, none⟩ = some (.bool p2) ∧ World.cell? W' ⟨gz2, 1, none⟩ = some (.slice P2 m2 d2) ∧ World.cell? W' ⟨gz2, 2, none⟩ = some (.slice P2' m2' d2') ∧ Hid (XS w W' gz0 p0 P0 m0 d0 P0' m0' d0' q gz1 p1 P1 m1 d1 P1' m1' d1' nq gz2 p2 P2 m2 d2 P2' m2' d2' aq)))
      (with_reducible (first | assumption | exact TX.out.drew.cells | exact XS.next (by assumption) (by assumption)))
      (first
       | (go_at_call 26
          refine (qSgn q _ _ (XS.of (by assumption)).r0).mono ?_
          rw [HK.out]
          rintro e wa ⟨rfl, ba⟩)
       | (go_at_call 28
          refine (Calls.parts (CO.out _ _ (XS.of (by assumption)).r0)).mono ?_
          rintro e wb ⟨t4, B4, m4, e4, B4', m4', e4', rfl, i4, bb⟩)
       | (go_at_call 29
          refine (Calls.parts (CM.out _ _ (XS.of (by assumption)).r0)).mono ?_
          rintro e wb ⟨t5, B5, m5, e5, B5', m5', e5', rfl, i5, bb⟩)
       | (go_at_call_of 27 (Value.agg #[.bool t4, .slice B4 m4 e4, .slice B4' m4' e4'])
          refine (qRat nq _ _ i4.out (fit_Rq FN.out (by omega))).mono ?_
          rintro e wc ⟨t6, B6, m6, e6, B6', m6', e6', rfl, i6, bc⟩)
       | (go_at_call_of 27 (Value.agg #[.bool t5, .slice B5 m5 e5, .slice B5' m5' e5'])
          refine (qRat aq _ _ i5.out (fit_Rq FA.out (by omega))).mono ?_
          rintro e wc ⟨t7, B7, m7, e7, B7', m7', e7', rfl, i7, bc⟩)
       | (go_at_call_of 16 (Value.agg #[.bool p1, .slice P1 m1 d1, .slice P1' m1' d1'])
          refine (lIs_out (Out.ok nq) _ _ _ _ _ _ _ _ _ _ _ _ _ _ _ _ _ ⟨rfl, (XS.of (by assumption)).r1, FN.out⟩ ⟨rfl, i6.out, FN.out⟩).mono ?_
          rintro e wd ⟨rfl, bd⟩)
       | (go_at_call_of 16 (Value.agg #[.bool p2, .slice P2 m2 d2, .slice P2' m2' d2'])
          refine (lIs_out (Out.ok aq) _ _ _ _ _ _ _ _ _ _ _ _ _ _ _ _ _ ⟨rfl, (XS.of (by assumption)).r2, FA.out⟩ ⟨rfl, i7.out, FA.out⟩).mono ?_
          rintro e wd ⟨rfl, bd⟩)
       | (go_at_call 17
          refine (lAwake _ (XS.of (by assumption)).tab).mono ?_
          rintro e w9 ⟨rfl, b9⟩
          have hh := (XS.of (by assumption)).below b9))
    go_wp2
    go_ret
    exact ⟨rfl, hh.bel⟩
  · obtain rfl : 0 = x := by have := HXX.out; simpa using this
    obtain rfl : 1 = y := by have := HYY.out; simpa using this
    obtain rfl : Out.err 1 = oa := by have := HOA.out; simpa using this
    obtain rfl : Out.err 1 = ob := by have := HOB.out; simpa using this
    obtain ⟨rfl, e1, _, _⟩ := HO1.out
    obtain ⟨rfl, e2, _, _⟩ := HO2.out
    unfold noRat at e1 e2
    simp only [Value.agg.injEq, Array.mk.injEq, List.cons.injEq, Value.bool.injEq, Value.slice.injEq, and_true] at e1 e2
    obtain ⟨rfl, ⟨rfl, rfl, rfl⟩, rfl, rfl, rfl⟩ := e1
    obtain ⟨rfl, ⟨rfl, rfl, rfl⟩, rfl, rfl, rfl⟩ := e2
    obtain ⟨x1, y1, z1, _, _, _⟩ := HZ1.out.cells
    obtain ⟨x2, y2, z2, _, _, _⟩ := HZ2.out.cells
    go_wp2_with fail
    refine (lNone _).mono ?_
    rintro e w4 ⟨rfl, b4⟩
    replace HT := Lib.hid (HT.out.below b4)
    replace HZ1 := Lib.hid (HZ1.out.below b4)
    replace HZ2 := Lib.hid (HZ2.out.below b4)
    replace BM := Lib.hid (below_step BM.out BM.out.size b4)
    clear b4 x1 y1 z1 x2 y2 z2
    obtain ⟨x2, y2, z2, _, _, _⟩ := HZ2.out.cells
    go_wp2_with fail
    refine (lNone _).mono ?_
    rintro e w5 ⟨rfl, b5⟩
    replace HT := Lib.hid (HT.out.below b5)
    replace BM := Lib.hid (below_step BM.out BM.out.size b5)
    clear b5
    go_wp2_with fail
    refine (lAwake _ HT.out).mono ?_
    rintro e w9 ⟨rfl, b9⟩
    replace BM := Lib.hid (below_step BM.out BM.out.size b9)
    clear b9
    go_wp2
    go_ret
    exact ⟨rfl, BM.out⟩
end Go.Proofs.YtfmhplcpejmkhabDoor

namespace Go.Proofs.YtfmhplcpejmkhabDoor
open Go.ChangeShapes Go.WideShapes Go.ChangeAt Go.RowKit Dig
set_option linter.unusedVariables false
set_option linter.unusedSimpArgs false
theorem own : ownKnob Tryd.prog.godebug = none := by kernel_rfl
theorem gTab : Tryd.prog.globalNamed "math/bits.deBruijn32tab" = some 0 := by kernel_rfl
theorem gTabType : (Tryd.prog.globals[0]?).map (·.type) = some 131 := by kernel_rfl
theorem cellsTab : Tryd.prog.cellsOf 131 = 32 := by kernel_rfl
theorem cellsU8 : Tryd.prog.cellsOf 5 = 1 := by kernel_rfl
theorem cellsU32 : Tryd.prog.cellsOf 72 = 1 := by kernel_rfl
theorem cellsRat : Tryd.prog.cellsOf 24 = 3 := by kernel_rfl
theorem laidOut : laidOutB Tryd.prog = true := by kernel_rfl
theorem tab_of {W : World} (h : laidMetH Tryd.prog [("math/bits.deBruijn32tab", Rows.laid_math_bits_deBruijn32tab)] W) : Tab W := by
  have t : Lib.TabIs Tryd.prog W "math/bits.deBruijn32tab" .u8 (Lib.deBruijn32tab.map Int.ofNat) :=
    Lib.tabIs_of_head (rest := []) gTab gTabType Tryd.underlying131 Tryd.underlying5 cellsU8 cellsTab h
  intro j hj
  have hc := t.cell gTab j (by simpa using hj)
  rw [hc]
  congr 2
  simp [List.getD, hj]
set_option maxRecDepth 100000 in
/-- a slice of words that comes in -/
theorem open_rd {H : Type} {enc : TypeId × Value → H} {W : World} {n : Nat} {v : Value} {y : DataW H × List MemPlace} (h : DataW.trod enc Tryd.prog W 0 (fun _ => true) true n 22 [v] = some y) :
    ∃ A c l, v = .slice A l.length c ∧ Rd W A c l ∧ Ok B32 l ∧ l.length < Rows.uptoBulk y.1 := by
  rcases open_ints Tryd.underlying22 Tryd.underlying72 cellsU32 h with ⟨e, rfl⟩ | ⟨a, len, cap, zs, e, _, hl, hm, hz, rfl, hc, hw⟩
  · obtain rfl : v = .slice none 0 0 := by simpa using e
    exact ⟨none, 0, [], rfl, ⟨Nat.le_refl _, Nat.zero_le _, fun j hj => absurd hj (Nat.not_lt_zero _)⟩, (fun x (hx : x ∈ []) => by simp at hx), by simp [Rows.uptoBulk]⟩
  · obtain rfl : v = .slice (some a) len cap := by simpa using e
    rw [if_pos rfl] at hz
    refine ⟨some a, cap, zs.take len, by simp [hz, Nat.min_eq_left hl], ⟨by simp [hz]; omega, by unfold maxLen at hm; omega, ?_⟩, ?_, ?_⟩
    · intro j hj
      have hj' : j < len := by simp [hz] at hj; omega
      refine ⟨a, rfl, ?_⟩
      rw [hc j (by omega)]
      have : j < zs.length := by omega
      simp [rd, List.getD, hj', List.getElem?_take]
    · intro x hx
      have := hw x (List.mem_of_mem_take hx)
      simp only [Lit.wf, Bool.and_eq_true, decide_eq_true_eq] at this
      have e1 : IntKind.min .u32 = 0 := by decide
      have e2 : IntKind.max .u32 = 4294967295 := by decide
      rw [e1, e2] at this
      unfold B32
      omega
    · have : ∀ l : List (DataW H), l.length ≤ Rows.uptoBulkAll l := by
        intro l
        induction l with
        | nil => simp [Rows.uptoBulkAll]
        | cons x r ih =>
          have h1 : 1 ≤ Rows.uptoBulk x := by
            cases x with
            | lit l => cases l <;> simp [Rows.uptoBulk]
            | _ => simp [Rows.uptoBulk]
          simp only [Rows.uptoBulkAll, List.length_cons]
          omega
      have h2 := this (lits (H := H) .u32 (zs.take len))
      have h3 : (lits (H := H) .u32 (zs.take len)).length = (zs.take len).length := by simp [lits]
      simp only [Rows.uptoBulk]
      omega
theorem fin_agg3 {H : Type} (a b c : DataW H) : Rows.uptoBulk b < Rows.uptoBulk (.agg [a, b, c]) ∧ Rows.uptoBulk c < Rows.uptoBulk (.agg [a, b, c]) := by
  have h1 : ∀ x : DataW H, 1 ≤ Rows.uptoBulk x := by
    intro x
    cases x with
    | lit l => cases l <;> simp [Rows.uptoBulk]
    | _ => simp [Rows.uptoBulk]
  have ha := h1 a
  have hb := h1 b
  have hc := h1 c
  simp only [Rows.uptoBulk, Rows.uptoBulkAll]
  omega
set_option maxRecDepth 100000 in
/-- a number that comes in, whatever its length -/
theorem open_rat {H : Type} {enc : TypeId × Value → H} {W : World} {b0 : Nat} {v : Value} {d : DataW H} {p : List MemPlace} (hv : Value.okWide Tryd.prog W .any b0 24 v) (h : DataW.Trod enc Tryd.prog W 0 (fun _ => true) true 24 v d p) :
    ∃ s A1 c1 l1 A2 c2 l2, v = .agg #[.bool s, .slice A1 l1.length c1, .slice A2 l2.length c2] ∧ Rd W A1 c1 l1 ∧ Rd W A2 c2 l2 ∧ Ok B32 l1 ∧ Ok B32 l2 ∧ l1.length + 1 < Rows.uptoBulk d ∧ l2.length + 1 < Rows.uptoBulk d := by
  obtain ⟨v0, v1, v2, y0, y1, y2, n, rfl, rfl, rfl, h0, h1, h2⟩ := Joins.open_agg3 Tryd.underlying24 (by kernel_rfl) cellsRat hv h
  obtain ⟨A1, c1, l1, rfl, r1, o1, k1⟩ := open_rd h1
  obtain ⟨A2, c2, l2, rfl, r2, o2, k2⟩ := open_rd h2
  have hb : ∃ s, v0 = .bool s := by
    obtain ⟨s, h', _⟩ := DataW.trod_bool Tryd.underlying4 h0
    exact ⟨s, by simpa using h'⟩
  obtain ⟨s, rfl⟩ := hb
  obtain ⟨q1, q2⟩ := fin_agg3 y0.1 y1.1 y2.1
  exact ⟨s, A1, c1, l1, A2, c2, l2, rfl, r1, r2, o1, o2, by omega, by omega⟩
set_option maxRecDepth 100000 in
theorem open_raw {H : Type} {enc : TypeId × Value → H} {W : World} {b0 : Nat} {v : Value} {d : DataW H} {p : List MemPlace} (hv : Value.okWide Tryd.prog W .any b0 24 v) (h : DataW.Trod enc Tryd.prog W 0 (fun _ => true) true 24 v d p)
    (hk : Rows.uptoBulk d ≤ 1048576) : ∃ s N D, RawV W v s N D := by
  obtain ⟨s, A1, c1, l1, A2, c2, l2, e, r1, r2, o1, o2, k1, k2⟩ := open_rat hv h
  obtain ⟨N, hN⟩ := Int.eq_ofNat_of_zero_le (val_nonneg o1)
  obtain ⟨D, hD⟩ := Int.eq_ofNat_of_zero_le (val_nonneg o2)
  exact ⟨s, N, D, A1, c1, l1, A2, c2, l2, e, r1, r2, o1, o2, hN, hD, by omega, by omega⟩
set_option maxRecDepth 100000 in
/-- the arguments read behind the call as they did -/
theorem stays {H : Type} {enc : TypeId × Value → H} {W W' : World} (hb : Below W.heap.size W W') {sp : Nat → Bool} :
    ∀ {ts : List TypeId} {vs : List Value} {ds : List (DataW H)} {ps : List MemPlace}, (∀ t ∈ ts, Tryd.prog.readableRec t = true ∧ t < Tryd.prog.types.size) →
      DataW.TrodAll enc Tryd.prog W 0 (fun _ => true) true ts vs ds ps → (∀ p ∈ ps, sp p.block = true) → DataW.TrodAll enc Tryd.prog W' 0 sp true ts vs ds ps
  | [], [], [], _, _, h, _ => h
  | _ :: _, _ :: _, _ :: _, _, hT, h, hs => by
    have hlt := h.lt
    obtain ⟨p, q, h1, h2, e⟩ := h
    refine ⟨p, q, ?_, stays hb (fun t ht => hT t (List.mem_cons.2 (Or.inr ht))) h2 (fun x hx => hs x (by rw [e]; exact List.mem_append_right _ hx)), e⟩
    exact WideElems.Trod_stays laidOut (hT _ (List.mem_cons.2 (Or.inl rfl))).1 (hT _ (List.mem_cons.2 (Or.inl rfl))).2 h1
      (fun x hx => hb.same (hlt x (by rw [e]; exact List.mem_append_left _ hx))) (fun x hx => hs x (by rw [e]; exact List.mem_append_left _ hx))
set_option maxRecDepth 100000 in
/-- what the answer true gives, where nothing old has turned -/
theorem said_true {H : Type} {enc : TypeId × Value → H} {f : Func} {s : ChangeSpec} {W W' : World} {args : Array Value} {ds gs : List (DataW H)} {before : List MemPlace}
    (hW : DataW.Whole enc Tryd.prog f.params.toList s.vars false W args.toList ds gs before) (hv : s.vars = []) (hT : ∀ t ∈ f.params.toList, Tryd.prog.readableRec t = true ∧ t < Tryd.prog.types.size)
    (hr : f.resultTypes = #[4]) (e1 : (s.fn H (ds ++ gs)).results = [.lit (.bool true)]) (e2 : (s.fn H (ds ++ gs)).args = ds) (e3 : (s.fn H (ds ++ gs)).vars = []) (hb : Below W.heap.size W W') :
    s.post enc Tryd.prog f false true false false W args (.bool true) W' := by
  have hW' := hW
  obtain ⟨p, q, hA, hV, rfl, _, _⟩ := hW'
  rw [hv] at hV
  obtain ⟨rfl, rfl⟩ := trodVars_none hV
  have lt := hW.lt
  have ok : ∀ (j : Nat) (t : TypeId) (r : Value), f.resultTypes[j]? = some t → ((Value.bool true).resultList f.resultTypes.size)[j]? = some r → Value.okWide Tryd.prog W' .any 0 t r := ok_one hr rfl (okWide_bool_mk Tryd.underlying4 _)
  have res : ∀ (b : Nat) (sp : Nat → Bool) (hd : Bool), DataW.TrodAll enc Tryd.prog W' b sp hd f.resultTypes.toList ((Value.bool true).resultList f.resultTypes.size) (s.fn H (ds ++ [])).results [] := fun _ _ _ => by
    rw [e1, hr]
    exact trodAll_mk1 (shut_bool Tryd.underlying4 _)
  have arg : ∀ sp : Nat → Bool, (∀ x ∈ p ++ [], sp x.block = true) → DataW.TrodAll enc Tryd.prog W' 0 sp true f.params.toList args.toList (s.fn H (ds ++ [])).args p := fun sp hs => by
    rw [e2]
    exact stays hb hT hA (fun x hx => hs x (by simpa using hx))
  have var : ∀ sp : Nat → Bool, DataW.TrodVars enc Tryd.prog W' sp s.vars (s.fn H (ds ++ [])).vars [] := fun _ => by
    rw [e3, hv]
    rfl
  have hold : ∀ x ∈ p ++ [], (fun b => decide (b < W.heap.size)) x.block = true := fun x hx => by simpa using lt x hx
  refine ⟨ds, [], p ++ [], [], p, [], hW, res _ _ _, arg _ hold, var _, hb.frame _, fun h => by cases h⟩
end Go.Proofs.YtfmhplcpejmkhabDoor

namespace Go.Proofs.YtfmhplcpejmkhabDoor.lawNumberSigns
open Go.ChangeShapes Go.WideShapes Go.ChangeAt Go.RowKit Dig
set_option linter.unusedVariables false
set_option linter.unusedSimpArgs false
set_option maxRecDepth 100000 in
theorem contract (H : Type) (enc : TypeId × Value → H) (W : World) (base : Nat) (args : Array Value) (ds gs : List (DataW H)) (before : List MemPlace)
    (hval : ∀ (j : Nat) t v, Tryd.f5.params[j]? = some t → args[j]? = some v → Value.okWide Tryd.prog W .any base t v)
    (hW : DataW.Whole enc Tryd.prog Tryd.f5.params.toList Rows.numberSignsSpec.vars false W args.toList ds gs before) (hL : laidMetH Tryd.prog Rows.numberSignsUptoRow.laid W)
    (hk : Rows.uptoBulkAll (ds ++ gs) ≤ 1048576) :
    Calls Tryd.prog 5 args W fun e W' => ∃ v, e = .returned v ∧ Rows.numberSignsSpec.post enc Tryd.prog Tryd.f5 false true false false W args v W' := by
  have hW' := hW
  obtain ⟨p, q, hA0, hV, rfl, hfz, hnd⟩ := hW
  have hA : DataW.TrodAll enc Tryd.prog W 0 (fun _ => true) true Tryd.f5.params.toList args.toList ds p := hA0
  rw [Tryd.params5] at hA hval
  obtain ⟨v0, vs0, d0, ds0, p0, q0, hv0, rfl, rfl, h0, r0⟩ := trodAll_cons hA
  obtain ⟨hn, rfl, rfl⟩ := trodAll_nil r0
  obtain rfl : args = #[v0] := by cases args; simp_all
  obtain ⟨rfl, rfl⟩ := trodVars_none hV
  have hT := tab_of hL
  simp only [List.append_nil, Rows.uptoBulkAll] at hk
  obtain ⟨s0, N0, D0, k0⟩ := open_raw (hval 0 24 v0 rfl rfl) h0 (by omega)
  refine (wNumberSigns s0 N0 D0 W _ k0 hT).mono fun e W' ⟨he, hb⟩ => ?_
  subst he
  exact ⟨_, rfl, said_true hW' rfl (by rw [Tryd.params5]; intro t ht; simp at ht; subst ht; exact ⟨by kernel_rfl, of_decide_eq_true (by kernel_rfl)⟩) (by kernel_rfl) rfl rfl rfl hb⟩

noncomputable def laidWorld (os : Os) : World :=
  { World.holding Tryd.prog os ⟨#[], #[], []⟩ with heap := (World.holding Tryd.prog os ⟨#[], #[], []⟩).heap.modify 0 fun
      | .cells _ t frozen => .cells ((Lib.deBruijn32tab.map fun n => Value.int .u8 (Int.ofNat n)).toArray) t frozen
      | o => o }
theorem laid_met (os : Os) : laidMet Tryd.prog Rows.numberSignsUptoRow.laid ((laidWorld os).forCall (fun _ _ => 0) ⟨#[], #[.agg #[.bool false, .slice none 0 0, .slice none 0 0]], []⟩).memory :=
  laidMet_of_run' 64 (by kernel_rfl) (by kernel_rfl)
theorem reads (os : Os) {H : Type} (enc : TypeId × Value → H) : ∃ places, DataW.whole enc Tryd.prog ((laidWorld os).forCall (fun _ _ => 0) ⟨#[], #[.agg #[.bool false, .slice none 0 0, .slice none 0 0]], []⟩).memory Tryd.f5.params.toList Rows.numberSignsSpec.vars false (#[.agg #[.bool false, .slice none 0 0, .slice none 0 0]] : Array Value).toList 64 = some ([.agg [.lit (.bool false), .nil, .nil]], [], places) :=
  ⟨[], by kernel_rfl⟩
set_option maxRecDepth 100000 in
theorem lifted (os : Os) (started : os.Started) (H : Type) (enc : TypeId × Value → H) (F : Stop.Interp) :
    ReturnsInHanded {} Tryd.checked os 5 .any ((Rows.OpenSpec.upto Rows.numberSignsSpec).preRow enc Tryd.prog Tryd.f5 Rows.numberSignsUptoRow.domain false Rows.numberSignsUptoRow.laid) (((Rows.OpenSpec.upto Rows.numberSignsSpec).at F).post enc Tryd.prog Tryd.f5 false true false false) := by
  obtain ⟨places, hx⟩ := reads os enc
  refine returnsInHanded_of_row (C := Tryd.checked) (s := Rows.OpenSpec.upto Rows.numberSignsSpec) own started (by kernel_rfl) Tryd.func5
    (witness_row_at (enc := enc) (C := Tryd.checked) false (laidWorld os) #[.agg #[.bool false, .slice none 0 0, .slice none 0 0]] rfl (by kernel_rfl) (by kernel_rfl) (by kernel_rfl)
      (OpenSpec.preRow_of_cond 64 hx (by kernel_rfl) (fun k hk => by cases hk; kernel_rfl) (by kernel_rfl) (laid_met os))) ?_
  intro W base args ds gs before hval hW _ hcond hreach hL _ _
  exact contract H enc W base args ds gs before hval hW hL (by simpa [Rows.uptoSmall] using hcond _ rfl)
theorem said : Rows.NumberSignsUptoSaid :=
  OpenClaim.holds_of_cond 5 Tryd.f5 rfl rfl rfl rfl rfl rfl rfl ⟨rfl, rfl, rfl, rfl, rfl⟩ rfl rfl rfl rfl rfl (by kernel_rfl) Tryd.func5 (by kernel_rfl)
    (of_decide_eq_true (by kernel_rfl)) (by unfold Func.isWrapper; first | (rw [if_pos (by decide +kernel)]; kernel_rfl) | (rw [if_neg (by decide +kernel)]; exact ⟨rfl, rfl⟩))
    (fun os started H enc _ F => by rw [OpenClaim.pre_eq_preRow]; exact lifted os started H enc F)
theorem plain (f : FuncId) (fn : Func) (hf : Tryd.pinned.checked.prog.funcNamed "inequality/inequalitylaw01.NumberSigns" = some f) (hfn : Tryd.pinned.checked.prog.funcs[f]? = some fn) :
    false = Tryd.pinned.checked.prog.looks [] ∧ ∀ (j : Nat) t, fn.params[j]? = some t → Tryd.pinned.checked.prog.wantsStandIn t = false := by
  obtain rfl : f = 5 := Option.some.inj ((show Tryd.prog.funcNamed "inequality/inequalitylaw01.NumberSigns" = some 5 by kernel_rfl).symm.trans hf) |>.symm
  obtain rfl : fn = Tryd.f5 := (Option.some.inj (Tryd.func5.symm.trans hfn)).symm
  refine ⟨by kernel_rfl, fun j t ht => ?_⟩
  rw [Tryd.params5] at ht
  have hm := Array.mem_of_getElem? ht
  simp at hm
  subst hm
  exact (show Tryd.prog.wantsStandIn 24 = false by kernel_rfl)
theorem card : Rows.NumberSignsUptoCardSaid :=
  Claim7.holds_tied_plain_at .later [] _ _ _ _ said (fun _ h => by cases h) (by kernel_rfl) (fun _ h => by cases h) numberSignsUpto_row_tie rfl ⟨rfl, rfl⟩ (by kernel_rfl) rfl plain (by kernel_rfl)
end Go.Proofs.YtfmhplcpejmkhabDoor.lawNumberSigns
