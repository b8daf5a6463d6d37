/-
  Contracts of number.simplest: the walk. Under the premise that the table of math/bits lies as its initialiser lays it.
  Contract of the reference's NatRoot. No condition but bounds.
  Roots of rational numbers: plain laws.
  The reference's natural and rational numbers as values of a known number: contracts by what they denote; two rational numbers in variables.
  Contracts of the reference: plain.
  Contracts: number.Sign, the reference's Mag. Under the premise that the table of math/bits lies as its initialiser lays it.
  Contracts of the reference's Plain, Simplest.
  Contracts of number.Simplest. Under the premise that the table of math/bits lies as its initialiser lays it.
  Contract of the statements' own awake.
  The walk of the statement NumberSimplest. Under the premise that the table of math/bits lies as its initialiser lays it.
  From a row's reading to the walks' premises: a number as it comes in, the table of math/bits, and what an answer 'true' over untouched arguments gives.
  The statement NumberSimplestUptoCardSaid: the row, and the card over it. Conditions: the walks' none but what the row's reading and its listed table give.
-/
import Derived.Test.YtfmhplcpejmkhabDoorCards
import Derived.Test.YtfmhplcpejmkhabDoorTie
import Derived.WalkKit
import Derived.ProofKit
import Derived.OpenShut
import Derived.Carry
import Derived.Deep.DeepHandedRow
import Derived.Lib.LaidTab
import Derived.Lib.SmallJoins
import Derived.ChangeSlices
import Derived.Test.YtfmhplcpejmkhabDoorPSimplestD
namespace Go.Proofs.YtfmhplcpejmkhabDoor
open Go.RowKit Dig
set_option linter.unusedVariables false
set_option linter.unusedSimpArgs false
theorem b1_next {M M' : World} {g : Nat} {s : Bool} {A : Option Addr} {n c : Nat} {B : Option Addr} {m d : Nat} (h : (World.cell? M ⟨g, 0, none⟩ = some (.bool s) ∧ World.cell? M ⟨g, 1, none⟩ = some (.slice A n c) ∧ World.cell? M ⟨g, 2, none⟩ = some (.slice B m d))) (hb : Below M.heap.size M M') : (World.cell? M' ⟨g, 0, none⟩ = some (.bool s) ∧ World.cell? M' ⟨g, 1, none⟩ = some (.slice A n c) ∧ World.cell? M' ⟨g, 2, none⟩ = some (.slice B m d)) :=
  ⟨(hb.cell (World.block_lt_of_cell? M _ h.1)).trans h.1, (hb.cell (World.block_lt_of_cell? M _ h.2.1)).trans h.2.1, (hb.cell (World.block_lt_of_cell? M _ h.2.2)).trans h.2.2⟩
theorem b1_far {M : World} {g g5 : Nat} {s : Bool} {A : Option Addr} {n c : Nat} {B : Option Addr} {m d : Nat} {x y z : Value} (h : (World.cell? M ⟨g, 0, none⟩ = some (.bool s) ∧ World.cell? M ⟨g, 1, none⟩ = some (.slice A n c) ∧ World.cell? M ⟨g, 2, none⟩ = some (.slice B m d))) (hn : g ≠ g5) : (World.cell? (((M.setCell ⟨g5, 0, none⟩ x).setCell ⟨g5, 1, none⟩ y).setCell ⟨g5, 2, none⟩ z) ⟨g, 0, none⟩ = some (.bool s) ∧ World.cell? (((M.setCell ⟨g5, 0, none⟩ x).setCell ⟨g5, 1, none⟩ y).setCell ⟨g5, 2, none⟩ z) ⟨g, 1, none⟩ = some (.slice A n c) ∧ World.cell? (((M.setCell ⟨g5, 0, none⟩ x).setCell ⟨g5, 1, none⟩ y).setCell ⟨g5, 2, none⟩ z) ⟨g, 2, none⟩ = some (.slice B m d)) := by
  have hg := grown_set3 M g5 x y z
  exact ⟨hg.cell h.1 (fun e => hn (Option.some.inj e)), hg.cell h.2.1 (fun e => hn (Option.some.inj e)), hg.cell h.2.2 (fun e => hn (Option.some.inj e))⟩
theorem b1_of {M : World} {g : Nat} {s : Bool} {A : Option Addr} {n c : Nat} {B : Option Addr} {m d : Nat} {t : TypeId} (h : Box M g (.bool s) (.slice A n c) (.slice B m d) t) : (World.cell? M ⟨g, 0, none⟩ = some (.bool s) ∧ World.cell? M ⟨g, 1, none⟩ = some (.slice A n c) ∧ World.cell? M ⟨g, 2, none⟩ = some (.slice B m d)) := by
  obtain ⟨a, b, c, _, _, _⟩ := h.cells
  exact ⟨a, b, c⟩
theorem E1.next {M M' : World} {g o : Nat} {s : Bool} {A : Option Addr} {n c : Nat} {B : Option Addr} {m d : Nat} (h : (World.cell? M ⟨g, o, none⟩ = some (.bool s) ∧ World.cell? M ⟨g, o + 1, none⟩ = some (.slice A n c) ∧ World.cell? M ⟨g, o + 2, none⟩ = some (.slice B m d))) (hb : Below M.heap.size M M') : (World.cell? M' ⟨g, o, none⟩ = some (.bool s) ∧ World.cell? M' ⟨g, o + 1, none⟩ = some (.slice A n c) ∧ World.cell? M' ⟨g, o + 2, none⟩ = some (.slice B m d)) :=
  ⟨(hb.cell (World.block_lt_of_cell? M _ h.1)).trans h.1, (hb.cell (World.block_lt_of_cell? M _ h.2.1)).trans h.2.1, (hb.cell (World.block_lt_of_cell? M _ h.2.2)).trans h.2.2⟩
theorem E1.far {M : World} {g g5 o : Nat} {s : Bool} {A : Option Addr} {n c : Nat} {B : Option Addr} {m d : Nat} {x y z : Value} (h : (World.cell? M ⟨g, o, none⟩ = some (.bool s) ∧ World.cell? M ⟨g, o + 1, none⟩ = some (.slice A n c) ∧ World.cell? M ⟨g, o + 2, none⟩ = some (.slice B m d))) (hn : g ≠ g5) : (World.cell? (((M.setCell ⟨g5, 0, none⟩ x).setCell ⟨g5, 1, none⟩ y).setCell ⟨g5, 2, none⟩ z) ⟨g, o, none⟩ = some (.bool s) ∧ World.cell? (((M.setCell ⟨g5, 0, none⟩ x).setCell ⟨g5, 1, none⟩ y).setCell ⟨g5, 2, none⟩ z) ⟨g, o + 1, none⟩ = some (.slice A n c) ∧ World.cell? (((M.setCell ⟨g5, 0, none⟩ x).setCell ⟨g5, 1, none⟩ y).setCell ⟨g5, 2, none⟩ z) ⟨g, o + 2, none⟩ = some (.slice B m d)) := by
  have hg := grown_set3 M g5 x y z
  exact ⟨hg.cell h.1 (fun e => hn (Option.some.inj e)), hg.cell h.2.1 (fun e => hn (Option.some.inj e)), hg.cell h.2.2 (fun e => hn (Option.some.inj e))⟩
/-- every end of the beginnings is the beginnings of its own -/
theorem plainL_drop (X : Nat) : ∀ (j n d m e : Nat), Btw n d m e → n ≤ X → d ≤ X → m ≤ X → e ≤ X → j < (plainL n d m e).length → ∃ n' d' m' e', Btw n' d' m' e' ∧ n' ≤ X ∧ d' ≤ X ∧ (plainL n d m e).drop j = plainL n' d' m' e'
  | 0, n, d, m, e, hB, x1, x2, x3, x4, hj => ⟨n, d, m, e, hB, x1, x2, rfl⟩
  | j + 1, n, d, m, e, hB, x1, x2, x3, x4, hj => by
    by_cases h1 : n % d = 0
    · rw [plainL_whole h1] at hj; simp at hj
    · by_cases h2 : (n / d + 1) * e ≤ m
      · rw [plainL_above h1 h2] at hj; simp at hj
      · rw [plainL_step hB h1 h2] at hj ⊢
        have hm := Nat.mod_lt n hB.d0
        exact plainL_drop X j _ _ _ _ (hB.next h1 h2).1 x4 (Nat.le_trans (Nat.sub_le _ _) x3) x2 (Nat.le_trans (Nat.le_of_lt hm) x2) (by simpa using hj)
theorem fold_bounds {X n d m e : Nat} (hB : Btw n d m e) (x1 : n ≤ X) (x2 : d ≤ X) (x3 : m ≤ X) (x4 : e ≤ X) : ∀ j, j < (plainL n d m e).length → 0 < (foldL ((plainL n d m e).drop j)).1 ∧ 0 < (foldL ((plainL n d m e).drop j)).2 ∧ (foldL ((plainL n d m e).drop j)).1 ≤ X ∧ (foldL ((plainL n d m e).drop j)).2 ≤ X := by
  intro j hj
  obtain ⟨n', d', m', e', hB', y1, y2, he⟩ := plainL_drop X j n d m e hB x1 x2 x3 x4 hj
  rw [he]
  have h1 := plain_is hB'
  have h2 := plain_le hB'
  exact ⟨h1.x0, h1.y0, Nat.le_trans h2.1 y1, Nat.le_trans h2.2 y2⟩
theorem foldL_drop {L : List Nat} {j : Nat} (hj : j + 1 < L.length) : foldL (L.drop j) = (L[j]'(by omega) * (foldL (L.drop (j + 1))).1 + (foldL (L.drop (j + 1))).2, (foldL (L.drop (j + 1))).1) := by
  rw [List.drop_eq_getElem_cons (by omega)]
  exact foldL_cons (by
    intro h
    have := congrArg List.length h
    simp at this
    omega)
theorem IsF.kept3 {w M : World} {g : Nat} {t : TypeId} {q : Rat} {s : Bool} {A1 A2 : Option Addr} {n1 c1 n2 c2 : Nat} (h : IsF M (.agg #[.bool s, .slice A1 n1 c1, .slice A2 n2 c2]) q) (hr : Res M g t) (hb : Below w.heap.size w M) (hg : w.heap.size ≤ g) :
    let M' := ((M.setCell ⟨g, 0, none⟩ (.bool s)).setCell ⟨g, 1, none⟩ (.slice A1 n1 c1)).setCell ⟨g, 2, none⟩ (.slice A2 n2 c2)
    M'.cell? ⟨g, 0, none⟩ = some (.bool s) ∧ M'.cell? ⟨g, 1, none⟩ = some (.slice A1 n1 c1) ∧ M'.cell? ⟨g, 2, none⟩ = some (.slice A2 n2 c2) ∧
    IsF M' (.agg #[.bool s, .slice A1 n1 c1, .slice A2 n2 c2]) q ∧ Below w.heap.size w M' := by
  intro M'
  obtain ⟨x, y, z, hx, hy, hz, hb4⟩ := hr
  obtain ⟨q0, q1, q2, _, _, _⟩ := (hb4.set3 (.bool s) (.slice A1 n1 c1) (.slice A2 n2 c2)).cells
  exact ⟨q0, q1, q2, h.grown hb4 hx hy hz (grown_set3 _ _ _ _ _), below_set3 hb hg _ _ _⟩
/-- the end: the fractions and the result so far -/
structure SO (w M : World) (v : Value) (L : List Nat) (g9 : Nat) (s : Bool) (A : Option Addr) (n c : Nat) (B : Option Addr) (m d : Nat) (q : Rat) : Prop where
  e : SE w M v L
  b : Box M g9 (.bool s) (.slice A n c) (.slice B m d) 65
  i : IsF M (.agg #[.bool s, .slice A n c, .slice B m d]) q
  n9 : w.heap.size + 1 + 1 < g9
  nw : v.ownBlock ≠ some g9
theorem SO.below {w M M' : World} {v : Value} {L : List Nat} {g9 : Nat} {s : Bool} {A : Option Addr} {n c : Nat} {B : Option Addr} {m d : Nat} {q : Rat} (h : SO w M v L g9 s A n c B m d q) (hb : Below M.heap.size M M') : SO w M' v L g9 s A n c B m d q :=
  ⟨h.e.below hb, h.b.below hb, h.i.below hb, h.n9, h.nw⟩
theorem SO.cellsE {w M : World} {v : Value} {L : List Nat} {g9 : Nat} {s : Bool} {A : Option Addr} {n c : Nat} {B : Option Addr} {m d : Nat} {q : Rat} {g o : Nat} {s2 : Bool} {A2 : Option Addr} {n2 c2 : Nat} {B2 : Option Addr} {m2 d2 : Nat} (h : SO w M v L g9 s A n c B m d q) (he : (World.cell? M ⟨g, o, none⟩ = some (.bool s2) ∧ World.cell? M ⟨g, o + 1, none⟩ = some (.slice A2 n2 c2) ∧ World.cell? M ⟨g, o + 2, none⟩ = some (.slice B2 m2 d2))) : (World.cell? M ⟨g, o, none⟩ = some (.bool s2) ∧ World.cell? M ⟨g, o + 1, none⟩ = some (.slice A2 n2 c2) ∧ World.cell? M ⟨g, o + 2, none⟩ = some (.slice B2 m2 d2) ∧ World.cell? M ⟨g9, 0, none⟩ = some (.bool s) ∧ World.cell? M ⟨g9, 1, none⟩ = some (.slice A n c) ∧ World.cell? M ⟨g9, 2, none⟩ = some (.slice B m d) ∧ Hid (SO w M v L g9 s A n c B m d q)) := by
  obtain ⟨a1, a2, a3, _, _, _⟩ := h.b.cells
  exact ⟨he.1, he.2.1, he.2.2, a1, a2, a3, h⟩
theorem SO.ofE {w M : World} {v : Value} {L : List Nat} {g9 : Nat} {s : Bool} {A : Option Addr} {n c : Nat} {B : Option Addr} {m d : Nat} {q : Rat} {g o : Nat} {s2 : Bool} {A2 : Option Addr} {n2 c2 : Nat} {B2 : Option Addr} {m2 d2 : Nat} (h : (World.cell? M ⟨g, o, none⟩ = some (.bool s2) ∧ World.cell? M ⟨g, o + 1, none⟩ = some (.slice A2 n2 c2) ∧ World.cell? M ⟨g, o + 2, none⟩ = some (.slice B2 m2 d2) ∧ World.cell? M ⟨g9, 0, none⟩ = some (.bool s) ∧ World.cell? M ⟨g9, 1, none⟩ = some (.slice A n c) ∧ World.cell? M ⟨g9, 2, none⟩ = some (.slice B m d) ∧ Hid (SO w M v L g9 s A n c B m d q))) : SO w M v L g9 s A n c B m d q := h.2.2.2.2.2.2.out
theorem SO.nextE {w M M' : World} {v : Value} {L : List Nat} {g9 : Nat} {s : Bool} {A : Option Addr} {n c : Nat} {B : Option Addr} {m d : Nat} {q : Rat} {g o : Nat} {s2 : Bool} {A2 : Option Addr} {n2 c2 : Nat} {B2 : Option Addr} {m2 d2 : Nat} (h : (World.cell? M ⟨g, o, none⟩ = some (.bool s2) ∧ World.cell? M ⟨g, o + 1, none⟩ = some (.slice A2 n2 c2) ∧ World.cell? M ⟨g, o + 2, none⟩ = some (.slice B2 m2 d2) ∧ World.cell? M ⟨g9, 0, none⟩ = some (.bool s) ∧ World.cell? M ⟨g9, 1, none⟩ = some (.slice A n c) ∧ World.cell? M ⟨g9, 2, none⟩ = some (.slice B m d) ∧ Hid (SO w M v L g9 s A n c B m d q))) (hb : Below M.heap.size M M') : (World.cell? M' ⟨g, o, none⟩ = some (.bool s2) ∧ World.cell? M' ⟨g, o + 1, none⟩ = some (.slice A2 n2 c2) ∧ World.cell? M' ⟨g, o + 2, none⟩ = some (.slice B2 m2 d2) ∧ World.cell? M' ⟨g9, 0, none⟩ = some (.bool s) ∧ World.cell? M' ⟨g9, 1, none⟩ = some (.slice A n c) ∧ World.cell? M' ⟨g9, 2, none⟩ = some (.slice B m d) ∧ Hid (SO w M' v L g9 s A n c B m d q)) :=
  SO.cellsE ((SO.ofE h).below hb) (E1.next ⟨h.1, h.2.1, h.2.2.1⟩ hb)
theorem SO.stored {w M : World} {v : Value} {L : List Nat} {g9 : Nat} {s : Bool} {A : Option Addr} {n c : Nat} {B : Option Addr} {m d : Nat} {q : Rat} {s2 : Bool} {A2 : Option Addr} {n2 c2 : Nat} {B2 : Option Addr} {m2 d2 : Nat} {q2 : Rat} (h : SO w M v L g9 s A n c B m d q) (h2 : IsF M (.agg #[.bool s2, .slice A2 n2 c2, .slice B2 m2 d2]) q2) :
    SO w (((M.setCell ⟨g9, 0, none⟩ (.bool s2)).setCell ⟨g9, 1, none⟩ (.slice A2 n2 c2)).setCell ⟨g9, 2, none⟩ (.slice B2 m2 d2)) v L g9 s2 A2 n2 c2 B2 m2 d2 q2 := by
  have hg := grown_set3 M g9 (.bool s2) (.slice A2 n2 c2) (.slice B2 m2 d2)
  have z0 := NI.bool s
  have z1 := NI.slice A n c
  have z2 := NI.slice B m d
  have hn := h.n9
  exact ⟨⟨by obtain ⟨x', y', z', hx', hy', hz', h4⟩ := h.e.res; exact ⟨x', y', z', hx', hy', hz', h4.far (by omega)⟩, h.e.ws.boxed h.b z0 z1 z2 hg h.nw, h.e.tab.grown hg (by omega), below_set3 h.e.bel (by omega) _ _ _, h.e.w0⟩, h.b.set3 _ _ _, h2.grown h.b z0 z1 z2 hg, h.n9, h.nw⟩
theorem SE.born {w M : World} {v : Value} {L : List Nat} {s2 : Bool} {A2 : Option Addr} {n2 c2 : Nat} {B2 : Option Addr} {m2 d2 : Nat} {q2 : Rat} (h : SE w M v L) (h2 : IsF M (.agg #[.bool s2, .slice A2 n2 c2, .slice B2 m2 d2]) q2) :
    SO w (M.alloc (.cells #[.bool s2, .slice A2 n2 c2, .slice B2 m2 d2] 65)) v L M.heap.size s2 A2 n2 c2 B2 m2 d2 q2 := by
  obtain ⟨_, _, _, _, _, _, h4⟩ := h.res
  have := h4.lt
  exact ⟨h.below (below_alloc _ _), Box.new _ _ _ _ _, h2.below (below_alloc _ _), this, fun e => by have := (h.ws.lt _ e).2; omega⟩
theorem qq_Wq_le {j k : Nat} {q : Rat} (h : Wq j q) (hk : j ≤ k) : Wq k q := ⟨Nat.le_trans h.1 hk, Nat.le_trans h.2 hk⟩
theorem bl_bound {n X : Nat} (h : n ≤ X) (hX : (W X).length ≤ 70) : bl n ≤ 2240 := Nat.le_trans (bl_mono h) (Nat.le_trans (bl_length X) (by omega))
set_option maxHeartbeats 16000000 in
set_option maxRecDepth 100000 in
theorem nsimplestF (N D M' E X : Nat) (hX : (W X).length ≤ 70) (hB : Btw N D M' E) (x1 : N ≤ X) (x2 : D ≤ X) (x3 : M' ≤ X) (x4 : E ≤ X) (s1 : Bool) (A1 : Option Addr) (n1 c1 : Nat) (B1 : Option Addr) (m1 d1 : Nat) (s2 : Bool) (A2 : Option Addr) (n2 c2 : Nat) (B2 : Option Addr) (m2 d2 : Nat) (w : World) (h1 : IsF w (.agg #[.bool s1, .slice A1 n1 c1, .slice B1 m1 d1]) (qq N D)) (h2 : IsF w (.agg #[.bool s2, .slice A2 n2 c2, .slice B2 m2 d2]) (qq M' E)) (hT : Tab w) (pl : Nat × Nat) (hpl : plainN N D M' E = pl) :
    Calls Tryd.prog 88 #[(.agg #[.bool s1, .slice A1 n1 c1, .slice B1 m1 d1]), (.agg #[.bool s2, .slice A2 n2 c2, .slice B2 m2 d2])] w fun e w' => ∃ u, e = .returned u ∧ IsF w' u (qq pl.1 pl.2) ∧ Below w.heap.size w w' := by
  obtain ⟨M, hM, T0⟩ := SL.start w h1 h2 hT
  have T0 := Lib.hid T0
  have HB0 := Lib.hid hB
  have C0 := Lib.hid (show CFI 8960 [] N D M' E from Or.inl ⟨rfl, ⟨by have := bl_bound x1 hX; have := bl_bound x2 hX; have := bl_bound x3 hX; have := bl_bound x4 hX; simp; omega, Or.inl rfl⟩⟩)
  have X0 := Lib.hid (show N ≤ X ∧ D ≤ X ∧ M' ≤ X ∧ E ≤ X from ⟨x1, x2, x3, x4⟩)
  have HX := Lib.hid hX
  have FB := Lib.hid (fold_bounds hB x1 x2 x3 x4)
  obtain ⟨L, hL⟩ : ∃ L, plainL N D M' E = L := ⟨_, rfl⟩
  have HPL := Lib.hid (show foldL L = pl by rw [← hL]; exact hpl)
  rw [hL] at FB
  have HL0 := Lib.hid (show L = [] ++ plainL N D M' E by rw [hL]; rfl)
  have CI := Lib.hid (fun w => (fracInt 1 (by omega) (by omega) w).mono (R' := fun e w' => ∃ u, e = .returned u ∧ IsF w' u ((1 : Int) : Rat) ∧ Below w.heap.size w w') (fun e w' ⟨u, he, hu, hb⟩ => ⟨u, he, hu, hb⟩))
  have K1 := Lib.hid (show Wq 1000 ((1 : Int) : Rat) from fit_Wq (int_fit (n := 1) (by omega) (by omega)) (by omega))
  have CQ := Lib.hid (fun k => qq_one k)
  have CG := Lib.hid (fun (n d : Nat) (hd : 0 < d) (hn : n ≤ X) (hdx : d ≤ X) (w : World) (v : Value) (h : IsF w v (qq n d)) (t : Tab w) => (show Calls Tryd.prog 116 #[v, .int .i64 0, .bool false] w _ from Calls.partsF (fGrid (qq n d) 0 false (by omega) w v h ((qq_Wq (k := 200000) hn hdx hd (Nat.le_trans hX (by omega)))) t)))
  generalize ((1 : Int) : Rat) = one at CI K1 CQ
  clear h1 h2 hT hB hX x1 x2 x3 x4 hpl hL
  go_enter Tryd.func88, Tryd.ntmps88
  go_upto_region 1 with (fail)
  rw [← hM]
  clear hM
  go_wp2_with fail
  go_loopg [5] (D + E) (fun kk v5 wr => ∃ (p : LP), v5 = p.v ∧ Hid (SL w wr p) ∧ Hid (Btw p.n p.d p.m p.e) ∧ Hid (p.n ≤ X ∧ p.d ≤ X ∧ p.m ≤ X ∧ p.e ≤ X) ∧ Hid (L = p.ks ++ plainL p.n p.d p.m p.e) ∧ Hid (CFI 8960 p.ks p.n p.d p.m p.e) ∧ Hid (p.d + p.e ≤ kk))
  case atStart => exact ⟨⟨⟨s1, A1, n1, c1, B1, m1, d1⟩, ⟨s2, A2, n2, c2, B2, m2, d2⟩, .slice none 0 0, N, D, M', E, []⟩, rfl, T0, HB0, X0, HL0, C0, Lib.hid (Nat.le_refl _)⟩
  case round =>
    obtain ⟨p, rfl, TS, HB, HXS, HLL, HC, HKK⟩ := hrel
    clear T0 HB0 X0 HL0 C0
    have CF := Lib.hid (CG.out p.n p.d HB.out.d0 HXS.out.1 HXS.out.2.1)
    rw [qq_floor _ _ HB.out.d0] at CF
    have QF := Lib.hid (show Wq 100 (qq p.n p.d) from qq_Wq HXS.out.1 HXS.out.2.1 HB.out.d0 (Nat.le_trans HX.out (by omega)))
    have QG := Lib.hid (show Wq 100 (qq p.m p.e) from qq_Wq HXS.out.2.2.1 HXS.out.2.2.2 HB.out.e0 (Nat.le_trans HX.out (by omega)))
    have x0 : 1 ≤ X := Nat.le_trans HB.out.d0 HXS.out.2.1
    have hkX : p.n / p.d ≤ X := Nat.le_trans (Nat.div_le_self _ _) HXS.out.1
    have QW := Lib.hid (show Wq 100 (qq (p.n / p.d) 1) from qq_Wq hkX x0 Nat.one_pos (Nat.le_trans HX.out (by omega)))
    have KX := Lib.hid hkX
    have X1 := Lib.hid x0
    clear x0 hkX
    obtain ⟨x1, y1, z1, _, _, _⟩ := TS.out.f.cells
    go_wp2_with fail
    refine (CF.out _ _ TS.out.fa TS.out.tab).mono ?_
    rintro e wa ⟨t1, B1, m1, d1, B1', m1', d1', rfl, i1, ba⟩
    have T1 : Hid (SW w (wa.alloc (.cells #[.bool t1, .slice B1 m1 d1, .slice B1' m1' d1'] 65)) wa.heap.size t1 B1 m1 d1 B1' m1' d1' (qq (p.n / p.d) 1) p) :=
      Lib.hid ⟨(TS.out.below ba).below (below_alloc _ _), Box.new _ _ _ _ _, i1.out.below (below_alloc _ _), fun e => by have := ((TS.out.below ba).ws.lt _ e).2; omega⟩
    obtain ⟨w2, hw2⟩ : ∃ v, wa.alloc (.cells #[.bool t1, .slice B1 m1 d1, .slice B1' m1' d1'] 65) = v := ⟨_, rfl⟩
    obtain ⟨gW, hgW⟩ : ∃ v, wa.heap.size = v := ⟨_, rfl⟩
    clear ba i1 x1 y1 z1 TS CF
    go_upto_region 3 with (fail)
    rw [hw2, hgW] at T1
    try rw [hw2]
    try rw [hgW]
    clear hw2 hgW
    obtain ⟨x1, y1, z1, _, _, _⟩ := T1.out.b.cells
    obtain ⟨x2, y2, z2, _, _, _⟩ := T1.out.l.f.cells
    obtain ⟨c1, hc1⟩ : ∃ c, cmpQ (qq (p.n / p.d) 1) (qq p.n p.d) = c := ⟨_, rfl⟩
    have HC1 := Lib.hid hc1
    have hz := qq_whole p.n p.d HB.out.d0
    rw [hc1] at hz
    clear hc1
    go_wp2_with fail
    refine (fCmp _ _ _ _ _ T1.out.i T1.out.l.fa (qq_Wq_le QW.out (by omega)) (qq_Wq_le QF.out (by omega))).mono ?_
    rw [HC1.out]
    rintro e wb ⟨rfl, bb⟩
    replace T1 := Lib.hid (T1.out.below bb)
    clear bb x1 y1 z1 x2 y2 z2
    by_cases hr : p.n % p.d = 0
    · rw [decide_eq_true hr] at hz
      replace HLL := Lib.hid (HLL.out.trans (by rw [plainL_whole hr]))
      clear hr
      obtain ⟨fs, hfl, ho, hff⟩ := (T1.out.l.below (below_alloc wb (.cells #[.bool t1, .slice B1 m1 d1, .slice B1' m1' d1'] 65))).opened
      have HO := Lib.hid ho
      have HFF := Lib.hid hff
      have HFS := Lib.hid hfl
      have hks : p.ks.length ≤ 10000 := by have := HC.out.len; omega
      have HBS := Lib.hid (show w.heap.size + 1 + 1 + 1 ≤ (wb.alloc (.cells #[.bool t1, .slice B1 m1 d1, .slice B1' m1' d1'] 65)).heap.size by
        obtain ⟨_, _, _, _, _, _, h4⟩ := T1.out.l.res
        have := h4.lt
        simp; omega)
      clear ho hff hfl
      obtain ⟨x1, y1, z1, _, _, _⟩ := T1.out.b.cells
      go_wp2_with (at_builtin; refine OwnF.wp rfl _ _ rfl Tryd.underlying122 (w.heap.size + 1 + 1 + 1) p.v p.ks.length _ rfl HO.out ⟨wb.heap.size, 0, none⟩ 1 t1 B1 m1 d1 B1' m1' d1' rfl (new3 _ _ _ _ _) (by omega) HBS.out ?_)
      intro v' w1 hown hgrow
      have TP := Lib.hid ((T1.out.l.below (below_alloc wb (.cells #[.bool t1, .slice B1 m1 d1, .slice B1' m1' d1'] 65))).pushed HFS.out HO.out HFF.out (k := p.n / p.d) (T1.out.i.below (below_alloc _ _)) hown hgrow)
      clear hown hgrow x1 y1 z1 HO HFF HFS HBS hks
      have HE : Hid (SE w w1 v' L) := Lib.hid (by have h := TP.out; have e := HLL.out; rw [e]; exact ⟨h.res, h.ws, h.tab, h.bel, h.w0⟩)
      clear T1 TP QF QG QW CG
      obtain ⟨l, hl⟩ : ∃ l, L.length = l + 1 := ⟨p.ks.length, by rw [HLL.out]; simp⟩
      have hl2 : l ≤ 9000 := by have h1 := HC.out.len; have h2 := hl; rw [HLL.out] at h2; simp at h2; omega
      obtain ⟨A5, cap5, hv5, hcp1, hcp2⟩ := HE.out.ws.shape
      obtain ⟨k9, hk9⟩ : ∃ k, L[l]? = some k := ⟨L[l]'(by omega), List.getElem?_eq_getElem (by omega)⟩
      have HW1 := HE.out.ws
      rw [hv5] at HW1
      obtain ⟨g, s3, A3, n3, c3, B3, m3, d3, hA5, ce1, ce2, ce3, ie⟩ := HW1.get hk9
      subst hA5
      rw [hl] at hv5 hcp1
      subst hv5
      have HLN := Lib.hid hl
      have IE := Lib.hid ie
      have HK9 := Lib.hid hk9
      have HFL : foldL (L.drop l) = (k9, 1) := by
        have h1 := HLN.out
        rw [List.drop_eq_getElem_cons (by omega)]
        have h2 : L.drop (l + 1) = [] := List.drop_of_length_le (by omega)
        have h3 : L[l]'(by omega) = k9 := by have := HK9.out; rw [List.getElem?_eq_getElem (by omega)] at this; exact Option.some.inj this
        rw [h2, h3]
        rfl
      have HFL := Lib.hid HFL
      have e1 : ((l : Int) + 1) - 1 = (l : Int) := by omega
      have e2 : (((l + 1 : Nat)) : Int) - 1 = (l : Int) := by omega
      have e3 : ((l : Int) + 1) - 2 = (l : Int) - 1 := by omega
      have e4 : (((l + 1 : Nat)) : Int) - 2 = (l : Int) - 1 := by omega
      clear HW1 ie hl hk9 HC HLL
      go_upto_region 11 with (fail)
      go_upto_region 12 with (fail)
      have TO := Lib.hid (HE.out.born IE.out)
      obtain ⟨wz, hwz⟩ : ∃ v, w1.alloc (.cells #[.bool s3, .slice A3 n3 c3, .slice B3 m3 d3] 65) = v := ⟨_, rfl⟩
      obtain ⟨g9, hg9⟩ : ∃ v, w1.heap.size = v := ⟨_, rfl⟩
      rw [hwz, hg9] at TO
      try rw [hwz]
      try rw [hg9]
      clear hwz hg9 ce1 ce2 ce3 IE HE
      go_wp2_with fail
      go_loopg [10] l (fun kk v10 wr => ∃ (j : Nat) (s9 : Bool) (A9 : Option Addr) (n9 c9 : Nat) (B9 : Option Addr) (m9 d9 : Nat) (x y : Nat), v10 = .int .i64 ((j : Int) - 1) ∧ j ≤ l ∧ j ≤ kk ∧ Hid (foldL (L.drop j) = (x, y)) ∧ Hid (SO w wr (.slice (some ⟨g, 0, none⟩) (l + 1) cap5) L g9 s9 A9 n9 c9 B9 m9 d9 (qq x y)))
      case atStart => exact ⟨l, _, _, _, _, _, _, _, k9, 1, rfl, Nat.le_refl _, Nat.le_refl _, HFL, TO⟩
      case round =>
        obtain ⟨j, s9, A9, n9, c9, B9, m9, d9, x, y, rfl, hj, hkk, HF, TO⟩ := hrel
        rcases j with _ | i
        · have hneg : decide (0 ≤ (((0 : Nat) : Int) - 1)) = false := by decide
          have hneg2 : decide ((0 : Int) ≤ -1) = false := by decide
          obtain ⟨o1, o2, o3, _, _, _⟩ := TO.out.b.cells
          obtain ⟨z1', z2', z3', hz1, hz2, hz3, k1, k2, k3⟩ := TO.out.e.res.cells
          obtain ⟨q0, q1, q2, hs, hb⟩ := IsF.kept3 TO.out.i TO.out.e.res TO.out.e.bel (by omega)
          have Q := Lib.hid (And.intro q0 (And.intro q1 q2))
          have HS := Lib.hid hs
          have HBB := Lib.hid hb
          have HP : pl = (x, y) := by rw [← HPL.out, ← HF.out]; rfl
          clear q0 q1 q2 hs hb
          go_wp2_with fail
          obtain ⟨q0, q1, q2⟩ := Q.out
          refine bodyPost_ret (v := .agg #[.bool s9, .slice A9 n9 c9, .slice B9 m9 d9]) (by simp [results, Tryd.results88, go_sem, q0, q1, q2]) rfl ?_
          subst HP
          exact ⟨_, rfl, HS.out, HBB.out⟩
        · have hx : (((i + 1 : Nat) : Int) - 1) = (i : Int) := by omega
          rw [hx]
          have hpos : decide (0 ≤ (i : Int)) = true := decide_eq_true (by omega)
          have hlt : i < L.length := by rw [HLN.out]; omega
          obtain ⟨k7, hk7⟩ : ∃ k, L[i]? = some k := ⟨L[i]'hlt, List.getElem?_eq_getElem hlt⟩
          have hlt2 : i + 1 < L.length := by rw [HLN.out]; omega
          have hstep := foldL_drop (L := L) (j := i) hlt2
          rw [HF.out, show L[i] = k7 by rw [List.getElem?_eq_getElem hlt] at hk7; exact Option.some.inj hk7] at hstep
          have HST := Lib.hid hstep
          have B1' := FB.out (i + 1) hlt2
          have B2' := FB.out i hlt
          rw [HF.out] at B1'
          rw [hstep] at B2'
          have HB1 := Lib.hid B1'
          have HB2 := Lib.hid B2'
          have HW7 := TO.out.e.ws
          rw [← HLN.out] at HW7
          obtain ⟨g7, s7, A7, n7, c7, B7, m7, d7, hA7, e0, e1', e2', ie⟩ := HW7.get hk7
          obtain rfl : g = g7 := by simpa using hA7
          have IE := Lib.hid (ie.below (Below.refl _ _).drew)
          have hgne : g ≠ g9 := by have := TO.out.nw; simpa [Value.ownBlock] using this
          have TOd := Lib.hid (TO.out.below (Below.refl _ _).drew)
          have EC := Lib.hid (And.intro e0 (And.intro e1' e2'))
          have QX := Lib.hid (show Wq 100 (qq x y) from qq_Wq HB1.out.2.2.1 HB1.out.2.2.2 HB1.out.2.1 (Nat.le_trans HX.out (by omega)))
          have QY := Lib.hid (show Wq 100 (qq y x) from qq_Wq HB1.out.2.2.2 HB1.out.2.2.1 HB1.out.1 (Nat.le_trans HX.out (by omega)))
          have QK := Lib.hid (show Wq 100 (qq k7 1) from qq_Wq (by
            have h1 := HB2.out.2.2.1
            have h2 : k7 * 1 ≤ k7 * x := Nat.mul_le_mul_left k7 HB1.out.1
            show k7 ≤ X
            have h3 : k7 * x + y ≤ X := h1
            omega) (Nat.le_trans HB1.out.1 HB1.out.2.2.1) Nat.one_pos (Nat.le_trans HX.out (by omega)))
          have HNZ := Lib.hid (show qq x y ≠ 0 from qq_nz HB1.out.1 HB1.out.2.1)
          have HIV := Lib.hid (qq_inv x y HB1.out.1)
          have HAD := Lib.hid (qq_add k7 x y HB1.out.1)
          obtain ⟨o1, o2, o3, _, _, _⟩ := TO.out.b.cells
          clear hstep B1' B2' HW7 hA7 ie e0 e1' e2' hlt hlt2 hk7
          go_upto_region 15 with (fail)
          obtain ⟨e0, e1', e2'⟩ := EC.out
          have ib0 : (0 : Int) ≤ (i : Int) := by omega
          have ib1 : (i : Int) < (l : Int) + 1 := by omega
          have ib2 : (i : Int) ≤ (l : Int) := by omega
          refine wp_region_noPanic ?_
          refine wpUntil.start (k := 7) (S := (fun W' => (World.cell? W' ⟨g, (i * 3), none⟩ = some (.bool s7) ∧ World.cell? W' ⟨g, (i * 3) + 1, none⟩ = some (.slice A7 n7 c7) ∧ World.cell? W' ⟨g, (i * 3) + 2, none⟩ = some (.slice B7 m7 d7) ∧ World.cell? W' ⟨g9, 0, none⟩ = some (.bool s9) ∧ World.cell? W' ⟨g9, 1, none⟩ = some (.slice A9 n9 c9) ∧ World.cell? W' ⟨g9, 2, none⟩ = some (.slice B9 m9 d9) ∧ Hid (SO w W' (.slice (some ⟨g, 0, none⟩) (l + 1) cap5) L g9 s9 A9 n9 c9 B9 m9 d9 (qq x y))))) (T := (fun _ => True)) (by kernel_rfl) (SO.cellsE TOd.out (E1.next ⟨e0, e1', e2'⟩ (Below.refl _ _).drew)) trivial (fun hHeld hHT => ?_)
          refine wpUntil.take (i := 0) (v := ?v0a) rfl (by kernel_rfl) (by kernel_rfl) (by kernel_rfl) rfl (by kernel_rfl) (by kernel_rfl) (fun _ _ _ h => h) (Or.inl ⟨by rfl, ?hy0a⟩) (by assumption) (by assumption) ?rest0a
          case hy0a => (intro w' hSw; (try dsimp only at hSw); go_simp; (try with_reducible rfl))
          case rest0a =>
          (try simp only [Act.put, List.setIfInBounds_toArray, List.set_cons_zero, List.set_cons_succ])
          refine wpUntil.take (i := 1) (v := ?v1a) rfl (by kernel_rfl) (by kernel_rfl) (by kernel_rfl) rfl (by kernel_rfl) (by kernel_rfl) (fun _ _ _ h => h) (Or.inl ⟨by rfl, ?hy1a⟩) (by assumption) (by assumption) ?rest1a
          case hy1a => (intro w' hSw; (try dsimp only at hSw); go_simp; (try with_reducible rfl))
          case rest1a =>
          (try simp only [Act.put, List.setIfInBounds_toArray, List.set_cons_zero, List.set_cons_succ])
          refine wpUntil.take (i := 2) (v := ?v2a) rfl (by kernel_rfl) (by kernel_rfl) (by kernel_rfl) rfl (by kernel_rfl) (by kernel_rfl) (fun _ _ _ h => h) (Or.inl ⟨by rfl, ?hy2a⟩) (by assumption) (by assumption) ?rest2a
          case hy2a => (intro w' hSw; (try dsimp only at hSw); go_simp; (try with_reducible rfl))
          case rest2a =>
          (try simp only [Act.put, List.setIfInBounds_toArray, List.set_cons_zero, List.set_cons_succ])
          refine wpUntil.take (i := 3) (v := ?v3a) rfl (by kernel_rfl) (by kernel_rfl) (by kernel_rfl) rfl (by kernel_rfl) (by kernel_rfl) (fun _ _ _ h => h) (Or.inl ⟨by rfl, ?hy3a⟩) (by assumption) (by assumption) ?rest3a
          case hy3a => (intro w' hSw; (try dsimp only at hSw); go_simp; (try with_reducible rfl))
          case rest3a =>
          (try simp only [Act.put, List.setIfInBounds_toArray, List.set_cons_zero, List.set_cons_succ])
          refine wpUntil.take (i := 4) (v := ?v4a) rfl (by kernel_rfl) (by kernel_rfl) (by kernel_rfl) rfl (by kernel_rfl) (by kernel_rfl) (fun _ _ _ h => h) (Or.inl ⟨by rfl, ?hy4a⟩) (by assumption) (by assumption) ?rest4a
          case hy4a => (intro w' hSw; (try dsimp only at hSw); go_simp; (try with_reducible rfl))
          case rest4a =>
          (try simp only [Act.put, List.setIfInBounds_toArray, List.set_cons_zero, List.set_cons_succ])
          refine wpUntil.only (i := 5) (by kernel_rfl) rfl (fun K hK => ?_)
          go_simp
          go_at_call 55
          refine (Calls.partsF (fInv (qq x y) _ _ (SO.ofE hHeld).i HNZ.out)).mono ?_
          rw [HIV.out]
          rintro e wb ⟨t4, B4, m4, d4, B4', m4', d4', rfl, i4, bb⟩
          have IE2 := Lib.hid (IE.out.below bb)
          refine hK.out _ _ (fun _ => ?_) ?_ (fun hHeld0 hHT => ?_)
          · exact SO.nextE hHeld bb
          · trivial
          have hHeld := hHeld0 (by kernel_rfl)
          clear hK K hHeld0
          (try simp only [Act.put, List.setIfInBounds_toArray, List.set_cons_zero, List.set_cons_succ])
          refine wpUntil.only (i := 6) (by kernel_rfl) rfl (fun K hK => ?_)
          go_simp
          go_at_call 78
          refine (Calls.partsF (fAdd (qq k7 1) (qq y x) _ _ _ IE2.out i4.out (qq_Wq_le QK.out (by omega)) (qq_Wq_le QY.out (by omega)) (SO.ofE hHeld).e.tab)).mono ?_
          rw [HAD.out]
          rintro e wc ⟨t5, B5, m5, d5, B5', m5', d5', rfl, i5, bc⟩
          have hh := (SO.ofE hHeld).below bc
          refine hK.out _ _ (fun _ => ?_) ?_ (fun hHeld0 hHT => ?_)
          · exact SO.nextE hHeld bc
          · trivial
          have hHeld := hHeld0 (by kernel_rfl)
          clear hK K hHeld0
          (try simp only [Act.put, List.setIfInBounds_toArray, List.set_cons_zero, List.set_cons_succ])
          have TN := Lib.hid (hh.stored i5.out)
          obtain ⟨u1', u2', u3', v1, v2, v3⟩ := hh.b.cells
          clear hHeld
          refine wpUntil.only (i := 7) (by kernel_rfl) rfl (fun K hK => ?_)
          go_simp
          refine hK.out _ _ (fun h => absurd h (by decide)) ?_ (fun _ hHT => ?_)
          · trivial
          clear hK K
          (try simp only [Act.put, List.setIfInBounds_toArray, List.set_cons_zero, List.set_cons_succ])
          refine wpUntil.done (by kernel_rfl) ?_ _
          refine NoPanic.normal ?_
          go_wp2_with fail
          go_roundg i
          case measure => omega
          case rel => exact ⟨i, _, _, _, _, _, _, _, _, _, rfl, by omega, Nat.le_refl _, HST, TN⟩
    · rw [decide_eq_false hr] at hz
      have HR := Lib.hid hr
      clear hr
      go_upto_region 5 with (fail)
      have HN0 := Lib.hid T1.out.newer
      have CA := Lib.hid (CQ.out (p.n / p.d))
      go_cut [7] (fun v7 wc => ∃ (g7 : Nat) (t3 : Bool) (B3 : Option Addr) (m3 d3 : Nat) (B3' : Option Addr) (m3' d3' : Nat), v7 = .pointer (some ⟨g7, 0, none⟩) ∧ Hid (SW w wc gW t1 B1 m1 d1 B1' m1' d1' (qq (p.n / p.d) 1) p ∧ SW w wc g7 t3 B3 m3 d3 B3' m3' d3' (qq (p.n / p.d + 1) 1) p))
      case first =>
        go_region_held3 (fun W' => (World.cell? W' ⟨gW, 0, none⟩ = some (.bool t1) ∧ World.cell? W' ⟨gW, 1, none⟩ = some (.slice B1 m1 d1) ∧ World.cell? W' ⟨gW, 2, none⟩ = some (.slice B1' m1' d1') ∧ Hid (SW w W' gW t1 B1 m1 d1 B1' m1' d1' (qq (p.n / p.d) 1) p)))
          (with_reducible (first | assumption | exact T1.out.drew.cells | exact SW.next (by assumption) (by assumption) | exact SW.next (by assumption) (below_alloc _ _) | exact (T1.out.below (below_alloc _ _).drew).cells | exact (SW.below (by assumption) (below_alloc _ _)).cells | exact SW.boxed (by assumption) (by assumption) (by assumption) (NI.bool _) (NI.slice _ _ _) (NI.slice _ _ _) | exact SW.boxed (by assumption) (by assumption) HN0.out (NI.bool _) (NI.slice _ _ _) (NI.slice _ _ _)))
          (first
           | (go_at_call 118
              refine (Calls.partsF (CI.out _)).mono ?_
              rintro e wf ⟨t4, B4, m4, d4, B4', m4', d4', rfl, i4, bf⟩
              have hnew := ((SW.of (by assumption)).below bf).newer
              try (have hbx1 := Box.below (Box.drew (Box.new wb (.bool false) (.slice none 0 0) (.slice none 0 0) 65)) bf))
           | (go_at_call 78
              refine (Calls.partsF (fAdd (qq (p.n / p.d) 1) one _ _ _ (SW.of (by assumption)).i (by first | exact i4.out | exact i4.out.below (below_alloc _ _)) (qq_Wq_le QW.out (by omega)) (qq_Wq_le K1.out (by omega)) (SW.of (by assumption)).l.tab)).mono ?_
              rw [CA.out]
              rintro e we ⟨t5, B5, m5, d5, B5', m5', d5', rfl, i5, b5⟩
              have hh := (SW.of (by assumption)).below b5
              first
                | (have hbx2 := Box.below hbx1 b5; obtain ⟨k1, k2, k3, f1, f2, f3⟩ := hbx2.cells)
                | (have hbx2 := Box.below (Box.new wf (.bool false) (.slice none 0 0) (.slice none 0 0) 65) b5; obtain ⟨k1, k2, k3, f1, f2, f3⟩ := hbx2.cells)
                | skip))
        all_goals (go_wp2; go_meet)
        all_goals first
          | exact ⟨_, _, _, _, _, _, _, _, rfl, Lib.hid (hh.last i5.out)⟩
          | exact ⟨_, _, _, _, _, _, _, _, rfl, Lib.hid (hh.first i5.out hbx2 HN0.out)⟩
          | exact ⟨_, _, _, _, _, _, _, _, rfl, Lib.hid (hh.first i5.out hbx2 hnew)⟩
      case rest =>
        obtain ⟨g7, t3, B3, m3, d3, B3', m3', d3', rfl, TT⟩ := hcut
        have T1 := Lib.hid TT.out.1
        have T2 := Lib.hid TT.out.2
        clear TT HN0 CA
        have QN := Lib.hid (show Wq 100 (qq (p.n / p.d + 1) 1) from (by
          have h1 := (QW.out.1)
          refine ⟨?_, ?_⟩
          · have e1 := (qq_abs (n := p.n / p.d + 1) (d := 1) Nat.one_pos).1
            have e2 : (W (p.n / p.d + 1)).length ≤ 80 := by
              have e3 := W_add_length (p.n / p.d) 1
              have e4 : (W (p.n / p.d)).length ≤ 70 := Nat.le_trans (dig_length_mono B32_two KX.out) HX.out
              have e5 : (W 1).length ≤ 1 := (dig_length_le B32_two _ _).2 (by unfold B32; omega)
              omega
            exact Nat.le_trans (dig_length_mono B32_two e1) (Nat.le_trans e2 (by omega))
          · have e1 := (qq_abs (n := p.n / p.d + 1) (d := 1) Nat.one_pos).2
            have e5 : (W 1).length ≤ 1 := (dig_length_le B32_two _ _).2 (by unfold B32; omega)
            exact Nat.le_trans (dig_length_mono B32_two e1) (Nat.le_trans e5 (by omega))))
        obtain ⟨x1, y1, z1, _, _, _⟩ := T2.out.b.cells
        obtain ⟨x2, y2, z2, _, _, _⟩ := T2.out.l.g.cells
        obtain ⟨c2', hc2⟩ : ∃ c, cmpQ (qq (p.n / p.d + 1) 1) (qq p.m p.e) = c := ⟨_, rfl⟩
        have HC2 := Lib.hid hc2
        have hle := qq_next (p.n / p.d + 1) p.m p.e HB.out.e0
        rw [hc2] at hle
        clear hc2
        go_wp2_with fail
        refine (fCmp _ _ _ _ _ T2.out.i T2.out.l.fb (qq_Wq_le QN.out (by omega)) (qq_Wq_le QG.out (by omega))).mono ?_
        rw [HC2.out]
        rintro e wd ⟨rfl, bd⟩
        replace T1 := Lib.hid (T1.out.below bd)
        replace T2 := Lib.hid (T2.out.below bd)
        clear bd x1 y1 z1 x2 y2 z2
        by_cases hn : (p.n / p.d + 1) * p.e ≤ p.m
        · rw [decide_eq_true hn] at hle
          replace HLL := Lib.hid (HLL.out.trans (by rw [plainL_above HR.out hn]))
          clear hn T1
          obtain ⟨fs, hfl, ho, hff⟩ := (T2.out.l.below (below_alloc wd (.cells #[.bool t3, .slice B3 m3 d3, .slice B3' m3' d3'] 65))).opened
          have HO := Lib.hid ho
          have HFF := Lib.hid hff
          have HFS := Lib.hid hfl
          have hks : p.ks.length ≤ 10000 := by have := HC.out.len; omega
          have HBS := Lib.hid (show w.heap.size + 1 + 1 + 1 ≤ (wd.alloc (.cells #[.bool t3, .slice B3 m3 d3, .slice B3' m3' d3'] 65)).heap.size by
            obtain ⟨_, _, _, _, _, _, h4⟩ := T2.out.l.res
            have := h4.lt
            simp; omega)
          clear ho hff hfl
          obtain ⟨x1, y1, z1, _, _, _⟩ := T2.out.b.cells
          go_wp2_with (at_builtin; refine OwnF.wp rfl _ _ rfl Tryd.underlying122 (w.heap.size + 1 + 1 + 1) p.v p.ks.length _ rfl HO.out ⟨wd.heap.size, 0, none⟩ 1 t3 B3 m3 d3 B3' m3' d3' rfl (new3 _ _ _ _ _) (by omega) HBS.out ?_)
          intro v' w1 hown hgrow
          have TP := Lib.hid ((T2.out.l.below (below_alloc wd (.cells #[.bool t3, .slice B3 m3 d3, .slice B3' m3' d3'] 65))).pushed HFS.out HO.out HFF.out (k := p.n / p.d + 1) (T2.out.i.below (below_alloc _ _)) hown hgrow)
          clear hown hgrow x1 y1 z1 HO HFF HFS HBS hks
          have HE : Hid (SE w w1 v' L) := Lib.hid (by have h := TP.out; have e := HLL.out; rw [e]; exact ⟨h.res, h.ws, h.tab, h.bel, h.w0⟩)
          clear T2 TP QF QG QW CG QN
          obtain ⟨l, hl⟩ : ∃ l, L.length = l + 1 := ⟨p.ks.length, by rw [HLL.out]; simp⟩
          have hl2 : l ≤ 9000 := by have h1 := HC.out.len; have h2 := hl; rw [HLL.out] at h2; simp at h2; omega
          obtain ⟨A5, cap5, hv5, hcp1, hcp2⟩ := HE.out.ws.shape
          obtain ⟨k9, hk9⟩ : ∃ k, L[l]? = some k := ⟨L[l]'(by omega), List.getElem?_eq_getElem (by omega)⟩
          have HW1 := HE.out.ws
          rw [hv5] at HW1
          obtain ⟨g, s3, A3, n3, c3, B3, m3, d3, hA5, ce1, ce2, ce3, ie⟩ := HW1.get hk9
          subst hA5
          rw [hl] at hv5 hcp1
          subst hv5
          have HLN := Lib.hid hl
          have IE := Lib.hid ie
          have HK9 := Lib.hid hk9
          have HFL : foldL (L.drop l) = (k9, 1) := by
            have h1 := HLN.out
            rw [List.drop_eq_getElem_cons (by omega)]
            have h2 : L.drop (l + 1) = [] := List.drop_of_length_le (by omega)
            have h3 : L[l]'(by omega) = k9 := by have := HK9.out; rw [List.getElem?_eq_getElem (by omega)] at this; exact Option.some.inj this
            rw [h2, h3]
            rfl
          have HFL := Lib.hid HFL
          have e1 : ((l : Int) + 1) - 1 = (l : Int) := by omega
          have e2 : (((l + 1 : Nat)) : Int) - 1 = (l : Int) := by omega
          have e3 : ((l : Int) + 1) - 2 = (l : Int) - 1 := by omega
          have e4 : (((l + 1 : Nat)) : Int) - 2 = (l : Int) - 1 := by omega
          clear HW1 ie hl hk9 HC HLL
          go_upto_region 11 with (fail)
          go_upto_region 12 with (fail)
          have TO := Lib.hid (HE.out.born IE.out)
          obtain ⟨wz, hwz⟩ : ∃ v, w1.alloc (.cells #[.bool s3, .slice A3 n3 c3, .slice B3 m3 d3] 65) = v := ⟨_, rfl⟩
          obtain ⟨g9, hg9⟩ : ∃ v, w1.heap.size = v := ⟨_, rfl⟩
          rw [hwz, hg9] at TO
          try rw [hwz]
          try rw [hg9]
          clear hwz hg9 ce1 ce2 ce3 IE HE
          go_wp2_with fail
          go_loopg [10] l (fun kk v10 wr => ∃ (j : Nat) (s9 : Bool) (A9 : Option Addr) (n9 c9 : Nat) (B9 : Option Addr) (m9 d9 : Nat) (x y : Nat), v10 = .int .i64 ((j : Int) - 1) ∧ j ≤ l ∧ j ≤ kk ∧ Hid (foldL (L.drop j) = (x, y)) ∧ Hid (SO w wr (.slice (some ⟨g, 0, none⟩) (l + 1) cap5) L g9 s9 A9 n9 c9 B9 m9 d9 (qq x y)))
          case atStart => exact ⟨l, _, _, _, _, _, _, _, k9, 1, rfl, Nat.le_refl _, Nat.le_refl _, HFL, TO⟩
          case round =>
            obtain ⟨j, s9, A9, n9, c9, B9, m9, d9, x, y, rfl, hj, hkk, HF, TO⟩ := hrel
            rcases j with _ | i
            · have hneg : decide (0 ≤ (((0 : Nat) : Int) - 1)) = false := by decide
              have hneg2 : decide ((0 : Int) ≤ -1) = false := by decide
              obtain ⟨o1, o2, o3, _, _, _⟩ := TO.out.b.cells
              obtain ⟨z1', z2', z3', hz1, hz2, hz3, k1, k2, k3⟩ := TO.out.e.res.cells
              obtain ⟨q0, q1, q2, hs, hb⟩ := IsF.kept3 TO.out.i TO.out.e.res TO.out.e.bel (by omega)
              have Q := Lib.hid (And.intro q0 (And.intro q1 q2))
              have HS := Lib.hid hs
              have HBB := Lib.hid hb
              have HP : pl = (x, y) := by rw [← HPL.out, ← HF.out]; rfl
              clear q0 q1 q2 hs hb
              go_wp2_with fail
              obtain ⟨q0, q1, q2⟩ := Q.out
              refine bodyPost_ret (v := .agg #[.bool s9, .slice A9 n9 c9, .slice B9 m9 d9]) (by simp [results, Tryd.results88, go_sem, q0, q1, q2]) rfl ?_
              subst HP
              exact ⟨_, rfl, HS.out, HBB.out⟩
            · have hx : (((i + 1 : Nat) : Int) - 1) = (i : Int) := by omega
              rw [hx]
              have hpos : decide (0 ≤ (i : Int)) = true := decide_eq_true (by omega)
              have hlt : i < L.length := by rw [HLN.out]; omega
              obtain ⟨k7, hk7⟩ : ∃ k, L[i]? = some k := ⟨L[i]'hlt, List.getElem?_eq_getElem hlt⟩
              have hlt2 : i + 1 < L.length := by rw [HLN.out]; omega
              have hstep := foldL_drop (L := L) (j := i) hlt2
              rw [HF.out, show L[i] = k7 by rw [List.getElem?_eq_getElem hlt] at hk7; exact Option.some.inj hk7] at hstep
              have HST := Lib.hid hstep
              have B1' := FB.out (i + 1) hlt2
              have B2' := FB.out i hlt
              rw [HF.out] at B1'
              rw [hstep] at B2'
              have HB1 := Lib.hid B1'
              have HB2 := Lib.hid B2'
              have HW7 := TO.out.e.ws
              rw [← HLN.out] at HW7
              obtain ⟨g7, s7, A7, n7, c7, B7, m7, d7, hA7, e0, e1', e2', ie⟩ := HW7.get hk7
              obtain rfl : g = g7 := by simpa using hA7
              have IE := Lib.hid (ie.below (Below.refl _ _).drew)
              have hgne : g ≠ g9 := by have := TO.out.nw; simpa [Value.ownBlock] using this
              have TOd := Lib.hid (TO.out.below (Below.refl _ _).drew)
              have EC := Lib.hid (And.intro e0 (And.intro e1' e2'))
              have QX := Lib.hid (show Wq 100 (qq x y) from qq_Wq HB1.out.2.2.1 HB1.out.2.2.2 HB1.out.2.1 (Nat.le_trans HX.out (by omega)))
              have QY := Lib.hid (show Wq 100 (qq y x) from qq_Wq HB1.out.2.2.2 HB1.out.2.2.1 HB1.out.1 (Nat.le_trans HX.out (by omega)))
              have QK := Lib.hid (show Wq 100 (qq k7 1) from qq_Wq (by
                have h1 := HB2.out.2.2.1
                have h2 : k7 * 1 ≤ k7 * x := Nat.mul_le_mul_left k7 HB1.out.1
                show k7 ≤ X
                have h3 : k7 * x + y ≤ X := h1
                omega) (Nat.le_trans HB1.out.1 HB1.out.2.2.1) Nat.one_pos (Nat.le_trans HX.out (by omega)))
              have HNZ := Lib.hid (show qq x y ≠ 0 from qq_nz HB1.out.1 HB1.out.2.1)
              have HIV := Lib.hid (qq_inv x y HB1.out.1)
              have HAD := Lib.hid (qq_add k7 x y HB1.out.1)
              obtain ⟨o1, o2, o3, _, _, _⟩ := TO.out.b.cells
              clear hstep B1' B2' HW7 hA7 ie e0 e1' e2' hlt hlt2 hk7
              go_upto_region 15 with (fail)
              obtain ⟨e0, e1', e2'⟩ := EC.out
              have ib0 : (0 : Int) ≤ (i : Int) := by omega
              have ib1 : (i : Int) < (l : Int) + 1 := by omega
              have ib2 : (i : Int) ≤ (l : Int) := by omega
              refine wp_region_noPanic ?_
              refine wpUntil.start (k := 7) (S := (fun W' => (World.cell? W' ⟨g, (i * 3), none⟩ = some (.bool s7) ∧ World.cell? W' ⟨g, (i * 3) + 1, none⟩ = some (.slice A7 n7 c7) ∧ World.cell? W' ⟨g, (i * 3) + 2, none⟩ = some (.slice B7 m7 d7) ∧ World.cell? W' ⟨g9, 0, none⟩ = some (.bool s9) ∧ World.cell? W' ⟨g9, 1, none⟩ = some (.slice A9 n9 c9) ∧ World.cell? W' ⟨g9, 2, none⟩ = some (.slice B9 m9 d9) ∧ Hid (SO w W' (.slice (some ⟨g, 0, none⟩) (l + 1) cap5) L g9 s9 A9 n9 c9 B9 m9 d9 (qq x y))))) (T := (fun _ => True)) (by kernel_rfl) (SO.cellsE TOd.out (E1.next ⟨e0, e1', e2'⟩ (Below.refl _ _).drew)) trivial (fun hHeld hHT => ?_)
              refine wpUntil.take (i := 0) (v := ?v0b) rfl (by kernel_rfl) (by kernel_rfl) (by kernel_rfl) rfl (by kernel_rfl) (by kernel_rfl) (fun _ _ _ h => h) (Or.inl ⟨by rfl, ?hy0b⟩) (by assumption) (by assumption) ?rest0b
              case hy0b => (intro w' hSw; (try dsimp only at hSw); go_simp; (try with_reducible rfl))
              case rest0b =>
              (try simp only [Act.put, List.setIfInBounds_toArray, List.set_cons_zero, List.set_cons_succ])
              refine wpUntil.take (i := 1) (v := ?v1b) rfl (by kernel_rfl) (by kernel_rfl) (by kernel_rfl) rfl (by kernel_rfl) (by kernel_rfl) (fun _ _ _ h => h) (Or.inl ⟨by rfl, ?hy1b⟩) (by assumption) (by assumption) ?rest1b
              case hy1b => (intro w' hSw; (try dsimp only at hSw); go_simp; (try with_reducible rfl))
              case rest1b =>
              (try simp only [Act.put, List.setIfInBounds_toArray, List.set_cons_zero, List.set_cons_succ])
              refine wpUntil.take (i := 2) (v := ?v2b) rfl (by kernel_rfl) (by kernel_rfl) (by kernel_rfl) rfl (by kernel_rfl) (by kernel_rfl) (fun _ _ _ h => h) (Or.inl ⟨by rfl, ?hy2b⟩) (by assumption) (by assumption) ?rest2b
              case hy2b => (intro w' hSw; (try dsimp only at hSw); go_simp; (try with_reducible rfl))
              case rest2b =>
              (try simp only [Act.put, List.setIfInBounds_toArray, List.set_cons_zero, List.set_cons_succ])
              refine wpUntil.take (i := 3) (v := ?v3b) rfl (by kernel_rfl) (by kernel_rfl) (by kernel_rfl) rfl (by kernel_rfl) (by kernel_rfl) (fun _ _ _ h => h) (Or.inl ⟨by rfl, ?hy3b⟩) (by assumption) (by assumption) ?rest3b
              case hy3b => (intro w' hSw; (try dsimp only at hSw); go_simp; (try with_reducible rfl))
              case rest3b =>
              (try simp only [Act.put, List.setIfInBounds_toArray, List.set_cons_zero, List.set_cons_succ])
              refine wpUntil.take (i := 4) (v := ?v4b) rfl (by kernel_rfl) (by kernel_rfl) (by kernel_rfl) rfl (by kernel_rfl) (by kernel_rfl) (fun _ _ _ h => h) (Or.inl ⟨by rfl, ?hy4b⟩) (by assumption) (by assumption) ?rest4b
              case hy4b => (intro w' hSw; (try dsimp only at hSw); go_simp; (try with_reducible rfl))
              case rest4b =>
              (try simp only [Act.put, List.setIfInBounds_toArray, List.set_cons_zero, List.set_cons_succ])
              refine wpUntil.only (i := 5) (by kernel_rfl) rfl (fun K hK => ?_)
              go_simp
              go_at_call 55
              refine (Calls.partsF (fInv (qq x y) _ _ (SO.ofE hHeld).i HNZ.out)).mono ?_
              rw [HIV.out]
              rintro e wb ⟨t4, B4, m4, d4, B4', m4', d4', rfl, i4, bb⟩
              have IE2 := Lib.hid (IE.out.below bb)
              refine hK.out _ _ (fun _ => ?_) ?_ (fun hHeld0 hHT => ?_)
              · exact SO.nextE hHeld bb
              · trivial
              have hHeld := hHeld0 (by kernel_rfl)
              clear hK K hHeld0
              (try simp only [Act.put, List.setIfInBounds_toArray, List.set_cons_zero, List.set_cons_succ])
              refine wpUntil.only (i := 6) (by kernel_rfl) rfl (fun K hK => ?_)
              go_simp
              go_at_call 78
              refine (Calls.partsF (fAdd (qq k7 1) (qq y x) _ _ _ IE2.out i4.out (qq_Wq_le QK.out (by omega)) (qq_Wq_le QY.out (by omega)) (SO.ofE hHeld).e.tab)).mono ?_
              rw [HAD.out]
              rintro e wc ⟨t5, B5, m5, d5, B5', m5', d5', rfl, i5, bc⟩
              have hh := (SO.ofE hHeld).below bc
              refine hK.out _ _ (fun _ => ?_) ?_ (fun hHeld0 hHT => ?_)
              · exact SO.nextE hHeld bc
              · trivial
              have hHeld := hHeld0 (by kernel_rfl)
              clear hK K hHeld0
              (try simp only [Act.put, List.setIfInBounds_toArray, List.set_cons_zero, List.set_cons_succ])
              have TN := Lib.hid (hh.stored i5.out)
              obtain ⟨u1', u2', u3', v1, v2, v3⟩ := hh.b.cells
              clear hHeld
              refine wpUntil.only (i := 7) (by kernel_rfl) rfl (fun K hK => ?_)
              go_simp
              refine hK.out _ _ (fun h => absurd h (by decide)) ?_ (fun _ hHT => ?_)
              · trivial
              clear hK K
              (try simp only [Act.put, List.setIfInBounds_toArray, List.set_cons_zero, List.set_cons_succ])
              refine wpUntil.done (by kernel_rfl) ?_ _
              refine NoPanic.normal ?_
              go_wp2_with fail
              go_roundg i
              case measure => omega
              case rel => exact ⟨i, _, _, _, _, _, _, _, _, _, rfl, by omega, Nat.le_refl _, HST, TN⟩
        · rw [decide_eq_false hn] at hle
          have HN := Lib.hid hn
          clear hn T2 QN
          obtain ⟨fs, hfl, ho, hff⟩ := (T1.out.l.below (below_alloc wd (.cells #[.bool t1, .slice B1 m1 d1, .slice B1' m1' d1'] 65))).opened
          have HO := Lib.hid ho
          have HFF := Lib.hid hff
          have HFS := Lib.hid hfl
          have hks : p.ks.length ≤ 10000 := by have := HC.out.len; omega
          have HBS := Lib.hid (show w.heap.size + 1 + 1 + 1 ≤ (wd.alloc (.cells #[.bool t1, .slice B1 m1 d1, .slice B1' m1' d1'] 65)).heap.size by
            obtain ⟨_, _, _, _, _, _, h4⟩ := T1.out.l.res
            have := h4.lt
            simp; omega)
          clear ho hff hfl
          obtain ⟨x1, y1, z1, _, _, _⟩ := T1.out.b.cells
          go_wp2_with (at_builtin; refine OwnF.wp rfl _ _ rfl Tryd.underlying122 (w.heap.size + 1 + 1 + 1) p.v p.ks.length _ rfl HO.out ⟨wd.heap.size, 0, none⟩ 1 t1 B1 m1 d1 B1' m1' d1' rfl (new3 _ _ _ _ _) (by omega) HBS.out ?_)
          intro v' w1 hown hgrow
          have hgrow0 := Lib.hid hgrow
          have hO0 := HO
          have TP := Lib.hid ((T1.out.l.below (below_alloc wd (.cells #[.bool t1, .slice B1 m1 d1, .slice B1' m1' d1'] 65))).pushed HFS.out HO.out HFF.out (k := p.n / p.d) (T1.out.i.below (below_alloc _ _)) hown hgrow)
          clear hown hgrow x1 y1 z1 HO HFF HFS HBS hks
          have NE := T1.out.nw
          have hWB : Box w1 gW (.bool t1) (.slice B1 m1 d1) (.slice B1' m1' d1') 65 := (hgrow0.out.block gW (T1.out.b.below (below_alloc _ _)).lt (fun e => NE e.symm)).trans (T1.out.b.below (below_alloc _ _))
          have HWB := Lib.hid hWB
          have HWI := Lib.hid ((T1.out.i.below (below_alloc _ _)).pushed hO0.out hgrow0.out)
          clear hWB NE T1 hgrow0 hO0
          obtain ⟨x1, y1, z1, _, _, _⟩ := HWB.out.cells
          go_upto_region 9 with (fail)
          go_wp2_with fail
          refine (Calls.partsF (fNeg _ _ _ HWI.out)).mono ?_
          obtain ⟨q8, hq8⟩ : ∃ q, -(qq (p.n / p.d) 1) = q := ⟨_, rfl⟩
          rw [hq8]
          rintro e wh ⟨t8, B8, m8, d8, B8', m8', d8', rfl, i8, bh⟩
          have T8 : Hid (SW w (wh.alloc (.cells #[.bool t8, .slice B8 m8 d8, .slice B8' m8' d8'] 65)) wh.heap.size t8 B8 m8 d8 B8' m8' d8' q8 ⟨p.f, p.g, v', p.n, p.d, p.m, p.e, p.ks ++ [p.n / p.d]⟩) :=
            Lib.hid ⟨(TP.out.below bh).below (below_alloc _ _), Box.new _ _ _ _ _, i8.out.below (below_alloc _ _), fun e => by have := ((TP.out.below bh).ws.lt _ e).2; omega⟩
          obtain ⟨w8, hw8⟩ : ∃ v, wh.alloc (.cells #[.bool t8, .slice B8 m8 d8, .slice B8' m8' d8'] 65) = v := ⟨_, rfl⟩
          obtain ⟨g8, hg8⟩ : ∃ v, wh.heap.size = v := ⟨_, rfl⟩
          have NX := Lib.hid (HB.out.next HR.out HN.out)
          have hmd := Nat.div_add_mod p.n p.d
          have hml := Nat.mod_lt p.n HB.out.d0
          have Q8 := Lib.hid (show Wq 100 q8 by rw [← hq8]; unfold Wq; rw [neg_abs, neg_den]; exact QW.out)
          have HS1 := Lib.hid (show qq p.m p.e + q8 = qq (p.m - p.n / p.d * p.e) p.e by rw [← hq8]; exact qq_sub _ _ _ HB.out.e0 (Nat.le_of_lt NX.out.2.1))
          have HS2 := Lib.hid (show qq p.n p.d + q8 = qq (p.n % p.d) p.d by
            rw [← hq8, qq_sub _ _ _ HB.out.d0 (by rw [Nat.mul_comm]; omega)]
            congr 1
            rw [Nat.mul_comm]; omega)
          have HZ1 := Lib.hid (show qq (p.m - p.n / p.d * p.e) p.e ≠ 0 from qq_nz NX.out.1.d0 NX.out.1.n0)
          have HZ2 := Lib.hid (show qq (p.n % p.d) p.d ≠ 0 from qq_nz NX.out.1.e0 HB.out.d0)
          have HV1 := Lib.hid (qq_inv (p.m - p.n / p.d * p.e) p.e NX.out.1.d0)
          have HV2 := Lib.hid (qq_inv (p.n % p.d) p.d NX.out.1.e0)
          have HBN := Lib.hid NX.out.1
          have HXN := Lib.hid (show p.e ≤ X ∧ p.m - p.n / p.d * p.e ≤ X ∧ p.d ≤ X ∧ p.n % p.d ≤ X from ⟨HXS.out.2.2.2, Nat.le_trans (Nat.sub_le _ _) HXS.out.2.2.1, HXS.out.2.1, Nat.le_trans (Nat.le_of_lt hml) HXS.out.2.1⟩)
          have HLN2 := Lib.hid (show L = (p.ks ++ [p.n / p.d]) ++ plainL p.e (p.m - p.n / p.d * p.e) p.d (p.n % p.d) by rw [HLL.out, plainL_step HB.out HR.out HN.out, List.append_assoc]; rfl)
          have HCN := Lib.hid (HC.out.next HB.out HR.out HN.out (p.n / p.d))
          have HME := Lib.hid (show p.m - p.n / p.d * p.e + p.n % p.d < p.d + p.e by
            have h1 := NX.out.2.2
            rw [Nat.add_mul] at h1
            omega)
          have NG := Lib.hid (show wh.heap.size ≠ w.heap.size ∧ wh.heap.size ≠ w.heap.size + 1 by
            obtain ⟨_, _, _, _, _, _, h4⟩ := (TP.out.below bh).res
            have := h4.lt
            omega)
          clear bh i8 x1 y1 z1 HWB HWI TP hmd hml hq8 CG
          go_upto_region 10 with (fail)
          rw [hw8, hg8] at T8
          rw [hg8] at NG
          try rw [hw8]
          try rw [hg8]
          clear hw8 hg8
          refine wp_region_noPanic ?_
          refine wpUntil.start (k := 8) (S := (fun W' => (World.cell? W' ⟨w.heap.size, 0, none⟩ = some (.bool (LP.mk p.f p.g v' p.n p.d p.m p.e (p.ks ++ [p.n / p.d])).f.s) ∧ World.cell? W' ⟨w.heap.size, 1, none⟩ = some (.slice (LP.mk p.f p.g v' p.n p.d p.m p.e (p.ks ++ [p.n / p.d])).f.A (LP.mk p.f p.g v' p.n p.d p.m p.e (p.ks ++ [p.n / p.d])).f.n (LP.mk p.f p.g v' p.n p.d p.m p.e (p.ks ++ [p.n / p.d])).f.c) ∧ World.cell? W' ⟨w.heap.size, 2, none⟩ = some (.slice (LP.mk p.f p.g v' p.n p.d p.m p.e (p.ks ++ [p.n / p.d])).f.B (LP.mk p.f p.g v' p.n p.d p.m p.e (p.ks ++ [p.n / p.d])).f.m (LP.mk p.f p.g v' p.n p.d p.m p.e (p.ks ++ [p.n / p.d])).f.d) ∧ World.cell? W' ⟨w.heap.size + 1, 0, none⟩ = some (.bool (LP.mk p.f p.g v' p.n p.d p.m p.e (p.ks ++ [p.n / p.d])).g.s) ∧ World.cell? W' ⟨w.heap.size + 1, 1, none⟩ = some (.slice (LP.mk p.f p.g v' p.n p.d p.m p.e (p.ks ++ [p.n / p.d])).g.A (LP.mk p.f p.g v' p.n p.d p.m p.e (p.ks ++ [p.n / p.d])).g.n (LP.mk p.f p.g v' p.n p.d p.m p.e (p.ks ++ [p.n / p.d])).g.c) ∧ World.cell? W' ⟨w.heap.size + 1, 2, none⟩ = some (.slice (LP.mk p.f p.g v' p.n p.d p.m p.e (p.ks ++ [p.n / p.d])).g.B (LP.mk p.f p.g v' p.n p.d p.m p.e (p.ks ++ [p.n / p.d])).g.m (LP.mk p.f p.g v' p.n p.d p.m p.e (p.ks ++ [p.n / p.d])).g.d) ∧ World.cell? W' ⟨g8, 0, none⟩ = some (.bool t8) ∧ World.cell? W' ⟨g8, 1, none⟩ = some (.slice B8 m8 d8) ∧ World.cell? W' ⟨g8, 2, none⟩ = some (.slice B8' m8' d8') ∧ Hid (SW w W' g8 t8 B8 m8 d8 B8' m8' d8' q8 (LP.mk p.f p.g v' p.n p.d p.m p.e (p.ks ++ [p.n / p.d])))))) (T := (fun W' => (World.cell? W' ⟨g8, 0, none⟩ = some (.bool t8) ∧ World.cell? W' ⟨g8, 1, none⟩ = some (.slice B8 m8 d8) ∧ World.cell? W' ⟨g8, 2, none⟩ = some (.slice B8' m8' d8')))) (by kernel_rfl) T8.out.drew.cellsB (b1_of T8.out.drew.b) (fun hHeld hHT => ?_)
          refine wpUntil.take (i := 0) (v := ?v0c) rfl (by kernel_rfl) (by kernel_rfl) (by kernel_rfl) rfl (by kernel_rfl) (by kernel_rfl) (fun _ _ _ h => h) (Or.inl ⟨by rfl, ?hy0c⟩) (by assumption) (by assumption) ?rest0c
          case hy0c => (intro w' hSw; (try dsimp only at hSw); go_simp; (try with_reducible rfl))
          case rest0c =>
          (try simp only [Act.put, List.setIfInBounds_toArray, List.set_cons_zero, List.set_cons_succ])
          refine wpUntil.take (i := 1) (v := ?v1c) rfl (by kernel_rfl) (by kernel_rfl) (by kernel_rfl) rfl (by kernel_rfl) (by kernel_rfl) (fun _ _ _ h => h) (Or.inl ⟨by rfl, ?hy1c⟩) (by assumption) (by assumption) ?rest1c
          case hy1c => (intro w' hSw; (try dsimp only at hSw); go_simp; (try with_reducible rfl))
          case rest1c =>
          (try simp only [Act.put, List.setIfInBounds_toArray, List.set_cons_zero, List.set_cons_succ])
          refine wpUntil.take (i := 4) (v := ?v4c) rfl (by kernel_rfl) (by kernel_rfl) (by kernel_rfl) rfl (by kernel_rfl) (by kernel_rfl) (fun _ _ _ h => h) (Or.inl ⟨by rfl, ?hy4c⟩) (by assumption) (by assumption) ?rest4c
          case hy4c => (intro w' hSw; (try dsimp only at hSw); go_simp; (try with_reducible rfl))
          case rest4c =>
          (try simp only [Act.put, List.setIfInBounds_toArray, List.set_cons_zero, List.set_cons_succ])
          refine wpUntil.takeT (i := 5) (v := ?v5c) rfl (by kernel_rfl) (by kernel_rfl) (by kernel_rfl) rfl (fun _ _ _ h => h) (Or.inl ⟨by rfl, ?hy5c⟩) (by assumption) (by assumption) ?rest5c
          case hy5c => (intro w' hSw; (try dsimp only at hSw); go_simp; (try with_reducible rfl))
          case rest5c =>
          (try simp only [Act.put, List.setIfInBounds_toArray, List.set_cons_zero, List.set_cons_succ])
          refine wpUntil.only (i := 2) (by kernel_rfl) rfl (fun K hK => ?_)
          go_simp
          go_at_call 78
          refine (Calls.partsF (fAdd (qq p.m p.e) q8 _ _ _ (SW.ofB (p := (LP.mk p.f p.g v' p.n p.d p.m p.e (p.ks ++ [p.n / p.d]))) hHeld).l.fb (SW.ofB (p := (LP.mk p.f p.g v' p.n p.d p.m p.e (p.ks ++ [p.n / p.d]))) hHeld).i (qq_Wq_le QG.out (by omega)) (qq_Wq_le Q8.out (by omega)) (SW.ofB (p := (LP.mk p.f p.g v' p.n p.d p.m p.e (p.ks ++ [p.n / p.d]))) hHeld).l.tab)).mono ?_
          rw [HS1.out]
          rintro e wc ⟨t4, B4, m4, d4, B4', m4', d4', rfl, i4, bc⟩
          refine hK.out _ _ (fun _ => ?_) ?_ (fun hHeld0 hHT => ?_)
          · exact SW.nextB (p := (LP.mk p.f p.g v' p.n p.d p.m p.e (p.ks ++ [p.n / p.d]))) hHeld bc
          · exact b1_next hHT bc
          have hHeld := hHeld0 (by kernel_rfl)
          clear hK K hHeld0
          (try simp only [Act.put, List.setIfInBounds_toArray, List.set_cons_zero, List.set_cons_succ])
          refine wpUntil.only (i := 3) (by kernel_rfl) rfl (fun K hK => ?_)
          go_simp
          go_at_call 55
          refine (Calls.partsF (fInv _ _ _ i4.out HZ1.out)).mono ?_
          rw [HV1.out]
          rintro e we ⟨t5, B5, m5, d5, B5', m5', d5', rfl, i5, be⟩
          refine hK.out _ _ (fun _ => ?_) ?_ (fun hHeld0 hHT => ?_)
          · exact SW.nextB (p := (LP.mk p.f p.g v' p.n p.d p.m p.e (p.ks ++ [p.n / p.d]))) hHeld be
          · exact b1_next hHT be
          have hHeld := hHeld0 (by kernel_rfl)
          clear hK K hHeld0
          (try simp only [Act.put, List.setIfInBounds_toArray, List.set_cons_zero, List.set_cons_succ])
          refine wpUntil.only (i := 6) (by kernel_rfl) rfl (fun K hK => ?_)
          go_simp
          go_at_call 78
          refine (Calls.partsF (fAdd (qq p.n p.d) q8 _ _ _ (SW.ofB (p := (LP.mk p.f p.g v' p.n p.d p.m p.e (p.ks ++ [p.n / p.d]))) hHeld).l.fa (SW.ofB (p := (LP.mk p.f p.g v' p.n p.d p.m p.e (p.ks ++ [p.n / p.d]))) hHeld).i (qq_Wq_le QF.out (by omega)) (qq_Wq_le Q8.out (by omega)) (SW.ofB (p := (LP.mk p.f p.g v' p.n p.d p.m p.e (p.ks ++ [p.n / p.d]))) hHeld).l.tab)).mono ?_
          rw [HS2.out]
          rintro e wf ⟨t6, B6, m6, d6, B6', m6', d6', rfl, i6, bf⟩
          have i5b := Lib.hid (i5.out.below bf)
          refine hK.out _ _ (fun _ => ?_) ?_ (fun hHeld0 hHT => ?_)
          · exact SW.nextB (p := (LP.mk p.f p.g v' p.n p.d p.m p.e (p.ks ++ [p.n / p.d]))) hHeld bf
          · exact b1_next hHT bf
          have hHeld := hHeld0 (by kernel_rfl)
          clear hK K hHeld0
          (try simp only [Act.put, List.setIfInBounds_toArray, List.set_cons_zero, List.set_cons_succ])
          refine wpUntil.only (i := 7) (by kernel_rfl) rfl (fun K hK => ?_)
          go_simp
          go_at_call 55
          refine (Calls.partsF (fInv _ _ _ i6.out HZ2.out)).mono ?_
          rw [HV2.out]
          rintro e wg ⟨t7, B7, m7, d7, B7', m7', d7', rfl, i7, bg⟩
          have i5c := Lib.hid (i5b.out.below bg)
          have hh := Lib.hid ((SW.ofB (p := (LP.mk p.f p.g v' p.n p.d p.m p.e (p.ks ++ [p.n / p.d]))) hHeld).below bg)
          refine hK.out _ _ (fun _ => ?_) ?_ (fun hHeld0 hHT => ?_)
          · exact SW.nextB (p := (LP.mk p.f p.g v' p.n p.d p.m p.e (p.ks ++ [p.n / p.d]))) hHeld bg
          · exact b1_next hHT bg
          have hHeld := hHeld0 (by kernel_rfl)
          clear hK K hHeld0
          (try simp only [Act.put, List.setIfInBounds_toArray, List.set_cons_zero, List.set_cons_succ])
          have TN := Lib.hid (hh.out.l.turn i5c.out i7.out)
          obtain ⟨u1', u2', u3', v1', v2', v3'⟩ := hh.out.l.f.cells
          obtain ⟨u4', u5', u6', v4', v5', v6'⟩ := hh.out.l.g.cells
          clear hHeld
          refine wpUntil.only (i := 8) (by kernel_rfl) rfl (fun K hK => ?_)
          go_simp
          refine hK.out _ _ (fun h => absurd h (by decide)) ?_ (fun _ hHT => ?_)
          · exact b1_far hHT NG.out.1
          clear hK K
          (try simp only [Act.put, List.setIfInBounds_toArray, List.set_cons_zero, List.set_cons_succ])
          refine wpUntil.only (i := 9) (by kernel_rfl) rfl (fun K hK => ?_)
          go_simp
          refine hK.out _ _ (fun h => absurd h (by decide)) ?_ (fun _ hHT => ?_)
          · exact b1_far hHT NG.out.2
          clear hK K
          (try simp only [Act.put, List.setIfInBounds_toArray, List.set_cons_zero, List.set_cons_succ])
          refine wpUntil.done (by kernel_rfl) ?_ _
          refine NoPanic.normal ?_
          go_wp2_with fail
          go_roundg (p.m - p.n / p.d * p.e + p.n % p.d)
          case measure => have := HME.out; have := HKK.out; omega
          case rel => exact ⟨_, rfl, TN, HBN, HXN, HLN2, HCN, Lib.hid (Nat.le_refl _)⟩
end Go.Proofs.YtfmhplcpejmkhabDoor

namespace Go.Proofs.YtfmhplcpejmkhabDoor
open Go.RowKit Dig
set_option linter.unusedVariables false
set_option linter.unusedSimpArgs false
/-- Newton's start of the reference is above the root -/
theorem root_startR {a n : Nat} (hn : 0 < n) : irt n a ≤ 2 ^ ((bl a + n - 1) / n) := by
  have h1 := irt_le (a := a) hn
  have h2 := lt_bl a
  have h3 : irt n a ^ n < (2 ^ ((bl a + n - 1) / n)) ^ n := by
    refine Nat.lt_of_le_of_lt h1 (Nat.lt_of_lt_of_le h2 ?_)
    rw [← Nat.pow_mul]
    apply Nat.pow_le_pow_right (by omega)
    have h4 := Nat.div_add_mod (bl a + n - 1) n
    have h5 := Nat.mod_lt (bl a + n - 1) hn
    rw [Nat.mul_comm]
    omega
  rcases Nat.lt_or_ge (2 ^ ((bl a + n - 1) / n)) (irt n a) with h | h
  · have := Nat.pow_le_pow_left (Nat.le_of_lt h) n
    omega
  · exact h
theorem bl_lengthR (a : Nat) : bl a ≤ 16 * (R a).length := by
  refine bl_le_of_lt ?_
  have : a < B16 ^ (R a).length := (dig_length_le B16_two a (R a).length).1 (Nat.le_refl _)
  rw [show B16 = 2 ^ 16 from rfl, ← Nat.pow_mul] at this
  exact this
theorem R_two_pow16 (k : Nat) : (R (2 ^ k)).length ≤ k / 16 + 1 := by
  refine (dig_length_le B16_two _ _).2 ?_
  rw [show B16 = 2 ^ 16 from rfl, ← Nat.pow_mul]
  exact Nat.pow_lt_pow_right (by omega) (by omega)
set_option maxHeartbeats 2000000 in
theorem rRoot_pos (a m : Nat) (w : World) (A : Option Addr) (c : Nat) (h : Rd w A c (R a)) (hs : (R a).length ≤ 4000) (hm : m ≤ 10) (ha : a ≠ 0) :
    Calls Tryd.prog 113 #[.slice A (R a).length c, .int .i64 (((m + 2 : Nat)) : Int)] w fun e w' => ∃ A c, e = .returned (.slice A (R (irt (m + 2) a)).length c) ∧ Rd w' A c (R (irt (m + 2) a)) ∧ Below w.heap.size w w' := by
  have H0 := Lib.hid h
  have hl : (((R a).length : Int) == 0) = false := by
    rw [beq_eq_false_iff_ne]
    intro e
    exact ha (R_length_zero (a := a) (by omega))
  have HA := Lib.hid ha
  have hn1 : decide ((m : Int) + 2 < 1) = false := decide_eq_false (by omega)
  have hn2 : decide (((m + 2 : Nat) : Int) < 1) = false := decide_eq_false (by omega)
  clear h ha
  have hbl := bl_lengthR a
  obtain ⟨k, hk⟩ : ∃ k, (bl a + (m + 2) - 1) / (m + 2) = k := ⟨_, rfl⟩
  have hk2 : ((bl a : Int) + ((m : Int) + 2) - 1) / ((m : Int) + 2) = (k : Int) := by
    rw [← hk, Int.natCast_ediv, show ((bl a + (m + 2) - 1 : Nat) : Int) = (bl a : Int) + ((m : Int) + 2) - 1 from by omega]; rfl
  have hkb : k ≤ 16 * (R a).length + 12 := by rw [← hk]; exact Nat.le_trans (Nat.div_le_self _ _) (by omega)
  have hst := root_startR (a := a) (n := m + 2) (by omega)
  rw [hk] at hst
  have HST := Lib.hid hst
  clear hk hst
  go_enter Tryd.func113, Tryd.ntmps113
  go_wp2_with fail
  refine (rNatOf1 _).mono ?_
  rintro e w1 ⟨A1, c1, rfl, hr1, hb1⟩
  have R1 := Lib.hid hr1
  have HB1 := Lib.hid hb1
  have R0 := Lib.hid (H0.out.below hb1)
  clear hr1 hb1
  go_wp2_with fail
  refine (rBits a _ _ _ R0.out (by omega)).mono ?_
  rintro e w2 ⟨rfl, rfl⟩
  go_wp2_with fail
  have l1 : (R 1).length ≤ 1 := (dig_length_le B16_two _ _).2 (by unfold B16; omega)
  refine (rShl 1 k _ _ _ R1.out (by omega) (by omega)).mono ?_
  rintro e w3 ⟨A3, c3, rfl, hr3, hb3⟩
  rw [Nat.one_mul] at hr3
  rw [Nat.one_mul]
  have R3 := Lib.hid hr3
  have R0' := Lib.hid (R0.out.below hb3)
  have HB3 := Lib.hid (below_step HB1.out HB1.out.size hb3)
  have hl3 := R_two_pow16 k
  clear hr3 hb3 hk2
  go_wp2_with fail
  go_loopg [5] (2 ^ k) (fun kk v6 wr => ∃ (x : Nat) (A6 : Option Addr) (c6 : Nat), v6 = .slice A6 (R x).length c6 ∧ Hid (x ≤ kk) ∧ Hid (irt (m + 2) a ≤ x) ∧ Hid (0 < x) ∧ (R x).length ≤ 2 * (R a).length + 50 ∧ Hid (Rd wr A6 c6 (R x)) ∧ Hid (Below w.heap.size w wr))
  case atStart => exact ⟨_, _, _, rfl, Lib.hid (Nat.le_refl _), HST, Lib.hid (Nat.two_pow_pos _), by omega, R3, HB3⟩
  case round =>
    obtain ⟨x, A6, c6, rfl, hx, hr, hx0, hl6, R6, hb⟩ := hrel
    have R0r := Lib.hid (H0.out.below hb.out)
    have hm1 : (R x).length * (m + 1) ≤ 95000 := by
      have := Nat.mul_le_mul hl6 (show m + 1 ≤ 11 by omega)
      omega
    go_wp2_with fail
    rw [show (m : Int) + 2 - 1 = ((m + 1 : Nat) : Int) from by omega]
    refine (rNatPow x (m + 1) _ _ _ R6.out (by omega) (by omega) (by omega)).mono ?_
    rintro e w4 ⟨A4, c4, rfl, hr4, hb4⟩
    have R4 := Lib.hid hr4
    have R0a := Lib.hid (R0r.out.below hb4)
    have R6a := Lib.hid (R6.out.below hb4)
    have HB4 := Lib.hid (below_step hb.out hb.out.size hb4)
    have hp0 := Lib.hid (Nat.pow_pos (n := m + 1) hx0.out)
    clear hr4 hb4
    go_wp2_with fail
    refine (rDiv a (x ^ (m + 1)) _ _ _ _ _ R0a.out R4.out (by omega) hp0.out).mono ?_
    rintro e w5 ⟨A5, c5, A5', c5', rfl, hr5, _, hb5⟩
    have R5 := Lib.hid hr5
    have R6b := Lib.hid (R6a.out.below hb5)
    have R0b := Lib.hid (R0a.out.below hb5)
    have HB5 := Lib.hid (below_step HB4.out HB4.out.size hb5)
    have l5 : (R (a / x ^ (m + 1))).length ≤ (R a).length := dig_length_mono B16_two (Nat.div_le_self _ _)
    clear hr5 hb5
    go_wp2_with fail
    rw [show (m : Int) + 2 - 1 = ((m + 1 : Nat) : Int) from by omega]
    refine (rNatOf _ _ (by omega)).mono ?_
    rintro e w6 ⟨A7, c7, rfl, hr7, hb7⟩
    have R7 := Lib.hid hr7
    have R6c := Lib.hid (R6b.out.below hb7)
    have R0c := Lib.hid (R0b.out.below hb7)
    have R5c := Lib.hid (R5.out.below hb7)
    have HB7 := Lib.hid (below_step HB5.out HB5.out.size hb7)
    have l7 : (R (m + 1)).length ≤ 1 := (dig_length_le B16_two _ _).2 (by unfold B16; omega)
    clear hr7 hb7
    go_wp2_with fail
    refine (rMul x (m + 1) _ _ _ _ _ R6c.out R7.out (by omega) (by omega)).mono ?_
    rintro e w8 ⟨A8, c8, rfl, hr8, hb8⟩
    have R8 := Lib.hid hr8
    have R6d := Lib.hid (R6c.out.below hb8)
    have R0d := Lib.hid (R0c.out.below hb8)
    have R5d := Lib.hid (R5c.out.below hb8)
    have HB8 := Lib.hid (below_step HB7.out HB7.out.size hb8)
    have l8 := R_mul_length x (m + 1)
    clear hr8 hb8
    go_wp2_with fail
    refine (rAdd (x * (m + 1)) (a / x ^ (m + 1)) _ _ _ _ _ R8.out R5d.out (by omega) (by omega)).mono ?_
    rintro e w9 ⟨A9, c9, rfl, hr9, hb9⟩
    have R9 := Lib.hid hr9
    have R6e := Lib.hid (R6d.out.below hb9)
    have R0e := Lib.hid (R0d.out.below hb9)
    have HB9 := Lib.hid (below_step HB8.out HB8.out.size hb9)
    have l9 := R_add_length (x * (m + 1)) (a / x ^ (m + 1))
    clear hr9 hb9
    go_wp2_with fail
    rw [show (m : Int) + 2 = ((m + 2 : Nat) : Int) from rfl]
    refine (rNatOf _ _ (by omega)).mono ?_
    rintro e w9 ⟨A7, c7, rfl, hr7, hb7⟩
    have R7 := Lib.hid hr7
    have R9 := Lib.hid (R9.out.below hb7)
    have R6e := Lib.hid (R6e.out.below hb7)
    have R0e := Lib.hid (R0e.out.below hb7)
    have HB9 := Lib.hid (below_step HB9.out HB9.out.size hb7)
    clear hr7 hb7
    go_wp2_with fail
    refine (rDiv (x * (m + 1) + a / x ^ (m + 1)) (m + 2) _ _ _ _ _ R9.out R7.out (by omega) (by omega)).mono ?_
    rintro e w10 ⟨A10, c10, A10', c10', rfl, hr10, _, hb10⟩
    obtain ⟨y, hy⟩ : ∃ y, (x * (m + 1) + a / x ^ (m + 1)) / (m + 2) = y := ⟨_, rfl⟩
    rw [hy] at hr10
    rw [hy]
    have R10 := Lib.hid hr10
    have R6f := Lib.hid (R6e.out.below hb10)
    have R0f := Lib.hid (R0e.out.below hb10)
    have HB10 := Lib.hid (below_step HB9.out HB9.out.size hb10)
    have hge := newton_ge (n := m + 1) (a := a) hx0.out
    rw [hy] at hge
    have HGE := Lib.hid hge
    have hstop := newton_stop (n := m + 1) (a := a) hx0.out hr.out
    rw [hy] at hstop
    have HSTOP := Lib.hid hstop
    clear hr10 hb10 hy hge hstop
    go_wp2_with fail
    refine (rCmp y x _ _ _ _ _ R10.out R6f.out).mono ?_
    rintro e w11 ⟨rfl, hb11⟩
    have R10g := Lib.hid (R10.out.below hb11)
    have R6g := Lib.hid (R6f.out.below hb11)
    have R0g := Lib.hid (R0f.out.below hb11)
    have HB11 := Lib.hid (below_step HB10.out HB10.out.size hb11)
    clear hb11
    by_cases hyx : x ≤ y
    · have hc : 0 ≤ cmpI y x := by unfold cmpI; rw [if_neg (by omega)]; split <;> omega
      have e := HSTOP.out hyx
      have E := Lib.hid e
      clear e
      go_wp2
      go_ret
      rw [E.out]
      exact ⟨_, _, rfl, R6g.out, HB11.out⟩
    · have hc : cmpI y x < 0 := by rw [cmpI_lt (by omega)]; omega
      have hyp : 0 < y := by
        have := HGE.out
        have h1 : 1 ≤ irt (m + 1 + 1) a := le_irt (by omega) (by have := HA.out; simp; omega)
        omega
      have HYP := Lib.hid hyp
      have HLT := Lib.hid (show y < x by omega)
      have ly : (R y).length ≤ (R x).length := dig_length_mono B16_two (by omega)
      clear hyp hyx
      go_wp2
      go_roundg y
      case measure => have := HLT.out; have := hx.out; omega
      case rel => exact ⟨y, _, _, rfl, Lib.hid (Nat.le_refl _), HGE, HYP, by omega, R10g, HB11⟩
theorem rRoot (a m : Nat) (w : World) (A : Option Addr) (c : Nat) (h : Rd w A c (R a)) (hs : (R a).length ≤ 4000) (hm : m ≤ 10) :
    Calls Tryd.prog 113 #[.slice A (R a).length c, .int .i64 (((m + 2 : Nat)) : Int)] w fun e w' => ∃ A c, e = .returned (.slice A (R (irt (m + 2) a)).length c) ∧ Rd w' A c (R (irt (m + 2) a)) ∧ Below w.heap.size w w' := by
  by_cases ha : a = 0
  · subst ha
    have hl : (((R 0).length : Int) == 0) = true := by simp [R_zero]
    have hi := Lib.hid (irt_zero (n := m + 2) (by omega))
    clear h
    go_enter Tryd.func113, Tryd.ntmps113
    go_wp2
    go_ret
    rw [hi.out, R_zero]
    exact ⟨none, 0, rfl, Rd.nil _ _ _ (by omega), Below.refl _ _⟩
  · exact rRoot_pos a m w A c h hs hm ha
end Go.Proofs.YtfmhplcpejmkhabDoor

namespace Go.Proofs.YtfmhplcpejmkhabDoor
set_option linter.unusedVariables false
set_option linter.unusedSimpArgs false
theorem irt_pos {n a : Nat} (hn : 0 < n) (ha : 0 < a) : 0 < irt n a := le_irt hn (by rw [Nat.one_pow]; exact ha)
theorem irt_pow {n : Nat} (hn : 0 < n) (a : Nat) : irt n (a ^ n) = a := irt_unique hn (Nat.le_refl _) (Nat.pow_lt_pow_left (Nat.lt_succ_self a) (by omega))
theorem dvd_powS {a n : Nat} (hn : 0 < n) : a ∣ a ^ n := by
  obtain ⟨m, rfl⟩ : ∃ m, n = m + 1 := ⟨n - 1, by omega⟩
  exact ⟨a ^ m, by rw [Nat.pow_succ, Nat.mul_comm]⟩
/-- the rational root, where there is one -/
def rtQ (n : Nat) (q : Rat) : Rat := mkRat (sg (ng q) (irt n q.num.natAbs)) (irt n q.den)
def isRt (n : Nat) (q : Rat) : Bool := decide (irt n q.num.natAbs ^ n = q.num.natAbs) && decide (irt n q.den ^ n = q.den)
theorem isRt_iff {n : Nat} {q : Rat} : isRt n q = true ↔ irt n q.num.natAbs ^ n = q.num.natAbs ∧ irt n q.den ^ n = q.den := by
  unfold isRt
  rw [Bool.and_eq_true, decide_eq_true_eq, decide_eq_true_eq]
theorem irt_den {n : Nat} (hn : 0 < n) (q : Rat) : irt n q.den ≠ 0 := Nat.ne_of_gt (irt_pos hn (Nat.pos_of_ne_zero q.den_nz))
theorem rt_facts {n : Nat} {q : Rat} (hn : 0 < n) (h : isRt n q = true) : ng (rtQ n q) = ng q ∧ (rtQ n q).num.natAbs = irt n q.num.natAbs ∧ (rtQ n q).den = irt n q.den := by
  obtain ⟨h1, h2⟩ := isRt_iff.1 h
  have hd := irt_den hn q
  have hc : Nat.gcd (irt n q.num.natAbs) (irt n q.den) = 1 := by
    have := q.reduced
    rw [← h1, ← h2] at this
    have g1 : Nat.gcd (irt n q.num.natAbs) (irt n q.den) ∣ irt n q.num.natAbs ^ n := Nat.dvd_trans (Nat.gcd_dvd_left _ _) (dvd_powS hn)
    have g2 : Nat.gcd (irt n q.num.natAbs) (irt n q.den) ∣ irt n q.den ^ n := Nat.dvd_trans (Nat.gcd_dvd_right _ _) (dvd_powS hn)
    have g3 := Nat.dvd_gcd g1 g2
    rw [Nat.Coprime] at this
    rw [this] at g3
    exact Nat.dvd_one.1 g3
  refine ⟨?_, ?_, ?_⟩
  · unfold rtQ
    by_cases h0 : irt n q.num.natAbs = 0
    · have : q.num.natAbs = 0 := by rw [← h1, h0, Nat.zero_pow hn]
      rw [h0, mk_zero]
      cases e : ng q
      · rfl
      · exact absurd this (ng_nz e)
    · exact mk_sign _ hd h0
  · unfold rtQ; rw [mk_abs _ _ hd, hc, Nat.div_one]
  · unfold rtQ; rw [mk_den _ _ hd, hc, Nat.div_one]
theorem rat_ext {a b : Rat} (h1 : ng a = ng b) (h2 : a.num.natAbs = b.num.natAbs) (h3 : a.den = b.den) : a = b := by
  rw [← mk_ng a, ← mk_ng b, h1, h2, h3]
theorem rt_iff {n : Nat} {q : Rat} (hn : 0 < n) (hs : ng q = true → n % 2 = 1) : powN (rtQ n q) n = q ↔ isRt n q = true := by
  constructor
  · intro h
    obtain ⟨_, e2, e3⟩ := powN_facts (rtQ n q) n
    rw [h] at e2 e3
    have hd := irt_den hn q
    have m2 := mk_abs (ng q) (irt n q.num.natAbs) hd
    have m3 := mk_den (ng q) (irt n q.num.natAbs) hd
    have l1 := irt_le (a := q.num.natAbs) hn
    have l2 := irt_le (a := q.den) hn
    rw [isRt_iff]
    unfold rtQ at e2 e3
    rw [m2] at e2
    rw [m3] at e3
    have k1 := Nat.pow_le_pow_left (Nat.div_le_self (irt n q.num.natAbs) (Nat.gcd (irt n q.num.natAbs) (irt n q.den))) n
    have k2 := Nat.pow_le_pow_left (Nat.div_le_self (irt n q.den) (Nat.gcd (irt n q.num.natAbs) (irt n q.den))) n
    omega
  · intro h
    obtain ⟨e1, e2, e3⟩ := rt_facts hn h
    obtain ⟨f1, f2, f3⟩ := powN_facts (rtQ n q) n
    obtain ⟨h1, h2⟩ := isRt_iff.1 h
    refine rat_ext ?_ ?_ ?_
    · rw [f1, e1]
      cases e : ng q
      · rfl
      · rw [hs e]; rfl
    · rw [f2, e2, h1]
    · rw [f3, e3, h2]
theorem powN_pow (q : Rat) (n : Nat) : powN q n = q ^ n := by
  induction n with
  | zero => rw [Rat.pow_zero]; unfold powN; simp [sg]; rfl
  | succ n ih =>
    rw [Rat.pow_succ, ← ih]
    unfold powN
    conv => rhs; arg 2; rw [← mk_ng q]
    rw [Rat.mkRat_mul_mkRat, ← sg_xor, Nat.pow_succ, Nat.pow_succ]
    congr 2
    rcases Nat.mod_two_eq_zero_or_one n with h | h
    · have h2 : (n + 1) % 2 = 1 := by omega
      rw [h, h2]; cases ng q <;> rfl
    · have h2 : (n + 1) % 2 = 0 := by omega
      rw [h, h2]; cases ng q <;> rfl
theorem isRt_pow (q : Rat) {k : Nat} (hk : 0 < k) : isRt k (powN q k) = true := by
  obtain ⟨_, f2, f3⟩ := powN_facts q k
  rw [isRt_iff, f2, f3, irt_pow hk, irt_pow hk]
  exact ⟨rfl, rfl⟩
theorem rt_pow (q : Rat) {k : Nat} (hk : 0 < k) : rtQ k (powN q k) = if k % 2 = 1 then q else absQ q := by
  obtain ⟨f1, f2, f3⟩ := powN_facts q k
  unfold rtQ
  rw [f1, f2, f3, irt_pow hk, irt_pow hk]
  split
  · rename_i h; rw [h]
    conv => rhs; rw [← mk_ng q]
    simp
  · rename_i h
    rw [decide_eq_false h, Bool.and_false]
    obtain ⟨g1, g2, g3⟩ := absQ_facts q
    rw [← mk_ng (absQ q), g1, g2, g3]
theorem mk_pow (s : Bool) (a d k : Nat) : powN (mkRat (sg s a) d) k = mkRat (sg (s && decide (k % 2 = 1)) (a ^ k)) (d ^ k) := by
  rw [powN_pow]
  induction k with
  | zero => rw [Rat.pow_zero]; simp [sg]; rfl
  | succ k ih =>
    rw [Rat.pow_succ, ih, Rat.mkRat_mul_mkRat, ← sg_xor, Nat.pow_succ, Nat.pow_succ]
    congr 2
    rcases Nat.mod_two_eq_zero_or_one k with h | h
    · have h2 : (k + 1) % 2 = 1 := by omega
      rw [h, h2]; cases s <;> rfl
    · have h2 : (k + 1) % 2 = 0 := by omega
      rw [h, h2]; cases s <;> rfl
/-- the root on the grid: its numerator -/
def rootN (n d k p : Nat) (c : Bool) : Nat :=
  irt k (n * 2 ^ (p * k) / d) + if c = true ∧ ¬ (irt k (n * 2 ^ (p * k) / d) ^ k = n * 2 ^ (p * k) / d ∧ n * 2 ^ (p * k) % d = 0) then 1 else 0
/-- the root on the grid -/
def grtQ (q : Rat) (k p : Nat) (up : Bool) : Rat := mkRat (sg (ng q) (rootN q.num.natAbs q.den k p (up != ng q))) (2 ^ p)
def lowQ (q : Rat) (k p : Nat) : Rat := mkRat (irt k (q.num.natAbs * 2 ^ (p * k) / q.den) : Nat) (2 ^ p)
theorem exact_iff {r N D P : Nat} (k : Nat) (hD : 0 < D) (h : r ^ k ≤ N * P / D) : r ^ k * D = N * P ↔ (r ^ k = N * P / D ∧ N * P % D = 0) := by
  have hm := Nat.div_add_mod (N * P) D
  constructor
  · intro e
    have h1 : N * P / D = r ^ k := by rw [← e]; exact Nat.mul_div_cancel _ hD
    refine ⟨h1.symm, ?_⟩
    rw [← e]; exact Nat.mul_mod_left _ _
  · rintro ⟨e1, e2⟩
    rw [e2, Nat.add_zero] at hm
    rw [e1, Nat.mul_comm, hm]
theorem low_pow (q : Rat) {k p : Nat} (hk : 0 < k) (hs : ng q = false) : powN (lowQ q k p) k = q ↔ (irt k (q.num.natAbs * 2 ^ (p * k) / q.den) ^ k = q.num.natAbs * 2 ^ (p * k) / q.den ∧ q.num.natAbs * 2 ^ (p * k) % q.den = 0) := by
  have hd := q.den_nz
  have hl := irt_le (a := q.num.natAbs * 2 ^ (p * k) / q.den) hk
  rw [← exact_iff k (Nat.pos_of_ne_zero hd) hl]
  unfold lowQ
  have e : ∀ x : Nat, (x : Int) = sg false x := fun _ => rfl
  have hx := mk_ng q
  rw [hs] at hx
  rw [e, mk_pow, Bool.false_and, ← Nat.pow_mul]
  conv => lhs; rhs; rw [← hx]
  rw [Rat.mkRat_eq_iff (Nat.ne_of_gt (Nat.two_pow_pos _)) hd]
  show (_ : Int) * _ = _ * _ ↔ _
  simp only [sg, Bool.false_eq_true, if_false]
  exact_mod_cast Iff.rfl
theorem grt_down (q : Rat) (k p : Nat) (hs : ng q = false) : grtQ q k p false = lowQ q k p := by
  unfold grtQ lowQ rootN
  rw [hs]
  simp [sg]
theorem grt_up (q : Rat) {k p : Nat} (hk : 0 < k) (hs : ng q = false) : grtQ q k p true = if powN (lowQ q k p) k = q then lowQ q k p else lowQ q k p + mkRat 1 (2 ^ p) := by
  have h := low_pow q (p := p) hk hs
  unfold grtQ rootN
  rw [hs]
  have hP : (2 ^ p : Nat) ≠ 0 := Nat.ne_of_gt (Nat.two_pow_pos p)
  by_cases he : powN (lowQ q k p) k = q
  · rw [if_pos he, if_neg (by rw [← h]; simp [he])]
    unfold lowQ
    simp [sg]
  · rw [if_neg he, if_pos (by rw [← h]; simp [he])]
    unfold lowQ
    rw [Rat.mkRat_add_mkRat _ _ hP hP, Rat.mkRat_eq_iff hP (Nat.mul_ne_zero hP hP)]
    simp [sg]
    grind
theorem grt_neg (q : Rat) (k p : Nat) (up : Bool) (hs : ng q = true) : grtQ q k p up = -(grtQ (-q) k p (!up)) := by
  have h0 := ng_nz hs
  have e := ng_neg q
  rw [hs] at e
  unfold grtQ
  rw [neg_abs, neg_den, e, hs, Rat.neg_mkRat]
  congr 1
  simp only [sg, Bool.not_true, Bool.false_and, Bool.false_eq_true, if_false, if_true]
  cases up <;> rfl
/-- below and above -/
theorem grt_between (q : Rat) {k p : Nat} (hk : 0 < k) (hs : ng q = true → k % 2 = 1) : cmpQ (powN (grtQ q k p false) k) q ≤ 0 ∧ cmpQ q (powN (grtQ q k p true) k) ≤ 0 := by
  have hP : ((2 ^ p) ^ k : Nat) ≠ 0 := Nat.ne_of_gt (Nat.pow_pos (Nat.two_pow_pos p))
  have hd := q.den_nz
  have hx := x_mk q
  unfold grtQ
  rw [mk_pow, mk_pow]
  obtain ⟨s, hss⟩ : ∃ s, ng q = s := ⟨_, rfl⟩
  obtain ⟨n, hn⟩ : ∃ n, q.num.natAbs = n := ⟨_, rfl⟩
  obtain ⟨d, hdd⟩ : ∃ d, q.den = d := ⟨_, rfl⟩
  rw [hss] at hs
  have hsk : (s && decide (k % 2 = 1)) = s := by
    cases s
    · rfl
    · rw [hs rfl]; rfl
  rw [hss, hn, hdd] at hx ⊢
  rw [hdd] at hd
  rw [hsk]
  rw [hx]
  rw [cmp_mk _ _ _ _ hP hd, cmp_mk _ _ _ _ hd hP]
  have hPk : ((2 ^ p) ^ k : Nat) = 2 ^ (p * k) := by rw [← Nat.pow_mul]
  have l1 := irt_le (a := n * 2 ^ (p * k) / d) hk
  have l2 := irt_lt (a := n * 2 ^ (p * k) / d) hk
  have lo : ∀ c, c = false → rootN n d k p c ^ k * d ≤ n * 2 ^ (p * k) := by
    intro c hc
    unfold rootN
    rw [if_neg (by rw [hc]; simp), Nat.add_zero]
    exact Nat.le_trans (Nat.mul_le_mul_right d l1) (Nat.div_mul_le_self _ _)
  have hi : ∀ c, c = true → n * 2 ^ (p * k) ≤ rootN n d k p c ^ k * d := by
    intro c hc
    unfold rootN
    by_cases he : irt k (n * 2 ^ (p * k) / d) ^ k = n * 2 ^ (p * k) / d ∧ n * 2 ^ (p * k) % d = 0
    · rw [if_neg (by simp [he.1, he.2]), Nat.add_zero, (exact_iff k (Nat.pos_of_ne_zero hd) l1).2 he]
      exact Nat.le_refl _
    · rw [if_pos ⟨hc, he⟩]
      have h3 : n * 2 ^ (p * k) / d + 1 ≤ (irt k (n * 2 ^ (p * k) / d) + 1) ^ k := l2
      have h4 := Nat.mul_le_mul_right d h3
      have h5 := Nat.div_add_mod (n * 2 ^ (p * k)) d
      have h6 := Nat.mod_lt (n * 2 ^ (p * k)) (Nat.pos_of_ne_zero hd)
      rw [Nat.add_mul, Nat.mul_comm (n * 2 ^ (p * k) / d) d] at h4
      omega
  have cz : ∀ a b : Int, a ≤ b → cmpZ a b ≤ 0 := by
    intro a b h
    unfold cmpZ
    split
    · omega
    · rw [if_pos (by omega)]; omega
  rw [hPk]
  cases s
  · have a1 := lo (false != false) rfl
    have a2 := hi (true != false) rfl
    refine ⟨cz _ _ ?_, cz _ _ ?_⟩
    · simp only [sg, Bool.false_eq_true, if_false]; exact_mod_cast a1
    · simp only [sg, Bool.false_eq_true, if_false]; exact_mod_cast a2
  · have a1 := hi (false != true) rfl
    have a2 := lo (true != true) rfl
    refine ⟨cz _ _ ?_, cz _ _ ?_⟩
    · simp only [sg, if_true]
      rw [Int.neg_mul, Int.neg_mul]
      have : ((n * 2 ^ (p * k) : Nat) : Int) ≤ ((rootN n d k p (false != true) ^ k * d : Nat) : Int) := by exact_mod_cast a1
      push_cast at this ⊢
      omega
    · simp only [sg, if_true]
      rw [Int.neg_mul, Int.neg_mul]
      have : ((rootN n d k p (true != true) ^ k * d : Nat) : Int) ≤ ((n * 2 ^ (p * k) : Nat) : Int) := by exact_mod_cast a2
      push_cast at this ⊢
      omega
end Go.Proofs.YtfmhplcpejmkhabDoor

namespace Go.Proofs.YtfmhplcpejmkhabDoor
open Go.RowKit Dig
set_option linter.unusedVariables false
set_option linter.unusedSimpArgs false
/-- the slice of n digits is the number a -/
def RAt (w : World) (A : Option Addr) (n c a : Nat) : Prop := (R a).length = n ∧ Rd w A c (R a)
theorem RAt.below {w w' : World} {A : Option Addr} {n c a : Nat} (h : RAt w A n c a) (hb : Below w.heap.size w w') : RAt w' A n c a := ⟨h.1, h.2.below hb⟩
theorem RAt.of {w : World} {A : Option Addr} {c a : Nat} (h : Rd w A c (R a)) : RAt w A (R a).length c a := ⟨rfl, h⟩
theorem IsQ.at_ {w : World} {t : Bool} {A B : Option Addr} {n c m d : Nat} {q : Rat} (h : IsQ w (.agg #[.bool t, .slice A n c, .slice B m d]) q) : t = ng q ∧ RAt w A n c q.num.natAbs ∧ RAt w B m d q.den := by
  obtain ⟨A1, c1, A2, c2, e, h1, h2⟩ := h
  simp only [Value.agg.injEq, Array.mk.injEq, List.cons.injEq, Value.bool.injEq, Value.slice.injEq, and_true] at e
  obtain ⟨rfl, ⟨rfl, rfl, rfl⟩, rfl, rfl, rfl⟩ := e
  exact ⟨rfl, ⟨rfl, h1⟩, rfl, h2⟩
theorem bShl (a k : Nat) (w : World) (A : Option Addr) (n c : Nat) (h : RAt w A n c a) (hs : (R a).length ≤ 500000) (hk : k ≤ 1000000) :
    Calls Tryd.prog 84 #[.slice A n c, .int .i64 k] w fun e w' => ∃ A' n' c', e = .returned (.slice A' n' c') ∧ Hid (RAt w' A' n' c' (a * 2 ^ k)) ∧ Below w.heap.size w w' := by
  obtain ⟨rfl, hr⟩ := h
  refine (rShl a k w A c hr (by omega) (by omega)).mono ?_
  rintro e w' ⟨B, d, rfl, hB, hb⟩
  exact ⟨_, _, _, rfl, RAt.of hB, hb⟩
theorem bDiv (a b : Nat) (w : World) (A A' : Option Addr) (n c n' c' : Nat) (h : RAt w A n c a) (h' : RAt w A' n' c' b) (hs : (R a).length ≤ 1000000) (hb : 0 < b) :
    Calls Tryd.prog 107 #[.slice A n c, .slice A' n' c'] w fun e w' => ∃ B x y B' x' y', e = .returned (.tuple #[.slice B x y, .slice B' x' y']) ∧ Hid (RAt w' B x y (a / b)) ∧ Hid (RAt w' B' x' y' (a % b)) ∧ Below w.heap.size w w' := by
  obtain ⟨rfl, hr⟩ := h
  obtain ⟨rfl, hr'⟩ := h'
  refine (rDiv a b w A A' c c' hr hr' (by omega) hb).mono ?_
  rintro e w' ⟨B, d, B', d', rfl, hB, hB', hbl⟩
  exact ⟨_, _, _, _, _, _, rfl, RAt.of hB, RAt.of hB', hbl⟩
theorem bMul (a b : Nat) (w : World) (A A' : Option Addr) (n c n' c' : Nat) (h : RAt w A n c a) (h' : RAt w A' n' c' b) (hs : (R a).length ≤ 1000000) (hs' : (R b).length ≤ 1000000) :
    Calls Tryd.prog 96 #[.slice A n c, .slice A' n' c'] w fun e w' => ∃ B x y, e = .returned (.slice B x y) ∧ Hid (RAt w' B x y (a * b)) ∧ Below w.heap.size w w' := by
  obtain ⟨rfl, hr⟩ := h
  obtain ⟨rfl, hr'⟩ := h'
  refine (rMul a b w A A' c c' hr hr' (by omega) (by omega)).mono ?_
  rintro e w' ⟨B, d, rfl, hB, hbl⟩
  exact ⟨_, _, _, rfl, RAt.of hB, hbl⟩
theorem bAdd (a b : Nat) (w : World) (A A' : Option Addr) (n c n' c' : Nat) (h : RAt w A n c a) (h' : RAt w A' n' c' b) (hs : (R a).length ≤ 1000000) (hs' : (R b).length ≤ 1000000) :
    Calls Tryd.prog 129 #[.slice A n c, .slice A' n' c'] w fun e w' => ∃ B x y, e = .returned (.slice B x y) ∧ Hid (RAt w' B x y (a + b)) ∧ Below w.heap.size w w' := by
  obtain ⟨rfl, hr⟩ := h
  obtain ⟨rfl, hr'⟩ := h'
  refine (rAdd a b w A A' c c' hr hr' (by omega) (by omega)).mono ?_
  rintro e w' ⟨B, d, rfl, hB, hbl⟩
  exact ⟨_, _, _, rfl, RAt.of hB, hbl⟩
theorem bSub (a b : Nat) (w : World) (A A' : Option Addr) (n c n' c' : Nat) (h : RAt w A n c a) (h' : RAt w A' n' c' b) (hs : (R a).length ≤ 1000000) (hle : b ≤ a) :
    Calls Tryd.prog 130 #[.slice A n c, .slice A' n' c'] w fun e w' => ∃ B x y, e = .returned (.slice B x y) ∧ Hid (RAt w' B x y (a - b)) ∧ Below w.heap.size w w' := by
  obtain ⟨rfl, hr⟩ := h
  obtain ⟨rfl, hr'⟩ := h'
  refine (rSub a b w A A' c c' hr hr' (by omega) hle).mono ?_
  rintro e w' ⟨B, d, rfl, hB, hbl⟩
  exact ⟨_, _, _, rfl, RAt.of hB, hbl⟩
theorem bCmp (a b : Nat) (w : World) (A A' : Option Addr) (n c n' c' : Nat) (h : RAt w A n c a) (h' : RAt w A' n' c' b) :
    Calls Tryd.prog 49 #[.slice A n c, .slice A' n' c'] w fun e w' => e = .returned (.int .i64 (cmpI a b)) ∧ Below w.heap.size w w' := by
  obtain ⟨rfl, hr⟩ := h
  obtain ⟨rfl, hr'⟩ := h'
  exact rCmp a b w A A' c c' hr hr'
theorem bOne (w : World) : Calls Tryd.prog 69 #[.int .u64 1] w fun e w' => ∃ B x y, e = .returned (.slice B x y) ∧ Hid (RAt w' B x y 1) ∧ Below w.heap.size w w' := by
  refine (rNatOf1 w).mono ?_
  rintro e w' ⟨B, d, rfl, hB, hbl⟩
  exact ⟨_, _, _, rfl, RAt.of hB, hbl⟩
theorem bRoot (a k : Nat) (w : World) (A : Option Addr) (n c : Nat) (h : RAt w A n c a) (hs : (R a).length ≤ 4000) (h2 : 2 ≤ k) (h8 : k ≤ 12) :
    Calls Tryd.prog 113 #[.slice A n c, .int .i64 k] w fun e w' => ∃ A' n' c', e = .returned (.slice A' n' c') ∧ Hid (RAt w' A' n' c' (irt k a)) ∧ Below w.heap.size w w' := by
  obtain ⟨m, rfl⟩ : ∃ m, k = m + 2 := ⟨k - 2, by omega⟩
  obtain ⟨rfl, hr⟩ := h
  refine (rRoot a m w A c hr hs (by omega)).mono ?_
  rintro e w' ⟨B, d, rfl, hB, hb⟩
  exact ⟨_, _, _, rfl, RAt.of hB, hb⟩
theorem bMake (s : Bool) (a d : Nat) (w : World) (A A' : Option Addr) (n c n' c' : Nat) (h : RAt w A n c a) (h' : RAt w A' n' c' d) (hd : d ≠ 0) (hs : (R a).length ≤ 1000000) (hs' : (R d).length ≤ 1000000) (q : Rat) (hq : mkRat (sg s a) d = q) :
    Calls Tryd.prog 70 #[.bool s, .slice A n c, .slice A' n' c'] w fun e w' => ∃ t B1 m1 e1 B2 m2 e2, e = .returned (.agg #[.bool t, .slice B1 m1 e1, .slice B2 m2 e2]) ∧ Hid (IsQ w' (.agg #[.bool t, .slice B1 m1 e1, .slice B2 m2 e2]) q) ∧ Below w.heap.size w w' := by
  obtain ⟨rfl, hr⟩ := h
  obtain ⟨rfl, hr'⟩ := h'
  subst hq
  exact Calls.parts (rMake s a d w A A' c c' hr hr' hd (by omega) (by omega))
theorem bDen (q : Rat) (w : World) (v : Value) (h : IsQ w v q) : Calls Tryd.prog 85 #[v] w fun e w' => ∃ B x y, e = .returned (.slice B x y) ∧ Hid (RAt w' B x y q.den) ∧ Below w.heap.size w w' := by
  obtain ⟨A1, c1, A2, c2, rfl, r1, r2⟩ := h
  refine (rDen _ _ _ w A1 A2 c1 c2 r2 q.den_nz).mono ?_
  rintro e w' ⟨B, d, rfl, hB, hb⟩
  exact ⟨_, _, _, rfl, RAt.of hB, hb⟩
theorem bOpp (a q : Rat) (hq : -a = q) (w : World) (v1 : Value) (h1 : IsQ w v1 a) : Calls Tryd.prog 28 #[v1] w fun e w' => ∃ t B1 m1 e1 B2 m2 e2, e = .returned (.agg #[.bool t, .slice B1 m1 e1, .slice B2 m2 e2]) ∧ Hid (IsQ w' (.agg #[.bool t, .slice B1 m1 e1, .slice B2 m2 e2]) q) ∧ Below w.heap.size w w' := by
  subst hq
  exact Calls.parts (qOpp a w v1 h1)
theorem bCmpQ (a b : Rat) (c : Int) (hc : cmpQ a b = c) (w : World) (v1 v2 : Value) (h1 : IsQ w v1 a) (h2 : IsQ w v2 b) (k1 : Rq 400000 a) (k2 : Rq 400000 b) :
    Calls Tryd.prog 40 #[v1, v2] w fun e w' => e = .returned (.int .i64 c) ∧ Below w.heap.size w w' := by
  obtain ⟨A1, c1, A2, c2, rfl, r1, r2⟩ := h1
  obtain ⟨A3, c3, A4, c4, rfl, r3, r4⟩ := h2
  subst hc
  exact rCmpQ (ng a) a.num.natAbs a.den (ng b) b.num.natAbs b.den w _ _ _ _ _ _ _ _ r1 r2 r3 r4 k1.1 k1.2 k2.1 k2.2 a.den_nz b.den_nz (a - b) (rat_sub a b)
theorem XP.newer {w M : World} {g1 g3 : Nat} {s1 : Bool} {A1 : Option Addr} {n1 c1 : Nat} {B1 : Option Addr} {m1 d1 : Nat} {q : Rat} (h : XP w M g1 g3 s1 A1 n1 c1 B1 m1 d1 q) : g1 ≠ M.heap.size ∧ g3 ≠ M.heap.size ∧ w.heap.size ≤ M.heap.size := by
  have h1 := h.f.lt
  obtain ⟨_, _, _, _, _, _, h4⟩ := h.res
  have h2 := h4.lt
  exact ⟨by omega, by omega, h.bel.size⟩
theorem IsQ.grown {w w' : World} {v : Value} {q : Rat} {g : Nat} {x y z : Value} {t : TypeId} (h : IsQ w v q) (hb : Box w g x y z t) (hx : NI x) (hy : NI y) (hz : NI z) (hg : w.grownBy w' (some g)) : IsQ w' v q := by
  obtain ⟨A1, c1, A2, c2, e, r1, r2⟩ := h
  exact ⟨A1, c1, A2, c2, e, r1.grown_box hb hx hy hz hg, r2.grown_box hb hx hy hz hg⟩
/-- two rational numbers of the reference in variables, and a variable for a result -/
structure XQ (w M : World) (g1 g2 g3 : Nat) (s1 : Bool) (A1 : Option Addr) (n1 c1 : Nat) (B1 : Option Addr) (m1 d1 : Nat) (a : Rat) (s2 : Bool) (A2 : Option Addr) (n2 c2 : Nat) (B2 : Option Addr) (m2 d2 : Nat) (b : Rat) : Prop where
  p : XP w M g1 g3 s1 A1 n1 c1 B1 m1 d1 a
  g : Box M g2 (.bool s2) (.slice A2 n2 c2) (.slice B2 m2 d2) 39
  r2 : IsQ M (.agg #[.bool s2, .slice A2 n2 c2, .slice B2 m2 d2]) b
  ne : g2 ≠ g3
section
variable {w M M' : World} {g1 g2 g3 : Nat} {s1 : Bool} {A1 : Option Addr} {n1 c1 : Nat} {B1 : Option Addr} {m1 d1 : Nat} {a : Rat} {s2 : Bool} {A2 : Option Addr} {n2 c2 : Nat} {B2 : Option Addr} {m2 d2 : Nat} {b : Rat}
theorem XQ.below (h : XQ w M g1 g2 g3 s1 A1 n1 c1 B1 m1 d1 a s2 A2 n2 c2 B2 m2 d2 b) (hb : Below M.heap.size M M') : XQ w M' g1 g2 g3 s1 A1 n1 c1 B1 m1 d1 a s2 A2 n2 c2 B2 m2 d2 b :=
  ⟨h.p.below hb, h.g.below hb, h.r2.below hb, h.ne⟩
theorem XQ.drew (h : XQ w M g1 g2 g3 s1 A1 n1 c1 B1 m1 d1 a s2 A2 n2 c2 B2 m2 d2 b) : XQ w M.drew g1 g2 g3 s1 A1 n1 c1 B1 m1 d1 a s2 A2 n2 c2 B2 m2 d2 b := h.below (Below.refl _ _).drew
theorem XQ.cells (h : XQ w M g1 g2 g3 s1 A1 n1 c1 B1 m1 d1 a s2 A2 n2 c2 B2 m2 d2 b) : (World.cell? M ⟨g1, 0, none⟩ = some (.bool s1) ∧ World.cell? M ⟨g1, 1, none⟩ = some (.slice A1 n1 c1) ∧ World.cell? M ⟨g1, 2, none⟩ = some (.slice B1 m1 d1) ∧ World.cell? M ⟨g2, 0, none⟩ = some (.bool s2) ∧ World.cell? M ⟨g2, 1, none⟩ = some (.slice A2 n2 c2) ∧ World.cell? M ⟨g2, 2, none⟩ = some (.slice B2 m2 d2) ∧ Hid (XQ w M g1 g2 g3 s1 A1 n1 c1 B1 m1 d1 a s2 A2 n2 c2 B2 m2 d2 b)) := by
  obtain ⟨a1, a2, a3, _, _, _⟩ := h.p.f.cells
  obtain ⟨b1, b2, b3, _, _, _⟩ := h.g.cells
  exact ⟨a1, a2, a3, b1, b2, b3, h⟩
theorem XQ.of (h : (World.cell? M ⟨g1, 0, none⟩ = some (.bool s1) ∧ World.cell? M ⟨g1, 1, none⟩ = some (.slice A1 n1 c1) ∧ World.cell? M ⟨g1, 2, none⟩ = some (.slice B1 m1 d1) ∧ World.cell? M ⟨g2, 0, none⟩ = some (.bool s2) ∧ World.cell? M ⟨g2, 1, none⟩ = some (.slice A2 n2 c2) ∧ World.cell? M ⟨g2, 2, none⟩ = some (.slice B2 m2 d2) ∧ Hid (XQ w M g1 g2 g3 s1 A1 n1 c1 B1 m1 d1 a s2 A2 n2 c2 B2 m2 d2 b))) : XQ w M g1 g2 g3 s1 A1 n1 c1 B1 m1 d1 a s2 A2 n2 c2 B2 m2 d2 b := h.2.2.2.2.2.2.out
theorem XQ.next (h : (World.cell? M ⟨g1, 0, none⟩ = some (.bool s1) ∧ World.cell? M ⟨g1, 1, none⟩ = some (.slice A1 n1 c1) ∧ World.cell? M ⟨g1, 2, none⟩ = some (.slice B1 m1 d1) ∧ World.cell? M ⟨g2, 0, none⟩ = some (.bool s2) ∧ World.cell? M ⟨g2, 1, none⟩ = some (.slice A2 n2 c2) ∧ World.cell? M ⟨g2, 2, none⟩ = some (.slice B2 m2 d2) ∧ Hid (XQ w M g1 g2 g3 s1 A1 n1 c1 B1 m1 d1 a s2 A2 n2 c2 B2 m2 d2 b))) (hb : Below M.heap.size M M') : (World.cell? M' ⟨g1, 0, none⟩ = some (.bool s1) ∧ World.cell? M' ⟨g1, 1, none⟩ = some (.slice A1 n1 c1) ∧ World.cell? M' ⟨g1, 2, none⟩ = some (.slice B1 m1 d1) ∧ World.cell? M' ⟨g2, 0, none⟩ = some (.bool s2) ∧ World.cell? M' ⟨g2, 1, none⟩ = some (.slice A2 n2 c2) ∧ World.cell? M' ⟨g2, 2, none⟩ = some (.slice B2 m2 d2) ∧ Hid (XQ w M' g1 g2 g3 s1 A1 n1 c1 B1 m1 d1 a s2 A2 n2 c2 B2 m2 d2 b)) := ((XQ.of h).below hb).cells
theorem XQ.nextS (h : (World.cell? M ⟨g1, 0, none⟩ = some (.bool s1) ∧ World.cell? M ⟨g1, 1, none⟩ = some (.slice A1 n1 c1) ∧ World.cell? M ⟨g1, 2, none⟩ = some (.slice B1 m1 d1) ∧ World.cell? M ⟨g2, 0, none⟩ = some (.bool s2) ∧ World.cell? M ⟨g2, 1, none⟩ = some (.slice A2 n2 c2) ∧ World.cell? M ⟨g2, 2, none⟩ = some (.slice B2 m2 d2) ∧ Hid (XQ w M g1 g2 g3 s1 A1 n1 c1 B1 m1 d1 a s2 A2 n2 c2 B2 m2 d2 b))) {x : Bool} {B C : Option Addr} {k k' c c' : Nat} : (World.cell? (((M.setCell ⟨g3, 0, none⟩ (.bool x)).setCell ⟨g3, 1, none⟩ (.slice B k k')).setCell ⟨g3, 2, none⟩ (.slice C c c')) ⟨g1, 0, none⟩ = some (.bool s1) ∧ World.cell? (((M.setCell ⟨g3, 0, none⟩ (.bool x)).setCell ⟨g3, 1, none⟩ (.slice B k k')).setCell ⟨g3, 2, none⟩ (.slice C c c')) ⟨g1, 1, none⟩ = some (.slice A1 n1 c1) ∧ World.cell? (((M.setCell ⟨g3, 0, none⟩ (.bool x)).setCell ⟨g3, 1, none⟩ (.slice B k k')).setCell ⟨g3, 2, none⟩ (.slice C c c')) ⟨g1, 2, none⟩ = some (.slice B1 m1 d1) ∧ World.cell? (((M.setCell ⟨g3, 0, none⟩ (.bool x)).setCell ⟨g3, 1, none⟩ (.slice B k k')).setCell ⟨g3, 2, none⟩ (.slice C c c')) ⟨g2, 0, none⟩ = some (.bool s2) ∧ World.cell? (((M.setCell ⟨g3, 0, none⟩ (.bool x)).setCell ⟨g3, 1, none⟩ (.slice B k k')).setCell ⟨g3, 2, none⟩ (.slice C c c')) ⟨g2, 1, none⟩ = some (.slice A2 n2 c2) ∧ World.cell? (((M.setCell ⟨g3, 0, none⟩ (.bool x)).setCell ⟨g3, 1, none⟩ (.slice B k k')).setCell ⟨g3, 2, none⟩ (.slice C c c')) ⟨g2, 2, none⟩ = some (.slice B2 m2 d2) ∧ Hid (XQ w (((M.setCell ⟨g3, 0, none⟩ (.bool x)).setCell ⟨g3, 1, none⟩ (.slice B k k')).setCell ⟨g3, 2, none⟩ (.slice C c c')) g1 g2 g3 s1 A1 n1 c1 B1 m1 d1 a s2 A2 n2 c2 B2 m2 d2 b)) := by
  have h := XQ.of h
  have hg := grown_set3 M g3 (.bool x) (.slice B k k') (.slice C c c')
  obtain ⟨x, y, z, hx, hy, hz, h4⟩ := h.p.res
  exact XQ.cells ⟨XP.of (XP.nextS h.p.cells), (hg.block g2 h.g.lt (fun e => h.ne (Option.some.inj e))).trans h.g, h.r2.grown h4 hx hy hz hg, h.ne⟩
theorem XP.boxed {g5 : Nat} {x y z : Value} {t' : TypeId} (h : (World.cell? M ⟨g1, 0, none⟩ = some (.bool s1) ∧ World.cell? M ⟨g1, 1, none⟩ = some (.slice A1 n1 c1) ∧ World.cell? M ⟨g1, 2, none⟩ = some (.slice B1 m1 d1) ∧ Hid (XP w M g1 g3 s1 A1 n1 c1 B1 m1 d1 a))) (h5 : Box M g5 (.bool false) (.slice none 0 0) (.slice none 0 0) t') (hn : g1 ≠ g5 ∧ g3 ≠ g5 ∧ w.heap.size ≤ g5) (hx : NI x) (hy : NI y) (hz : NI z) :
    (World.cell? (((M.setCell ⟨g5, 0, none⟩ x).setCell ⟨g5, 1, none⟩ y).setCell ⟨g5, 2, none⟩ z) ⟨g1, 0, none⟩ = some (.bool s1) ∧ World.cell? (((M.setCell ⟨g5, 0, none⟩ x).setCell ⟨g5, 1, none⟩ y).setCell ⟨g5, 2, none⟩ z) ⟨g1, 1, none⟩ = some (.slice A1 n1 c1) ∧ World.cell? (((M.setCell ⟨g5, 0, none⟩ x).setCell ⟨g5, 1, none⟩ y).setCell ⟨g5, 2, none⟩ z) ⟨g1, 2, none⟩ = some (.slice B1 m1 d1) ∧ Hid (XP w (((M.setCell ⟨g5, 0, none⟩ x).setCell ⟨g5, 1, none⟩ y).setCell ⟨g5, 2, none⟩ z) g1 g3 s1 A1 n1 c1 B1 m1 d1 a)) := by
  have hg := grown_set3 M g5 x y z
  have h := XP.of h
  obtain ⟨x', y', z', hx', hy', hz', h4⟩ := h.res
  exact XP.cells ⟨(hg.block g1 h.f.lt (fun e => hn.1 (Option.some.inj e))).trans h.f, ⟨x', y', z', hx', hy', hz', (hg.block g3 h4.lt (fun e => hn.2.1 (Option.some.inj e))).trans h4⟩, h.r1.grown h5 (NI.bool _) (NI.slice _ _ _) (NI.slice _ _ _) hg, below_set3 h.bel hn.2.2 _ _ _, h.n3, h.ne⟩
/-- a result that is stored in a new variable, which was made last -/
theorem XP.last (h : XP w M g1 g3 s1 A1 n1 c1 B1 m1 d1 a) (h2 : IsQ M (.agg #[.bool s2, .slice A2 n2 c2, .slice B2 m2 d2]) b) :
    XQ w (M.alloc (.cells #[.bool s2, .slice A2 n2 c2, .slice B2 m2 d2] 39)) g1 M.heap.size g3 s1 A1 n1 c1 B1 m1 d1 a s2 A2 n2 c2 B2 m2 d2 b :=
  ⟨h.below (below_alloc _ _), Box.new _ _ _ _ _, h2.below (below_alloc _ _), fun e => h.newer.2.1 e.symm⟩
/-- .. which was made before -/
theorem XP.first {g5 : Nat} (h : XP w M g1 g3 s1 A1 n1 c1 B1 m1 d1 a) (h2 : IsQ M (.agg #[.bool s2, .slice A2 n2 c2, .slice B2 m2 d2]) b) (h5 : Box M g5 (.bool false) (.slice none 0 0) (.slice none 0 0) 39) (hn : g1 ≠ g5 ∧ g3 ≠ g5 ∧ w.heap.size ≤ g5) :
    XQ w (((M.setCell ⟨g5, 0, none⟩ (.bool s2)).setCell ⟨g5, 1, none⟩ (.slice A2 n2 c2)).setCell ⟨g5, 2, none⟩ (.slice B2 m2 d2)) g1 g5 g3 s1 A1 n1 c1 B1 m1 d1 a s2 A2 n2 c2 B2 m2 d2 b := by
  have hg := grown_set3 M g5 (.bool s2) (.slice A2 n2 c2) (.slice B2 m2 d2)
  exact ⟨XP.of (XP.boxed h.cells h5 hn (NI.bool _) (NI.slice _ _ _) (NI.slice _ _ _)), h5.set3 _ _ _, h2.grown h5 (NI.bool _) (NI.slice _ _ _) (NI.slice _ _ _) hg, fun e => hn.2.1 e.symm⟩
end
/-- a rational number that comes in -/
theorem XP.start (w : World) {s1 : Bool} {A1 : Option Addr} {n1 c1 : Nat} {B1 : Option Addr} {m1 d1 : Nat} {q : Rat} (h : IsQ w (.agg #[.bool s1, .slice A1 n1 c1, .slice B1 m1 d1]) q) : ∃ M, M = ((w.alloc (.cells #[.bool s1, .slice A1 n1 c1, .slice B1 m1 d1] 39)).alloc (.cells #[.bool false, .slice none 0 0, .slice none 0 0] 39)) ∧
    XP w M w.heap.size (w.heap.size + 1) s1 A1 n1 c1 B1 m1 d1 q := by
  obtain ⟨M, hM, k1, k2, bM⟩ := start1 w (.bool s1) (.slice A1 n1 c1) (.slice B1 m1 d1) (.bool false) (.slice none 0 0) (.slice none 0 0) 39 39
  exact ⟨M, hM, k1, ⟨_, _, _, NI.bool _, NI.slice _ _ _, NI.slice _ _ _, k2⟩, h.below bM, bM, by omega, by omega⟩
end Go.Proofs.YtfmhplcpejmkhabDoor

namespace Go.Proofs.YtfmhplcpejmkhabDoor
open Go.RowKit Dig
set_option linter.unusedVariables false
set_option linter.unusedSimpArgs false
theorem RAt.len_zero {w : World} {A : Option Addr} {n c a : Nat} (h : RAt w A n c a) : ((n : Int) == 0) = decide (a = 0) := by
  obtain ⟨rfl, _⟩ := h
  by_cases h0 : a = 0
  · subst h0; rw [R_zero]; rfl
  · rw [decide_eq_false h0, beq_eq_false_iff_ne]
    have := R_nz h0
    omega
theorem cmpI_le (a b : Nat) : decide (cmpI a b ≤ 0) = decide (a ≤ b) := by
  unfold cmpI
  split
  · rw [decide_eq_true (by omega), decide_eq_true (by omega)]
  · split
    · rw [decide_eq_true (by omega), decide_eq_true (by omega)]
    · rw [decide_eq_false (by omega), decide_eq_false (by omega)]
theorem R_mono {a b : Nat} (h : a ≤ b) : (R a).length ≤ (R b).length := dig_length_mono B16_two h
set_option maxHeartbeats 4000000 in
set_option maxRecDepth 100000 in
theorem rPlainN (X : Nat) (hX : (R X).length ≤ 300) (K : Nat) : ∀ (n d m e : Nat) (hK : d + e ≤ K) (hB : Btw n d m e) (x1 : n ≤ X) (x2 : d ≤ X) (x3 : m ≤ X) (x4 : e ≤ X) (w : World) (A1 : Option Addr) (n1 c1 : Nat) (A2 : Option Addr) (n2 c2 : Nat) (A3 : Option Addr) (n3 c3 : Nat) (A4 : Option Addr) (n4 c4 : Nat)
    (h1 : RAt w A1 n1 c1 n) (h2 : RAt w A2 n2 c2 d) (h3 : RAt w A3 n3 c3 m) (h4 : RAt w A4 n4 c4 e),
    Calls Tryd.prog 119 #[.slice A1 n1 c1, .slice A2 n2 c2, .slice A3 n3 c3, .slice A4 n4 c4] w fun e' w' => ∃ B x y B' x' y', e' = .returned (.tuple #[.slice B x y, .slice B' x' y']) ∧ Hid (RAt w' B x y (plainN n d m e).1) ∧ Hid (RAt w' B' x' y' (plainN n d m e).2) ∧ Below w.heap.size w w' := by
  induction K with
  | zero =>
    intro n d m e hK hB
    have := hB.d0
    omega
  | succ K ih =>
    intro n d m e hK hB x1 x2 x3 x4 w A1 n1 c1 A2 n2 c2 A3 n3 c3 A4 n4 c4 h1 h2 h3 h4
    have L1 := Lib.hid (Nat.le_trans (R_mono x1) hX)
    have L2 := Lib.hid (Nat.le_trans (R_mono x2) hX)
    have L3 := Lib.hid (Nat.le_trans (R_mono x3) hX)
    have L4 := Lib.hid (Nat.le_trans (R_mono x4) hX)
    have LF := Lib.hid (Nat.le_trans (R_mono (Nat.div_le_self n d)) L1.out)
    have LN := Lib.hid (show (R (n / d + 1)).length ≤ 310 by
      have e1 := R_add_length (n / d) 1
      have e2 : (R 1).length ≤ 1 := by rw [R_one]; simp
      have := LF.out
      omega)
    have H1 := Lib.hid h1
    have H2 := Lib.hid h2
    have H3 := Lib.hid h3
    have H4 := Lib.hid h4
    have HB := Lib.hid hB
    have IH := Lib.hid ih
    have X1 := Lib.hid x1
    have X2 := Lib.hid x2
    have X3 := Lib.hid x3
    have X4 := Lib.hid x4
    have HK := Lib.hid hK
    have BM := Lib.hid (Below.refl w.heap.size w)
    clear h1 h2 h3 h4 hB ih x1 x2 x3 x4 hK hX
    obtain ⟨pl, hpl⟩ : ∃ x, plainN n d m e = x := ⟨_, rfl⟩
    have HPL := Lib.hid hpl
    rw [hpl]
    clear hpl
    go_enter Tryd.func119, Tryd.ntmps119
    go_wp2_with fail
    refine (bDiv n d _ _ _ _ _ _ _ H1.out H2.out (Nat.le_trans L1.out (by omega)) HB.out.d0).mono ?_
    rintro e' wb ⟨B1, b1, d1, B2, b2, d2, rfl, i1, i2, bb⟩
    replace H2 := Lib.hid (H2.out.below bb)
    replace H3 := Lib.hid (H3.out.below bb)
    replace H4 := Lib.hid (H4.out.below bb)
    replace BM := Lib.hid (below_step BM.out BM.out.size bb)
    clear bb
    have hz := i2.out.len_zero
    by_cases hr : n % d = 0
    · rw [decide_eq_true hr] at hz
      have HR := Lib.hid hr
      clear hr
      go_wp2_with fail
      refine (bOne _).mono ?_
      rintro e' wb ⟨B5, b5, d5, rfl, i5, bb⟩
      replace i1 := Lib.hid (i1.out.below bb)
      replace BM := Lib.hid (below_step BM.out BM.out.size bb)
      clear bb
      go_wp2
      go_ret2
      have e0 : pl = (n / d, 1) := by rw [← HPL.out]; unfold plainN; rw [plainL_whole HR.out]; rfl
      rw [e0]
      exact ⟨_, _, _, _, _, _, rfl, i1, i5, BM.out⟩
    · rw [decide_eq_false hr] at hz
      have HR := Lib.hid hr
      clear hr
      go_wp2_with fail
      refine (bOne _).mono ?_
      rintro e' wb ⟨B5, b5, d5, rfl, i5, bb⟩
      replace H2 := Lib.hid (H2.out.below bb)
      replace H3 := Lib.hid (H3.out.below bb)
      replace H4 := Lib.hid (H4.out.below bb)
      replace i1 := Lib.hid (i1.out.below bb)
      replace i2 := Lib.hid (i2.out.below bb)
      replace BM := Lib.hid (below_step BM.out BM.out.size bb)
      clear bb
      go_wp2_with fail
      refine (bAdd (n / d) 1 _ _ _ _ _ _ _ i1.out i5.out (Nat.le_trans LF.out (by omega)) (by rw [R_one]; simp)).mono ?_
      rintro e' wb ⟨B6, b6, d6, rfl, i6, bb⟩
      replace H2 := Lib.hid (H2.out.below bb)
      replace H3 := Lib.hid (H3.out.below bb)
      replace H4 := Lib.hid (H4.out.below bb)
      replace i1 := Lib.hid (i1.out.below bb)
      replace i2 := Lib.hid (i2.out.below bb)
      replace BM := Lib.hid (below_step BM.out BM.out.size bb)
      clear bb i5
      go_wp2_with fail
      refine (bMul (n / d + 1) e _ _ _ _ _ _ _ i6.out H4.out (Nat.le_trans LN.out (by omega)) (Nat.le_trans L4.out (by omega))).mono ?_
      rintro e' wb ⟨B7, b7, d7, rfl, i7, bb⟩
      replace H2 := Lib.hid (H2.out.below bb)
      replace H3 := Lib.hid (H3.out.below bb)
      replace H4 := Lib.hid (H4.out.below bb)
      replace i1 := Lib.hid (i1.out.below bb)
      replace i2 := Lib.hid (i2.out.below bb)
      replace i6 := Lib.hid (i6.out.below bb)
      replace BM := Lib.hid (below_step BM.out BM.out.size bb)
      clear bb
      go_wp2_with fail
      refine (bCmp ((n / d + 1) * e) m _ _ _ _ _ _ _ i7.out H3.out).mono ?_
      obtain ⟨c, hc⟩ : ∃ c, cmpI ((n / d + 1) * e) m = c := ⟨_, rfl⟩
      have hcl := cmpI_le ((n / d + 1) * e) m
      rw [hc] at hcl ⊢
      clear hc
      rintro e' wb ⟨rfl, bb⟩
      replace H2 := Lib.hid (H2.out.below bb)
      replace H3 := Lib.hid (H3.out.below bb)
      replace H4 := Lib.hid (H4.out.below bb)
      replace i1 := Lib.hid (i1.out.below bb)
      replace i2 := Lib.hid (i2.out.below bb)
      replace i6 := Lib.hid (i6.out.below bb)
      replace BM := Lib.hid (below_step BM.out BM.out.size bb)
      clear bb i7
      by_cases hn : (n / d + 1) * e ≤ m
      · rw [decide_eq_true hn] at hcl
        have HN := Lib.hid hn
        clear hn
        go_wp2_with fail
        refine (bOne _).mono ?_
        rintro e' wb ⟨B5, b5, d5, rfl, i5, bb⟩
        replace i6 := Lib.hid (i6.out.below bb)
        replace BM := Lib.hid (below_step BM.out BM.out.size bb)
        clear bb
        go_wp2
        go_ret2
        have e0 : pl = (n / d + 1, 1) := by rw [← HPL.out]; unfold plainN; rw [plainL_above HR.out HN.out]; rfl
        rw [e0]
        exact ⟨_, _, _, _, _, _, rfl, i6, i5, BM.out⟩
      · rw [decide_eq_false hn] at hcl
        have HN := Lib.hid hn
        clear hn i6
        go_wp2_with fail
        refine (bMul (n / d) e _ _ _ _ _ _ _ i1.out H4.out (Nat.le_trans LF.out (by omega)) (Nat.le_trans L4.out (by omega))).mono ?_
        rintro e' wb ⟨B7, b7, d7, rfl, i7, bb⟩
        replace H2 := Lib.hid (H2.out.below bb)
        replace H3 := Lib.hid (H3.out.below bb)
        replace H4 := Lib.hid (H4.out.below bb)
        replace i1 := Lib.hid (i1.out.below bb)
        replace i2 := Lib.hid (i2.out.below bb)
        replace BM := Lib.hid (below_step BM.out BM.out.size bb)
        clear bb
        have NX := Lib.hid (HB.out.next HR.out HN.out)
        go_wp2_with fail
        refine (bSub m (n / d * e) _ _ _ _ _ _ _ H3.out i7.out (Nat.le_trans L3.out (by omega)) (Nat.le_of_lt NX.out.2.1)).mono ?_
        rintro e' wb ⟨B8, b8, d8, rfl, i8, bb⟩
        replace H2 := Lib.hid (H2.out.below bb)
        replace H4 := Lib.hid (H4.out.below bb)
        replace i1 := Lib.hid (i1.out.below bb)
        replace i2 := Lib.hid (i2.out.below bb)
        replace BM := Lib.hid (below_step BM.out BM.out.size bb)
        clear bb
        go_wp2_with fail
        refine (IH.out e (m - n / d * e) d (n % d) (by
          have a1 := NX.out.2.2
          have a2 := Nat.mod_lt n HB.out.d0
          have a3 := HK.out
          rw [Nat.add_mul] at a1
          omega) NX.out.1 X4.out (Nat.le_trans (Nat.sub_le _ _) X3.out) X2.out (Nat.le_trans (Nat.le_of_lt (Nat.mod_lt n HB.out.d0)) X2.out) _ _ _ _ _ _ _ _ _ _ _ _ _ H4.out i8.out H2.out i2.out).mono ?_
        have e0 : pl = _ := HPL.out.symm.trans (plainN_step HB.out HR.out HN.out)
        have PLE := Lib.hid (plain_le NX.out.1)
        obtain ⟨ab, hab⟩ : ∃ x, plainN e (m - n / d * e) d (n % d) = x := ⟨_, rfl⟩
        rw [hab] at e0 PLE ⊢
        obtain ⟨a, b⟩ := ab
        have E0 := Lib.hid e0
        clear e0 hab
        rintro e' wb ⟨B9, b9, d9, B10, b10, d10, rfl, i9, i10, bb⟩
        replace i1 := Lib.hid (i1.out.below bb)
        replace BM := Lib.hid (below_step BM.out BM.out.size bb)
        clear bb
        have LA := Lib.hid (show (R a).length ≤ 300 from Nat.le_trans (R_mono PLE.out.1) L4.out)
        have LB := Lib.hid (show (R b).length ≤ 300 from Nat.le_trans (R_mono (Nat.le_trans PLE.out.2 (Nat.sub_le _ _))) L3.out)
        go_wp2_with fail
        refine (bMul (n / d) a _ _ _ _ _ _ _ i1.out i9.out (Nat.le_trans LF.out (by omega)) (Nat.le_trans LA.out (by omega))).mono ?_
        rintro e' wb ⟨B7, b7, d7, rfl, i7, bb⟩
        replace i9 := Lib.hid (i9.out.below bb)
        replace i10 := Lib.hid (i10.out.below bb)
        replace BM := Lib.hid (below_step BM.out BM.out.size bb)
        clear bb
        go_wp2_with fail
        refine (bAdd (n / d * a) b _ _ _ _ _ _ _ i7.out i10.out (Nat.le_trans (R_mul_length (n / d) a) (by have := LF.out; have := LA.out; omega)) (Nat.le_trans LB.out (by omega))).mono ?_
        rintro e' wb ⟨B6, b6, d6, rfl, i6, bb⟩
        replace i9 := Lib.hid (i9.out.below bb)
        replace BM := Lib.hid (below_step BM.out BM.out.size bb)
        clear bb
        go_wp2
        go_ret2
        rw [E0.out]
        exact ⟨_, _, _, _, _, _, rfl, i6, i9, BM.out⟩
end Go.Proofs.YtfmhplcpejmkhabDoor

namespace Go.Proofs.YtfmhplcpejmkhabDoor
open Go.RowKit Dig
set_option linter.unusedVariables false
set_option linter.unusedSimpArgs false
set_option maxHeartbeats 2000000 in
set_option maxRecDepth 100000 in
theorem nSign (s1 : Bool) (N1 D1 : Nat) (w : World) (v1 : Value) (h1 : RawV w v1 s1 N1 D1) (hT : Tab w) (q : Rat) (hq : ratOf s1 N1 D1 = q) (k : Int) (hk : sgnI (ng q) q.num.natAbs = k) (L1 : Bool) (hL1 : largeB s1 N1 D1 = L1) (x y : Int) (hx : (if L1 = true then 0 else k) = x) (hy : (if L1 = true then 1 else 0) = y) :
    Calls Tryd.prog 20 #[v1] w fun e w' => e = .returned (.tuple #[.int .i64 x, .int .i64 y]) ∧ Below w.heap.size w w' := by
  have H1 := Lib.hid h1
  have HT := Lib.hid hT
  obtain ⟨A1, n1, c1, A1', n1', c1', rfl⟩ := h1.shape
  have bM := below_alloc w (.cells #[.bool s1, .slice A1 n1 c1, .slice A1' n1' c1'] 24)
  have HX := Lib.hid (Box.new w (.bool s1) (.slice A1 n1 c1) (.slice A1' n1' c1') 24)
  have BM := Lib.hid bM
  have HQ := Lib.hid hq
  have HK := Lib.hid hk
  have HL1 := Lib.hid hL1
  replace H1 := Lib.hid (H1.out.below bM)
  replace HT := Lib.hid (HT.out.below bM)
  have HXX := Lib.hid hx
  have HYY := Lib.hid hy
  clear h1 hT bM hq hk hL1 hx hy
  go_enter Tryd.func20, Tryd.ntmps20
  go_upto_region 1 with (fail)
  obtain ⟨x1, x2, x3, _, _, _⟩ := HX.out.cells
  go_wp2_with fail
  refine (readV _ s1 N1 D1 _ H1.out HT.out).mono ?_
  rw [HL1.out, HQ.out]
  rintro e wa ⟨t1, B1, m1, d1, B1', m1', d1', rfl, f1, ba⟩
  have bb := below_step ba ba.size (below_alloc wa (.cells #[.bool t1, .slice B1 m1 d1, .slice B1' m1' d1'] 65))
  have HF1 := Lib.hid (Box.new wa (.bool t1) (.slice B1 m1 d1) (.slice B1' m1' d1') 65)
  have F1 : Hid (L1 = false → IsF (wa.alloc (.cells #[.bool t1, .slice B1 m1 d1, .slice B1' m1' d1'] 65)) (.agg #[.bool t1, .slice B1 m1 d1, .slice B1' m1' d1']) q) := Lib.hid (fun h => (f1.out h).below (below_alloc _ _))
  have BM := Lib.hid (below_step BM.out BM.out.size bb)
  clear x1 x2 x3 ba bb f1
  obtain ⟨w1, hw1⟩ : ∃ w1, wa.alloc (.cells #[.bool t1, .slice B1 m1 d1, .slice B1' m1' d1'] 65) = w1 := ⟨_, rfl⟩
  go_upto_region 2 with (fail)
  rw [hw1] at BM HF1 F1
  try rw [hw1]
  clear hw1
  rcases L1 with _ | _
  · obtain rfl : k = x := by have := HXX.out; simpa using this
    obtain rfl : 0 = y := by have := HYY.out; simpa using this
    obtain ⟨E1, e1, E2, e2, ev, r1, r2⟩ := F1.out rfl
    obtain ⟨rfl, ⟨rfl, rfl, rfl⟩, rfl, rfl, rfl⟩ : t1 = ng q ∧ (B1 = E1 ∧ m1 = (W q.num.natAbs).length ∧ d1 = e1) ∧ B1' = E2 ∧ m1' = (W q.den).length ∧ d1' = e2 := by simpa using ev
    obtain ⟨x1, x2, x3, _, _, _⟩ := HF1.out.cells
    clear ev r1 r2
    go_wp2_with fail
    refine (fracSign _ _ _ _ _ _ _ _).mono ?_
    rw [HK.out]
    rintro e wb ⟨rfl, bb⟩
    have BM := Lib.hid (below_step BM.out BM.out.size bb)
    clear bb x1 x2 x3
    go_wp2_with fail
    refine bodyPost_ret (v := .tuple #[.int .i64 k, .int .i64 0]) (by simp [results, Tryd.results20, go_sem]) rfl ⟨rfl, BM.out⟩
  · obtain rfl : 0 = x := by have := HXX.out; simpa using this
    obtain rfl : 1 = y := by have := HYY.out; simpa using this
    go_wp2_with fail
    refine bodyPost_ret (v := .tuple #[.int .i64 0, .int .i64 1]) (by simp [results, Tryd.results20, go_sem]) rfl ⟨rfl, BM.out⟩
theorem qSgn (b : Rat) (w : World) (v : Value) (h : IsQ w v b) :
    Calls Tryd.prog 26 #[v] w fun e w' => e = .returned (.int .i64 (sgnI (ng b) b.num.natAbs)) ∧ Below w.heap.size w w' := by
  obtain ⟨A1, c1, A2, c2, rfl, r1, r2⟩ := h
  exact rSgn _ _ _ w _ _ _ _
set_option maxHeartbeats 1000000 in
theorem rMag (s1 : Bool) (n1 d1 : Nat) (w : World) (A1 A2 : Option Addr) (c1 c2 : Nat) :
    Calls Tryd.prog 29 #[.agg #[.bool s1, .slice A1 n1 c1, .slice A2 d1 c2]] w fun e w' => e = .returned (.agg #[.bool false, .slice A1 n1 c1, .slice A2 d1 c2]) ∧ Below w.heap.size w w' := by
  go_enter Tryd.func29, Tryd.ntmps29
  go_wp2_with fail
  refine bodyPost_ret (v := .agg #[.bool false, .slice A1 n1 c1, .slice A2 d1 c2]) (by simp [results, Tryd.results29, go_sem]) rfl ⟨rfl, below_alloc2 _ _ _ _ _ _ _ _ _⟩
theorem qMag (a : Rat) (w : World) (v1 : Value) (h1 : IsQ w v1 a) :
    Calls Tryd.prog 29 #[v1] w fun e w' => ∃ u, e = .returned u ∧ IsQ w' u (absQ a) ∧ Below w.heap.size w w' := by
  obtain ⟨A1, c1, A2, c2, rfl, r1, r2⟩ := h1
  obtain ⟨e1, e2, e3⟩ := absQ_facts a
  refine (rMag _ _ _ w A1 A2 c1 c2).mono ?_
  rintro e w' ⟨rfl, hb⟩
  exact ⟨_, rfl, by unfold IsQ; rw [e1, e2, e3]; exact ⟨_, _, _, _, rfl, r1.below hb, r2.below hb⟩, hb⟩
end Go.Proofs.YtfmhplcpejmkhabDoor

namespace Go.Proofs.YtfmhplcpejmkhabDoor
open Go.RowKit Dig
set_option linter.unusedVariables false
set_option linter.unusedSimpArgs false
theorem qSgnC (b : Rat) (c : Int) (hc : sgnI (ng b) b.num.natAbs = c) (w : World) (v : Value) (h : IsQ w v b) :
    Calls Tryd.prog 26 #[v] w fun e w' => e = .returned (.int .i64 c) ∧ Below w.heap.size w w' := by
  subst hc
  obtain ⟨A1, c1, A2, c2, rfl, r1, r2⟩ := h
  exact rSgn _ _ _ w _ _ _ _
theorem R_lt_pow {x k : Nat} (h : (R x).length ≤ k) : x < B16 ^ k := (dig_length_le B16_two x k).1 h
theorem plain_bound {a b : Rat} (ka : Rq 128 a) (kb : Rq 128 b) : a.num.natAbs ≤ B16 ^ 128 ∧ a.den ≤ B16 ^ 128 ∧ b.num.natAbs ≤ B16 ^ 128 ∧ b.den ≤ B16 ^ 128 ∧ (R (B16 ^ 128)).length ≤ 300 :=
  ⟨Nat.le_of_lt (R_lt_pow ka.1), Nat.le_of_lt (R_lt_pow ka.2), Nat.le_of_lt (R_lt_pow kb.1), Nat.le_of_lt (R_lt_pow kb.2),
    Nat.le_trans ((dig_length_le B16_two _ 129).2 (Nat.pow_lt_pow_right B16_two (by omega))) (by omega)⟩
theorem XQ.start (w : World) {s1 : Bool} {A1 : Option Addr} {n1 c1 : Nat} {B1 : Option Addr} {m1 d1 : Nat} {a : Rat} {s2 : Bool} {A2 : Option Addr} {n2 c2 : Nat} {B2 : Option Addr} {m2 d2 : Nat} {b : Rat} (h1 : IsQ w (.agg #[.bool s1, .slice A1 n1 c1, .slice B1 m1 d1]) a) (h2 : IsQ w (.agg #[.bool s2, .slice A2 n2 c2, .slice B2 m2 d2]) b) :
    ∃ M, M = (((w.alloc (.cells #[.bool s1, .slice A1 n1 c1, .slice B1 m1 d1] 39)).alloc (.cells #[.bool s2, .slice A2 n2 c2, .slice B2 m2 d2] 39)).alloc (.cells #[.bool false, .slice none 0 0, .slice none 0 0] 39)) ∧
    XQ w M w.heap.size (w.heap.size + 1) (w.heap.size + 1 + 1) s1 A1 n1 c1 B1 m1 d1 a s2 A2 n2 c2 B2 m2 d2 b := by
  obtain ⟨M, hM, k1, k2, k3, bM⟩ := start2 w (.bool s1) (.slice A1 n1 c1) (.slice B1 m1 d1) (.bool s2) (.slice A2 n2 c2) (.slice B2 m2 d2) (.bool false) (.slice none 0 0) (.slice none 0 0) 39 39 39
  exact ⟨M, hM, ⟨k1, ⟨_, _, _, NI.bool _, NI.slice _ _ _, NI.slice _ _ _, k3⟩, h1.below bM, bM, by omega, by omega⟩, k2, h2.below bM, by omega⟩
theorem sgn_pos {x : Rat} (h : 0 < x) : sgnI (ng x) x.num.natAbs = 1 := by rw [sgn_eq, if_neg (by grind), if_neg (by grind)]
theorem sgn_neg {x : Rat} (h : x < 0) : sgnI (ng x) x.num.natAbs = -1 := by rw [sgn_eq, if_pos h]
theorem sgn_le {x : Rat} (h : x ≤ 0) : decide (sgnI (ng x) x.num.natAbs ≤ 0) = true := by
  rw [sgn_eq]
  split
  · decide
  · rw [if_pos (by grind)]; decide
theorem sgn_ge {x : Rat} (h : 0 ≤ x) : decide (0 ≤ sgnI (ng x) x.num.natAbs) = true := by
  rw [sgn_eq, if_neg (by grind)]
  split <;> decide
set_option maxHeartbeats 4000000 in
set_option maxRecDepth 100000 in
theorem rPlain_zero (a b : Rat) (ha : a ≤ 0) (hb : 0 ≤ b) (ka : Rq 128 a) (kb : Rq 128 b) (s1 : Bool) (A1 : Option Addr) (n1 c1 : Nat) (B1 : Option Addr) (m1 d1 : Nat) (s2 : Bool) (A2 : Option Addr) (n2 c2 : Nat) (B2 : Option Addr) (m2 d2 : Nat) (w : World) (h1 : IsQ w (.agg #[.bool s1, .slice A1 n1 c1, .slice B1 m1 d1]) a) (h2 : IsQ w (.agg #[.bool s2, .slice A2 n2 c2, .slice B2 m2 d2]) b) :
    Calls Tryd.prog 90 #[(.agg #[.bool s1, .slice A1 n1 c1, .slice B1 m1 d1]), (.agg #[.bool s2, .slice A2 n2 c2, .slice B2 m2 d2])] w fun e w' => ∃ t B m e1 B' m' e2, e = .returned (.agg #[.bool t, .slice B m e1, .slice B' m' e2]) ∧ Hid (IsQ w' (.agg #[.bool t, .slice B m e1, .slice B' m' e2]) 0) ∧ Below w.heap.size w w' := by
  obtain ⟨ca, hca⟩ : ∃ c, sgnI (ng a) a.num.natAbs = c := ⟨_, rfl⟩
  obtain ⟨cb, hcb⟩ : ∃ c, sgnI (ng b) b.num.natAbs = c := ⟨_, rfl⟩
  have la := sgn_le ha
  have lb := sgn_ge hb
  rw [hca] at la
  rw [hcb] at lb
  have HSA := Lib.hid hca
  have HSB := Lib.hid hcb
  have CI := Lib.hid (fun w => rInt 0 (by omega) (by omega) w)
  have hz : ((0 : Int) : Rat) = 0 := rfl
  rw [hz] at CI
  clear hca hcb ha hb hz
  obtain ⟨M, hM, T0⟩ := XQ.start w h1 h2
  have T0 := Lib.hid T0
  have KA := Lib.hid ka
  have KB := Lib.hid kb
  clear h1 h2 ka kb
  go_enter Tryd.func90, Tryd.ntmps90
  go_upto_region 1 with (fail)
  rw [← hM]
  clear hM
  obtain ⟨x1, y1, z1, x2, y2, z2, _⟩ := T0.out.cells
  go_wp2_with fail
  refine (qSgnC a ca HSA.out _ _ T0.out.p.r1).mono ?_
  rintro e wb ⟨rfl, bb⟩
  replace T0 := Lib.hid (T0.out.below bb)
  clear bb x1 y1 z1 x2 y2 z2
  obtain ⟨x1, y1, z1, x2, y2, z2, _⟩ := T0.out.cells
  go_wp2_with fail
  refine (qSgnC b cb HSB.out _ _ T0.out.r2).mono ?_
  rintro e wb ⟨rfl, bb⟩
  replace T0 := Lib.hid (T0.out.below bb)
  clear bb x1 y1 z1 x2 y2 z2
  obtain ⟨x1, y1, z1, x2, y2, z2, _⟩ := T0.out.cells
  go_wp2_with fail
  refine (CI.out _).mono ?_
  rintro e wi ⟨t4, B4, m4, e4, B4', m4', e4', rfl, i4, bi⟩
  have hh := Lib.hid (T0.out.below bi)
  clear bi x1 y1 z1 x2 y2 z2
  obtain ⟨z1', z2', z3', hz1, hz2, hz3, k1, k2, k3⟩ := hh.out.p.res.cells
  obtain ⟨q0, q1, q2, hs, hb⟩ := IsQ.stored i4.out hh.out.p.res hh.out.p.bel hh.out.p.n3
  have Q := Lib.hid (And.intro q0 (And.intro q1 q2))
  have HS := Lib.hid hs
  have HBB := Lib.hid hb
  clear q0 q1 q2 hs hb
  go_wp2_with fail
  obtain ⟨q0, q1, q2⟩ := Q.out
  refine bodyPost_ret (v := .agg #[.bool t4, .slice B4 m4 e4, .slice B4' m4' e4']) (by simp [results, Tryd.results90, go_sem, q0, q1, q2]) rfl ?_
  exact ⟨_, _, _, _, _, _, _, rfl, HS, HBB.out⟩
set_option maxHeartbeats 4000000 in
set_option maxRecDepth 100000 in
theorem rPlain_pos (a b : Rat) (ha : 0 < a) (hab : a ≤ b) (ka : Rq 128 a) (kb : Rq 128 b) (s1 : Bool) (A1 : Option Addr) (n1 c1 : Nat) (B1 : Option Addr) (m1 d1 : Nat) (s2 : Bool) (A2 : Option Addr) (n2 c2 : Nat) (B2 : Option Addr) (m2 d2 : Nat) (w : World) (h1 : IsQ w (.agg #[.bool s1, .slice A1 n1 c1, .slice B1 m1 d1]) a) (h2 : IsQ w (.agg #[.bool s2, .slice A2 n2 c2, .slice B2 m2 d2]) b) :
    Calls Tryd.prog 90 #[(.agg #[.bool s1, .slice A1 n1 c1, .slice B1 m1 d1]), (.agg #[.bool s2, .slice A2 n2 c2, .slice B2 m2 d2])] w fun e w' => ∃ t B m e1 B' m' e2, e = .returned (.agg #[.bool t, .slice B m e1, .slice B' m' e2]) ∧ Hid (IsQ w' (.agg #[.bool t, .slice B m e1, .slice B' m' e2]) (qq (plainN a.num.natAbs a.den b.num.natAbs b.den).1 (plainN a.num.natAbs a.den b.num.natAbs b.den).2)) ∧ Below w.heap.size w w' := by
  have HSA := Lib.hid (sgn_pos ha)
  have HSB := Lib.hid (sgn_pos (show 0 < b by grind))
  have HB := Lib.hid (btw_of ha hab)
  have PB := Lib.hid (plain_bound ka kb)
  have PLE := Lib.hid (plain_le HB.out)
  have PI := Lib.hid (plain_is HB.out)
  have CP := Lib.hid (fun (w : World) (A1 : Option Addr) (n1 c1 : Nat) (A2 : Option Addr) (n2 c2 : Nat) (A3 : Option Addr) (n3 c3 : Nat) (A4 : Option Addr) (n4 c4 : Nat) (h1 : RAt w A1 n1 c1 a.num.natAbs) (h2 : RAt w A2 n2 c2 a.den) (h3 : RAt w A3 n3 c3 b.num.natAbs) (h4 : RAt w A4 n4 c4 b.den) =>
    rPlainN _ PB.out.2.2.2.2 _ _ _ _ _ (Nat.le_refl _) HB.out PB.out.1 PB.out.2.1 PB.out.2.2.1 PB.out.2.2.2.1 w A1 n1 c1 A2 n2 c2 A3 n3 c3 A4 n4 c4 h1 h2 h3 h4)
  obtain ⟨pl, hpl⟩ : ∃ x, plainN a.num.natAbs a.den b.num.natAbs b.den = x := ⟨_, rfl⟩
  rw [hpl] at CP PLE PI ⊢
  obtain ⟨x, y⟩ := pl
  obtain ⟨r, hr⟩ : ∃ r, qq x y = r := ⟨_, rfl⟩
  have HMK := Lib.hid (show mkRat (sg false x) y = r from hr)
  have LX := Lib.hid (show (R x).length ≤ 128 from Nat.le_trans (R_mono PLE.out.1) ka.1)
  have LY := Lib.hid (show (R y).length ≤ 128 from Nat.le_trans (R_mono PLE.out.2) ka.2)
  rw [hr]
  clear hpl hr ha hab
  obtain ⟨M, hM, T0⟩ := XQ.start w h1 h2
  have T0 := Lib.hid T0
  have KA := Lib.hid ka
  have KB := Lib.hid kb
  clear h1 h2 ka kb
  go_enter Tryd.func90, Tryd.ntmps90
  go_upto_region 1 with (fail)
  rw [← hM]
  clear hM
  obtain ⟨x1, y1, z1, x2, y2, z2, _⟩ := T0.out.cells
  go_wp2_with fail
  refine (qSgnC a 1 HSA.out _ _ T0.out.p.r1).mono ?_
  rintro e wb ⟨rfl, bb⟩
  replace T0 := Lib.hid (T0.out.below bb)
  clear bb x1 y1 z1 x2 y2 z2
  obtain ⟨x1, y1, z1, x2, y2, z2, _⟩ := T0.out.cells
  go_wp2_with fail
  refine (qSgnC b 1 HSB.out _ _ T0.out.r2).mono ?_
  rintro e wb ⟨rfl, bb⟩
  replace T0 := Lib.hid (T0.out.below bb)
  clear bb x1 y1 z1 x2 y2 z2
  obtain ⟨x1, y1, z1, x2, y2, z2, _⟩ := T0.out.cells
  go_upto_region 5 with (fail)
  clear x1 y1 z1 x2 y2 z2
  go_region_held3 (fun W' => (World.cell? W' ⟨w.heap.size, 0, none⟩ = some (.bool s1) ∧ World.cell? W' ⟨w.heap.size, 1, none⟩ = some (.slice A1 n1 c1) ∧ World.cell? W' ⟨w.heap.size, 2, none⟩ = some (.slice B1 m1 d1) ∧ World.cell? W' ⟨(w.heap.size + 1), 0, none⟩ = some (.bool s2) ∧ World.cell? W' ⟨(w.heap.size + 1), 1, none⟩ = some (.slice A2 n2 c2) ∧ World.cell? W' ⟨(w.heap.size + 1), 2, none⟩ = some (.slice B2 m2 d2) ∧ Hid (XQ w W' w.heap.size (w.heap.size + 1) (w.heap.size + 1 + 1) s1 A1 n1 c1 B1 m1 d1 a s2 A2 n2 c2 B2 m2 d2 b)))
    (with_reducible (first | assumption | exact T0.out.drew.cells | exact XQ.next (by assumption) (by assumption) | exact XQ.nextS (by assumption)))
    (first
     | (go_at_call_of 85 (Value.agg #[.bool s1, .slice A1 n1 c1, .slice B1 m1 d1])
        refine (bDen a _ _ (XQ.of (by assumption)).p.r1).mono ?_
        rintro e wb ⟨C1, u1, v1, rfl, i1, bb⟩)
     | (go_at_call_of 85 (Value.agg #[.bool s2, .slice A2 n2 c2, .slice B2 m2 d2])
        refine (bDen b _ _ (XQ.of (by assumption)).r2).mono ?_
        rintro e wc ⟨C2, u2, v2, rfl, i2, bc⟩)
     | (go_at_call 119
        refine (CP.out _ _ _ _ _ _ _ _ _ _ _ _ _ (XQ.of (by assumption)).p.r1.at_.2.1 (i1.out.below bc) (XQ.of (by assumption)).r2.at_.2.1 i2.out).mono ?_
        rintro e wd ⟨C3, u3, v3, C4, u4, v4, rfl, i3, i4, bd⟩
        have hh := Lib.hid ((XQ.of (by assumption)).below bd)))
  go_wp2_with fail
  refine (bMake false x y _ _ _ _ _ _ _ i3.out i4.out (Nat.ne_of_gt PI.out.y0) (Nat.le_trans LX.out (by omega)) (Nat.le_trans LY.out (by omega)) r HMK.out).mono ?_
  rintro e wb ⟨t6, B6, m6, e6, B6', m6', e6', rfl, i6, bb⟩
  replace hh := Lib.hid (hh.out.below bb)
  clear bb
  obtain ⟨z1', z2', z3', hz1, hz2, hz3, k1, k2, k3⟩ := hh.out.p.res.cells
  obtain ⟨q0, q1, q2, hs, hb⟩ := IsQ.stored i6.out hh.out.p.res hh.out.p.bel hh.out.p.n3
  have Q := Lib.hid (And.intro q0 (And.intro q1 q2))
  have HS := Lib.hid hs
  have HBB := Lib.hid hb
  clear q0 q1 q2 hs hb
  go_wp2_with fail
  obtain ⟨q0, q1, q2⟩ := Q.out
  refine bodyPost_ret (v := .agg #[.bool t6, .slice B6 m6 e6, .slice B6' m6' e6']) (by simp [results, Tryd.results90, go_sem, q0, q1, q2]) rfl ?_
  exact ⟨_, _, _, _, _, _, _, rfl, HS, HBB.out⟩
set_option maxHeartbeats 4000000 in
set_option maxRecDepth 100000 in
theorem rPlain_neg (a b : Rat) (hb : b < 0) (hab : a ≤ b) (ka : Rq 128 a) (kb : Rq 128 b) (s1 : Bool) (A1 : Option Addr) (n1 c1 : Nat) (B1 : Option Addr) (m1 d1 : Nat) (s2 : Bool) (A2 : Option Addr) (n2 c2 : Nat) (B2 : Option Addr) (m2 d2 : Nat) (w : World) (h1 : IsQ w (.agg #[.bool s1, .slice A1 n1 c1, .slice B1 m1 d1]) a) (h2 : IsQ w (.agg #[.bool s2, .slice A2 n2 c2, .slice B2 m2 d2]) b) :
    Calls Tryd.prog 90 #[(.agg #[.bool s1, .slice A1 n1 c1, .slice B1 m1 d1]), (.agg #[.bool s2, .slice A2 n2 c2, .slice B2 m2 d2])] w fun e w' => ∃ t B m e1 B' m' e2, e = .returned (.agg #[.bool t, .slice B m e1, .slice B' m' e2]) ∧ Hid (IsQ w' (.agg #[.bool t, .slice B m e1, .slice B' m' e2]) (-(qq (plainN b.num.natAbs b.den a.num.natAbs a.den).1 (plainN b.num.natAbs b.den a.num.natAbs a.den).2))) ∧ Below w.heap.size w w' := by
  have HSA := Lib.hid (sgn_neg (show a < 0 by grind))
  have HSB := Lib.hid (sgn_neg hb)
  obtain ⟨na, hna⟩ : ∃ x, -a = x := ⟨_, rfl⟩
  obtain ⟨nb, hnb⟩ : ∃ x, -b = x := ⟨_, rfl⟩
  have KNA := Lib.hid (show Rq 128 na by rw [← hna]; exact ka.neg)
  have KNB := Lib.hid (show Rq 128 nb by rw [← hnb]; exact kb.neg)
  have HNA := Lib.hid hna
  have HNB := Lib.hid hnb
  have e1 : nb.num.natAbs = b.num.natAbs := by rw [← hnb, neg_abs]
  have e2 : nb.den = b.den := by rw [← hnb, neg_den]
  have e3 : na.num.natAbs = a.num.natAbs := by rw [← hna, neg_abs]
  have e4 : na.den = a.den := by rw [← hna, neg_den]
  rw [← e1, ← e2, ← e3, ← e4]
  have hp : 0 < nb := by grind
  have hq : nb ≤ na := by grind
  have CP := Lib.hid (fun (s1 : Bool) (A1 : Option Addr) (n1 c1 : Nat) (B1 : Option Addr) (m1 d1 : Nat) (s2 : Bool) (A2 : Option Addr) (n2 c2 : Nat) (B2 : Option Addr) (m2 d2 : Nat) (w : World) (h1 : IsQ w (.agg #[.bool s1, .slice A1 n1 c1, .slice B1 m1 d1]) nb) (h2 : IsQ w (.agg #[.bool s2, .slice A2 n2 c2, .slice B2 m2 d2]) na) => rPlain_pos nb na hp hq KNB.out KNA.out s1 A1 n1 c1 B1 m1 d1 s2 A2 n2 c2 B2 m2 d2 w h1 h2)
  obtain ⟨y, hy⟩ : ∃ y, qq (plainN nb.num.natAbs nb.den na.num.natAbs na.den).1 (plainN nb.num.natAbs nb.den na.num.natAbs na.den).2 = y := ⟨_, rfl⟩
  rw [hy] at CP ⊢
  obtain ⟨r, hr⟩ : ∃ r, -y = r := ⟨_, rfl⟩
  have HR := Lib.hid hr
  rw [hr]
  clear hna hnb e1 e2 e3 e4 hp hq hy hr hb hab
  obtain ⟨M, hM, T0⟩ := XQ.start w h1 h2
  have T0 := Lib.hid T0
  have KA := Lib.hid ka
  have KB := Lib.hid kb
  clear h1 h2 ka kb
  go_enter Tryd.func90, Tryd.ntmps90
  go_upto_region 1 with (fail)
  rw [← hM]
  clear hM
  obtain ⟨x1, y1, z1, x2, y2, z2, _⟩ := T0.out.cells
  go_wp2_with fail
  refine (qSgnC a (-1) HSA.out _ _ T0.out.p.r1).mono ?_
  rintro e wb ⟨rfl, bb⟩
  replace T0 := Lib.hid (T0.out.below bb)
  clear bb x1 y1 z1 x2 y2 z2
  obtain ⟨x1, y1, z1, x2, y2, z2, _⟩ := T0.out.cells
  go_wp2_with fail
  refine (qSgnC b (-1) HSB.out _ _ T0.out.r2).mono ?_
  rintro e wb ⟨rfl, bb⟩
  replace T0 := Lib.hid (T0.out.below bb)
  clear bb x1 y1 z1 x2 y2 z2
  obtain ⟨x1, y1, z1, x2, y2, z2, _⟩ := T0.out.cells
  go_wp2_with fail
  refine (qSgnC b (-1) HSB.out _ _ T0.out.r2).mono ?_
  rintro e wb ⟨rfl, bb⟩
  replace T0 := Lib.hid (T0.out.below bb)
  clear bb x1 y1 z1 x2 y2 z2
  obtain ⟨x1, y1, z1, x2, y2, z2, _⟩ := T0.out.cells
  go_upto_region 4 with (fail)
  clear x1 y1 z1 x2 y2 z2
  go_region_held3 (fun W' => (World.cell? W' ⟨w.heap.size, 0, none⟩ = some (.bool s1) ∧ World.cell? W' ⟨w.heap.size, 1, none⟩ = some (.slice A1 n1 c1) ∧ World.cell? W' ⟨w.heap.size, 2, none⟩ = some (.slice B1 m1 d1) ∧ World.cell? W' ⟨(w.heap.size + 1), 0, none⟩ = some (.bool s2) ∧ World.cell? W' ⟨(w.heap.size + 1), 1, none⟩ = some (.slice A2 n2 c2) ∧ World.cell? W' ⟨(w.heap.size + 1), 2, none⟩ = some (.slice B2 m2 d2) ∧ Hid (XQ w W' w.heap.size (w.heap.size + 1) (w.heap.size + 1 + 1) s1 A1 n1 c1 B1 m1 d1 a s2 A2 n2 c2 B2 m2 d2 b)))
    (with_reducible (first | assumption | exact T0.out.drew.cells | exact XQ.next (by assumption) (by assumption) | exact XQ.nextS (by assumption)))
    (first
     | (go_at_call_of 28 (Value.agg #[.bool s1, .slice A1 n1 c1, .slice B1 m1 d1])
        refine (bOpp a na HNA.out _ _ (XQ.of (by assumption)).p.r1).mono ?_
        rintro e wb ⟨t3, B3, m3, e3, B3', m3', e3', rfl, i3, bb⟩)
     | (go_at_call_of 28 (Value.agg #[.bool s2, .slice A2 n2 c2, .slice B2 m2 d2])
        refine (bOpp b nb HNB.out _ _ (XQ.of (by assumption)).r2).mono ?_
        rintro e wc ⟨t4, B4, m4, e4, B4', m4', e4', rfl, i4, bc⟩)
     | (go_at_call 90
        refine (CP.out _ _ _ _ _ _ _ _ _ _ _ _ _ _ _ (by first | exact i4.out | exact i4.out.below bb) (by first | exact i3.out | exact i3.out.below bc)).mono ?_
        rintro e wd ⟨t5, B5, m5, e5, B5', m5', e5', rfl, i5, bd⟩)
     | (go_at_call 28
        refine (bOpp y r HR.out _ _ i5.out).mono ?_
        rintro e we ⟨t6, B6, m6, e6, B6', m6', e6', rfl, i6, be⟩
        have hh := Lib.hid ((XQ.of (by assumption)).below be)
        obtain ⟨z1', z2', z3', hz1, hz2, hz3, k1, k2, k3⟩ := hh.out.p.res.cells))
  obtain ⟨q0, q1, q2, hs, hb⟩ := IsQ.stored i6.out hh.out.p.res hh.out.p.bel hh.out.p.n3
  have Q := Lib.hid (And.intro q0 (And.intro q1 q2))
  have HS := Lib.hid hs
  have HBB := Lib.hid hb
  clear q0 q1 q2 hs hb
  go_wp2_with fail
  obtain ⟨q0, q1, q2⟩ := Q.out
  refine bodyPost_ret (v := .agg #[.bool t6, .slice B6 m6 e6, .slice B6' m6' e6']) (by simp [results, Tryd.results90, go_sem, q0, q1, q2]) rfl ?_
  exact ⟨_, _, _, _, _, _, _, rfl, HS, HBB.out⟩
theorem qPlain (a b : Rat) (hab : a ≤ b) (ka : Rq 128 a) (kb : Rq 128 b) (r : Rat) (hr : simpQ a b = r) (w : World) (v1 v2 : Value) (h1 : IsQ w v1 a) (h2 : IsQ w v2 b) :
    Calls Tryd.prog 90 #[v1, v2] w fun e w' => ∃ t B m e1 B' m' e2, e = .returned (.agg #[.bool t, .slice B m e1, .slice B' m' e2]) ∧ Hid (IsQ w' (.agg #[.bool t, .slice B m e1, .slice B' m' e2]) r) ∧ Below w.heap.size w w' := by
  obtain ⟨A1, c1, A2, c2, rfl, _, _⟩ := id h1
  obtain ⟨A3, c3, A4, c4, rfl, _, _⟩ := id h2
  unfold simpQ at hr
  by_cases hz : a ≤ 0 ∧ 0 ≤ b
  · rw [if_pos hz] at hr
    subst hr
    exact rPlain_zero a b hz.1 hz.2 ka kb _ _ _ _ _ _ _ _ _ _ _ _ _ _ w h1 h2
  · rw [if_neg hz] at hr
    by_cases hb : b < 0
    · rw [if_pos hb] at hr
      subst hr
      exact rPlain_neg a b hb hab ka kb _ _ _ _ _ _ _ _ _ _ _ _ _ _ w h1 h2
    · rw [if_neg hb] at hr
      subst hr
      have ha : 0 < a := by
        have : 0 ≤ b := by grind
        have : ¬ a ≤ 0 := fun h => hz ⟨h, this⟩
        grind
      exact rPlain_pos a b ha hab ka kb _ _ _ _ _ _ _ _ _ _ _ _ _ _ w h1 h2
theorem simp_Rq {a b : Rat} (hab : a ≤ b) (ka : Rq 128 a) (kb : Rq 128 b) : Rq 128 (simpQ a b) := by
  unfold simpQ
  split
  · exact ⟨by show (R 0).length ≤ 128; rw [R_zero]; simp, by show (R 1).length ≤ 128; rw [R_one]; simp⟩
  · split
    · rename_i h1 h2
      refine Rq.neg ?_
      have hB : Btw b.num.natAbs b.den a.num.natAbs a.den := by
        have := btw_of (a := -b) (b := -a) (by grind) (by grind)
        rwa [neg_abs, neg_abs, neg_den, neg_den] at this
      have hl := plain_le hB
      have hi := plain_is hB
      exact mk_Rq (Nat.ne_of_gt hi.y0) (by rw [Int.natAbs_natCast]; exact Nat.le_trans (R_mono hl.1) kb.1) (Nat.le_trans (R_mono hl.2) kb.2)
    · rename_i h1 h2
      have ha : 0 < a := by
        have : 0 ≤ b := by grind
        have : ¬ a ≤ 0 := fun h => h1 ⟨h, this⟩
        grind
      have hl := plain_le (btw_of ha hab)
      have hi := plain_is (btw_of ha hab)
      exact mk_Rq (Nat.ne_of_gt hi.y0) (by rw [Int.natAbs_natCast]; exact Nat.le_trans (R_mono hl.1) ka.1) (Nat.le_trans (R_mono hl.2) ka.2)
/-- what Simplest returns -/
def simpOut (L : Bool) (a b : Rat) : Out := if L = true then .err 1 else if b < a then .err 11 else give (simpQ a b)
set_option maxHeartbeats 2000000 in
set_option maxRecDepth 100000 in
theorem lSimplest_gt (s1 : Bool) (N1 D1 : Nat) (s2 : Bool) (N2 D2 : Nat) (w : World) (v1 v2 : Value) (h1 : RawV w v1 s1 N1 D1) (h2 : RawV w v2 s2 N2 D2) (hz : ratOf s2 N2 D2 < ratOf s1 N1 D1) :
    Calls Tryd.prog 48 #[v1, v2] w (OutPost w (if largeB s1 N1 D1 || largeB s2 N2 D2 then .err 1 else .err 11)) := by
  have H1 := Lib.hid h1
  have H2 := Lib.hid h2
  obtain ⟨A1, n1, c1, A1', n1', c1', rfl⟩ := h1.shape
  obtain ⟨A2, n2, c2, A2', n2', c2', rfl⟩ := h2.shape
  clear h1 h2
  obtain ⟨M, hM, k1, k2, k3, bM⟩ := start2 w (.bool s1) (.slice A1 n1 c1) (.slice A1' n1' c1') (.bool s2) (.slice A2 n2 c2) (.slice A2' n2' c2') (.bool false) (.slice none 0 0) (.slice none 0 0) 24 24 24
  have TM : Hid (P2 w M w.heap.size (w.heap.size + 1) (w.heap.size + 1 + 1) s1 A1 n1 c1 A1' n1' c1' N1 D1 s2 A2 n2 c2 A2' n2' c2' N2 D2) := Lib.hid ⟨k1, k2, ⟨_, _, _, NI.bool _, NI.slice _ _ _, NI.slice _ _ _, k3⟩, H1.out.below bM, H2.out.below bM, bM, by omega, by omega, by omega⟩
  obtain ⟨a, ha⟩ : ∃ a, ratOf s1 N1 D1 = a := ⟨_, rfl⟩
  obtain ⟨b, hb⟩ : ∃ b, ratOf s2 N2 D2 = b := ⟨_, rfl⟩
  obtain ⟨L1, hL1⟩ : ∃ L, largeB s1 N1 D1 = L := ⟨_, rfl⟩
  obtain ⟨L2, hL2⟩ : ∃ L, largeB s2 N2 D2 = L := ⟨_, rfl⟩
  have HL1 := Lib.hid hL1
  have HL2 := Lib.hid hL2
  have HA := Lib.hid ha
  have HB := Lib.hid hb
  rw [ha, hb] at hz
  have HZ := Lib.hid hz
  have HCC := Lib.hid (cmp_gt hz)
  rw [hL1, hL2]
  obtain ⟨o, ho⟩ : ∃ o, (if (L1 || L2) = true then Out.err 1 else .err 11) = o := ⟨_, rfl⟩
  have HO := Lib.hid ho
  rw [ho]
  clear hL1 hL2 ha hb hz k1 k2 k3 bM ho H1 H2
  go_enter Tryd.func48, Tryd.ntmps48
  go_upto_region 1 with (fail)
  rw [← hM]
  clear hM
  obtain ⟨x1, x2, x3, x4, x5, x6, _⟩ := TM.out.cells
  have bs := below_alloc M (.cells #[.bool s1, .slice A1 n1 c1, .slice A1' n1' c1', .bool s2, .slice A2 n2 c2, .slice A2' n2' c2'] 24)
  have SX := Lib.hid (show Six (M.alloc (.cells #[.bool s1, .slice A1 n1 c1, .slice A1' n1' c1', .bool s2, .slice A2 n2 c2, .slice A2' n2' c2'] 24)) M.heap.size _ _ _ _ _ _ from heap_alloc_new _ _)
  have TS := Lib.hid (TM.out.below bs)
  clear bs
  go_wp2_with fail
  refine (rAnyLarge s1 N1 D1 s2 N2 D2 _ _ _ _ _ _ _ _ _ _ _ _ _ _ SX.out TS.out.r1 TS.out.r2).mono ?_
  rw [HL1.out, HL2.out]
  rintro e wa ⟨rfl, ba⟩
  have TA := Lib.hid (TS.out.below ba)
  clear ba x1 x2 x3 x4 x5 x6 TS TM SX
  obtain ⟨x1, x2, x3, x4, x5, x6, _⟩ := TA.out.cells
  obtain ⟨y1, y2, y3, hy1, hy2, hy3, f1, f2, f3⟩ := TA.out.res.cells
  have main : ∀ LL : Bool, (L1 || L2) = LL → (LL = true ∨ (L1 = false ∧ L2 = false ∧ LL = false)) := by intro LL h; cases L1 <;> cases L2 <;> simp_all
  obtain ⟨LL, hLL⟩ : ∃ LL, (L1 || L2) = LL := ⟨_, rfl⟩
  have M1 := main LL hLL
  rw [hLL] at HO ⊢
  clear main hLL
  rcases M1 with rfl | ⟨rfl, rfl, rfl⟩
  · obtain ⟨q0, q1, q2, hs, hb⟩ := OutIs.stored (o := .err 1) (k := 1) (s := false) (A1 := none) (A2 := none) (n1 := 0) (c1 := 0) (n2 := 0) (c2 := 0) ⟨rfl, rfl, by omega, by omega⟩ TA.out.res TA.out.bel TA.out.n3
    have Q := Lib.hid (And.intro q0 (And.intro q1 q2))
    have HBB := Lib.hid hb
    clear q0 q1 q2 hs hb
    go_wp2_with fail
    obtain ⟨q0, q1, q2⟩ := Q.out
    refine bodyPost_ret (v := .tuple #[noRat, .int .i64 1]) (by simp [results, Tryd.results48, go_sem, q0, q1, q2, noRat]) rfl ?_
    have := HO.out
    simp only [if_true] at this
    rw [← this]
    exact OutPost.err rfl (by omega) (by omega) HBB.out
  · go_wp2_with fail
    have fa := (largeB_false HL1.out).2.2
    have fb := (largeB_false HL2.out).2.2
    rw [HA.out] at fa
    rw [HB.out] at fb
    have FA := Lib.hid fa
    have FB := Lib.hid fb
    have BD := Lib.hid (True.intro)
    clear fa fb
    go_region_held3 (fun W' => (World.cell? W' ⟨(w.heap.size), 0, none⟩ = some (.bool s1) ∧ World.cell? W' ⟨(w.heap.size), 1, none⟩ = some (.slice A1 n1 c1) ∧ World.cell? W' ⟨(w.heap.size), 2, none⟩ = some (.slice A1' n1' c1') ∧ World.cell? W' ⟨(w.heap.size + 1), 0, none⟩ = some (.bool s2) ∧ World.cell? W' ⟨(w.heap.size + 1), 1, none⟩ = some (.slice A2 n2 c2) ∧ World.cell? W' ⟨(w.heap.size + 1), 2, none⟩ = some (.slice A2' n2' c2') ∧ Hid (P2 w W' (w.heap.size) (w.heap.size + 1) (w.heap.size + 1 + 1) s1 A1 n1 c1 A1' n1' c1' N1 D1 s2 A2 n2 c2 A2' n2' c2' N2 D2)))
      (with_reducible (first | assumption | exact (TA.out.below (Below.refl _ _).drew).cells | exact P2.next (by assumption) (by assumption)))
      (first
       | (go_at_call_of 25 (Value.agg #[.bool s1, .slice A1 n1 c1, .slice A1' n1' c1'])
          refine (ofQ _ _ _ _ _ _ (P2.of (by assumption)).r1 HL1.out HA.out).mono ?_
          rintro e wb ⟨t1, B1, m1, e1, B1', m1', e1', rfl, i1, bb⟩)
       | (go_at_call_of 25 (Value.agg #[.bool s2, .slice A2 n2 c2, .slice A2' n2' c2'])
          refine (ofQ _ _ _ _ _ _ (P2.of (by assumption)).r2 HL2.out HB.out).mono ?_
          rintro e wc ⟨t2, B2, m2, e2, B2', m2', e2', rfl, i2, bc⟩)
       | (go_at_call 40
          refine (bCmpQ a b 1 HCC.out _ _ _ (i1.out.below bc) i2.out (fit_Rq FA.out (by omega)) (fit_Rq FB.out (by omega))).mono ?_
          rintro e wy ⟨rfl, bz⟩
          have hh := Lib.hid ((P2.of (by assumption)).below bz)))
    clear x1 x2 x3 x4 x5 x6 y1 y2 y3 hy1 hy2 hy3 f1 f2 f3 i1 i2 bb bc
    have TA := hh
    obtain ⟨x1, x2, x3, x4, x5, x6, _⟩ := TA.out.cells
    obtain ⟨y1, y2, y3, hy1, hy2, hy3, f1, f2, f3⟩ := TA.out.res.cells
    obtain ⟨q0, q1, q2, hs, hb⟩ := OutIs.stored (o := .err 11) (k := 11) (s := false) (A1 := none) (A2 := none) (n1 := 0) (c1 := 0) (n2 := 0) (c2 := 0) ⟨rfl, rfl, by omega, by omega⟩ TA.out.res TA.out.bel TA.out.n3
    have Q := Lib.hid (And.intro q0 (And.intro q1 q2))
    have HBB := Lib.hid hb
    clear q0 q1 q2 hs hb
    go_wp2_with fail
    obtain ⟨q0, q1, q2⟩ := Q.out
    refine bodyPost_ret (v := .tuple #[noRat, .int .i64 11]) (by simp [results, Tryd.results48, go_sem, q0, q1, q2, noRat]) rfl ?_
    have := HO.out
    simp only [Bool.false_eq_true, if_false] at this
    rw [← this]
    exact OutPost.err rfl (by omega) (by omega) HBB.out
set_option maxHeartbeats 2000000 in
set_option maxRecDepth 100000 in
theorem lSimplest_le (s1 : Bool) (N1 D1 : Nat) (s2 : Bool) (N2 D2 : Nat) (w : World) (v1 v2 : Value) (h1 : RawV w v1 s1 N1 D1) (h2 : RawV w v2 s2 N2 D2) (hz : ratOf s1 N1 D1 ≤ ratOf s2 N2 D2) (r : Rat) (hr : simpQ (ratOf s1 N1 D1) (ratOf s2 N2 D2) = r) :
    Calls Tryd.prog 48 #[v1, v2] w (OutPost w (if largeB s1 N1 D1 || largeB s2 N2 D2 then .err 1 else give r)) := by
  have H1 := Lib.hid h1
  have H2 := Lib.hid h2
  obtain ⟨A1, n1, c1, A1', n1', c1', rfl⟩ := h1.shape
  obtain ⟨A2, n2, c2, A2', n2', c2', rfl⟩ := h2.shape
  clear h1 h2
  obtain ⟨M, hM, k1, k2, k3, bM⟩ := start2 w (.bool s1) (.slice A1 n1 c1) (.slice A1' n1' c1') (.bool s2) (.slice A2 n2 c2) (.slice A2' n2' c2') (.bool false) (.slice none 0 0) (.slice none 0 0) 24 24 24
  have TM : Hid (P2 w M w.heap.size (w.heap.size + 1) (w.heap.size + 1 + 1) s1 A1 n1 c1 A1' n1' c1' N1 D1 s2 A2 n2 c2 A2' n2' c2' N2 D2) := Lib.hid ⟨k1, k2, ⟨_, _, _, NI.bool _, NI.slice _ _ _, NI.slice _ _ _, k3⟩, H1.out.below bM, H2.out.below bM, bM, by omega, by omega, by omega⟩
  obtain ⟨a, ha⟩ : ∃ a, ratOf s1 N1 D1 = a := ⟨_, rfl⟩
  obtain ⟨b, hb⟩ : ∃ b, ratOf s2 N2 D2 = b := ⟨_, rfl⟩
  obtain ⟨L1, hL1⟩ : ∃ L, largeB s1 N1 D1 = L := ⟨_, rfl⟩
  obtain ⟨L2, hL2⟩ : ∃ L, largeB s2 N2 D2 = L := ⟨_, rfl⟩
  have HL1 := Lib.hid hL1
  have HL2 := Lib.hid hL2
  have HA := Lib.hid ha
  have HB := Lib.hid hb
  rw [ha, hb] at hz
  have HZ := Lib.hid hz
  rw [ha, hb] at hr
  have HRR := Lib.hid hr
  obtain ⟨cc, hcc⟩ : ∃ c, cmpQ a b = c := ⟨_, rfl⟩
  have HCC := Lib.hid hcc
  have hc0 : decide (0 < cc) = false := by
    rw [← hcc]
    rcases cmp_cases a b with ⟨h, e⟩ | ⟨h, e⟩ | ⟨h, e⟩
    · rw [e]; decide
    · rw [e]; decide
    · exact absurd h (by grind)
  clear hcc
  rw [hL1, hL2]
  obtain ⟨o, ho⟩ : ∃ o, (if (L1 || L2) = true then Out.err 1 else give r) = o := ⟨_, rfl⟩
  have HO := Lib.hid ho
  rw [ho]
  clear hL1 hL2 ha hb hz hr k1 k2 k3 bM ho H1 H2
  go_enter Tryd.func48, Tryd.ntmps48
  go_upto_region 1 with (fail)
  rw [← hM]
  clear hM
  obtain ⟨x1, x2, x3, x4, x5, x6, _⟩ := TM.out.cells
  have bs := below_alloc M (.cells #[.bool s1, .slice A1 n1 c1, .slice A1' n1' c1', .bool s2, .slice A2 n2 c2, .slice A2' n2' c2'] 24)
  have SX := Lib.hid (show Six (M.alloc (.cells #[.bool s1, .slice A1 n1 c1, .slice A1' n1' c1', .bool s2, .slice A2 n2 c2, .slice A2' n2' c2'] 24)) M.heap.size _ _ _ _ _ _ from heap_alloc_new _ _)
  have TS := Lib.hid (TM.out.below bs)
  clear bs
  go_wp2_with fail
  refine (rAnyLarge s1 N1 D1 s2 N2 D2 _ _ _ _ _ _ _ _ _ _ _ _ _ _ SX.out TS.out.r1 TS.out.r2).mono ?_
  rw [HL1.out, HL2.out]
  rintro e wa ⟨rfl, ba⟩
  have TA := Lib.hid (TS.out.below ba)
  clear ba x1 x2 x3 x4 x5 x6 TS TM SX
  obtain ⟨x1, x2, x3, x4, x5, x6, _⟩ := TA.out.cells
  obtain ⟨y1, y2, y3, hy1, hy2, hy3, f1, f2, f3⟩ := TA.out.res.cells
  have main : ∀ LL : Bool, (L1 || L2) = LL → (LL = true ∨ (L1 = false ∧ L2 = false ∧ LL = false)) := by intro LL h; cases L1 <;> cases L2 <;> simp_all
  obtain ⟨LL, hLL⟩ : ∃ LL, (L1 || L2) = LL := ⟨_, rfl⟩
  have M1 := main LL hLL
  rw [hLL] at HO ⊢
  clear main hLL
  rcases M1 with rfl | ⟨rfl, rfl, rfl⟩
  · obtain ⟨q0, q1, q2, hs, hb⟩ := OutIs.stored (o := .err 1) (k := 1) (s := false) (A1 := none) (A2 := none) (n1 := 0) (c1 := 0) (n2 := 0) (c2 := 0) ⟨rfl, rfl, by omega, by omega⟩ TA.out.res TA.out.bel TA.out.n3
    have Q := Lib.hid (And.intro q0 (And.intro q1 q2))
    have HBB := Lib.hid hb
    clear q0 q1 q2 hs hb
    go_wp2_with fail
    obtain ⟨q0, q1, q2⟩ := Q.out
    refine bodyPost_ret (v := .tuple #[noRat, .int .i64 1]) (by simp [results, Tryd.results48, go_sem, q0, q1, q2, noRat]) rfl ?_
    have := HO.out
    simp only [if_true] at this
    rw [← this]
    exact OutPost.err rfl (by omega) (by omega) HBB.out
  · go_wp2_with fail
    have fa := (largeB_false HL1.out).2.2
    have fb := (largeB_false HL2.out).2.2
    rw [HA.out] at fa
    rw [HB.out] at fb
    have FA := Lib.hid fa
    have FB := Lib.hid fb
    have BD := Lib.hid (show Rq 2000000 r by rw [← HRR.out]; exact (simp_Rq HZ.out (fit_Rq FA.out (by omega)) (fit_Rq FB.out (by omega))).le (by omega))
    clear fa fb
    go_region_held3 (fun W' => (World.cell? W' ⟨(w.heap.size), 0, none⟩ = some (.bool s1) ∧ World.cell? W' ⟨(w.heap.size), 1, none⟩ = some (.slice A1 n1 c1) ∧ World.cell? W' ⟨(w.heap.size), 2, none⟩ = some (.slice A1' n1' c1') ∧ World.cell? W' ⟨(w.heap.size + 1), 0, none⟩ = some (.bool s2) ∧ World.cell? W' ⟨(w.heap.size + 1), 1, none⟩ = some (.slice A2 n2 c2) ∧ World.cell? W' ⟨(w.heap.size + 1), 2, none⟩ = some (.slice A2' n2' c2') ∧ Hid (P2 w W' (w.heap.size) (w.heap.size + 1) (w.heap.size + 1 + 1) s1 A1 n1 c1 A1' n1' c1' N1 D1 s2 A2 n2 c2 A2' n2' c2' N2 D2)))
      (with_reducible (first | assumption | exact (TA.out.below (Below.refl _ _).drew).cells | exact P2.next (by assumption) (by assumption)))
      (first
       | (go_at_call_of 25 (Value.agg #[.bool s1, .slice A1 n1 c1, .slice A1' n1' c1'])
          refine (ofQ _ _ _ _ _ _ (P2.of (by assumption)).r1 HL1.out HA.out).mono ?_
          rintro e wb ⟨t1, B1, m1, e1, B1', m1', e1', rfl, i1, bb⟩)
       | (go_at_call_of 25 (Value.agg #[.bool s2, .slice A2 n2 c2, .slice A2' n2' c2'])
          refine (ofQ _ _ _ _ _ _ (P2.of (by assumption)).r2 HL2.out HB.out).mono ?_
          rintro e wc ⟨t2, B2, m2, e2, B2', m2', e2', rfl, i2, bc⟩)
       | (go_at_call 40
          refine (bCmpQ a b cc HCC.out _ _ _ (i1.out.below bc) i2.out (fit_Rq FA.out (by omega)) (fit_Rq FB.out (by omega))).mono ?_
          rintro e wy ⟨rfl, bz⟩
          have hh := Lib.hid ((P2.of (by assumption)).below bz)))
    clear x1 x2 x3 x4 x5 x6 y1 y2 y3 hy1 hy2 hy3 f1 f2 f3 i1 i2 bb bc
    have TA := hh
    obtain ⟨x1, x2, x3, x4, x5, x6, _⟩ := TA.out.cells
    obtain ⟨y1, y2, y3, hy1, hy2, hy3, f1, f2, f3⟩ := TA.out.res.cells
    go_wp2_with fail
    go_region_held3 (fun W' => (World.cell? W' ⟨(w.heap.size), 0, none⟩ = some (.bool s1) ∧ World.cell? W' ⟨(w.heap.size), 1, none⟩ = some (.slice A1 n1 c1) ∧ World.cell? W' ⟨(w.heap.size), 2, none⟩ = some (.slice A1' n1' c1') ∧ World.cell? W' ⟨(w.heap.size + 1), 0, none⟩ = some (.bool s2) ∧ World.cell? W' ⟨(w.heap.size + 1), 1, none⟩ = some (.slice A2 n2 c2) ∧ World.cell? W' ⟨(w.heap.size + 1), 2, none⟩ = some (.slice A2' n2' c2') ∧ Hid (P2 w W' (w.heap.size) (w.heap.size + 1) (w.heap.size + 1 + 1) s1 A1 n1 c1 A1' n1' c1' N1 D1 s2 A2 n2 c2 A2' n2' c2' N2 D2)))
      (with_reducible (first | assumption | exact (TA.out.below (Below.refl _ _).drew).cells | exact P2.next (by assumption) (by assumption) | exact P2.nextS (by assumption)))
      (first
       | (go_at_call_of 25 (Value.agg #[.bool s1, .slice A1 n1 c1, .slice A1' n1' c1'])
          refine (ofQ _ _ _ _ _ _ (P2.of (by assumption)).r1 HL1.out HA.out).mono ?_
          rintro e wb ⟨t1, B1, m1, e1, B1', m1', e1', rfl, i1, bb⟩)
       | (go_at_call_of 25 (Value.agg #[.bool s2, .slice A2 n2 c2, .slice A2' n2' c2'])
          refine (ofQ _ _ _ _ _ _ (P2.of (by assumption)).r2 HL2.out HB.out).mono ?_
          rintro e wc ⟨t2, B2, m2, e2, B2', m2', e2', rfl, i2, bc⟩)
       | (go_at_call 90
          refine (qPlain a b HZ.out (fit_Rq FA.out (by omega)) (fit_Rq FB.out (by omega)) r HRR.out _ _ _ (i1.out.below bc) i2.out).mono ?_
          rintro e wd ⟨t3, B3, m3, e3, B3', m3', e3', rfl, i3, bd⟩)
       | (go_at_call 58
          refine (qDone _ _ _ i3.out BD.out).mono ?_
          rintro e we ⟨s9, A9, n9, c9, A9', n9', c9', k9, rfl, h9, b9⟩
          have hh := (P2.of (by assumption)).below b9
          obtain ⟨z1, z2, z3, hz1, hz2, hz3, k1, k2, k3⟩ := hh.res.cells))
    obtain ⟨q0, q1, q2, hs, hb⟩ := OutIs.stored h9 hh.res hh.bel hh.n3
    have Q := Lib.hid (And.intro q0 (And.intro q1 q2))
    have HS := Lib.hid hs
    have HBB := Lib.hid hb
    clear q0 q1 q2 hs hb
    go_wp2
    obtain ⟨q0, q1, q2⟩ := Q.out
    refine bodyPost_ret (v := .tuple #[.agg #[.bool s9, .slice A9 n9 c9, .slice A9' n9' c9'], .int .i64 k9]) (by simp [results, Tryd.results48, go_sem, q0, q1, q2]) rfl ?_
    have := HO.out
    simp only [Bool.false_eq_true, if_false] at this
    rw [← this]
    exact ⟨_, _, _, _, _, _, _, _, rfl, HS.out, HBB.out⟩
theorem lSimplest (s1 : Bool) (N1 D1 : Nat) (s2 : Bool) (N2 D2 : Nat) (w : World) (v1 v2 : Value) (h1 : RawV w v1 s1 N1 D1) (h2 : RawV w v2 s2 N2 D2) :
    Calls Tryd.prog 48 #[v1, v2] w (OutPost w (simpOut (largeB s1 N1 D1 || largeB s2 N2 D2) (ratOf s1 N1 D1) (ratOf s2 N2 D2))) := by
  unfold simpOut
  by_cases hz : ratOf s2 N2 D2 < ratOf s1 N1 D1
  · rw [if_pos hz]; exact lSimplest_gt s1 N1 D1 s2 N2 D2 w v1 v2 h1 h2 hz
  · rw [if_neg hz]; exact lSimplest_le s1 N1 D1 s2 N2 D2 w v1 v2 h1 h2 (by grind) _ rfl
end Go.Proofs.YtfmhplcpejmkhabDoor

namespace Go.Proofs.YtfmhplcpejmkhabDoor
open Go.RowKit Dig
set_option linter.unusedVariables false
set_option linter.unusedSimpArgs false
theorem fSgnC (b : Rat) (c : Int) (hc : sgnI (ng b) b.num.natAbs = c) (w : World) (v : Value) (h : IsF w v b) :
    Calls Tryd.prog 63 #[v] w fun e w' => e = .returned (.int .i64 c) ∧ Below w.heap.size w w' := by
  subst hc
  obtain ⟨A1, c1, A2, c2, rfl, r1, r2⟩ := h
  exact fracSign _ _ _ w _ _ _ _
theorem pos_ng {a : Rat} (h : 0 < a) : ng a = false := by
  unfold ng
  have := rat_pos h
  exact decide_eq_false (by omega)
theorem simp_bound {a b : Rat} (ka : fitQ a) (kb : fitQ b) : a.num.natAbs ≤ B32 ^ 64 ∧ a.den ≤ B32 ^ 64 ∧ b.num.natAbs ≤ B32 ^ 64 ∧ b.den ≤ B32 ^ 64 ∧ (W (B32 ^ 64)).length ≤ 70 :=
  ⟨Nat.le_of_lt ((dig_length_le B32_two _ 64).1 ka.1), Nat.le_of_lt ((dig_length_le B32_two _ 64).1 ka.2), Nat.le_of_lt ((dig_length_le B32_two _ 64).1 kb.1), Nat.le_of_lt ((dig_length_le B32_two _ 64).1 kb.2),
    Nat.le_trans ((dig_length_le B32_two _ 65).2 (Nat.pow_lt_pow_right B32_two (by omega))) (by omega)⟩
theorem fSimplest (a b : Rat) (ha : 0 < a) (hab : a ≤ b) (ka : fitQ a) (kb : fitQ b) (w : World) (v1 v2 : Value) (h1 : IsF w v1 a) (h2 : IsF w v2 b) (hT : Tab w) (q : Rat) (hq : qq (plainN a.num.natAbs a.den b.num.natAbs b.den).1 (plainN a.num.natAbs a.den b.num.natAbs b.den).2 = q) :
    Calls Tryd.prog 88 #[v1, v2] w fun e w' => ∃ u, e = .returned u ∧ IsF w' u q ∧ Below w.heap.size w w' := by
  obtain ⟨y1, y2, y3, y4, y5⟩ := simp_bound ka kb
  obtain ⟨A1, c1, A2, c2, rfl, _, _⟩ := id h1
  obtain ⟨A3, c3, A4, c4, rfl, _, _⟩ := id h2
  subst hq
  have e1 := qq_self (pos_ng ha)
  have e2 := qq_self (pos_ng (show 0 < b by grind))
  exact nsimplestF a.num.natAbs a.den b.num.natAbs b.den _ y5 (btw_of ha hab) y1 y2 y3 y4 _ _ _ _ _ _ _ _ _ _ _ _ _ _ w (by rw [e1]; exact h1) (by rw [e2]; exact h2) hT _ rfl
set_option maxHeartbeats 2000000 in
set_option maxRecDepth 100000 in
theorem nSimplest_true_true (s1 : Bool) (X1 Y1 : Nat) (s2 : Bool) (X2 Y2 : Nat)  (w : World) (v1 v2 : Value) (h1 : RawV w v1 s1 X1 Y1) (h2 : RawV w v2 s2 X2 Y2) (hT : Tab w) (a b : Rat) (ha : ratOf s1 X1 Y1 = a) (hb : ratOf s2 X2 Y2 = b) (hL1 : largeB s1 X1 Y1 = true) (hL2 : largeB s2 X2 Y2 = true) :
    Calls Tryd.prog 47 #[v1, v2] w (OutPost w (Out.err 1)) := by
  have H1 := Lib.hid h1
  have H2 := Lib.hid h2
  have HT := Lib.hid hT
  obtain ⟨A1, n1, c1, A1', n1', c1', rfl⟩ := h1.shape
  obtain ⟨A2, n2, c2, A2', n2', c2', rfl⟩ := h2.shape
  clear h1 h2 hT
  obtain ⟨M, hM, k1, k2, k3, bM⟩ := start2 w (.bool s1) (.slice A1 n1 c1) (.slice A1' n1' c1') (.bool s2) (.slice A2 n2 c2) (.slice A2' n2' c2') (.bool false) (.slice none 0 0) (.slice none 0 0) 24 24 24
  have HR := Lib.hid (show Res M (w.heap.size + 1 + 1) 24 from ⟨_, _, _, NI.bool _, NI.slice _ _ _, NI.slice _ _ _, k3⟩)
  have HX := Lib.hid k1
  have HY := Lib.hid k2
  have BM := Lib.hid bM
  replace H1 := Lib.hid (H1.out.below bM)
  replace H2 := Lib.hid (H2.out.below bM)
  replace HT := Lib.hid (HT.out.below bM)
  have HA := Lib.hid ha
  have HB := Lib.hid hb
  have HL1 := Lib.hid hL1
  have HL2 := Lib.hid hL2
  clear ha hb hL1 hL2 k1 k2 k3 bM
  go_enter Tryd.func47, Tryd.ntmps47
  go_upto_region 1 with (fail)
  rw [← hM]
  clear hM
  obtain ⟨x1, x2, x3, _, _, _⟩ := HX.out.cells
  go_wp2_with fail
  refine (readV _ s1 X1 Y1 _ H1.out HT.out).mono ?_
  rw [HL1.out, Bool.not_true]
  rintro e wa ⟨t1, B1, m1, d1, B1', m1', d1', rfl, f1, ba⟩
  have bb := below_step ba ba.size (below_alloc wa (.cells #[.bool t1, .slice B1 m1 d1, .slice B1' m1' d1'] 65))
  have HF1 := Lib.hid (Box.new wa (.bool t1) (.slice B1 m1 d1) (.slice B1' m1' d1') 65)
  have F1 : Hid (largeB s1 X1 Y1 = false → IsF (wa.alloc (.cells #[.bool t1, .slice B1 m1 d1, .slice B1' m1' d1'] 65)) (.agg #[.bool t1, .slice B1 m1 d1, .slice B1' m1' d1']) (ratOf s1 X1 Y1)) := Lib.hid (fun h => absurd (HL1.out.symm.trans h) (by simp))
  have hsz : w.heap.size + 1 + 1 < wa.heap.size := Nat.lt_of_lt_of_le (by obtain ⟨_, _, _, _, _, _, hh⟩ := HR.out; exact hh.lt) ba.size
  replace HX := Lib.hid (HX.out.below bb)
  replace HY := Lib.hid (HY.out.below bb)
  replace HR := Lib.hid (HR.out.below bb)
  replace H2 := Lib.hid (H2.out.below bb)
  replace HT := Lib.hid (HT.out.below bb)
  have BM := Lib.hid (below_step BM.out BM.out.size bb)
  obtain ⟨w1, hw1⟩ : ∃ w1, wa.alloc (.cells #[.bool t1, .slice B1 m1 d1, .slice B1' m1' d1'] 65) = w1 := ⟨_, rfl⟩
  have hs1 : w1.heap.size = wa.heap.size + 1 := by rw [← hw1]; simp
  have HS1 := Lib.hid hs1
  have HSZ := Lib.hid hsz
  clear x1 x2 x3 ba bb f1 hs1 hsz
  go_upto_region 2 with (fail)
  rw [hw1] at HX HY HR H2 HT BM HF1 F1
  try rw [hw1]
  clear hw1
  obtain ⟨y1, y2, y3, _, _, _⟩ := HY.out.cells
  go_wp2_with fail
  refine (readV _ s2 X2 Y2 _ H2.out HT.out).mono ?_
  rw [HL2.out, Bool.not_true]
  rintro e wc ⟨t2, B2, m2, d2, B2', m2', d2', rfl, f2, bc⟩
  have bd := below_step bc bc.size (below_alloc wc (.cells #[.bool t2, .slice B2 m2 d2, .slice B2' m2' d2'] 65))
  have HF2 := Lib.hid (Box.new wc (.bool t2) (.slice B2 m2 d2) (.slice B2' m2' d2') 65)
  have F2 : Hid (largeB s2 X2 Y2 = false → IsF (wc.alloc (.cells #[.bool t2, .slice B2 m2 d2, .slice B2' m2' d2'] 65)) (.agg #[.bool t2, .slice B2 m2 d2, .slice B2' m2' d2']) (ratOf s2 X2 Y2)) := Lib.hid (fun h => absurd (HL2.out.symm.trans h) (by simp))
  have F1 : Hid (largeB s1 X1 Y1 = false → IsF (wc.alloc (.cells #[.bool t2, .slice B2 m2 d2, .slice B2' m2' d2'] 65)) (.agg #[.bool t1, .slice B1 m1 d1, .slice B1' m1' d1']) (ratOf s1 X1 Y1)) := Lib.hid (fun h => (F1.out h).below bd)
  have hsz2 : wa.heap.size + 1 ≤ wc.heap.size := by have := bc.size; have := HS1.out; omega
  replace HF1 := Lib.hid (HF1.out.below bd)
  replace HR := Lib.hid (HR.out.below bd)
  replace HT := Lib.hid (HT.out.below bd)
  have BM := Lib.hid (below_step BM.out BM.out.size bd)
  have HSZ2 := Lib.hid hsz2
  obtain ⟨w2, hw2⟩ : ∃ w2, wc.alloc (.cells #[.bool t2, .slice B2 m2 d2, .slice B2' m2' d2'] 65) = w2 := ⟨_, rfl⟩
  obtain ⟨gf, hgf⟩ : ∃ g, wa.heap.size = g := ⟨_, rfl⟩
  obtain ⟨gg, hgg⟩ : ∃ g, wc.heap.size = g := ⟨_, rfl⟩
  clear y1 y2 y3 bc bd f2 HS1 hsz2 HX HY H1 H2
  go_upto_region 3 with (fail)
  rw [hw2] at HF1 HF2 HR HT BM F1 F2
  try rw [hw2]
  rw [hgf] at HF1 HSZ HSZ2
  rw [hgg] at HF2 HSZ2
  try rw [hgf]
  try rw [hgg]
  clear hw2 hgf hgg
  obtain ⟨z1, z2, z3, hy1, hy2, hy3, f1, f2, f3⟩ := HR.out.cells
  obtain ⟨q0, q1, q2, hs, hb⟩ := OutIs.stored (o := .err 1) (k := 1) (s := false) (A1 := none) (A2 := none) (n1 := 0) (c1 := 0) (n2 := 0) (c2 := 0) ⟨rfl, rfl, by omega, by omega⟩ HR.out BM.out (by omega)
  have Q := Lib.hid (And.intro q0 (And.intro q1 q2))
  have HBB := Lib.hid hb
  clear q0 q1 q2 hs hb
  go_wp2_with fail
  obtain ⟨q0, q1, q2⟩ := Q.out
  refine bodyPost_ret (v := .tuple #[noRat, .int .i64 1]) (by simp [results, Tryd.results47, go_sem, q0, q1, q2, noRat]) rfl (OutPost.err rfl (by omega) (by omega) HBB.out)
set_option maxHeartbeats 2000000 in
set_option maxRecDepth 100000 in
theorem nSimplest_true_false (s1 : Bool) (X1 Y1 : Nat) (s2 : Bool) (X2 Y2 : Nat)  (w : World) (v1 v2 : Value) (h1 : RawV w v1 s1 X1 Y1) (h2 : RawV w v2 s2 X2 Y2) (hT : Tab w) (a b : Rat) (ha : ratOf s1 X1 Y1 = a) (hb : ratOf s2 X2 Y2 = b) (hL1 : largeB s1 X1 Y1 = true) (hL2 : largeB s2 X2 Y2 = false) :
    Calls Tryd.prog 47 #[v1, v2] w (OutPost w (Out.err 1)) := by
  have H1 := Lib.hid h1
  have H2 := Lib.hid h2
  have HT := Lib.hid hT
  obtain ⟨A1, n1, c1, A1', n1', c1', rfl⟩ := h1.shape
  obtain ⟨A2, n2, c2, A2', n2', c2', rfl⟩ := h2.shape
  clear h1 h2 hT
  obtain ⟨M, hM, k1, k2, k3, bM⟩ := start2 w (.bool s1) (.slice A1 n1 c1) (.slice A1' n1' c1') (.bool s2) (.slice A2 n2 c2) (.slice A2' n2' c2') (.bool false) (.slice none 0 0) (.slice none 0 0) 24 24 24
  have HR := Lib.hid (show Res M (w.heap.size + 1 + 1) 24 from ⟨_, _, _, NI.bool _, NI.slice _ _ _, NI.slice _ _ _, k3⟩)
  have HX := Lib.hid k1
  have HY := Lib.hid k2
  have BM := Lib.hid bM
  replace H1 := Lib.hid (H1.out.below bM)
  replace H2 := Lib.hid (H2.out.below bM)
  replace HT := Lib.hid (HT.out.below bM)
  have HA := Lib.hid ha
  have HB := Lib.hid hb
  have HL1 := Lib.hid hL1
  have HL2 := Lib.hid hL2
  clear ha hb hL1 hL2 k1 k2 k3 bM
  go_enter Tryd.func47, Tryd.ntmps47
  go_upto_region 1 with (fail)
  rw [← hM]
  clear hM
  obtain ⟨x1, x2, x3, _, _, _⟩ := HX.out.cells
  go_wp2_with fail
  refine (readV _ s1 X1 Y1 _ H1.out HT.out).mono ?_
  rw [HL1.out, Bool.not_true]
  rintro e wa ⟨t1, B1, m1, d1, B1', m1', d1', rfl, f1, ba⟩
  have bb := below_step ba ba.size (below_alloc wa (.cells #[.bool t1, .slice B1 m1 d1, .slice B1' m1' d1'] 65))
  have HF1 := Lib.hid (Box.new wa (.bool t1) (.slice B1 m1 d1) (.slice B1' m1' d1') 65)
  have F1 : Hid (largeB s1 X1 Y1 = false → IsF (wa.alloc (.cells #[.bool t1, .slice B1 m1 d1, .slice B1' m1' d1'] 65)) (.agg #[.bool t1, .slice B1 m1 d1, .slice B1' m1' d1']) (ratOf s1 X1 Y1)) := Lib.hid (fun h => absurd (HL1.out.symm.trans h) (by simp))
  have hsz : w.heap.size + 1 + 1 < wa.heap.size := Nat.lt_of_lt_of_le (by obtain ⟨_, _, _, _, _, _, hh⟩ := HR.out; exact hh.lt) ba.size
  replace HX := Lib.hid (HX.out.below bb)
  replace HY := Lib.hid (HY.out.below bb)
  replace HR := Lib.hid (HR.out.below bb)
  replace H2 := Lib.hid (H2.out.below bb)
  replace HT := Lib.hid (HT.out.below bb)
  have BM := Lib.hid (below_step BM.out BM.out.size bb)
  obtain ⟨w1, hw1⟩ : ∃ w1, wa.alloc (.cells #[.bool t1, .slice B1 m1 d1, .slice B1' m1' d1'] 65) = w1 := ⟨_, rfl⟩
  have hs1 : w1.heap.size = wa.heap.size + 1 := by rw [← hw1]; simp
  have HS1 := Lib.hid hs1
  have HSZ := Lib.hid hsz
  clear x1 x2 x3 ba bb f1 hs1 hsz
  go_upto_region 2 with (fail)
  rw [hw1] at HX HY HR H2 HT BM HF1 F1
  try rw [hw1]
  clear hw1
  obtain ⟨y1, y2, y3, _, _, _⟩ := HY.out.cells
  go_wp2_with fail
  refine (readV _ s2 X2 Y2 _ H2.out HT.out).mono ?_
  rw [HL2.out, Bool.not_false]
  rintro e wc ⟨t2, B2, m2, d2, B2', m2', d2', rfl, f2, bc⟩
  have bd := below_step bc bc.size (below_alloc wc (.cells #[.bool t2, .slice B2 m2 d2, .slice B2' m2' d2'] 65))
  have HF2 := Lib.hid (Box.new wc (.bool t2) (.slice B2 m2 d2) (.slice B2' m2' d2') 65)
  have F2 : Hid (largeB s2 X2 Y2 = false → IsF (wc.alloc (.cells #[.bool t2, .slice B2 m2 d2, .slice B2' m2' d2'] 65)) (.agg #[.bool t2, .slice B2 m2 d2, .slice B2' m2' d2']) (ratOf s2 X2 Y2)) := Lib.hid (fun h => (f2.out rfl).below (below_alloc _ _))
  have F1 : Hid (largeB s1 X1 Y1 = false → IsF (wc.alloc (.cells #[.bool t2, .slice B2 m2 d2, .slice B2' m2' d2'] 65)) (.agg #[.bool t1, .slice B1 m1 d1, .slice B1' m1' d1']) (ratOf s1 X1 Y1)) := Lib.hid (fun h => (F1.out h).below bd)
  have hsz2 : wa.heap.size + 1 ≤ wc.heap.size := by have := bc.size; have := HS1.out; omega
  replace HF1 := Lib.hid (HF1.out.below bd)
  replace HR := Lib.hid (HR.out.below bd)
  replace HT := Lib.hid (HT.out.below bd)
  have BM := Lib.hid (below_step BM.out BM.out.size bd)
  have HSZ2 := Lib.hid hsz2
  obtain ⟨w2, hw2⟩ : ∃ w2, wc.alloc (.cells #[.bool t2, .slice B2 m2 d2, .slice B2' m2' d2'] 65) = w2 := ⟨_, rfl⟩
  obtain ⟨gf, hgf⟩ : ∃ g, wa.heap.size = g := ⟨_, rfl⟩
  obtain ⟨gg, hgg⟩ : ∃ g, wc.heap.size = g := ⟨_, rfl⟩
  clear y1 y2 y3 bc bd f2 HS1 hsz2 HX HY H1 H2
  go_upto_region 3 with (fail)
  rw [hw2] at HF1 HF2 HR HT BM F1 F2
  try rw [hw2]
  rw [hgf] at HF1 HSZ HSZ2
  rw [hgg] at HF2 HSZ2
  try rw [hgf]
  try rw [hgg]
  clear hw2 hgf hgg
  obtain ⟨z1, z2, z3, hy1, hy2, hy3, f1, f2, f3⟩ := HR.out.cells
  obtain ⟨q0, q1, q2, hs, hb⟩ := OutIs.stored (o := .err 1) (k := 1) (s := false) (A1 := none) (A2 := none) (n1 := 0) (c1 := 0) (n2 := 0) (c2 := 0) ⟨rfl, rfl, by omega, by omega⟩ HR.out BM.out (by omega)
  have Q := Lib.hid (And.intro q0 (And.intro q1 q2))
  have HBB := Lib.hid hb
  clear q0 q1 q2 hs hb
  go_wp2_with fail
  obtain ⟨q0, q1, q2⟩ := Q.out
  refine bodyPost_ret (v := .tuple #[noRat, .int .i64 1]) (by simp [results, Tryd.results47, go_sem, q0, q1, q2, noRat]) rfl (OutPost.err rfl (by omega) (by omega) HBB.out)
set_option maxHeartbeats 2000000 in
set_option maxRecDepth 100000 in
theorem nSimplest_false_true (s1 : Bool) (X1 Y1 : Nat) (s2 : Bool) (X2 Y2 : Nat)  (w : World) (v1 v2 : Value) (h1 : RawV w v1 s1 X1 Y1) (h2 : RawV w v2 s2 X2 Y2) (hT : Tab w) (a b : Rat) (ha : ratOf s1 X1 Y1 = a) (hb : ratOf s2 X2 Y2 = b) (hL1 : largeB s1 X1 Y1 = false) (hL2 : largeB s2 X2 Y2 = true) :
    Calls Tryd.prog 47 #[v1, v2] w (OutPost w (Out.err 1)) := by
  have H1 := Lib.hid h1
  have H2 := Lib.hid h2
  have HT := Lib.hid hT
  obtain ⟨A1, n1, c1, A1', n1', c1', rfl⟩ := h1.shape
  obtain ⟨A2, n2, c2, A2', n2', c2', rfl⟩ := h2.shape
  clear h1 h2 hT
  obtain ⟨M, hM, k1, k2, k3, bM⟩ := start2 w (.bool s1) (.slice A1 n1 c1) (.slice A1' n1' c1') (.bool s2) (.slice A2 n2 c2) (.slice A2' n2' c2') (.bool false) (.slice none 0 0) (.slice none 0 0) 24 24 24
  have HR := Lib.hid (show Res M (w.heap.size + 1 + 1) 24 from ⟨_, _, _, NI.bool _, NI.slice _ _ _, NI.slice _ _ _, k3⟩)
  have HX := Lib.hid k1
  have HY := Lib.hid k2
  have BM := Lib.hid bM
  replace H1 := Lib.hid (H1.out.below bM)
  replace H2 := Lib.hid (H2.out.below bM)
  replace HT := Lib.hid (HT.out.below bM)
  have HA := Lib.hid ha
  have HB := Lib.hid hb
  have HL1 := Lib.hid hL1
  have HL2 := Lib.hid hL2
  clear ha hb hL1 hL2 k1 k2 k3 bM
  go_enter Tryd.func47, Tryd.ntmps47
  go_upto_region 1 with (fail)
  rw [← hM]
  clear hM
  obtain ⟨x1, x2, x3, _, _, _⟩ := HX.out.cells
  go_wp2_with fail
  refine (readV _ s1 X1 Y1 _ H1.out HT.out).mono ?_
  rw [HL1.out, Bool.not_false]
  rintro e wa ⟨t1, B1, m1, d1, B1', m1', d1', rfl, f1, ba⟩
  have bb := below_step ba ba.size (below_alloc wa (.cells #[.bool t1, .slice B1 m1 d1, .slice B1' m1' d1'] 65))
  have HF1 := Lib.hid (Box.new wa (.bool t1) (.slice B1 m1 d1) (.slice B1' m1' d1') 65)
  have F1 : Hid (largeB s1 X1 Y1 = false → IsF (wa.alloc (.cells #[.bool t1, .slice B1 m1 d1, .slice B1' m1' d1'] 65)) (.agg #[.bool t1, .slice B1 m1 d1, .slice B1' m1' d1']) (ratOf s1 X1 Y1)) := Lib.hid (fun h => (f1.out rfl).below (below_alloc _ _))
  have hsz : w.heap.size + 1 + 1 < wa.heap.size := Nat.lt_of_lt_of_le (by obtain ⟨_, _, _, _, _, _, hh⟩ := HR.out; exact hh.lt) ba.size
  replace HX := Lib.hid (HX.out.below bb)
  replace HY := Lib.hid (HY.out.below bb)
  replace HR := Lib.hid (HR.out.below bb)
  replace H2 := Lib.hid (H2.out.below bb)
  replace HT := Lib.hid (HT.out.below bb)
  have BM := Lib.hid (below_step BM.out BM.out.size bb)
  obtain ⟨w1, hw1⟩ : ∃ w1, wa.alloc (.cells #[.bool t1, .slice B1 m1 d1, .slice B1' m1' d1'] 65) = w1 := ⟨_, rfl⟩
  have hs1 : w1.heap.size = wa.heap.size + 1 := by rw [← hw1]; simp
  have HS1 := Lib.hid hs1
  have HSZ := Lib.hid hsz
  clear x1 x2 x3 ba bb f1 hs1 hsz
  go_upto_region 2 with (fail)
  rw [hw1] at HX HY HR H2 HT BM HF1 F1
  try rw [hw1]
  clear hw1
  obtain ⟨y1, y2, y3, _, _, _⟩ := HY.out.cells
  go_wp2_with fail
  refine (readV _ s2 X2 Y2 _ H2.out HT.out).mono ?_
  rw [HL2.out, Bool.not_true]
  rintro e wc ⟨t2, B2, m2, d2, B2', m2', d2', rfl, f2, bc⟩
  have bd := below_step bc bc.size (below_alloc wc (.cells #[.bool t2, .slice B2 m2 d2, .slice B2' m2' d2'] 65))
  have HF2 := Lib.hid (Box.new wc (.bool t2) (.slice B2 m2 d2) (.slice B2' m2' d2') 65)
  have F2 : Hid (largeB s2 X2 Y2 = false → IsF (wc.alloc (.cells #[.bool t2, .slice B2 m2 d2, .slice B2' m2' d2'] 65)) (.agg #[.bool t2, .slice B2 m2 d2, .slice B2' m2' d2']) (ratOf s2 X2 Y2)) := Lib.hid (fun h => absurd (HL2.out.symm.trans h) (by simp))
  have F1 : Hid (largeB s1 X1 Y1 = false → IsF (wc.alloc (.cells #[.bool t2, .slice B2 m2 d2, .slice B2' m2' d2'] 65)) (.agg #[.bool t1, .slice B1 m1 d1, .slice B1' m1' d1']) (ratOf s1 X1 Y1)) := Lib.hid (fun h => (F1.out h).below bd)
  have hsz2 : wa.heap.size + 1 ≤ wc.heap.size := by have := bc.size; have := HS1.out; omega
  replace HF1 := Lib.hid (HF1.out.below bd)
  replace HR := Lib.hid (HR.out.below bd)
  replace HT := Lib.hid (HT.out.below bd)
  have BM := Lib.hid (below_step BM.out BM.out.size bd)
  have HSZ2 := Lib.hid hsz2
  obtain ⟨w2, hw2⟩ : ∃ w2, wc.alloc (.cells #[.bool t2, .slice B2 m2 d2, .slice B2' m2' d2'] 65) = w2 := ⟨_, rfl⟩
  obtain ⟨gf, hgf⟩ : ∃ g, wa.heap.size = g := ⟨_, rfl⟩
  obtain ⟨gg, hgg⟩ : ∃ g, wc.heap.size = g := ⟨_, rfl⟩
  clear y1 y2 y3 bc bd f2 HS1 hsz2 HX HY H1 H2
  go_upto_region 3 with (fail)
  rw [hw2] at HF1 HF2 HR HT BM F1 F2
  try rw [hw2]
  rw [hgf] at HF1 HSZ HSZ2
  rw [hgg] at HF2 HSZ2
  try rw [hgf]
  try rw [hgg]
  clear hw2 hgf hgg
  obtain ⟨z1, z2, z3, hy1, hy2, hy3, f1, f2, f3⟩ := HR.out.cells
  obtain ⟨q0, q1, q2, hs, hb⟩ := OutIs.stored (o := .err 1) (k := 1) (s := false) (A1 := none) (A2 := none) (n1 := 0) (c1 := 0) (n2 := 0) (c2 := 0) ⟨rfl, rfl, by omega, by omega⟩ HR.out BM.out (by omega)
  have Q := Lib.hid (And.intro q0 (And.intro q1 q2))
  have HBB := Lib.hid hb
  clear q0 q1 q2 hs hb
  go_wp2_with fail
  obtain ⟨q0, q1, q2⟩ := Q.out
  refine bodyPost_ret (v := .tuple #[noRat, .int .i64 1]) (by simp [results, Tryd.results47, go_sem, q0, q1, q2, noRat]) rfl (OutPost.err rfl (by omega) (by omega) HBB.out)
set_option maxHeartbeats 2000000 in
set_option maxRecDepth 100000 in
theorem nSimplest_gt (s1 : Bool) (X1 Y1 : Nat) (s2 : Bool) (X2 Y2 : Nat) (hz : ratOf s2 X2 Y2 < ratOf s1 X1 Y1) (w : World) (v1 v2 : Value) (h1 : RawV w v1 s1 X1 Y1) (h2 : RawV w v2 s2 X2 Y2) (hT : Tab w) (a b : Rat) (ha : ratOf s1 X1 Y1 = a) (hb : ratOf s2 X2 Y2 = b) (hL1 : largeB s1 X1 Y1 = false) (hL2 : largeB s2 X2 Y2 = false) :
    Calls Tryd.prog 47 #[v1, v2] w (OutPost w (Out.err 11)) := by
  have H1 := Lib.hid h1
  have H2 := Lib.hid h2
  have HT := Lib.hid hT
  obtain ⟨A1, n1, c1, A1', n1', c1', rfl⟩ := h1.shape
  obtain ⟨A2, n2, c2, A2', n2', c2', rfl⟩ := h2.shape
  clear h1 h2 hT
  obtain ⟨M, hM, k1, k2, k3, bM⟩ := start2 w (.bool s1) (.slice A1 n1 c1) (.slice A1' n1' c1') (.bool s2) (.slice A2 n2 c2) (.slice A2' n2' c2') (.bool false) (.slice none 0 0) (.slice none 0 0) 24 24 24
  have HR := Lib.hid (show Res M (w.heap.size + 1 + 1) 24 from ⟨_, _, _, NI.bool _, NI.slice _ _ _, NI.slice _ _ _, k3⟩)
  have HX := Lib.hid k1
  have HY := Lib.hid k2
  have BM := Lib.hid bM
  replace H1 := Lib.hid (H1.out.below bM)
  replace H2 := Lib.hid (H2.out.below bM)
  replace HT := Lib.hid (HT.out.below bM)
  have HA := Lib.hid ha
  have HB := Lib.hid hb
  have HL1 := Lib.hid hL1
  have HL2 := Lib.hid hL2
  have fa := (largeB_false hL1).2.2
  have fb := (largeB_false hL2).2.2
  rw [ha] at fa
  rw [hb] at fb
  have FA := Lib.hid fa
  have FB := Lib.hid fb
  clear fa fb
  rw [ha, hb] at hz
  have HCC := Lib.hid (cmp_gt hz)
  clear hz
  clear ha hb hL1 hL2 k1 k2 k3 bM
  go_enter Tryd.func47, Tryd.ntmps47
  go_upto_region 1 with (fail)
  rw [← hM]
  clear hM
  obtain ⟨x1, x2, x3, _, _, _⟩ := HX.out.cells
  go_wp2_with fail
  refine (readV _ s1 X1 Y1 _ H1.out HT.out).mono ?_
  rw [HL1.out, Bool.not_false]
  rintro e wa ⟨t1, B1, m1, d1, B1', m1', d1', rfl, f1, ba⟩
  have bb := below_step ba ba.size (below_alloc wa (.cells #[.bool t1, .slice B1 m1 d1, .slice B1' m1' d1'] 65))
  have HF1 := Lib.hid (Box.new wa (.bool t1) (.slice B1 m1 d1) (.slice B1' m1' d1') 65)
  have F1 : Hid (largeB s1 X1 Y1 = false → IsF (wa.alloc (.cells #[.bool t1, .slice B1 m1 d1, .slice B1' m1' d1'] 65)) (.agg #[.bool t1, .slice B1 m1 d1, .slice B1' m1' d1']) (ratOf s1 X1 Y1)) := Lib.hid (fun h => (f1.out rfl).below (below_alloc _ _))
  have hsz : w.heap.size + 1 + 1 < wa.heap.size := Nat.lt_of_lt_of_le (by obtain ⟨_, _, _, _, _, _, hh⟩ := HR.out; exact hh.lt) ba.size
  replace HX := Lib.hid (HX.out.below bb)
  replace HY := Lib.hid (HY.out.below bb)
  replace HR := Lib.hid (HR.out.below bb)
  replace H2 := Lib.hid (H2.out.below bb)
  replace HT := Lib.hid (HT.out.below bb)
  have BM := Lib.hid (below_step BM.out BM.out.size bb)
  obtain ⟨w1, hw1⟩ : ∃ w1, wa.alloc (.cells #[.bool t1, .slice B1 m1 d1, .slice B1' m1' d1'] 65) = w1 := ⟨_, rfl⟩
  have hs1 : w1.heap.size = wa.heap.size + 1 := by rw [← hw1]; simp
  have HS1 := Lib.hid hs1
  have HSZ := Lib.hid hsz
  clear x1 x2 x3 ba bb f1 hs1 hsz
  go_upto_region 2 with (fail)
  rw [hw1] at HX HY HR H2 HT BM HF1 F1
  try rw [hw1]
  clear hw1
  obtain ⟨y1, y2, y3, _, _, _⟩ := HY.out.cells
  go_wp2_with fail
  refine (readV _ s2 X2 Y2 _ H2.out HT.out).mono ?_
  rw [HL2.out, Bool.not_false]
  rintro e wc ⟨t2, B2, m2, d2, B2', m2', d2', rfl, f2, bc⟩
  have bd := below_step bc bc.size (below_alloc wc (.cells #[.bool t2, .slice B2 m2 d2, .slice B2' m2' d2'] 65))
  have HF2 := Lib.hid (Box.new wc (.bool t2) (.slice B2 m2 d2) (.slice B2' m2' d2') 65)
  have F2 : Hid (largeB s2 X2 Y2 = false → IsF (wc.alloc (.cells #[.bool t2, .slice B2 m2 d2, .slice B2' m2' d2'] 65)) (.agg #[.bool t2, .slice B2 m2 d2, .slice B2' m2' d2']) (ratOf s2 X2 Y2)) := Lib.hid (fun h => (f2.out rfl).below (below_alloc _ _))
  have F1 : Hid (largeB s1 X1 Y1 = false → IsF (wc.alloc (.cells #[.bool t2, .slice B2 m2 d2, .slice B2' m2' d2'] 65)) (.agg #[.bool t1, .slice B1 m1 d1, .slice B1' m1' d1']) (ratOf s1 X1 Y1)) := Lib.hid (fun h => (F1.out h).below bd)
  have hsz2 : wa.heap.size + 1 ≤ wc.heap.size := by have := bc.size; have := HS1.out; omega
  replace HF1 := Lib.hid (HF1.out.below bd)
  replace HR := Lib.hid (HR.out.below bd)
  replace HT := Lib.hid (HT.out.below bd)
  have BM := Lib.hid (below_step BM.out BM.out.size bd)
  have HSZ2 := Lib.hid hsz2
  obtain ⟨w2, hw2⟩ : ∃ w2, wc.alloc (.cells #[.bool t2, .slice B2 m2 d2, .slice B2' m2' d2'] 65) = w2 := ⟨_, rfl⟩
  obtain ⟨gf, hgf⟩ : ∃ g, wa.heap.size = g := ⟨_, rfl⟩
  obtain ⟨gg, hgg⟩ : ∃ g, wc.heap.size = g := ⟨_, rfl⟩
  clear y1 y2 y3 bc bd f2 HS1 hsz2 HX HY H1 H2
  go_upto_region 3 with (fail)
  rw [hw2] at HF1 HF2 HR HT BM F1 F2
  try rw [hw2]
  rw [hgf] at HF1 HSZ HSZ2
  rw [hgg] at HF2 HSZ2
  try rw [hgf]
  try rw [hgg]
  clear hw2 hgf hgg
  have F1 := Lib.hid (F1.out HL1.out)
  have F2 := Lib.hid (F2.out HL2.out)
  rw [HA.out] at F1
  rw [HB.out] at F2
  obtain ⟨x1, x2, x3, _⟩ := HF1.out.cells
  obtain ⟨y1, y2, y3, _⟩ := HF2.out.cells
  go_wp2_with fail
  refine (fCmp a b _ _ _ F1.out F2.out (fit_Wq FA.out (by omega)) (fit_Wq FB.out (by omega))).mono ?_
  rw [HCC.out]
  rintro e we ⟨rfl, be⟩
  replace HR := Lib.hid (HR.out.below be)
  replace HF1 := Lib.hid (HF1.out.below be)
  replace HF2 := Lib.hid (HF2.out.below be)
  replace HT := Lib.hid (HT.out.below be)
  replace F1 := Lib.hid (F1.out.below be)
  replace F2 := Lib.hid (F2.out.below be)
  replace BM := Lib.hid (below_step BM.out BM.out.size be)
  clear be x1 x2 x3 y1 y2 y3
  obtain ⟨x1, x2, x3, _⟩ := HF1.out.cells
  obtain ⟨y1, y2, y3, _⟩ := HF2.out.cells
  obtain ⟨z1, z2, z3, hy1, hy2, hy3, f1, f2, f3⟩ := HR.out.cells
  obtain ⟨q0, q1, q2, hs, hb⟩ := OutIs.stored (o := .err 11) (k := 11) (s := false) (A1 := none) (A2 := none) (n1 := 0) (c1 := 0) (n2 := 0) (c2 := 0) ⟨rfl, rfl, by omega, by omega⟩ HR.out BM.out (by omega)
  have Q := Lib.hid (And.intro q0 (And.intro q1 q2))
  have HBB := Lib.hid hb
  clear q0 q1 q2 hs hb
  go_wp2_with fail
  obtain ⟨q0, q1, q2⟩ := Q.out
  refine bodyPost_ret (v := .tuple #[noRat, .int .i64 11]) (by simp [results, Tryd.results47, go_sem, q0, q1, q2, noRat]) rfl (OutPost.err rfl (by omega) (by omega) HBB.out)
set_option maxHeartbeats 2000000 in
set_option maxRecDepth 100000 in
theorem nSimplest_zero (s1 : Bool) (X1 Y1 : Nat) (s2 : Bool) (X2 Y2 : Nat) (hz : ratOf s1 X1 Y1 ≤ ratOf s2 X2 Y2) (h0 : ratOf s1 X1 Y1 ≤ 0) (h00 : 0 ≤ ratOf s2 X2 Y2) (w : World) (v1 v2 : Value) (h1 : RawV w v1 s1 X1 Y1) (h2 : RawV w v2 s2 X2 Y2) (hT : Tab w) (a b : Rat) (ha : ratOf s1 X1 Y1 = a) (hb : ratOf s2 X2 Y2 = b) (hL1 : largeB s1 X1 Y1 = false) (hL2 : largeB s2 X2 Y2 = false) :
    Calls Tryd.prog 47 #[v1, v2] w (OutPost w (Out.ok 0)) := by
  have H1 := Lib.hid h1
  have H2 := Lib.hid h2
  have HT := Lib.hid hT
  obtain ⟨A1, n1, c1, A1', n1', c1', rfl⟩ := h1.shape
  obtain ⟨A2, n2, c2, A2', n2', c2', rfl⟩ := h2.shape
  clear h1 h2 hT
  obtain ⟨M, hM, k1, k2, k3, bM⟩ := start2 w (.bool s1) (.slice A1 n1 c1) (.slice A1' n1' c1') (.bool s2) (.slice A2 n2 c2) (.slice A2' n2' c2') (.bool false) (.slice none 0 0) (.slice none 0 0) 24 24 24
  have HR := Lib.hid (show Res M (w.heap.size + 1 + 1) 24 from ⟨_, _, _, NI.bool _, NI.slice _ _ _, NI.slice _ _ _, k3⟩)
  have HX := Lib.hid k1
  have HY := Lib.hid k2
  have BM := Lib.hid bM
  replace H1 := Lib.hid (H1.out.below bM)
  replace H2 := Lib.hid (H2.out.below bM)
  replace HT := Lib.hid (HT.out.below bM)
  have HA := Lib.hid ha
  have HB := Lib.hid hb
  have HL1 := Lib.hid hL1
  have HL2 := Lib.hid hL2
  have fa := (largeB_false hL1).2.2
  have fb := (largeB_false hL2).2.2
  rw [ha] at fa
  rw [hb] at fb
  have FA := Lib.hid fa
  have FB := Lib.hid fb
  clear fa fb
  rw [ha, hb] at hz
  rw [ha] at h0
  rw [hb] at h00
  obtain ⟨cc, hcc⟩ : ∃ c, cmpQ a b = c := ⟨_, rfl⟩
  have HCC := Lib.hid hcc
  have hc0 : decide (0 < cc) = false := by
    rw [← hcc]
    rcases cmp_cases a b with ⟨h, e⟩ | ⟨h, e⟩ | ⟨h, e⟩
    · rw [e]; decide
    · rw [e]; decide
    · exact absurd h (by grind)
  clear hcc
  obtain ⟨sa, hsa⟩ : ∃ c, sgnI (ng a) a.num.natAbs = c := ⟨_, rfl⟩
  obtain ⟨sb, hsb⟩ : ∃ c, sgnI (ng b) b.num.natAbs = c := ⟨_, rfl⟩
  have la := sgn_le h0
  have lb := sgn_ge h00
  rw [hsa] at la
  rw [hsb] at lb
  have HSa := Lib.hid hsa
  have HSb := Lib.hid hsb
  clear hz h0 h00 hsa hsb
  clear ha hb hL1 hL2 k1 k2 k3 bM
  go_enter Tryd.func47, Tryd.ntmps47
  go_upto_region 1 with (fail)
  rw [← hM]
  clear hM
  obtain ⟨x1, x2, x3, _, _, _⟩ := HX.out.cells
  go_wp2_with fail
  refine (readV _ s1 X1 Y1 _ H1.out HT.out).mono ?_
  rw [HL1.out, Bool.not_false]
  rintro e wa ⟨t1, B1, m1, d1, B1', m1', d1', rfl, f1, ba⟩
  have bb := below_step ba ba.size (below_alloc wa (.cells #[.bool t1, .slice B1 m1 d1, .slice B1' m1' d1'] 65))
  have HF1 := Lib.hid (Box.new wa (.bool t1) (.slice B1 m1 d1) (.slice B1' m1' d1') 65)
  have F1 : Hid (largeB s1 X1 Y1 = false → IsF (wa.alloc (.cells #[.bool t1, .slice B1 m1 d1, .slice B1' m1' d1'] 65)) (.agg #[.bool t1, .slice B1 m1 d1, .slice B1' m1' d1']) (ratOf s1 X1 Y1)) := Lib.hid (fun h => (f1.out rfl).below (below_alloc _ _))
  have hsz : w.heap.size + 1 + 1 < wa.heap.size := Nat.lt_of_lt_of_le (by obtain ⟨_, _, _, _, _, _, hh⟩ := HR.out; exact hh.lt) ba.size
  replace HX := Lib.hid (HX.out.below bb)
  replace HY := Lib.hid (HY.out.below bb)
  replace HR := Lib.hid (HR.out.below bb)
  replace H2 := Lib.hid (H2.out.below bb)
  replace HT := Lib.hid (HT.out.below bb)
  have BM := Lib.hid (below_step BM.out BM.out.size bb)
  obtain ⟨w1, hw1⟩ : ∃ w1, wa.alloc (.cells #[.bool t1, .slice B1 m1 d1, .slice B1' m1' d1'] 65) = w1 := ⟨_, rfl⟩
  have hs1 : w1.heap.size = wa.heap.size + 1 := by rw [← hw1]; simp
  have HS1 := Lib.hid hs1
  have HSZ := Lib.hid hsz
  clear x1 x2 x3 ba bb f1 hs1 hsz
  go_upto_region 2 with (fail)
  rw [hw1] at HX HY HR H2 HT BM HF1 F1
  try rw [hw1]
  clear hw1
  obtain ⟨y1, y2, y3, _, _, _⟩ := HY.out.cells
  go_wp2_with fail
  refine (readV _ s2 X2 Y2 _ H2.out HT.out).mono ?_
  rw [HL2.out, Bool.not_false]
  rintro e wc ⟨t2, B2, m2, d2, B2', m2', d2', rfl, f2, bc⟩
  have bd := below_step bc bc.size (below_alloc wc (.cells #[.bool t2, .slice B2 m2 d2, .slice B2' m2' d2'] 65))
  have HF2 := Lib.hid (Box.new wc (.bool t2) (.slice B2 m2 d2) (.slice B2' m2' d2') 65)
  have F2 : Hid (largeB s2 X2 Y2 = false → IsF (wc.alloc (.cells #[.bool t2, .slice B2 m2 d2, .slice B2' m2' d2'] 65)) (.agg #[.bool t2, .slice B2 m2 d2, .slice B2' m2' d2']) (ratOf s2 X2 Y2)) := Lib.hid (fun h => (f2.out rfl).below (below_alloc _ _))
  have F1 : Hid (largeB s1 X1 Y1 = false → IsF (wc.alloc (.cells #[.bool t2, .slice B2 m2 d2, .slice B2' m2' d2'] 65)) (.agg #[.bool t1, .slice B1 m1 d1, .slice B1' m1' d1']) (ratOf s1 X1 Y1)) := Lib.hid (fun h => (F1.out h).below bd)
  have hsz2 : wa.heap.size + 1 ≤ wc.heap.size := by have := bc.size; have := HS1.out; omega
  replace HF1 := Lib.hid (HF1.out.below bd)
  replace HR := Lib.hid (HR.out.below bd)
  replace HT := Lib.hid (HT.out.below bd)
  have BM := Lib.hid (below_step BM.out BM.out.size bd)
  have HSZ2 := Lib.hid hsz2
  obtain ⟨w2, hw2⟩ : ∃ w2, wc.alloc (.cells #[.bool t2, .slice B2 m2 d2, .slice B2' m2' d2'] 65) = w2 := ⟨_, rfl⟩
  obtain ⟨gf, hgf⟩ : ∃ g, wa.heap.size = g := ⟨_, rfl⟩
  obtain ⟨gg, hgg⟩ : ∃ g, wc.heap.size = g := ⟨_, rfl⟩
  clear y1 y2 y3 bc bd f2 HS1 hsz2 HX HY H1 H2
  go_upto_region 3 with (fail)
  rw [hw2] at HF1 HF2 HR HT BM F1 F2
  try rw [hw2]
  rw [hgf] at HF1 HSZ HSZ2
  rw [hgg] at HF2 HSZ2
  try rw [hgf]
  try rw [hgg]
  clear hw2 hgf hgg
  have F1 := Lib.hid (F1.out HL1.out)
  have F2 := Lib.hid (F2.out HL2.out)
  rw [HA.out] at F1
  rw [HB.out] at F2
  obtain ⟨x1, x2, x3, _⟩ := HF1.out.cells
  obtain ⟨y1, y2, y3, _⟩ := HF2.out.cells
  go_wp2_with fail
  refine (fCmp a b _ _ _ F1.out F2.out (fit_Wq FA.out (by omega)) (fit_Wq FB.out (by omega))).mono ?_
  rw [HCC.out]
  rintro e we ⟨rfl, be⟩
  replace HR := Lib.hid (HR.out.below be)
  replace HF1 := Lib.hid (HF1.out.below be)
  replace HF2 := Lib.hid (HF2.out.below be)
  replace HT := Lib.hid (HT.out.below be)
  replace F1 := Lib.hid (F1.out.below be)
  replace F2 := Lib.hid (F2.out.below be)
  replace BM := Lib.hid (below_step BM.out BM.out.size be)
  clear be x1 x2 x3 y1 y2 y3
  obtain ⟨x1, x2, x3, _⟩ := HF1.out.cells
  obtain ⟨y1, y2, y3, _⟩ := HF2.out.cells
  go_wp2_with fail
  refine (fSgnC a _ HSa.out _ _ F1.out).mono ?_
  rintro e we ⟨rfl, be⟩
  replace HR := Lib.hid (HR.out.below be)
  replace HF1 := Lib.hid (HF1.out.below be)
  replace HF2 := Lib.hid (HF2.out.below be)
  replace HT := Lib.hid (HT.out.below be)
  replace F1 := Lib.hid (F1.out.below be)
  replace F2 := Lib.hid (F2.out.below be)
  replace BM := Lib.hid (below_step BM.out BM.out.size be)
  clear be x1 x2 x3 y1 y2 y3
  obtain ⟨x1, x2, x3, _⟩ := HF1.out.cells
  obtain ⟨y1, y2, y3, _⟩ := HF2.out.cells
  go_wp2_with fail
  refine (fSgnC b _ HSb.out _ _ F2.out).mono ?_
  rintro e we ⟨rfl, be⟩
  replace HR := Lib.hid (HR.out.below be)
  replace HF1 := Lib.hid (HF1.out.below be)
  replace HF2 := Lib.hid (HF2.out.below be)
  replace HT := Lib.hid (HT.out.below be)
  replace F1 := Lib.hid (F1.out.below be)
  replace F2 := Lib.hid (F2.out.below be)
  replace BM := Lib.hid (below_step BM.out BM.out.size be)
  clear be x1 x2 x3 y1 y2 y3
  obtain ⟨x1, x2, x3, _⟩ := HF1.out.cells
  obtain ⟨y1, y2, y3, _⟩ := HF2.out.cells
  obtain ⟨z1, z2, z3, hz1, hz2, hz3, k1, k2, k3⟩ := HR.out.cells
  obtain ⟨q0, q1, q2, hs, hb⟩ := OutIs.stored (o := .ok 0) (k := 0) (s := false) (A1 := none) (A2 := none) (n1 := 0) (c1 := 0) (n2 := 0) (c2 := 0) (OutIs.zero _) HR.out BM.out (by omega)
  have Q := Lib.hid (And.intro q0 (And.intro q1 q2))
  have HS := Lib.hid hs
  have HBB := Lib.hid hb
  clear q0 q1 q2 hs hb
  go_wp2_with fail
  obtain ⟨q0, q1, q2⟩ := Q.out
  refine bodyPost_ret (v := .tuple #[noRat, .int .i64 0]) (by simp [results, Tryd.results47, go_sem, q0, q1, q2, noRat]) rfl ?_
  exact ⟨_, _, _, _, _, _, _, _, rfl, HS.out, HBB.out⟩
set_option maxHeartbeats 2000000 in
set_option maxRecDepth 100000 in
theorem nSimplest_pos (s1 : Bool) (X1 Y1 : Nat) (s2 : Bool) (X2 Y2 : Nat) (hz : ratOf s1 X1 Y1 ≤ ratOf s2 X2 Y2) (h0 : 0 < ratOf s1 X1 Y1) (r : Rat) (hr : simpQ (ratOf s1 X1 Y1) (ratOf s2 X2 Y2) = r) (w : World) (v1 v2 : Value) (h1 : RawV w v1 s1 X1 Y1) (h2 : RawV w v2 s2 X2 Y2) (hT : Tab w) (a b : Rat) (ha : ratOf s1 X1 Y1 = a) (hb : ratOf s2 X2 Y2 = b) (hL1 : largeB s1 X1 Y1 = false) (hL2 : largeB s2 X2 Y2 = false) :
    Calls Tryd.prog 47 #[v1, v2] w (OutPost w (give r)) := by
  have H1 := Lib.hid h1
  have H2 := Lib.hid h2
  have HT := Lib.hid hT
  obtain ⟨A1, n1, c1, A1', n1', c1', rfl⟩ := h1.shape
  obtain ⟨A2, n2, c2, A2', n2', c2', rfl⟩ := h2.shape
  clear h1 h2 hT
  obtain ⟨M, hM, k1, k2, k3, bM⟩ := start2 w (.bool s1) (.slice A1 n1 c1) (.slice A1' n1' c1') (.bool s2) (.slice A2 n2 c2) (.slice A2' n2' c2') (.bool false) (.slice none 0 0) (.slice none 0 0) 24 24 24
  have HR := Lib.hid (show Res M (w.heap.size + 1 + 1) 24 from ⟨_, _, _, NI.bool _, NI.slice _ _ _, NI.slice _ _ _, k3⟩)
  have HX := Lib.hid k1
  have HY := Lib.hid k2
  have BM := Lib.hid bM
  replace H1 := Lib.hid (H1.out.below bM)
  replace H2 := Lib.hid (H2.out.below bM)
  replace HT := Lib.hid (HT.out.below bM)
  have HA := Lib.hid ha
  have HB := Lib.hid hb
  have HL1 := Lib.hid hL1
  have HL2 := Lib.hid hL2
  have fa := (largeB_false hL1).2.2
  have fb := (largeB_false hL2).2.2
  rw [ha] at fa
  rw [hb] at fb
  have FA := Lib.hid fa
  have FB := Lib.hid fb
  clear fa fb
  rw [ha, hb] at hz hr
  rw [ha] at h0
  obtain ⟨cc, hcc⟩ : ∃ c, cmpQ a b = c := ⟨_, rfl⟩
  have HCC := Lib.hid hcc
  have hc0 : decide (0 < cc) = false := by
    rw [← hcc]
    rcases cmp_cases a b with ⟨h, e⟩ | ⟨h, e⟩ | ⟨h, e⟩
    · rw [e]; decide
    · rw [e]; decide
    · exact absurd h (by grind)
  clear hcc
  have HSa := Lib.hid (sgn_pos h0)
  have HSb := Lib.hid (sgn_pos (show 0 < b by grind))
  have HP := Lib.hid h0
  have HLE := Lib.hid hz
  have HRR := Lib.hid (show qq (plainN a.num.natAbs a.den b.num.natAbs b.den).1 (plainN a.num.natAbs a.den b.num.natAbs b.den).2 = r by
    rw [← hr]
    unfold simpQ
    rw [if_neg (fun h => absurd h.1 (by grind)), if_neg (by grind)])
  clear hz h0 hr
  clear ha hb hL1 hL2 k1 k2 k3 bM
  go_enter Tryd.func47, Tryd.ntmps47
  go_upto_region 1 with (fail)
  rw [← hM]
  clear hM
  obtain ⟨x1, x2, x3, _, _, _⟩ := HX.out.cells
  go_wp2_with fail
  refine (readV _ s1 X1 Y1 _ H1.out HT.out).mono ?_
  rw [HL1.out, Bool.not_false]
  rintro e wa ⟨t1, B1, m1, d1, B1', m1', d1', rfl, f1, ba⟩
  have bb := below_step ba ba.size (below_alloc wa (.cells #[.bool t1, .slice B1 m1 d1, .slice B1' m1' d1'] 65))
  have HF1 := Lib.hid (Box.new wa (.bool t1) (.slice B1 m1 d1) (.slice B1' m1' d1') 65)
  have F1 : Hid (largeB s1 X1 Y1 = false → IsF (wa.alloc (.cells #[.bool t1, .slice B1 m1 d1, .slice B1' m1' d1'] 65)) (.agg #[.bool t1, .slice B1 m1 d1, .slice B1' m1' d1']) (ratOf s1 X1 Y1)) := Lib.hid (fun h => (f1.out rfl).below (below_alloc _ _))
  have hsz : w.heap.size + 1 + 1 < wa.heap.size := Nat.lt_of_lt_of_le (by obtain ⟨_, _, _, _, _, _, hh⟩ := HR.out; exact hh.lt) ba.size
  replace HX := Lib.hid (HX.out.below bb)
  replace HY := Lib.hid (HY.out.below bb)
  replace HR := Lib.hid (HR.out.below bb)
  replace H2 := Lib.hid (H2.out.below bb)
  replace HT := Lib.hid (HT.out.below bb)
  have BM := Lib.hid (below_step BM.out BM.out.size bb)
  obtain ⟨w1, hw1⟩ : ∃ w1, wa.alloc (.cells #[.bool t1, .slice B1 m1 d1, .slice B1' m1' d1'] 65) = w1 := ⟨_, rfl⟩
  have hs1 : w1.heap.size = wa.heap.size + 1 := by rw [← hw1]; simp
  have HS1 := Lib.hid hs1
  have HSZ := Lib.hid hsz
  clear x1 x2 x3 ba bb f1 hs1 hsz
  go_upto_region 2 with (fail)
  rw [hw1] at HX HY HR H2 HT BM HF1 F1
  try rw [hw1]
  clear hw1
  obtain ⟨y1, y2, y3, _, _, _⟩ := HY.out.cells
  go_wp2_with fail
  refine (readV _ s2 X2 Y2 _ H2.out HT.out).mono ?_
  rw [HL2.out, Bool.not_false]
  rintro e wc ⟨t2, B2, m2, d2, B2', m2', d2', rfl, f2, bc⟩
  have bd := below_step bc bc.size (below_alloc wc (.cells #[.bool t2, .slice B2 m2 d2, .slice B2' m2' d2'] 65))
  have HF2 := Lib.hid (Box.new wc (.bool t2) (.slice B2 m2 d2) (.slice B2' m2' d2') 65)
  have F2 : Hid (largeB s2 X2 Y2 = false → IsF (wc.alloc (.cells #[.bool t2, .slice B2 m2 d2, .slice B2' m2' d2'] 65)) (.agg #[.bool t2, .slice B2 m2 d2, .slice B2' m2' d2']) (ratOf s2 X2 Y2)) := Lib.hid (fun h => (f2.out rfl).below (below_alloc _ _))
  have F1 : Hid (largeB s1 X1 Y1 = false → IsF (wc.alloc (.cells #[.bool t2, .slice B2 m2 d2, .slice B2' m2' d2'] 65)) (.agg #[.bool t1, .slice B1 m1 d1, .slice B1' m1' d1']) (ratOf s1 X1 Y1)) := Lib.hid (fun h => (F1.out h).below bd)
  have hsz2 : wa.heap.size + 1 ≤ wc.heap.size := by have := bc.size; have := HS1.out; omega
  replace HF1 := Lib.hid (HF1.out.below bd)
  replace HR := Lib.hid (HR.out.below bd)
  replace HT := Lib.hid (HT.out.below bd)
  have BM := Lib.hid (below_step BM.out BM.out.size bd)
  have HSZ2 := Lib.hid hsz2
  obtain ⟨w2, hw2⟩ : ∃ w2, wc.alloc (.cells #[.bool t2, .slice B2 m2 d2, .slice B2' m2' d2'] 65) = w2 := ⟨_, rfl⟩
  obtain ⟨gf, hgf⟩ : ∃ g, wa.heap.size = g := ⟨_, rfl⟩
  obtain ⟨gg, hgg⟩ : ∃ g, wc.heap.size = g := ⟨_, rfl⟩
  clear y1 y2 y3 bc bd f2 HS1 hsz2 HX HY H1 H2
  go_upto_region 3 with (fail)
  rw [hw2] at HF1 HF2 HR HT BM F1 F2
  try rw [hw2]
  rw [hgf] at HF1 HSZ HSZ2
  rw [hgg] at HF2 HSZ2
  try rw [hgf]
  try rw [hgg]
  clear hw2 hgf hgg
  have F1 := Lib.hid (F1.out HL1.out)
  have F2 := Lib.hid (F2.out HL2.out)
  rw [HA.out] at F1
  rw [HB.out] at F2
  obtain ⟨x1, x2, x3, _⟩ := HF1.out.cells
  obtain ⟨y1, y2, y3, _⟩ := HF2.out.cells
  go_wp2_with fail
  refine (fCmp a b _ _ _ F1.out F2.out (fit_Wq FA.out (by omega)) (fit_Wq FB.out (by omega))).mono ?_
  rw [HCC.out]
  rintro e we ⟨rfl, be⟩
  replace HR := Lib.hid (HR.out.below be)
  replace HF1 := Lib.hid (HF1.out.below be)
  replace HF2 := Lib.hid (HF2.out.below be)
  replace HT := Lib.hid (HT.out.below be)
  replace F1 := Lib.hid (F1.out.below be)
  replace F2 := Lib.hid (F2.out.below be)
  replace BM := Lib.hid (below_step BM.out BM.out.size be)
  clear be x1 x2 x3 y1 y2 y3
  obtain ⟨x1, x2, x3, _⟩ := HF1.out.cells
  obtain ⟨y1, y2, y3, _⟩ := HF2.out.cells
  go_wp2_with fail
  refine (fSgnC a _ HSa.out _ _ F1.out).mono ?_
  rintro e we ⟨rfl, be⟩
  replace HR := Lib.hid (HR.out.below be)
  replace HF1 := Lib.hid (HF1.out.below be)
  replace HF2 := Lib.hid (HF2.out.below be)
  replace HT := Lib.hid (HT.out.below be)
  replace F1 := Lib.hid (F1.out.below be)
  replace F2 := Lib.hid (F2.out.below be)
  replace BM := Lib.hid (below_step BM.out BM.out.size be)
  clear be x1 x2 x3 y1 y2 y3
  obtain ⟨x1, x2, x3, _⟩ := HF1.out.cells
  obtain ⟨y1, y2, y3, _⟩ := HF2.out.cells
  go_wp2_with fail
  refine (fSgnC b _ HSb.out _ _ F2.out).mono ?_
  rintro e we ⟨rfl, be⟩
  replace HR := Lib.hid (HR.out.below be)
  replace HF1 := Lib.hid (HF1.out.below be)
  replace HF2 := Lib.hid (HF2.out.below be)
  replace HT := Lib.hid (HT.out.below be)
  replace F1 := Lib.hid (F1.out.below be)
  replace F2 := Lib.hid (F2.out.below be)
  replace BM := Lib.hid (below_step BM.out BM.out.size be)
  clear be x1 x2 x3 y1 y2 y3
  obtain ⟨x1, x2, x3, _⟩ := HF1.out.cells
  obtain ⟨y1, y2, y3, _⟩ := HF2.out.cells
  go_upto_region 11 with (fail)
  go_wp2_with fail
  refine (Calls.partsF (fSimplest a b HP.out HLE.out FA.out FB.out _ _ _ F1.out F2.out HT.out r HRR.out)).mono ?_
  rintro e wq ⟨t4, B4, m4, d4, B4', m4', d4', rfl, i4, be⟩
  replace HR := Lib.hid (HR.out.below be)
  replace BM := Lib.hid (below_step BM.out BM.out.size be)
  clear be
  go_wp2_with fail
  refine (giveF _ r _ i4.out).mono ?_
  rintro e we ⟨s9, A9, n9, c9, A9', n9', c9', k9, rfl, h9, b9⟩
  replace HR := Lib.hid (HR.out.below b9)
  replace BM := Lib.hid (below_step BM.out BM.out.size b9)
  clear b9
  obtain ⟨z1, z2, z3, hz1, hz2, hz3, k1, k2, k3⟩ := HR.out.cells
  obtain ⟨q0, q1, q2, hs, hb⟩ := OutIs.stored h9 HR.out BM.out (by omega)
  have Q := Lib.hid (And.intro q0 (And.intro q1 q2))
  have HS := Lib.hid hs
  have HBB := Lib.hid hb
  clear q0 q1 q2 hs hb
  go_wp2_with fail
  obtain ⟨q0, q1, q2⟩ := Q.out
  refine bodyPost_ret (v := (.tuple #[.agg #[.bool s9, .slice A9 n9 c9, .slice A9' n9' c9'], .int .i64 k9])) (by simp [results, Tryd.results47, go_sem, q0, q1, q2, noRat]) rfl ?_
  exact ⟨_, _, _, _, _, _, _, _, rfl, HS.out, HBB.out⟩
set_option maxHeartbeats 2000000 in
set_option maxRecDepth 100000 in
theorem nSimplest_neg (s1 : Bool) (X1 Y1 : Nat) (s2 : Bool) (X2 Y2 : Nat) (hz : ratOf s1 X1 Y1 ≤ ratOf s2 X2 Y2) (h0 : ratOf s2 X2 Y2 < 0) (r : Rat) (hr : simpQ (ratOf s1 X1 Y1) (ratOf s2 X2 Y2) = r) (w : World) (v1 v2 : Value) (h1 : RawV w v1 s1 X1 Y1) (h2 : RawV w v2 s2 X2 Y2) (hT : Tab w) (a b : Rat) (ha : ratOf s1 X1 Y1 = a) (hb : ratOf s2 X2 Y2 = b) (hL1 : largeB s1 X1 Y1 = false) (hL2 : largeB s2 X2 Y2 = false) :
    Calls Tryd.prog 47 #[v1, v2] w (OutPost w (give r)) := by
  have H1 := Lib.hid h1
  have H2 := Lib.hid h2
  have HT := Lib.hid hT
  obtain ⟨A1, n1, c1, A1', n1', c1', rfl⟩ := h1.shape
  obtain ⟨A2, n2, c2, A2', n2', c2', rfl⟩ := h2.shape
  clear h1 h2 hT
  obtain ⟨M, hM, k1, k2, k3, bM⟩ := start2 w (.bool s1) (.slice A1 n1 c1) (.slice A1' n1' c1') (.bool s2) (.slice A2 n2 c2) (.slice A2' n2' c2') (.bool false) (.slice none 0 0) (.slice none 0 0) 24 24 24
  have HR := Lib.hid (show Res M (w.heap.size + 1 + 1) 24 from ⟨_, _, _, NI.bool _, NI.slice _ _ _, NI.slice _ _ _, k3⟩)
  have HX := Lib.hid k1
  have HY := Lib.hid k2
  have BM := Lib.hid bM
  replace H1 := Lib.hid (H1.out.below bM)
  replace H2 := Lib.hid (H2.out.below bM)
  replace HT := Lib.hid (HT.out.below bM)
  have HA := Lib.hid ha
  have HB := Lib.hid hb
  have HL1 := Lib.hid hL1
  have HL2 := Lib.hid hL2
  have fa := (largeB_false hL1).2.2
  have fb := (largeB_false hL2).2.2
  rw [ha] at fa
  rw [hb] at fb
  have FA := Lib.hid fa
  have FB := Lib.hid fb
  clear fa fb
  rw [ha, hb] at hz hr
  rw [hb] at h0
  obtain ⟨cc, hcc⟩ : ∃ c, cmpQ a b = c := ⟨_, rfl⟩
  have HCC := Lib.hid hcc
  have hc0 : decide (0 < cc) = false := by
    rw [← hcc]
    rcases cmp_cases a b with ⟨h, e⟩ | ⟨h, e⟩ | ⟨h, e⟩
    · rw [e]; decide
    · rw [e]; decide
    · exact absurd h (by grind)
  clear hcc
  have HSa := Lib.hid (sgn_neg (show a < 0 by grind))
  have HSb := Lib.hid (sgn_neg h0)
  obtain ⟨na, hna⟩ : ∃ x, -a = x := ⟨_, rfl⟩
  obtain ⟨nb, hnb⟩ : ∃ x, -b = x := ⟨_, rfl⟩
  have HNA := Lib.hid hna
  have HNB := Lib.hid hnb
  have e1 : nb.num.natAbs = b.num.natAbs := by rw [← hnb, neg_abs]
  have e2 : nb.den = b.den := by rw [← hnb, neg_den]
  have e3 : na.num.natAbs = a.num.natAbs := by rw [← hna, neg_abs]
  have e4 : na.den = a.den := by rw [← hna, neg_den]
  have FNA := Lib.hid (show fitQ na by unfold fitQ; rw [e3, e4]; exact FA.out)
  have FNB := Lib.hid (show fitQ nb by unfold fitQ; rw [e1, e2]; exact FB.out)
  have HP := Lib.hid (show 0 < nb by grind)
  have HLE := Lib.hid (show nb ≤ na by grind)
  obtain ⟨y, hy⟩ : ∃ y, qq (plainN nb.num.natAbs nb.den na.num.natAbs na.den).1 (plainN nb.num.natAbs nb.den na.num.natAbs na.den).2 = y := ⟨_, rfl⟩
  have HYY := Lib.hid hy
  have HRR := Lib.hid (show -y = r by
    rw [← hr, ← hy, e1, e2, e3, e4]
    unfold simpQ
    rw [if_neg (fun h => absurd h.2 (by grind)), if_pos h0])
  clear hz h0 hr hna hnb e1 e2 e3 e4 hy
  clear ha hb hL1 hL2 k1 k2 k3 bM
  go_enter Tryd.func47, Tryd.ntmps47
  go_upto_region 1 with (fail)
  rw [← hM]
  clear hM
  obtain ⟨x1, x2, x3, _, _, _⟩ := HX.out.cells
  go_wp2_with fail
  refine (readV _ s1 X1 Y1 _ H1.out HT.out).mono ?_
  rw [HL1.out, Bool.not_false]
  rintro e wa ⟨t1, B1, m1, d1, B1', m1', d1', rfl, f1, ba⟩
  have bb := below_step ba ba.size (below_alloc wa (.cells #[.bool t1, .slice B1 m1 d1, .slice B1' m1' d1'] 65))
  have HF1 := Lib.hid (Box.new wa (.bool t1) (.slice B1 m1 d1) (.slice B1' m1' d1') 65)
  have F1 : Hid (largeB s1 X1 Y1 = false → IsF (wa.alloc (.cells #[.bool t1, .slice B1 m1 d1, .slice B1' m1' d1'] 65)) (.agg #[.bool t1, .slice B1 m1 d1, .slice B1' m1' d1']) (ratOf s1 X1 Y1)) := Lib.hid (fun h => (f1.out rfl).below (below_alloc _ _))
  have hsz : w.heap.size + 1 + 1 < wa.heap.size := Nat.lt_of_lt_of_le (by obtain ⟨_, _, _, _, _, _, hh⟩ := HR.out; exact hh.lt) ba.size
  replace HX := Lib.hid (HX.out.below bb)
  replace HY := Lib.hid (HY.out.below bb)
  replace HR := Lib.hid (HR.out.below bb)
  replace H2 := Lib.hid (H2.out.below bb)
  replace HT := Lib.hid (HT.out.below bb)
  have BM := Lib.hid (below_step BM.out BM.out.size bb)
  obtain ⟨w1, hw1⟩ : ∃ w1, wa.alloc (.cells #[.bool t1, .slice B1 m1 d1, .slice B1' m1' d1'] 65) = w1 := ⟨_, rfl⟩
  have hs1 : w1.heap.size = wa.heap.size + 1 := by rw [← hw1]; simp
  have HS1 := Lib.hid hs1
  have HSZ := Lib.hid hsz
  clear x1 x2 x3 ba bb f1 hs1 hsz
  go_upto_region 2 with (fail)
  rw [hw1] at HX HY HR H2 HT BM HF1 F1
  try rw [hw1]
  clear hw1
  obtain ⟨y1, y2, y3, _, _, _⟩ := HY.out.cells
  go_wp2_with fail
  refine (readV _ s2 X2 Y2 _ H2.out HT.out).mono ?_
  rw [HL2.out, Bool.not_false]
  rintro e wc ⟨t2, B2, m2, d2, B2', m2', d2', rfl, f2, bc⟩
  have bd := below_step bc bc.size (below_alloc wc (.cells #[.bool t2, .slice B2 m2 d2, .slice B2' m2' d2'] 65))
  have HF2 := Lib.hid (Box.new wc (.bool t2) (.slice B2 m2 d2) (.slice B2' m2' d2') 65)
  have F2 : Hid (largeB s2 X2 Y2 = false → IsF (wc.alloc (.cells #[.bool t2, .slice B2 m2 d2, .slice B2' m2' d2'] 65)) (.agg #[.bool t2, .slice B2 m2 d2, .slice B2' m2' d2']) (ratOf s2 X2 Y2)) := Lib.hid (fun h => (f2.out rfl).below (below_alloc _ _))
  have F1 : Hid (largeB s1 X1 Y1 = false → IsF (wc.alloc (.cells #[.bool t2, .slice B2 m2 d2, .slice B2' m2' d2'] 65)) (.agg #[.bool t1, .slice B1 m1 d1, .slice B1' m1' d1']) (ratOf s1 X1 Y1)) := Lib.hid (fun h => (F1.out h).below bd)
  have hsz2 : wa.heap.size + 1 ≤ wc.heap.size := by have := bc.size; have := HS1.out; omega
  replace HF1 := Lib.hid (HF1.out.below bd)
  replace HR := Lib.hid (HR.out.below bd)
  replace HT := Lib.hid (HT.out.below bd)
  have BM := Lib.hid (below_step BM.out BM.out.size bd)
  have HSZ2 := Lib.hid hsz2
  obtain ⟨w2, hw2⟩ : ∃ w2, wc.alloc (.cells #[.bool t2, .slice B2 m2 d2, .slice B2' m2' d2'] 65) = w2 := ⟨_, rfl⟩
  obtain ⟨gf, hgf⟩ : ∃ g, wa.heap.size = g := ⟨_, rfl⟩
  obtain ⟨gg, hgg⟩ : ∃ g, wc.heap.size = g := ⟨_, rfl⟩
  clear y1 y2 y3 bc bd f2 HS1 hsz2 HX HY H1 H2
  go_upto_region 3 with (fail)
  rw [hw2] at HF1 HF2 HR HT BM F1 F2
  try rw [hw2]
  rw [hgf] at HF1 HSZ HSZ2
  rw [hgg] at HF2 HSZ2
  try rw [hgf]
  try rw [hgg]
  clear hw2 hgf hgg
  have F1 := Lib.hid (F1.out HL1.out)
  have F2 := Lib.hid (F2.out HL2.out)
  rw [HA.out] at F1
  rw [HB.out] at F2
  obtain ⟨x1, x2, x3, _⟩ := HF1.out.cells
  obtain ⟨y1, y2, y3, _⟩ := HF2.out.cells
  go_wp2_with fail
  refine (fCmp a b _ _ _ F1.out F2.out (fit_Wq FA.out (by omega)) (fit_Wq FB.out (by omega))).mono ?_
  rw [HCC.out]
  rintro e we ⟨rfl, be⟩
  replace HR := Lib.hid (HR.out.below be)
  replace HF1 := Lib.hid (HF1.out.below be)
  replace HF2 := Lib.hid (HF2.out.below be)
  replace HT := Lib.hid (HT.out.below be)
  replace F1 := Lib.hid (F1.out.below be)
  replace F2 := Lib.hid (F2.out.below be)
  replace BM := Lib.hid (below_step BM.out BM.out.size be)
  clear be x1 x2 x3 y1 y2 y3
  obtain ⟨x1, x2, x3, _⟩ := HF1.out.cells
  obtain ⟨y1, y2, y3, _⟩ := HF2.out.cells
  go_wp2_with fail
  refine (fSgnC a _ HSa.out _ _ F1.out).mono ?_
  rintro e we ⟨rfl, be⟩
  replace HR := Lib.hid (HR.out.below be)
  replace HF1 := Lib.hid (HF1.out.below be)
  replace HF2 := Lib.hid (HF2.out.below be)
  replace HT := Lib.hid (HT.out.below be)
  replace F1 := Lib.hid (F1.out.below be)
  replace F2 := Lib.hid (F2.out.below be)
  replace BM := Lib.hid (below_step BM.out BM.out.size be)
  clear be x1 x2 x3 y1 y2 y3
  obtain ⟨x1, x2, x3, _⟩ := HF1.out.cells
  obtain ⟨y1, y2, y3, _⟩ := HF2.out.cells
  go_wp2_with fail
  refine (fSgnC b _ HSb.out _ _ F2.out).mono ?_
  rintro e we ⟨rfl, be⟩
  replace HR := Lib.hid (HR.out.below be)
  replace HF1 := Lib.hid (HF1.out.below be)
  replace HF2 := Lib.hid (HF2.out.below be)
  replace HT := Lib.hid (HT.out.below be)
  replace F1 := Lib.hid (F1.out.below be)
  replace F2 := Lib.hid (F2.out.below be)
  replace BM := Lib.hid (below_step BM.out BM.out.size be)
  clear be x1 x2 x3 y1 y2 y3
  obtain ⟨x1, x2, x3, _⟩ := HF1.out.cells
  obtain ⟨y1, y2, y3, _⟩ := HF2.out.cells
  go_wp2_with fail
  refine (fSgnC b _ HSb.out _ _ F2.out).mono ?_
  rintro e we ⟨rfl, be⟩
  replace HR := Lib.hid (HR.out.below be)
  replace HF1 := Lib.hid (HF1.out.below be)
  replace HF2 := Lib.hid (HF2.out.below be)
  replace HT := Lib.hid (HT.out.below be)
  replace F1 := Lib.hid (F1.out.below be)
  replace F2 := Lib.hid (F2.out.below be)
  replace BM := Lib.hid (below_step BM.out BM.out.size be)
  clear be x1 x2 x3 y1 y2 y3
  obtain ⟨x1, x2, x3, _⟩ := HF1.out.cells
  obtain ⟨y1, y2, y3, _⟩ := HF2.out.cells
  have TN : Hid (N2 w we (w.heap.size + 1 + 1) gf gg t1 B1 m1 d1 B1' m1' d1' a t2 B2 m2 d2 B2' m2' d2' b) := Lib.hid ⟨HR.out, HF1.out, HF2.out, F1.out, F2.out, HT.out, BM.out, by omega, by have := HSZ.out; omega, by have := HSZ.out; have := HSZ2.out; omega, by omega⟩
  clear x1 x2 x3 y1 y2 y3
  go_upto_region 10 with (fail)
  go_region_held3 (fun W' => (World.cell? W' ⟨gf, 0, none⟩ = some (.bool t1) ∧ World.cell? W' ⟨gf, 1, none⟩ = some (.slice B1 m1 d1) ∧ World.cell? W' ⟨gf, 2, none⟩ = some (.slice B1' m1' d1') ∧ World.cell? W' ⟨gg, 0, none⟩ = some (.bool t2) ∧ World.cell? W' ⟨gg, 1, none⟩ = some (.slice B2 m2 d2) ∧ World.cell? W' ⟨gg, 2, none⟩ = some (.slice B2' m2' d2') ∧ Hid (N2 w W' (w.heap.size + 1 + 1) gf gg t1 B1 m1 d1 B1' m1' d1' a t2 B2 m2 d2 B2' m2' d2' b)))
    (with_reducible (first | assumption | exact TN.out.drew.cells | exact N2.next (by assumption) (by assumption) | exact N2.nextS (by assumption)))
    (first
     | (go_at_call_of 65 (Value.agg #[.bool t1, .slice B1 m1 d1, .slice B1' m1' d1'])
        refine (Calls.partsF (fNeg a _ _ (N2.of (by assumption)).fa)).mono ?_
        rw [HNA.out]
        rintro e wi ⟨t3, B3, m3, d3, B3', m3', d3', rfl, i3, bi⟩)
     | (go_at_call_of 65 (Value.agg #[.bool t2, .slice B2 m2 d2, .slice B2' m2' d2'])
        refine (Calls.partsF (fNeg b _ _ (N2.of (by assumption)).fb)).mono ?_
        rw [HNB.out]
        rintro e wj ⟨t4, B4, m4, d4, B4', m4', d4', rfl, i4, bj⟩)
     | (go_at_call 88
        refine (Calls.partsF (fSimplest nb na HP.out HLE.out FNB.out FNA.out _ _ _ (by first | exact i4.out | exact i4.out.below bi) (by first | exact i3.out | exact i3.out.below bj) (N2.of (by assumption)).tab y HYY.out)).mono ?_
        rintro e wk ⟨t5, B5, m5, d5, B5', m5', d5', rfl, i5, bk⟩)
     | (go_at_call 65
        refine (Calls.partsF (fNeg y _ _ i5.out)).mono ?_
        rw [HRR.out]
        rintro e wl ⟨t6, B6, m6, d6, B6', m6', d6', rfl, i6, bl⟩)
     | (go_at_call 57
        refine (giveF _ r _ i6.out).mono ?_
        rintro e we ⟨s9, A9, n9, c9, A9', n9', c9', k9, rfl, h9, b9⟩
        have hh := (N2.of (by assumption)).below b9
        obtain ⟨z1, z2, z3, hz1, hz2, hz3, k1, k2, k3⟩ := hh.res.cells))
  obtain ⟨q0, q1, q2, hs, hb⟩ := OutIs.stored h9 hh.res hh.bel hh.n3
  have Q := Lib.hid (And.intro q0 (And.intro q1 q2))
  have HS := Lib.hid hs
  have HBB := Lib.hid hb
  clear q0 q1 q2 hs hb h9
  go_wp2
  obtain ⟨q0, q1, q2⟩ := Q.out
  refine bodyPost_ret (v := (.tuple #[.agg #[.bool s9, .slice A9 n9 c9, .slice A9' n9' c9'], .int .i64 k9])) (by simp [results, Tryd.results47, go_sem, q0, q1, q2]) rfl ?_
  exact ⟨_, _, _, _, _, _, _, _, rfl, HS.out, HBB.out⟩
theorem give_zero : give 0 = .ok 0 := by unfold give; rw [if_pos fit_zero]
theorem nSimplest (s1 : Bool) (X1 Y1 : Nat) (s2 : Bool) (X2 Y2 : Nat) (w : World) (v1 v2 : Value) (h1 : RawV w v1 s1 X1 Y1) (h2 : RawV w v2 s2 X2 Y2) (hT : Tab w) :
    Calls Tryd.prog 47 #[v1, v2] w (OutPost w (simpOut (largeB s1 X1 Y1 || largeB s2 X2 Y2) (ratOf s1 X1 Y1) (ratOf s2 X2 Y2))) := by
  unfold simpOut
  cases e1 : largeB s1 X1 Y1 <;> cases e2 : largeB s2 X2 Y2
  · rw [if_neg (by simp)]
    by_cases hg : ratOf s2 X2 Y2 < ratOf s1 X1 Y1
    · rw [if_pos hg]; exact nSimplest_gt s1 X1 Y1 s2 X2 Y2 hg w v1 v2 h1 h2 hT _ _ rfl rfl e1 e2
    · rw [if_neg hg]
      have hz : ratOf s1 X1 Y1 ≤ ratOf s2 X2 Y2 := by grind
      by_cases h0 : ratOf s1 X1 Y1 ≤ 0 ∧ 0 ≤ ratOf s2 X2 Y2
      · have e : simpQ (ratOf s1 X1 Y1) (ratOf s2 X2 Y2) = 0 := by unfold simpQ; rw [if_pos h0]
        rw [e, give_zero]
        exact nSimplest_zero s1 X1 Y1 s2 X2 Y2 hz h0.1 h0.2 w v1 v2 h1 h2 hT _ _ rfl rfl e1 e2
      · by_cases hb : ratOf s2 X2 Y2 < 0
        · exact nSimplest_neg s1 X1 Y1 s2 X2 Y2 hz hb _ rfl w v1 v2 h1 h2 hT _ _ rfl rfl e1 e2
        · have ha : 0 < ratOf s1 X1 Y1 := by
            have h3 : 0 ≤ ratOf s2 X2 Y2 := by grind
            have : ¬ ratOf s1 X1 Y1 ≤ 0 := fun h => h0 ⟨h, h3⟩
            grind
          exact nSimplest_pos s1 X1 Y1 s2 X2 Y2 hz ha _ rfl w v1 v2 h1 h2 hT _ _ rfl rfl e1 e2
  · exact nSimplest_false_true s1 X1 Y1 s2 X2 Y2 w v1 v2 h1 h2 hT _ _ rfl rfl e1 e2
  · exact nSimplest_true_false s1 X1 Y1 s2 X2 Y2 w v1 v2 h1 h2 hT _ _ rfl rfl e1 e2
  · exact nSimplest_true_true s1 X1 Y1 s2 X2 Y2 w v1 v2 h1 h2 hT _ _ rfl rfl e1 e2
end Go.Proofs.YtfmhplcpejmkhabDoor

namespace Go.Proofs.YtfmhplcpejmkhabDoor
open Go.RowKit Dig
set_option linter.unusedVariables false
set_option linter.unusedSimpArgs false
theorem W_single {n : Nat} (h0 : n ≠ 0) (h : n < 4294967296) : W n = [(n : Int)] := by
  unfold W
  rw [dig_pos B32_two h0]
  have h1 : n < B32 := by unfold B32; exact h
  rw [Nat.div_eq_of_lt h1, dig_zero, Nat.mod_eq_of_lt h1]
theorem half_third : ratOf false 1 2 + ratOf false 1 3 = mkRat 5 6 := by
  show mkRat 1 2 + mkRat 1 3 = mkRat 5 6
  rw [Rat.mkRat_add_mkRat _ _ (by omega) (by omega)]
  rfl
theorem five_sixths : ng (mkRat 5 6) = false ∧ (mkRat 5 6).num.natAbs = 5 ∧ (mkRat 5 6).den = 6 := by
  have h1 : (mkRat 5 6).num = 5 := by rw [Rat.num_mkRat, if_neg (by omega)]; rfl
  have h2 : (mkRat 5 6).den = 6 := by rw [Rat.den_mkRat, if_neg (by omega)]; rfl
  refine ⟨?_, ?_, h2⟩
  · unfold ng; rw [h1]; rfl
  · rw [h1]; rfl
theorem fit_half (d : Nat) (h0 : d ≠ 0) (h : d < 4294967296) : fitQ (ratOf false 1 d) := by
  have e : ratOf false 1 d = mkRat 1 d := by unfold ratOf sg; rw [if_neg h0]; rfl
  rw [e]
  have h1 : (mkRat 1 d).num.natAbs ≤ 1 := by
    rw [Rat.num_mkRat, if_neg h0]; simp
  have h2 : (mkRat 1 d).den ≤ d := by
    rw [Rat.den_mkRat, if_neg h0]; exact Nat.div_le_self _ _
  exact ⟨Nat.le_trans (W_le_one (by omega)) (by omega), Nat.le_trans (W_le_one (by omega)) (by omega)⟩
theorem small_large (d : Nat) (h0 : d ≠ 0) (h : d < 4294967296) : largeB false 1 d = false := by
  unfold largeB
  rw [decide_eq_true ⟨Nat.le_trans (W_le_one (by omega)) (by omega), Nat.le_trans (W_le_one (by omega)) (by omega), fit_half d h0 h⟩]
  rfl
theorem rd_one (w : World) (g : Nat) (x : Int) (h : w.cell? ⟨g, 0, none⟩ = some (.int .u32 x)) : Rd w (some ⟨g, 0, none⟩) 1 [x] :=
  ⟨by simp, by omega, fun j hj => by
    have : j = 0 := by simpa using hj
    subst this
    exact ⟨_, rfl, by simpa [Addr.add, rd] using h⟩⟩
theorem raw_one {w : World} {g g' : Nat} {d : Nat} (h1 : w.cell? ⟨g, 0, none⟩ = some (.int .u32 1)) (h2 : w.cell? ⟨g', 0, none⟩ = some (.int .u32 d)) (h : d < 4294967296) :
    RawV w (.agg #[.bool false, .slice (some ⟨g, 0, none⟩) 1 1, .slice (some ⟨g', 0, none⟩) 1 1]) false 1 d := by
  refine ⟨_, _, [1], _, _, [(d : Int)], rfl, rd_one _ _ _ h1, rd_one _ _ _ h2, ?_, ?_, by simp [val], by simp [val], by simp, by simp⟩
  · exact Ok.cons (by omega) (by rw [B32_cast]; omega) (Ok.nil _)
  · exact Ok.cons (by omega) (by rw [B32_cast]; omega) (Ok.nil _)
theorem four_new (w : World) (a b c d : Value) (t : TypeId) : ∃ M, M = ((((w.alloc (.cells #[a] t)).alloc (.cells #[b] t)).alloc (.cells #[c] t)).alloc (.cells #[d] t)) ∧
    M.cell? ⟨w.heap.size, 0, none⟩ = some a ∧ M.cell? ⟨w.heap.size + 1, 0, none⟩ = some b ∧ M.cell? ⟨w.heap.size + 1 + 1, 0, none⟩ = some c ∧ M.cell? ⟨w.heap.size + 1 + 1 + 1, 0, none⟩ = some d ∧ Below w.heap.size w M := by
  refine ⟨_, rfl, ?_⟩
  have key : ∀ (w : World) (x : Value), (w.alloc (.cells #[x] t)).cell? ⟨w.heap.size, 0, none⟩ = some x ∧ Below w.heap.size w (w.alloc (.cells #[x] t)) ∧ (w.alloc (.cells #[x] t)).heap.size = w.heap.size + 1 := by
    intro w x
    refine ⟨?_, below_alloc _ _, by simp⟩
    exact (cell_of_row _ _ 0 _ _ (0, 0) (heap_alloc_new w (.cells #[x] t))).trans rfl
  obtain ⟨a1, b1, s1⟩ := key w a
  generalize w.alloc (.cells #[a] t) = w1 at *
  obtain ⟨a2, b2, s2⟩ := key w1 b
  generalize w1.alloc (.cells #[b] t) = w2 at *
  obtain ⟨a3, b3, s3⟩ := key w2 c
  generalize w2.alloc (.cells #[c] t) = w3 at *
  obtain ⟨a4, b4, s4⟩ := key w3 d
  generalize w3.alloc (.cells #[d] t) = w4 at *
  rw [s1] at a2 s2
  rw [s2] at a3 s3
  rw [s3] at a4
  exact ⟨cell_later b4 (cell_later b3 (cell_later b2 a1)), cell_later b4 (cell_later b3 a2), cell_later b4 a3, a4, below_step b1 b1.size (below_step b2 b2.size (below_step b3 b3.size b4))⟩
set_option maxHeartbeats 1000000 in
set_option maxRecDepth 100000 in
theorem lAwake (w : World) (hT : Tab w) : Calls Tryd.prog 17 #[] w fun e w' => e = .returned (.bool true) ∧ Below w.heap.size w w' := by
  obtain ⟨M, hM, k1, k2, k3, k4, bM⟩ := four_new w (.int .u32 1) (.int .u32 2) (.int .u32 1) (.int .u32 3) 72
  have C := Lib.hid (nAdd false 1 2 false 1 3 M _ _ (raw_one k1 k2 (by omega)) (raw_one k3 k4 (by omega)) (hT.below bM))
  rw [small_large 2 (by omega) (by omega), small_large 3 (by omega) (by omega), half_third] at C
  have BM := Lib.hid bM
  clear k1 k2 k3 k4 bM hT
  go_enter Tryd.func17, Tryd.ntmps17
  go_wp2_with fail
  rw [← hM]
  clear hM
  refine C.out.mono ?_
  rintro e wa ⟨s9, A9, n9, c9, A9', n9', c9', k9, rfl, h9, b9⟩
  have BA := Lib.hid (below_step BM.out BM.out.size b9)
  have hf : fitQ (mkRat 5 6) := by
    obtain ⟨_, h2, h3⟩ := five_sixths
    unfold fitQ
    rw [h2, h3]
    exact ⟨Nat.le_trans (W_le_one (by omega)) (by omega), Nat.le_trans (W_le_one (by omega)) (by omega)⟩
  have hg : (if (false || false) = true then Out.err 1 else give (mkRat 5 6)) = .ok (mkRat 5 6) := by
    show give (mkRat 5 6) = _
    unfold give
    rw [if_pos hf]
  rw [hg] at h9
  obtain ⟨rfl, ⟨B1, b1, B2, b2, e, r1, r2⟩, _⟩ := h9
  obtain ⟨h1, h2, h3⟩ := five_sixths
  rw [h1, h2, h3] at e
  rw [h2, W_single (by omega) (by omega)] at r1
  rw [h3, DW, if_neg (by omega), W_single (by omega) (by omega)] at r2
  rw [W_single (by omega) (by omega), DW, if_neg (by omega), W_single (by omega) (by omega)] at e
  obtain ⟨p1, rfl⟩ := r1.some_ (by simp)
  obtain ⟨p2, rfl⟩ := r2.some_ (by simp)
  simp only [Value.agg.injEq, Array.mk.injEq, List.cons.injEq, Value.bool.injEq, Value.slice.injEq, and_true, List.length_cons, List.length_nil] at e
  obtain ⟨rfl, ⟨rfl, rfl, rfl⟩, rfl, rfl, rfl⟩ := e
  have q1 := r1.cell 0 (by simp)
  have q2 := r2.cell 0 (by simp)
  have e1 := r1.le
  have e2 := r2.le
  have e3 := r1.max
  have e4 := r2.max
  replace q1 : wa.cell? p1 = some (.int .u32 5) := by simpa [Addr.add, rd] using q1
  replace q2 : wa.cell? p2 = some (.int .u32 6) := by simpa [Addr.add, rd] using q2
  simp only [List.length_cons, List.length_nil] at e1 e2
  have ba := below_alloc wa (.cells #[.bool false, .slice (some p1) 1 c9, .slice (some p2) 1 c9'] 24)
  have q3 := cell_later ba q1
  have q4 := cell_later ba q2
  have BB := Lib.hid (below_step BA.out BA.out.size ba)
  clear r1 r2 ba C
  go_wp2
  go_ret
  exact ⟨rfl, BB.out⟩
end Go.Proofs.YtfmhplcpejmkhabDoor

namespace Go.Proofs.YtfmhplcpejmkhabDoor
open Go.RowKit Dig
set_option linter.unusedVariables false
set_option linter.unusedSimpArgs false
set_option maxHeartbeats 4000000 in
set_option maxRecDepth 100000 in
theorem wNumberSimplest (s1 : Bool) (N1 D1 : Nat) (s2 : Bool) (N2 D2 : Nat)  (w : World) (v1 v2 : Value) (h1 : RawV w v1 s1 N1 D1) (h2 : RawV w v2 s2 N2 D2) (hT : Tab w) :
    Calls Tryd.prog 11 #[v1, v2] w fun e w' => e = .returned (.bool true) ∧ Below w.heap.size w w' := by
  have H1 := Lib.hid h1
  have H2 := Lib.hid h2
  have HT := Lib.hid hT
  obtain ⟨A1, n1, c1, A1', n1', c1', rfl⟩ := h1.shape
  obtain ⟨A2, n2, c2, A2', n2', c2', rfl⟩ := h2.shape
  clear hT h1 h2
  obtain ⟨M, hM, k1, k2, bM⟩ := start1 w (.bool s1) (.slice A1 n1 c1) (.slice A1' n1' c1') (.bool s2) (.slice A2 n2 c2) (.slice A2' n2' c2') 24 24
  have HX1 := Lib.hid k1
  have HX2 := Lib.hid k2
  have BM := Lib.hid bM
  replace HT := Lib.hid (HT.out.below bM)
  replace H1 := Lib.hid (H1.out.below bM)
  replace H2 := Lib.hid (H2.out.below bM)
  have C1 := Lib.hid (fun (w : World) (h1 : RawV w (.agg #[.bool s1, .slice A1 n1 c1, .slice A1' n1' c1']) s1 N1 D1) (h2 : RawV w (.agg #[.bool s2, .slice A2 n2 c2, .slice A2' n2' c2']) s2 N2 D2) (t : Tab w) => nSimplest s1 N1 D1 s2 N2 D2 w _ _ h1 h2 t)
  have C2 := Lib.hid (fun (w : World) (h1 : RawV w (.agg #[.bool s1, .slice A1 n1 c1, .slice A1' n1' c1']) s1 N1 D1) (h2 : RawV w (.agg #[.bool s2, .slice A2 n2 c2, .slice A2' n2' c2']) s2 N2 D2) (t : Tab w) => lSimplest s1 N1 D1 s2 N2 D2 w _ _ h1 h2)
  obtain ⟨oA, hoA⟩ : ∃ o, simpOut (largeB s1 N1 D1 || largeB s2 N2 D2) (ratOf s1 N1 D1) (ratOf s2 N2 D2) = o := ⟨_, rfl⟩
  rw [hoA] at C1 C2
  clear hoA
  clear bM k1 k2
  go_enter Tryd.func11, Tryd.ntmps11
  go_upto_region 1 with (fail)
  rw [← hM]
  clear hM
  obtain ⟨x1, y1, z1, _, _, _⟩ := HX1.out.cells
  obtain ⟨x2, y2, z2, _, _, _⟩ := HX2.out.cells
  go_wp2_with fail
  refine (C1.out _ H1.out H2.out HT.out).mono ?_
  rintro e w1 ⟨p1, P1, m1, d1, P1', m1', d1', k1, rfl, h1, b1⟩
  have bb := below_step b1 b1.size (below_alloc w1 (.cells #[.bool p1, .slice P1 m1 d1, .slice P1' m1' d1'] 24))
  have HO1 := Lib.hid (h1.below (below_alloc w1 (.cells #[.bool p1, .slice P1 m1 d1, .slice P1' m1' d1'] 24)))
  have HZ1 := Lib.hid (Box.new w1 (.bool p1) (.slice P1 m1 d1) (.slice P1' m1' d1') 24)
  replace HT := Lib.hid (HT.out.below bb)
  replace H1 := Lib.hid (H1.out.below bb)
  replace H2 := Lib.hid (H2.out.below bb)
  replace HX1 := Lib.hid (HX1.out.below bb)
  replace HX2 := Lib.hid (HX2.out.below bb)
  have BM := Lib.hid (below_step BM.out BM.out.size bb)
  obtain ⟨v1, hv⟩ : ∃ v, w1.alloc (.cells #[.bool p1, .slice P1 m1 d1, .slice P1' m1' d1'] 24) = v := ⟨_, rfl⟩
  clear bb b1 h1
  clear x1 y1 z1 x2 y2 z2
  go_upto_region 2 with (fail)
  rw [hv] at BM HT H1 H2 HX1 HX2 HO1 HZ1
  try rw [hv]
  clear hv
  obtain ⟨x1, y1, z1, _, _, _⟩ := HX1.out.cells
  obtain ⟨x2, y2, z2, _, _, _⟩ := HX2.out.cells
  go_wp2_with fail
  refine (C2.out _ H1.out H2.out HT.out).mono ?_
  rintro e w2 ⟨p2, P2, m2, d2, P2', m2', d2', k2, rfl, h2, b2⟩
  have bb := below_step b2 b2.size (below_alloc w2 (.cells #[.bool p2, .slice P2 m2 d2, .slice P2' m2' d2'] 24))
  have HO2 := Lib.hid (h2.below (below_alloc w2 (.cells #[.bool p2, .slice P2 m2 d2, .slice P2' m2' d2'] 24)))
  have HZ2 := Lib.hid (Box.new w2 (.bool p2) (.slice P2 m2 d2) (.slice P2' m2' d2') 24)
  replace HT := Lib.hid (HT.out.below bb)
  replace H1 := Lib.hid (H1.out.below bb)
  replace H2 := Lib.hid (H2.out.below bb)
  replace HX1 := Lib.hid (HX1.out.below bb)
  replace HX2 := Lib.hid (HX2.out.below bb)
  replace HO1 := Lib.hid (HO1.out.below bb)
  replace HZ1 := Lib.hid (HZ1.out.below bb)
  have BM := Lib.hid (below_step BM.out BM.out.size bb)
  obtain ⟨v2, hv⟩ : ∃ v, w2.alloc (.cells #[.bool p2, .slice P2 m2 d2, .slice P2' m2' d2'] 24) = v := ⟨_, rfl⟩
  clear bb b2 h2
  clear x1 y1 z1 x2 y2 z2
  go_upto_region 3 with (fail)
  rw [hv] at BM HT H1 H2 HX1 HX2 HO1 HZ1 HO2 HZ2
  try rw [hv]
  clear hv
  obtain ⟨x1, y1, z1, _, _, _⟩ := HZ1.out.cells
  obtain ⟨x2, y2, z2, _, _, _⟩ := HZ2.out.cells
  go_wp2_with fail
  refine (lIs_out oA _ _ _ _ _ _ _ _ _ _ _ _ _ _ _ _ _ HO1.out HO2.out).mono ?_
  rintro e w9 ⟨rfl, b9⟩
  replace HT := Lib.hid (HT.out.below b9)
  replace HO1 := Lib.hid (HO1.out.below b9)
  replace HO2 := Lib.hid (HO2.out.below b9)
  replace HZ1 := Lib.hid (HZ1.out.below b9)
  replace HZ2 := Lib.hid (HZ2.out.below b9)
  replace BM := Lib.hid (below_step BM.out BM.out.size b9)
  clear b9 x1 y1 z1 x2 y2 z2
  go_wp2_with fail
  refine (lAwake _ HT.out).mono ?_
  rintro e w9 ⟨rfl, b9⟩
  replace BM := Lib.hid (below_step BM.out BM.out.size b9)
  clear b9
  go_wp2
  go_ret
  exact ⟨rfl, BM.out⟩
end Go.Proofs.YtfmhplcpejmkhabDoor

namespace Go.Proofs.YtfmhplcpejmkhabDoor
open Go.ChangeShapes Go.WideShapes Go.ChangeAt Go.RowKit Dig
set_option linter.unusedVariables false
set_option linter.unusedSimpArgs false
theorem own : ownKnob Tryd.prog.godebug = none := by kernel_rfl
theorem gTab : Tryd.prog.globalNamed "math/bits.deBruijn32tab" = some 0 := by kernel_rfl
theorem gTabType : (Tryd.prog.globals[0]?).map (·.type) = some 131 := by kernel_rfl
theorem cellsTab : Tryd.prog.cellsOf 131 = 32 := by kernel_rfl
theorem cellsU8 : Tryd.prog.cellsOf 5 = 1 := by kernel_rfl
theorem cellsU32 : Tryd.prog.cellsOf 72 = 1 := by kernel_rfl
theorem cellsRat : Tryd.prog.cellsOf 24 = 3 := by kernel_rfl
theorem laidOut : laidOutB Tryd.prog = true := by kernel_rfl
theorem tab_of {W : World} (h : laidMetH Tryd.prog [("math/bits.deBruijn32tab", Rows.laid_math_bits_deBruijn32tab)] W) : Tab W := by
  have t : Lib.TabIs Tryd.prog W "math/bits.deBruijn32tab" .u8 (Lib.deBruijn32tab.map Int.ofNat) :=
    Lib.tabIs_of_head (rest := []) gTab gTabType Tryd.underlying131 Tryd.underlying5 cellsU8 cellsTab h
  intro j hj
  have hc := t.cell gTab j (by simpa using hj)
  rw [hc]
  congr 2
  simp [List.getD, hj]
set_option maxRecDepth 100000 in
/-- a slice of words that comes in -/
theorem open_rd {H : Type} {enc : TypeId × Value → H} {W : World} {n : Nat} {v : Value} {y : DataW H × List MemPlace} (h : DataW.trod enc Tryd.prog W 0 (fun _ => true) true n 22 [v] = some y) :
    ∃ A c l, v = .slice A l.length c ∧ Rd W A c l ∧ Ok B32 l ∧ l.length < Rows.uptoBulk y.1 := by
  rcases open_ints Tryd.underlying22 Tryd.underlying72 cellsU32 h with ⟨e, rfl⟩ | ⟨a, len, cap, zs, e, _, hl, hm, hz, rfl, hc, hw⟩
  · obtain rfl : v = .slice none 0 0 := by simpa using e
    exact ⟨none, 0, [], rfl, ⟨Nat.le_refl _, Nat.zero_le _, fun j hj => absurd hj (Nat.not_lt_zero _)⟩, (fun x (hx : x ∈ []) => by simp at hx), by simp [Rows.uptoBulk]⟩
  · obtain rfl : v = .slice (some a) len cap := by simpa using e
    rw [if_pos rfl] at hz
    refine ⟨some a, cap, zs.take len, by simp [hz, Nat.min_eq_left hl], ⟨by simp [hz]; omega, by unfold maxLen at hm; omega, ?_⟩, ?_, ?_⟩
    · intro j hj
      have hj' : j < len := by simp [hz] at hj; omega
      refine ⟨a, rfl, ?_⟩
      rw [hc j (by omega)]
      have : j < zs.length := by omega
      simp [rd, List.getD, hj', List.getElem?_take]
    · intro x hx
      have := hw x (List.mem_of_mem_take hx)
      simp only [Lit.wf, Bool.and_eq_true, decide_eq_true_eq] at this
      have e1 : IntKind.min .u32 = 0 := by decide
      have e2 : IntKind.max .u32 = 4294967295 := by decide
      rw [e1, e2] at this
      unfold B32
      omega
    · have : ∀ l : List (DataW H), l.length ≤ Rows.uptoBulkAll l := by
        intro l
        induction l with
        | nil => simp [Rows.uptoBulkAll]
        | cons x r ih =>
          have h1 : 1 ≤ Rows.uptoBulk x := by
            cases x with
            | lit l => cases l <;> simp [Rows.uptoBulk]
            | _ => simp [Rows.uptoBulk]
          simp only [Rows.uptoBulkAll, List.length_cons]
          omega
      have h2 := this (lits (H := H) .u32 (zs.take len))
      have h3 : (lits (H := H) .u32 (zs.take len)).length = (zs.take len).length := by simp [lits]
      simp only [Rows.uptoBulk]
      omega
theorem fin_agg3 {H : Type} (a b c : DataW H) : Rows.uptoBulk b < Rows.uptoBulk (.agg [a, b, c]) ∧ Rows.uptoBulk c < Rows.uptoBulk (.agg [a, b, c]) := by
  have h1 : ∀ x : DataW H, 1 ≤ Rows.uptoBulk x := by
    intro x
    cases x with
    | lit l => cases l <;> simp [Rows.uptoBulk]
    | _ => simp [Rows.uptoBulk]
  have ha := h1 a
  have hb := h1 b
  have hc := h1 c
  simp only [Rows.uptoBulk, Rows.uptoBulkAll]
  omega
set_option maxRecDepth 100000 in
/-- a number that comes in, whatever its length -/
theorem open_rat {H : Type} {enc : TypeId × Value → H} {W : World} {b0 : Nat} {v : Value} {d : DataW H} {p : List MemPlace} (hv : Value.okWide Tryd.prog W .any b0 24 v) (h : DataW.Trod enc Tryd.prog W 0 (fun _ => true) true 24 v d p) :
    ∃ s A1 c1 l1 A2 c2 l2, v = .agg #[.bool s, .slice A1 l1.length c1, .slice A2 l2.length c2] ∧ Rd W A1 c1 l1 ∧ Rd W A2 c2 l2 ∧ Ok B32 l1 ∧ Ok B32 l2 ∧ l1.length + 1 < Rows.uptoBulk d ∧ l2.length + 1 < Rows.uptoBulk d := by
  obtain ⟨v0, v1, v2, y0, y1, y2, n, rfl, rfl, rfl, h0, h1, h2⟩ := Joins.open_agg3 Tryd.underlying24 (by kernel_rfl) cellsRat hv h
  obtain ⟨A1, c1, l1, rfl, r1, o1, k1⟩ := open_rd h1
  obtain ⟨A2, c2, l2, rfl, r2, o2, k2⟩ := open_rd h2
  have hb : ∃ s, v0 = .bool s := by
    obtain ⟨s, h', _⟩ := DataW.trod_bool Tryd.underlying4 h0
    exact ⟨s, by simpa using h'⟩
  obtain ⟨s, rfl⟩ := hb
  obtain ⟨q1, q2⟩ := fin_agg3 y0.1 y1.1 y2.1
  exact ⟨s, A1, c1, l1, A2, c2, l2, rfl, r1, r2, o1, o2, by omega, by omega⟩
set_option maxRecDepth 100000 in
theorem open_raw {H : Type} {enc : TypeId × Value → H} {W : World} {b0 : Nat} {v : Value} {d : DataW H} {p : List MemPlace} (hv : Value.okWide Tryd.prog W .any b0 24 v) (h : DataW.Trod enc Tryd.prog W 0 (fun _ => true) true 24 v d p)
    (hk : Rows.uptoBulk d ≤ 1048576) : ∃ s N D, RawV W v s N D := by
  obtain ⟨s, A1, c1, l1, A2, c2, l2, e, r1, r2, o1, o2, k1, k2⟩ := open_rat hv h
  obtain ⟨N, hN⟩ := Int.eq_ofNat_of_zero_le (val_nonneg o1)
  obtain ⟨D, hD⟩ := Int.eq_ofNat_of_zero_le (val_nonneg o2)
  exact ⟨s, N, D, A1, c1, l1, A2, c2, l2, e, r1, r2, o1, o2, hN, hD, by omega, by omega⟩
set_option maxRecDepth 100000 in
/-- the arguments read behind the call as they did -/
theorem stays {H : Type} {enc : TypeId × Value → H} {W W' : World} (hb : Below W.heap.size W W') {sp : Nat → Bool} :
    ∀ {ts : List TypeId} {vs : List Value} {ds : List (DataW H)} {ps : List MemPlace}, (∀ t ∈ ts, Tryd.prog.readableRec t = true ∧ t < Tryd.prog.types.size) →
      DataW.TrodAll enc Tryd.prog W 0 (fun _ => true) true ts vs ds ps → (∀ p ∈ ps, sp p.block = true) → DataW.TrodAll enc Tryd.prog W' 0 sp true ts vs ds ps
  | [], [], [], _, _, h, _ => h
  | _ :: _, _ :: _, _ :: _, _, hT, h, hs => by
    have hlt := h.lt
    obtain ⟨p, q, h1, h2, e⟩ := h
    refine ⟨p, q, ?_, stays hb (fun t ht => hT t (List.mem_cons.2 (Or.inr ht))) h2 (fun x hx => hs x (by rw [e]; exact List.mem_append_right _ hx)), e⟩
    exact WideElems.Trod_stays laidOut (hT _ (List.mem_cons.2 (Or.inl rfl))).1 (hT _ (List.mem_cons.2 (Or.inl rfl))).2 h1
      (fun x hx => hb.same (hlt x (by rw [e]; exact List.mem_append_left _ hx))) (fun x hx => hs x (by rw [e]; exact List.mem_append_left _ hx))
set_option maxRecDepth 100000 in
/-- what the answer true gives, where nothing old has turned -/
theorem said_true {H : Type} {enc : TypeId × Value → H} {f : Func} {s : ChangeSpec} {W W' : World} {args : Array Value} {ds gs : List (DataW H)} {before : List MemPlace}
    (hW : DataW.Whole enc Tryd.prog f.params.toList s.vars false W args.toList ds gs before) (hv : s.vars = []) (hT : ∀ t ∈ f.params.toList, Tryd.prog.readableRec t = true ∧ t < Tryd.prog.types.size)
    (hr : f.resultTypes = #[4]) (e1 : (s.fn H (ds ++ gs)).results = [.lit (.bool true)]) (e2 : (s.fn H (ds ++ gs)).args = ds) (e3 : (s.fn H (ds ++ gs)).vars = []) (hb : Below W.heap.size W W') :
    s.post enc Tryd.prog f false true false false W args (.bool true) W' := by
  have hW' := hW
  obtain ⟨p, q, hA, hV, rfl, _, _⟩ := hW'
  rw [hv] at hV
  obtain ⟨rfl, rfl⟩ := trodVars_none hV
  have lt := hW.lt
  have ok : ∀ (j : Nat) (t : TypeId) (r : Value), f.resultTypes[j]? = some t → ((Value.bool true).resultList f.resultTypes.size)[j]? = some r → Value.okWide Tryd.prog W' .any 0 t r := ok_one hr rfl (okWide_bool_mk Tryd.underlying4 _)
  have res : ∀ (b : Nat) (sp : Nat → Bool) (hd : Bool), DataW.TrodAll enc Tryd.prog W' b sp hd f.resultTypes.toList ((Value.bool true).resultList f.resultTypes.size) (s.fn H (ds ++ [])).results [] := fun _ _ _ => by
    rw [e1, hr]
    exact trodAll_mk1 (shut_bool Tryd.underlying4 _)
  have arg : ∀ sp : Nat → Bool, (∀ x ∈ p ++ [], sp x.block = true) → DataW.TrodAll enc Tryd.prog W' 0 sp true f.params.toList args.toList (s.fn H (ds ++ [])).args p := fun sp hs => by
    rw [e2]
    exact stays hb hT hA (fun x hx => hs x (by simpa using hx))
  have var : ∀ sp : Nat → Bool, DataW.TrodVars enc Tryd.prog W' sp s.vars (s.fn H (ds ++ [])).vars [] := fun _ => by
    rw [e3, hv]
    rfl
  have hold : ∀ x ∈ p ++ [], (fun b => decide (b < W.heap.size)) x.block = true := fun x hx => by simpa using lt x hx
  refine ⟨ds, [], p ++ [], [], p, [], hW, res _ _ _, arg _ hold, var _, hb.frame _, fun h => by cases h⟩
end Go.Proofs.YtfmhplcpejmkhabDoor

namespace Go.Proofs.YtfmhplcpejmkhabDoor.lawNumberSimplest
open Go.ChangeShapes Go.WideShapes Go.ChangeAt Go.RowKit Dig
set_option linter.unusedVariables false
set_option linter.unusedSimpArgs false
set_option maxRecDepth 100000 in
theorem contract (H : Type) (enc : TypeId × Value → H) (W : World) (base : Nat) (args : Array Value) (ds gs : List (DataW H)) (before : List MemPlace)
    (hval : ∀ (j : Nat) t v, Tryd.f11.params[j]? = some t → args[j]? = some v → Value.okWide Tryd.prog W .any base t v)
    (hW : DataW.Whole enc Tryd.prog Tryd.f11.params.toList Rows.numberSimplestSpec.vars false W args.toList ds gs before) (hL : laidMetH Tryd.prog Rows.numberSimplestUptoRow.laid W)
    (hk : Rows.uptoBulkAll (ds ++ gs) ≤ 1048576) :
    Calls Tryd.prog 11 args W fun e W' => ∃ v, e = .returned v ∧ Rows.numberSimplestSpec.post enc Tryd.prog Tryd.f11 false true false false W args v W' := by
  have hW' := hW
  obtain ⟨p, q, hA0, hV, rfl, hfz, hnd⟩ := hW
  have hA : DataW.TrodAll enc Tryd.prog W 0 (fun _ => true) true Tryd.f11.params.toList args.toList ds p := hA0
  rw [Tryd.params11] at hA hval
  obtain ⟨v0, vs0, d0, ds0, p0, q0, hv0, rfl, rfl, h0, r0⟩ := trodAll_cons hA
  obtain ⟨v1, vs1, d1, ds1, p1, q1, hv1, rfl, rfl, h1, r1⟩ := trodAll_cons r0
  obtain ⟨hn, rfl, rfl⟩ := trodAll_nil r1
  obtain rfl : args = #[v0, v1] := by cases args; simp_all
  obtain ⟨rfl, rfl⟩ := trodVars_none hV
  have hT := tab_of hL
  simp only [List.append_nil, Rows.uptoBulkAll] at hk
  obtain ⟨s0, N0, D0, k0⟩ := open_raw (hval 0 24 v0 rfl rfl) h0 (by omega)
  obtain ⟨s1, N1, D1, k1⟩ := open_raw (hval 1 24 v1 rfl rfl) h1 (by omega)
  refine (wNumberSimplest s0 N0 D0 s1 N1 D1 W _ _ k0 k1 hT).mono fun e W' ⟨he, hb⟩ => ?_
  subst he
  exact ⟨_, rfl, said_true hW' rfl (by rw [Tryd.params11]; intro t ht; simp at ht; subst ht; exact ⟨by kernel_rfl, of_decide_eq_true (by kernel_rfl)⟩) (by kernel_rfl) rfl rfl rfl hb⟩

noncomputable def laidWorld (os : Os) : World :=
  { World.holding Tryd.prog os ⟨#[], #[], []⟩ with heap := (World.holding Tryd.prog os ⟨#[], #[], []⟩).heap.modify 0 fun
      | .cells _ t frozen => .cells ((Lib.deBruijn32tab.map fun n => Value.int .u8 (Int.ofNat n)).toArray) t frozen
      | o => o }
theorem laid_met (os : Os) : laidMet Tryd.prog Rows.numberSimplestUptoRow.laid ((laidWorld os).forCall (fun _ _ => 0) ⟨#[], #[.agg #[.bool false, .slice none 0 0, .slice none 0 0], .agg #[.bool false, .slice none 0 0, .slice none 0 0]], []⟩).memory :=
  laidMet_of_run' 64 (by kernel_rfl) (by kernel_rfl)
theorem reads (os : Os) {H : Type} (enc : TypeId × Value → H) : ∃ places, DataW.whole enc Tryd.prog ((laidWorld os).forCall (fun _ _ => 0) ⟨#[], #[.agg #[.bool false, .slice none 0 0, .slice none 0 0], .agg #[.bool false, .slice none 0 0, .slice none 0 0]], []⟩).memory Tryd.f11.params.toList Rows.numberSimplestSpec.vars false (#[.agg #[.bool false, .slice none 0 0, .slice none 0 0], .agg #[.bool false, .slice none 0 0, .slice none 0 0]] : Array Value).toList 64 = some ([.agg [.lit (.bool false), .nil, .nil], .agg [.lit (.bool false), .nil, .nil]], [], places) :=
  ⟨[], by kernel_rfl⟩
set_option maxRecDepth 100000 in
theorem lifted (os : Os) (started : os.Started) (H : Type) (enc : TypeId × Value → H) (F : Stop.Interp) :
    ReturnsInHanded {} Tryd.checked os 11 .any ((Rows.OpenSpec.upto Rows.numberSimplestSpec).preRow enc Tryd.prog Tryd.f11 Rows.numberSimplestUptoRow.domain false Rows.numberSimplestUptoRow.laid) (((Rows.OpenSpec.upto Rows.numberSimplestSpec).at F).post enc Tryd.prog Tryd.f11 false true false false) := by
  obtain ⟨places, hx⟩ := reads os enc
  refine returnsInHanded_of_row (C := Tryd.checked) (s := Rows.OpenSpec.upto Rows.numberSimplestSpec) own started (by kernel_rfl) Tryd.func11
    (witness_row_at (enc := enc) (C := Tryd.checked) false (laidWorld os) #[.agg #[.bool false, .slice none 0 0, .slice none 0 0], .agg #[.bool false, .slice none 0 0, .slice none 0 0]] rfl (by kernel_rfl) (by kernel_rfl) (by kernel_rfl)
      (OpenSpec.preRow_of_cond 64 hx (by kernel_rfl) (fun k hk => by cases hk; kernel_rfl) (by kernel_rfl) (laid_met os))) ?_
  intro W base args ds gs before hval hW _ hcond hreach hL _ _
  exact contract H enc W base args ds gs before hval hW hL (by simpa [Rows.uptoSmall] using hcond _ rfl)
theorem said : Rows.NumberSimplestUptoSaid :=
  OpenClaim.holds_of_cond 11 Tryd.f11 rfl rfl rfl rfl rfl rfl rfl ⟨rfl, rfl, rfl, rfl, rfl⟩ rfl rfl rfl rfl rfl (by kernel_rfl) Tryd.func11 (by kernel_rfl)
    (of_decide_eq_true (by kernel_rfl)) (by unfold Func.isWrapper; first | (rw [if_pos (by decide +kernel)]; kernel_rfl) | (rw [if_neg (by decide +kernel)]; exact ⟨rfl, rfl⟩))
    (fun os started H enc _ F => by rw [OpenClaim.pre_eq_preRow]; exact lifted os started H enc F)
theorem plain (f : FuncId) (fn : Func) (hf : Tryd.pinned.checked.prog.funcNamed "inequality/inequalitylaw01.NumberSimplest" = some f) (hfn : Tryd.pinned.checked.prog.funcs[f]? = some fn) :
    false = Tryd.pinned.checked.prog.looks [] ∧ ∀ (j : Nat) t, fn.params[j]? = some t → Tryd.pinned.checked.prog.wantsStandIn t = false := by
  obtain rfl : f = 11 := Option.some.inj ((show Tryd.prog.funcNamed "inequality/inequalitylaw01.NumberSimplest" = some 11 by kernel_rfl).symm.trans hf) |>.symm
  obtain rfl : fn = Tryd.f11 := (Option.some.inj (Tryd.func11.symm.trans hfn)).symm
  refine ⟨by kernel_rfl, fun j t ht => ?_⟩
  rw [Tryd.params11] at ht
  have hm := Array.mem_of_getElem? ht
  simp at hm
  subst hm
  exact (show Tryd.prog.wantsStandIn 24 = false by kernel_rfl)
theorem card : Rows.NumberSimplestUptoCardSaid :=
  Claim7.holds_tied_plain_at .later [] _ _ _ _ said (fun _ h => by cases h) (by kernel_rfl) (fun _ h => by cases h) numberSimplestUpto_row_tie rfl ⟨rfl, rfl⟩ (by kernel_rfl) rfl plain (by kernel_rfl)
end Go.Proofs.YtfmhplcpejmkhabDoor.lawNumberSimplest
