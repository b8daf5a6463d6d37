/-
  Contracts of number.round, Down, Up. Under the premise that the table of math/bits lies as its initialiser lays it.
  Contracts of two values that have been read.
  How rational numbers compare: plain laws.
  Contracts of number.Compare. Under the premise that the table of math/bits lies as its initialiser lays it.
  Results of operations as values: an error's value is the zero value.
  The program's natural numbers as values of a known number: contracts by what they denote.
  The grid's neighbours: plain laws.
  The number with the least denominator between two: plain laws.
  A slice of fractions that the call itself grows by append: what it holds. Plain laws on how many it may hold.
  Contracts of the reference: NatPow, Power of a number that is not negative.
  Powers of rational numbers, as the program and the reference have them.
  Contracts of number.Pow. Under the premise that the table of math/bits lies as its initialiser lays it.
  Contracts of number.simplest. Under the premise that the table of math/bits lies as its initialiser lays it.
  Words for the statements' walks: values in variables that stay.
  Contracts: number.FromInt; and canonical values in variables. Under the premise that the table of math/bits lies as its initialiser lays it.
  A region that draws its order, whose last operations write cells that its loads read: a condition on the world that is to hold only until operation number k, the first of those writes, has come up; every load ahead of it may be taken first.
-/
import Derived.Deep.RegionHeld3
import Derived.Test.YtfmhplcpejmkhabDoorPSimplestC
namespace Go.Proofs.YtfmhplcpejmkhabDoor
open Go.RowKit Dig
set_option linter.unusedVariables false
set_option linter.unusedSimpArgs false
/-- a value that has been read, and a variable for a result -/
structure N1 (w M : World) (g3 g : Nat) (s : Bool) (A1 : Option Addr) (n1 c1 : Nat) (B1 : Option Addr) (m1 d1 : Nat) : Prop where
  res : Res M g3 24
  box : Box M g (.bool s) (.slice A1 n1 c1) (.slice B1 m1 d1) 65
  tab : Tab M
  bel : Below w.heap.size w M
  n3 : w.heap.size ≤ g3
  ne : g ≠ g3
theorem N1.below {w M M' : World} {g3 g : Nat} {s : Bool} {A1 : Option Addr} {n1 c1 : Nat} {B1 : Option Addr} {m1 d1 : Nat} (h : N1 w M g3 g s A1 n1 c1 B1 m1 d1) (hb : Below M.heap.size M M') : N1 w M' g3 g s A1 n1 c1 B1 m1 d1 :=
  ⟨h.res.below hb, h.box.below hb, h.tab.below hb, below_step h.bel h.bel.size hb, h.n3, h.ne⟩
theorem Calls.partsF {f : Nat} {args : Array Value} {w : World} {q : Rat} (h : Calls Tryd.prog f args w fun e w' => ∃ u, e = .returned u ∧ IsF w' u q ∧ Below w.heap.size w w') :
    Calls Tryd.prog f args w fun e w' => ∃ t B1 m1 e1 B2 m2 e2, e = .returned (.agg #[.bool t, .slice B1 m1 e1, .slice B2 m2 e2]) ∧ Hid (IsF w' (.agg #[.bool t, .slice B1 m1 e1, .slice B2 m2 e2]) q) ∧ Below w.heap.size w w' := by
  refine h.mono ?_
  rintro e w' ⟨u, rfl, hq, hb⟩
  have hq2 := hq
  obtain ⟨A1, c1, A2, c2, rfl, r1, r2⟩ := hq
  exact ⟨_, _, _, _, _, _, _, rfl, hq2, hb⟩
def gridOut (L : Bool) (p : Int) (up : Bool) (q : Rat) : Out := if L = true then .err 1 else if p < 0 ∨ 256 < p then .err 2 else give (gridQ q p.toNat up)
theorem fGrid (a : Rat) (p : Nat) (up : Bool) (lp : p ≤ 100000) (w : World) (v1 : Value) (h1 : IsF w v1 a) (k : Wq 200000 a) (hT : Tab w) : Calls Tryd.prog 116 #[v1, .int .i64 p, .bool up] w fun e w' => ∃ u, e = .returned u ∧ IsF w' u (gridQ a p up) ∧ Below w.heap.size w w' := by
  obtain ⟨A1, c1, A2, c2, rfl, r1, r2⟩ := h1
  exact fracGrid _ _ _ p up w _ _ _ _ r1 r2 k.1 k.2 lp a.den_nz hT
set_option maxHeartbeats 2000000 in
set_option maxRecDepth 100000 in
theorem nround_large (s1 : Bool) (N1' D1' : Nat) (p : Int) (up : Bool) (w : World) (v1 : Value) (h1 : RawV w v1 s1 N1' D1') (hT : Tab w) (q : Rat) (hq : ratOf s1 N1' D1' = q) (hL : largeB s1 N1' D1' = true) :
    Calls Tryd.prog 82 #[v1, .int .i64 p, .bool up] w (OutPost w (Out.err 1)) := by
  have H1 := Lib.hid h1
  have HT := Lib.hid hT
  obtain ⟨A1, n1, c1, A1', n1', c1', rfl⟩ := h1.shape
  clear h1 hT
  obtain ⟨M, hM, k1, k3, bM⟩ := start1 w (.bool s1) (.slice A1 n1 c1) (.slice A1' n1' c1') (.bool false) (.slice none 0 0) (.slice none 0 0) 24 24
  have HX := Lib.hid k1
  have HR := Lib.hid (show Res M (w.heap.size + 1) 24 from ⟨_, _, _, NI.bool _, NI.slice _ _ _, NI.slice _ _ _, k3⟩)
  have BM := Lib.hid bM
  replace H1 := Lib.hid (H1.out.below bM)
  replace HT := Lib.hid (HT.out.below bM)
  have HQ := Lib.hid hq
  have HL := Lib.hid hL
  obtain ⟨o, ho⟩ : ∃ o, Out.err 1 = o := ⟨_, rfl⟩
  have HO := Lib.hid ho
  rw [ho]
  clear hq hL k1 k3 bM ho
  go_enter Tryd.func82, Tryd.ntmps82
  go_upto_region 1 with (fail)
  rw [← hM]
  clear hM
  obtain ⟨x1, x2, x3, _, _, _⟩ := HX.out.cells
  go_wp2_with fail
  refine (readV _ s1 N1' D1' _ H1.out HT.out).mono ?_
  rw [HL.out, Bool.not_true]
  rintro e wa ⟨t1, B1, m1, d1, B1', m1', d1', rfl, f1, ba⟩
  have bb := below_step ba ba.size (below_alloc wa (.cells #[.bool t1, .slice B1 m1 d1, .slice B1' m1' d1'] 65))
  have hf1 := Box.new wa (.bool t1) (.slice B1 m1 d1) (.slice B1' m1' d1') 65
  have szw : w.heap.size + 1 < wa.heap.size := Nat.lt_of_lt_of_le (by obtain ⟨_, _, _, _, _, _, hh⟩ := HR.out; exact hh.lt) ba.size
  have TA : Hid (N1 w (wa.alloc (.cells #[.bool t1, .slice B1 m1 d1, .slice B1' m1' d1'] 65)) (w.heap.size + 1) wa.heap.size t1 B1 m1 d1 B1' m1' d1') :=
    Lib.hid ⟨HR.out.below bb, hf1, HT.out.below bb, below_step BM.out BM.out.size bb, by omega, by omega⟩
  obtain ⟨w2, hw2⟩ : ∃ w2, wa.alloc (.cells #[.bool t1, .slice B1 m1 d1, .slice B1' m1' d1'] 65) = w2 := ⟨_, rfl⟩
  obtain ⟨gf, hgf⟩ : ∃ gf, wa.heap.size = gf := ⟨_, rfl⟩
  clear x1 x2 x3 ba bb f1 hf1 szw HR BM HX H1 HT
  go_upto_region 2 with (fail)
  rw [hw2] at TA
  try rw [hw2]
  rw [hgf] at TA
  try rw [hgf]
  clear hw2 hgf
  obtain ⟨y1, y2, y3, _⟩ := TA.out.box.cells
  obtain ⟨z1, z2, z3, hy1, hy2, hy3, f1, f2, f3⟩ := TA.out.res.cells
  obtain ⟨q0, q1, q2, hs, hb⟩ := OutIs.stored (o := .err 1) (k := 1) (s := false) (A1 := none) (A2 := none) (n1 := 0) (c1 := 0) (n2 := 0) (c2 := 0) ⟨rfl, rfl, by omega, by omega⟩ TA.out.res TA.out.bel TA.out.n3
  have Q := Lib.hid (And.intro q0 (And.intro q1 q2))
  have HBB := Lib.hid hb
  clear q0 q1 q2 hs hb
  go_wp2_with fail
  obtain ⟨q0, q1, q2⟩ := Q.out
  refine bodyPost_ret (v := .tuple #[noRat, .int .i64 1]) (by simp [results, Tryd.results82, go_sem, q0, q1, q2, noRat]) rfl ?_
  rw [← HO.out]
  exact OutPost.err rfl (by omega) (by omega) HBB.out
set_option maxHeartbeats 2000000 in
set_option maxRecDepth 100000 in
theorem nround_neg (s1 : Bool) (N1' D1' : Nat) (p : Int) (hp : p < 0) (up : Bool) (w : World) (v1 : Value) (h1 : RawV w v1 s1 N1' D1') (hT : Tab w) (q : Rat) (hq : ratOf s1 N1' D1' = q) (hL : largeB s1 N1' D1' = false) :
    Calls Tryd.prog 82 #[v1, .int .i64 p, .bool up] w (OutPost w (Out.err 2)) := by
  have H1 := Lib.hid h1
  have HT := Lib.hid hT
  obtain ⟨A1, n1, c1, A1', n1', c1', rfl⟩ := h1.shape
  clear h1 hT
  obtain ⟨M, hM, k1, k3, bM⟩ := start1 w (.bool s1) (.slice A1 n1 c1) (.slice A1' n1' c1') (.bool false) (.slice none 0 0) (.slice none 0 0) 24 24
  have HX := Lib.hid k1
  have HR := Lib.hid (show Res M (w.heap.size + 1) 24 from ⟨_, _, _, NI.bool _, NI.slice _ _ _, NI.slice _ _ _, k3⟩)
  have BM := Lib.hid bM
  replace H1 := Lib.hid (H1.out.below bM)
  replace HT := Lib.hid (HT.out.below bM)
  have HQ := Lib.hid hq
  have HL := Lib.hid hL
  have hp1 : decide (p < 0) = true := decide_eq_true hp
  clear hp
  obtain ⟨o, ho⟩ : ∃ o, Out.err 2 = o := ⟨_, rfl⟩
  have HO := Lib.hid ho
  rw [ho]
  clear hq hL k1 k3 bM ho
  go_enter Tryd.func82, Tryd.ntmps82
  go_upto_region 1 with (fail)
  rw [← hM]
  clear hM
  obtain ⟨x1, x2, x3, _, _, _⟩ := HX.out.cells
  go_wp2_with fail
  refine (readV _ s1 N1' D1' _ H1.out HT.out).mono ?_
  rw [HL.out, Bool.not_false]
  rintro e wa ⟨t1, B1, m1, d1, B1', m1', d1', rfl, f1, ba⟩
  have bb := below_step ba ba.size (below_alloc wa (.cells #[.bool t1, .slice B1 m1 d1, .slice B1' m1' d1'] 65))
  have hf1 := Box.new wa (.bool t1) (.slice B1 m1 d1) (.slice B1' m1' d1') 65
  have szw : w.heap.size + 1 < wa.heap.size := Nat.lt_of_lt_of_le (by obtain ⟨_, _, _, _, _, _, hh⟩ := HR.out; exact hh.lt) ba.size
  have TA : Hid (N1 w (wa.alloc (.cells #[.bool t1, .slice B1 m1 d1, .slice B1' m1' d1'] 65)) (w.heap.size + 1) wa.heap.size t1 B1 m1 d1 B1' m1' d1') :=
    Lib.hid ⟨HR.out.below bb, hf1, HT.out.below bb, below_step BM.out BM.out.size bb, by omega, by omega⟩
  have F1 : Hid (IsF (wa.alloc (.cells #[.bool t1, .slice B1 m1 d1, .slice B1' m1' d1'] 65)) (.agg #[.bool t1, .slice B1 m1 d1, .slice B1' m1' d1']) q) := Lib.hid (by rw [← HQ.out]; exact (f1.out rfl).below (below_alloc _ _))
  obtain ⟨w2, hw2⟩ : ∃ w2, wa.alloc (.cells #[.bool t1, .slice B1 m1 d1, .slice B1' m1' d1'] 65) = w2 := ⟨_, rfl⟩
  obtain ⟨gf, hgf⟩ : ∃ gf, wa.heap.size = gf := ⟨_, rfl⟩
  clear x1 x2 x3 ba bb f1 hf1 szw HR BM HX H1 HT
  go_upto_region 2 with (fail)
  rw [hw2] at TA F1
  try rw [hw2]
  rw [hgf] at TA
  try rw [hgf]
  clear hw2 hgf
  obtain ⟨y1, y2, y3, _⟩ := TA.out.box.cells
  obtain ⟨z1, z2, z3, hy1, hy2, hy3, f1, f2, f3⟩ := TA.out.res.cells
  obtain ⟨q0, q1, q2, hs, hb⟩ := OutIs.stored (o := .err 2) (k := 2) (s := false) (A1 := none) (A2 := none) (n1 := 0) (c1 := 0) (n2 := 0) (c2 := 0) ⟨rfl, rfl, by omega, by omega⟩ TA.out.res TA.out.bel TA.out.n3
  have Q := Lib.hid (And.intro q0 (And.intro q1 q2))
  have HBB := Lib.hid hb
  clear q0 q1 q2 hs hb
  go_wp2_with fail
  obtain ⟨q0, q1, q2⟩ := Q.out
  refine bodyPost_ret (v := .tuple #[noRat, .int .i64 2]) (by simp [results, Tryd.results82, go_sem, q0, q1, q2, noRat]) rfl ?_
  rw [← HO.out]
  exact OutPost.err rfl (by omega) (by omega) HBB.out
set_option maxHeartbeats 2000000 in
set_option maxRecDepth 100000 in
theorem nround_big (s1 : Bool) (N1' D1' : Nat) (p : Int) (hp : 256 < p) (up : Bool) (w : World) (v1 : Value) (h1 : RawV w v1 s1 N1' D1') (hT : Tab w) (q : Rat) (hq : ratOf s1 N1' D1' = q) (hL : largeB s1 N1' D1' = false) :
    Calls Tryd.prog 82 #[v1, .int .i64 p, .bool up] w (OutPost w (Out.err 2)) := by
  have H1 := Lib.hid h1
  have HT := Lib.hid hT
  obtain ⟨A1, n1, c1, A1', n1', c1', rfl⟩ := h1.shape
  clear h1 hT
  obtain ⟨M, hM, k1, k3, bM⟩ := start1 w (.bool s1) (.slice A1 n1 c1) (.slice A1' n1' c1') (.bool false) (.slice none 0 0) (.slice none 0 0) 24 24
  have HX := Lib.hid k1
  have HR := Lib.hid (show Res M (w.heap.size + 1) 24 from ⟨_, _, _, NI.bool _, NI.slice _ _ _, NI.slice _ _ _, k3⟩)
  have BM := Lib.hid bM
  replace H1 := Lib.hid (H1.out.below bM)
  replace HT := Lib.hid (HT.out.below bM)
  have HQ := Lib.hid hq
  have HL := Lib.hid hL
  have hp1 : decide (p < 0) = false := decide_eq_false (by omega)
  have hp2 : decide (256 < p) = true := decide_eq_true hp
  clear hp
  obtain ⟨o, ho⟩ : ∃ o, Out.err 2 = o := ⟨_, rfl⟩
  have HO := Lib.hid ho
  rw [ho]
  clear hq hL k1 k3 bM ho
  go_enter Tryd.func82, Tryd.ntmps82
  go_upto_region 1 with (fail)
  rw [← hM]
  clear hM
  obtain ⟨x1, x2, x3, _, _, _⟩ := HX.out.cells
  go_wp2_with fail
  refine (readV _ s1 N1' D1' _ H1.out HT.out).mono ?_
  rw [HL.out, Bool.not_false]
  rintro e wa ⟨t1, B1, m1, d1, B1', m1', d1', rfl, f1, ba⟩
  have bb := below_step ba ba.size (below_alloc wa (.cells #[.bool t1, .slice B1 m1 d1, .slice B1' m1' d1'] 65))
  have hf1 := Box.new wa (.bool t1) (.slice B1 m1 d1) (.slice B1' m1' d1') 65
  have szw : w.heap.size + 1 < wa.heap.size := Nat.lt_of_lt_of_le (by obtain ⟨_, _, _, _, _, _, hh⟩ := HR.out; exact hh.lt) ba.size
  have TA : Hid (N1 w (wa.alloc (.cells #[.bool t1, .slice B1 m1 d1, .slice B1' m1' d1'] 65)) (w.heap.size + 1) wa.heap.size t1 B1 m1 d1 B1' m1' d1') :=
    Lib.hid ⟨HR.out.below bb, hf1, HT.out.below bb, below_step BM.out BM.out.size bb, by omega, by omega⟩
  have F1 : Hid (IsF (wa.alloc (.cells #[.bool t1, .slice B1 m1 d1, .slice B1' m1' d1'] 65)) (.agg #[.bool t1, .slice B1 m1 d1, .slice B1' m1' d1']) q) := Lib.hid (by rw [← HQ.out]; exact (f1.out rfl).below (below_alloc _ _))
  obtain ⟨w2, hw2⟩ : ∃ w2, wa.alloc (.cells #[.bool t1, .slice B1 m1 d1, .slice B1' m1' d1'] 65) = w2 := ⟨_, rfl⟩
  obtain ⟨gf, hgf⟩ : ∃ gf, wa.heap.size = gf := ⟨_, rfl⟩
  clear x1 x2 x3 ba bb f1 hf1 szw HR BM HX H1 HT
  go_upto_region 2 with (fail)
  rw [hw2] at TA F1
  try rw [hw2]
  rw [hgf] at TA
  try rw [hgf]
  clear hw2 hgf
  obtain ⟨y1, y2, y3, _⟩ := TA.out.box.cells
  obtain ⟨z1, z2, z3, hy1, hy2, hy3, f1, f2, f3⟩ := TA.out.res.cells
  obtain ⟨q0, q1, q2, hs, hb⟩ := OutIs.stored (o := .err 2) (k := 2) (s := false) (A1 := none) (A2 := none) (n1 := 0) (c1 := 0) (n2 := 0) (c2 := 0) ⟨rfl, rfl, by omega, by omega⟩ TA.out.res TA.out.bel TA.out.n3
  have Q := Lib.hid (And.intro q0 (And.intro q1 q2))
  have HBB := Lib.hid hb
  clear q0 q1 q2 hs hb
  go_wp2_with fail
  obtain ⟨q0, q1, q2⟩ := Q.out
  refine bodyPost_ret (v := .tuple #[noRat, .int .i64 2]) (by simp [results, Tryd.results82, go_sem, q0, q1, q2, noRat]) rfl ?_
  rw [← HO.out]
  exact OutPost.err rfl (by omega) (by omega) HBB.out
set_option maxHeartbeats 2000000 in
set_option maxRecDepth 100000 in
theorem nround_ok (s1 : Bool) (N1' D1' : Nat) (p : Nat) (hp : p ≤ 256) (up : Bool) (r : Rat) (hr : gridQ (ratOf s1 N1' D1') p up = r) (w : World) (v1 : Value) (h1 : RawV w v1 s1 N1' D1') (hT : Tab w) (q : Rat) (hq : ratOf s1 N1' D1' = q) (hL : largeB s1 N1' D1' = false) :
    Calls Tryd.prog 82 #[v1, .int .i64 p, .bool up] w (OutPost w (give r)) := by
  have H1 := Lib.hid h1
  have HT := Lib.hid hT
  obtain ⟨A1, n1, c1, A1', n1', c1', rfl⟩ := h1.shape
  clear h1 hT
  obtain ⟨M, hM, k1, k3, bM⟩ := start1 w (.bool s1) (.slice A1 n1 c1) (.slice A1' n1' c1') (.bool false) (.slice none 0 0) (.slice none 0 0) 24 24
  have HX := Lib.hid k1
  have HR := Lib.hid (show Res M (w.heap.size + 1) 24 from ⟨_, _, _, NI.bool _, NI.slice _ _ _, NI.slice _ _ _, k3⟩)
  have BM := Lib.hid bM
  replace H1 := Lib.hid (H1.out.below bM)
  replace HT := Lib.hid (HT.out.below bM)
  have HQ := Lib.hid hq
  have HL := Lib.hid hL
  have hf := (largeB_false hL).2.2
  rw [hq] at hf
  have HF := Lib.hid hf
  clear hf
  rw [hq] at hr
  have HR2 := Lib.hid hr
  have HP := Lib.hid hp
  have hp1 : decide ((p : Int) < 0) = false := decide_eq_false (by omega)
  have hp2 : decide (256 < (p : Int)) = false := decide_eq_false (by omega)
  have hp3 : decide (256 < p) = false := decide_eq_false (by omega)
  clear hr hp
  obtain ⟨o, ho⟩ : ∃ o, give r = o := ⟨_, rfl⟩
  have HO := Lib.hid ho
  rw [ho]
  clear hq hL k1 k3 bM ho
  go_enter Tryd.func82, Tryd.ntmps82
  go_upto_region 1 with (fail)
  rw [← hM]
  clear hM
  obtain ⟨x1, x2, x3, _, _, _⟩ := HX.out.cells
  go_wp2_with fail
  refine (readV _ s1 N1' D1' _ H1.out HT.out).mono ?_
  rw [HL.out, Bool.not_false]
  rintro e wa ⟨t1, B1, m1, d1, B1', m1', d1', rfl, f1, ba⟩
  have bb := below_step ba ba.size (below_alloc wa (.cells #[.bool t1, .slice B1 m1 d1, .slice B1' m1' d1'] 65))
  have hf1 := Box.new wa (.bool t1) (.slice B1 m1 d1) (.slice B1' m1' d1') 65
  have szw : w.heap.size + 1 < wa.heap.size := Nat.lt_of_lt_of_le (by obtain ⟨_, _, _, _, _, _, hh⟩ := HR.out; exact hh.lt) ba.size
  have TA : Hid (N1 w (wa.alloc (.cells #[.bool t1, .slice B1 m1 d1, .slice B1' m1' d1'] 65)) (w.heap.size + 1) wa.heap.size t1 B1 m1 d1 B1' m1' d1') :=
    Lib.hid ⟨HR.out.below bb, hf1, HT.out.below bb, below_step BM.out BM.out.size bb, by omega, by omega⟩
  have F1 : Hid (IsF (wa.alloc (.cells #[.bool t1, .slice B1 m1 d1, .slice B1' m1' d1'] 65)) (.agg #[.bool t1, .slice B1 m1 d1, .slice B1' m1' d1']) q) := Lib.hid (by rw [← HQ.out]; exact (f1.out rfl).below (below_alloc _ _))
  obtain ⟨w2, hw2⟩ : ∃ w2, wa.alloc (.cells #[.bool t1, .slice B1 m1 d1, .slice B1' m1' d1'] 65) = w2 := ⟨_, rfl⟩
  obtain ⟨gf, hgf⟩ : ∃ gf, wa.heap.size = gf := ⟨_, rfl⟩
  clear x1 x2 x3 ba bb f1 hf1 szw HR BM HX H1 HT
  go_upto_region 2 with (fail)
  rw [hw2] at TA F1
  try rw [hw2]
  rw [hgf] at TA
  try rw [hgf]
  clear hw2 hgf
  obtain ⟨y1, y2, y3, _⟩ := TA.out.box.cells
  go_wp2_with fail
  refine (Calls.partsF (fGrid q p up (Nat.le_trans HP.out (by omega)) _ _ F1.out (fit_Wq HF.out (by omega)) TA.out.tab)).mono ?_
  rw [HR2.out]
  rintro e wb ⟨t2, B2, m2, d2, B2', m2', d2', rfl, i1, bb⟩
  replace TA := Lib.hid (TA.out.below bb)
  clear bb
  go_wp2_with fail
  refine (giveF _ _ _ i1.out).mono ?_
  rintro e we ⟨s9, A9, n9, c9, A9', n9', c9', k9, rfl, h9, b9⟩
  replace TA := Lib.hid (TA.out.below b9)
  obtain ⟨z1, z2, z3, hz1, hz2, hz3, k1, k2, k3⟩ := TA.out.res.cells
  obtain ⟨q0, q1, q2, hs, hb⟩ := OutIs.stored h9 TA.out.res TA.out.bel TA.out.n3
  have Q := Lib.hid (And.intro q0 (And.intro q1 q2))
  have HS := Lib.hid hs
  have HBB := Lib.hid hb
  clear q0 q1 q2 hs hb h9 b9
  go_wp2
  obtain ⟨q0, q1, q2⟩ := Q.out
  refine bodyPost_ret (v := .tuple #[.agg #[.bool s9, .slice A9 n9 c9, .slice A9' n9' c9'], .int .i64 k9]) (by simp [results, Tryd.results82, go_sem, q0, q1, q2]) rfl ?_
  rw [← HO.out]
  exact ⟨_, _, _, _, _, _, _, _, rfl, HS.out, HBB.out⟩
theorem nround (s1 : Bool) (N1' D1' : Nat) (p : Int) (up : Bool) (w : World) (v1 : Value) (h1 : RawV w v1 s1 N1' D1') (hT : Tab w) :
    Calls Tryd.prog 82 #[v1, .int .i64 p, .bool up] w (OutPost w (gridOut (largeB s1 N1' D1') p up (ratOf s1 N1' D1'))) := by
  unfold gridOut
  by_cases h : largeB s1 N1' D1' = true
  · rw [if_pos h]; exact nround_large s1 N1' D1' p up w v1 h1 hT _ rfl h
  · rw [if_neg h]
    have h' : largeB s1 N1' D1' = false := by simpa using h
    by_cases hn : p < 0
    · rw [if_pos (Or.inl hn)]; exact nround_neg s1 N1' D1' p hn up w v1 h1 hT _ rfl h'
    · by_cases hb : 256 < p
      · rw [if_pos (Or.inr hb)]; exact nround_big s1 N1' D1' p hb up w v1 h1 hT _ rfl h'
      · rw [if_neg (by omega)]
        obtain ⟨k, rfl⟩ : ∃ k : Nat, p = (k : Int) := ⟨p.toNat, by omega⟩
        rw [Int.toNat_natCast]
        exact nround_ok s1 N1' D1' k (by omega) up _ rfl w v1 h1 hT _ rfl h'
set_option maxHeartbeats 1000000 in
set_option maxRecDepth 100000 in
theorem nDown (s1 : Bool) (N1 D1 : Nat) (p : Int) (w : World) (v1 : Value) (h1 : RawV w v1 s1 N1 D1) (hT : Tab w) :
    Calls Tryd.prog 38 #[v1, .int .i64 p] w (OutPost w (gridOut (largeB s1 N1 D1) p false (ratOf s1 N1 D1))) := by
  have H1 := Lib.hid h1
  have HT := Lib.hid hT
  obtain ⟨A1, n1, c1, A1', n1', c1', rfl⟩ := h1.shape
  clear h1 hT
  obtain ⟨M, hM, k1, k3, bM⟩ := start1 w (.bool s1) (.slice A1 n1 c1) (.slice A1' n1' c1') (.bool false) (.slice none 0 0) (.slice none 0 0) 24 24
  have HX := Lib.hid k1
  have HR := Lib.hid (show Res M (w.heap.size + 1) 24 from ⟨_, _, _, NI.bool _, NI.slice _ _ _, NI.slice _ _ _, k3⟩)
  have BM := Lib.hid bM
  replace H1 := Lib.hid (H1.out.below bM)
  replace HT := Lib.hid (HT.out.below bM)
  have C := Lib.hid (nround s1 N1 D1 p false M _ H1.out HT.out)
  obtain ⟨o, ho⟩ : ∃ o, gridOut (largeB s1 N1 D1) p false (ratOf s1 N1 D1) = o := ⟨_, rfl⟩
  rw [ho] at C
  rw [ho]
  clear k1 k3 bM ho
  go_enter Tryd.func38, Tryd.ntmps38
  go_upto_region 1 with (fail)
  rw [← hM]
  clear hM
  obtain ⟨x1, x2, x3, _, _, _⟩ := HX.out.cells
  go_wp2_with fail
  refine C.out.mono ?_
  rintro e we ⟨s9, A9, n9, c9, A9', n9', c9', k9, rfl, h9, b9⟩
  replace HR := Lib.hid (HR.out.below b9)
  have BE := Lib.hid (below_step BM.out BM.out.size b9)
  obtain ⟨q0, q1, q2, hs, hb⟩ := OutIs.stored h9 HR.out BE.out (by omega)
  have Q := Lib.hid (And.intro q0 (And.intro q1 q2))
  have HS := Lib.hid hs
  have HB := Lib.hid hb
  clear b9 h9 q0 q1 q2 hs hb x1 x2 x3
  obtain ⟨r1, r2, r3, hr1, hr2, hr3, _, _, _⟩ := HR.out.cells
  go_wp2_with fail
  obtain ⟨q0, q1, q2⟩ := Q.out
  refine bodyPost_ret (v := .tuple #[.agg #[.bool s9, .slice A9 n9 c9, .slice A9' n9' c9'], .int .i64 k9]) (by simp [results, Tryd.results38, go_sem, q0, q1, q2]) rfl ?_
  exact ⟨_, _, _, _, _, _, _, _, rfl, HS.out, HB.out⟩
set_option maxHeartbeats 1000000 in
set_option maxRecDepth 100000 in
theorem nUp (s1 : Bool) (N1 D1 : Nat) (p : Int) (w : World) (v1 : Value) (h1 : RawV w v1 s1 N1 D1) (hT : Tab w) :
    Calls Tryd.prog 39 #[v1, .int .i64 p] w (OutPost w (gridOut (largeB s1 N1 D1) p true (ratOf s1 N1 D1))) := by
  have H1 := Lib.hid h1
  have HT := Lib.hid hT
  obtain ⟨A1, n1, c1, A1', n1', c1', rfl⟩ := h1.shape
  clear h1 hT
  obtain ⟨M, hM, k1, k3, bM⟩ := start1 w (.bool s1) (.slice A1 n1 c1) (.slice A1' n1' c1') (.bool false) (.slice none 0 0) (.slice none 0 0) 24 24
  have HX := Lib.hid k1
  have HR := Lib.hid (show Res M (w.heap.size + 1) 24 from ⟨_, _, _, NI.bool _, NI.slice _ _ _, NI.slice _ _ _, k3⟩)
  have BM := Lib.hid bM
  replace H1 := Lib.hid (H1.out.below bM)
  replace HT := Lib.hid (HT.out.below bM)
  have C := Lib.hid (nround s1 N1 D1 p true M _ H1.out HT.out)
  obtain ⟨o, ho⟩ : ∃ o, gridOut (largeB s1 N1 D1) p true (ratOf s1 N1 D1) = o := ⟨_, rfl⟩
  rw [ho] at C
  rw [ho]
  clear k1 k3 bM ho
  go_enter Tryd.func39, Tryd.ntmps39
  go_upto_region 1 with (fail)
  rw [← hM]
  clear hM
  obtain ⟨x1, x2, x3, _, _, _⟩ := HX.out.cells
  go_wp2_with fail
  refine C.out.mono ?_
  rintro e we ⟨s9, A9, n9, c9, A9', n9', c9', k9, rfl, h9, b9⟩
  replace HR := Lib.hid (HR.out.below b9)
  have BE := Lib.hid (below_step BM.out BM.out.size b9)
  obtain ⟨q0, q1, q2, hs, hb⟩ := OutIs.stored h9 HR.out BE.out (by omega)
  have Q := Lib.hid (And.intro q0 (And.intro q1 q2))
  have HS := Lib.hid hs
  have HB := Lib.hid hb
  clear b9 h9 q0 q1 q2 hs hb x1 x2 x3
  obtain ⟨r1, r2, r3, hr1, hr2, hr3, _, _, _⟩ := HR.out.cells
  go_wp2_with fail
  obtain ⟨q0, q1, q2⟩ := Q.out
  refine bodyPost_ret (v := .tuple #[.agg #[.bool s9, .slice A9 n9 c9, .slice A9' n9' c9'], .int .i64 k9]) (by simp [results, Tryd.results39, go_sem, q0, q1, q2]) rfl ?_
  exact ⟨_, _, _, _, _, _, _, _, rfl, HS.out, HB.out⟩
end Go.Proofs.YtfmhplcpejmkhabDoor

namespace Go.Proofs.YtfmhplcpejmkhabDoor
open Go.RowKit Dig
set_option linter.unusedVariables false
set_option linter.unusedSimpArgs false
/-- two values that have been read, and a variable for a result -/
structure N2 (w M : World) (g3 gf gg : Nat) (s1 : Bool) (A1 : Option Addr) (n1 c1 : Nat) (B1 : Option Addr) (m1 d1 : Nat) (a : Rat) (s2 : Bool) (A2 : Option Addr) (n2 c2 : Nat) (B2 : Option Addr) (m2 d2 : Nat) (b : Rat) : Prop where
  res : Res M g3 24
  f : Box M gf (.bool s1) (.slice A1 n1 c1) (.slice B1 m1 d1) 65
  g : Box M gg (.bool s2) (.slice A2 n2 c2) (.slice B2 m2 d2) 65
  fa : IsF M (.agg #[.bool s1, .slice A1 n1 c1, .slice B1 m1 d1]) a
  fb : IsF M (.agg #[.bool s2, .slice A2 n2 c2, .slice B2 m2 d2]) b
  tab : Tab M
  bel : Below w.heap.size w M
  n3 : w.heap.size ≤ g3
  n1 : gf ≠ g3
  n2 : gg ≠ g3
  n4 : g3 ≠ 0
theorem IsF.grown {w w' : World} {v : Value} {q : Rat} {g : Nat} {x y z : Value} {t : TypeId} (h : IsF w v q) (hb : Box w g x y z t) (hx : NI x) (hy : NI y) (hz : NI z) (hg : w.grownBy w' (some g)) : IsF w' v q := by
  obtain ⟨A1, c1, A2, c2, e, r1, r2⟩ := h
  exact ⟨A1, c1, A2, c2, e, r1.grown_box hb hx hy hz hg, r2.grown_box hb hx hy hz hg⟩
section
variable {w M M' : World} {g3 gf gg : Nat} {s1 : Bool} {A1 : Option Addr} {n1 c1 : Nat} {B1 : Option Addr} {m1 d1 : Nat} {a : Rat} {s2 : Bool} {A2 : Option Addr} {n2 c2 : Nat} {B2 : Option Addr} {m2 d2 : Nat} {b : Rat}
theorem N2.below (h : N2 w M g3 gf gg s1 A1 n1 c1 B1 m1 d1 a s2 A2 n2 c2 B2 m2 d2 b) (hb : Below M.heap.size M M') : N2 w M' g3 gf gg s1 A1 n1 c1 B1 m1 d1 a s2 A2 n2 c2 B2 m2 d2 b :=
  ⟨h.res.below hb, h.f.below hb, h.g.below hb, h.fa.below hb, h.fb.below hb, h.tab.below hb, below_step h.bel h.bel.size hb, h.n3, h.n1, h.n2, h.n4⟩
theorem N2.drew (h : N2 w M g3 gf gg s1 A1 n1 c1 B1 m1 d1 a s2 A2 n2 c2 B2 m2 d2 b) : N2 w M.drew g3 gf gg s1 A1 n1 c1 B1 m1 d1 a s2 A2 n2 c2 B2 m2 d2 b := h.below (Below.refl _ _).drew
theorem N2.grown (h : N2 w M g3 gf gg s1 A1 n1 c1 B1 m1 d1 a s2 A2 n2 c2 B2 m2 d2 b) {x y z : Value} (hx : NI x) (hy : NI y) (hz : NI z) : N2 w (((M.setCell ⟨g3, 0, none⟩ x).setCell ⟨g3, 1, none⟩ y).setCell ⟨g3, 2, none⟩ z) g3 gf gg s1 A1 n1 c1 B1 m1 d1 a s2 A2 n2 c2 B2 m2 d2 b := by
  have hg := grown_set3 M g3 x y z
  obtain ⟨x', y', z', hx', hy', hz', h4⟩ := h.res
  exact ⟨h.res.set3 hx hy hz, (hg.block gf h.f.lt (fun e => h.n1 (Option.some.inj e))).trans h.f, (hg.block gg h.g.lt (fun e => h.n2 (Option.some.inj e))).trans h.g, h.fa.grown h4 hx' hy' hz' hg, h.fb.grown h4 hx' hy' hz' hg, h.tab.grown hg h.n4, below_set3 h.bel h.n3 _ _ _, h.n3, h.n1, h.n2, h.n4⟩
theorem N2.cells (h : N2 w M g3 gf gg s1 A1 n1 c1 B1 m1 d1 a s2 A2 n2 c2 B2 m2 d2 b) : (World.cell? M ⟨gf, 0, none⟩ = some (.bool s1) ∧ World.cell? M ⟨gf, 1, none⟩ = some (.slice A1 n1 c1) ∧ World.cell? M ⟨gf, 2, none⟩ = some (.slice B1 m1 d1) ∧ World.cell? M ⟨gg, 0, none⟩ = some (.bool s2) ∧ World.cell? M ⟨gg, 1, none⟩ = some (.slice A2 n2 c2) ∧ World.cell? M ⟨gg, 2, none⟩ = some (.slice B2 m2 d2) ∧ Hid (N2 w M g3 gf gg s1 A1 n1 c1 B1 m1 d1 a s2 A2 n2 c2 B2 m2 d2 b)) := by
  obtain ⟨a1, a2, a3, _, _, _⟩ := h.f.cells
  obtain ⟨b1, b2, b3, _, _, _⟩ := h.g.cells
  exact ⟨a1, a2, a3, b1, b2, b3, h⟩
theorem N2.of (h : (World.cell? M ⟨gf, 0, none⟩ = some (.bool s1) ∧ World.cell? M ⟨gf, 1, none⟩ = some (.slice A1 n1 c1) ∧ World.cell? M ⟨gf, 2, none⟩ = some (.slice B1 m1 d1) ∧ World.cell? M ⟨gg, 0, none⟩ = some (.bool s2) ∧ World.cell? M ⟨gg, 1, none⟩ = some (.slice A2 n2 c2) ∧ World.cell? M ⟨gg, 2, none⟩ = some (.slice B2 m2 d2) ∧ Hid (N2 w M g3 gf gg s1 A1 n1 c1 B1 m1 d1 a s2 A2 n2 c2 B2 m2 d2 b))) : N2 w M g3 gf gg s1 A1 n1 c1 B1 m1 d1 a s2 A2 n2 c2 B2 m2 d2 b := h.2.2.2.2.2.2.out
theorem N2.next (h : (World.cell? M ⟨gf, 0, none⟩ = some (.bool s1) ∧ World.cell? M ⟨gf, 1, none⟩ = some (.slice A1 n1 c1) ∧ World.cell? M ⟨gf, 2, none⟩ = some (.slice B1 m1 d1) ∧ World.cell? M ⟨gg, 0, none⟩ = some (.bool s2) ∧ World.cell? M ⟨gg, 1, none⟩ = some (.slice A2 n2 c2) ∧ World.cell? M ⟨gg, 2, none⟩ = some (.slice B2 m2 d2) ∧ Hid (N2 w M g3 gf gg s1 A1 n1 c1 B1 m1 d1 a s2 A2 n2 c2 B2 m2 d2 b))) (hb : Below M.heap.size M M') : (World.cell? M' ⟨gf, 0, none⟩ = some (.bool s1) ∧ World.cell? M' ⟨gf, 1, none⟩ = some (.slice A1 n1 c1) ∧ World.cell? M' ⟨gf, 2, none⟩ = some (.slice B1 m1 d1) ∧ World.cell? M' ⟨gg, 0, none⟩ = some (.bool s2) ∧ World.cell? M' ⟨gg, 1, none⟩ = some (.slice A2 n2 c2) ∧ World.cell? M' ⟨gg, 2, none⟩ = some (.slice B2 m2 d2) ∧ Hid (N2 w M' g3 gf gg s1 A1 n1 c1 B1 m1 d1 a s2 A2 n2 c2 B2 m2 d2 b)) := ((N2.of h).below hb).cells
theorem N2.nextS (h : (World.cell? M ⟨gf, 0, none⟩ = some (.bool s1) ∧ World.cell? M ⟨gf, 1, none⟩ = some (.slice A1 n1 c1) ∧ World.cell? M ⟨gf, 2, none⟩ = some (.slice B1 m1 d1) ∧ World.cell? M ⟨gg, 0, none⟩ = some (.bool s2) ∧ World.cell? M ⟨gg, 1, none⟩ = some (.slice A2 n2 c2) ∧ World.cell? M ⟨gg, 2, none⟩ = some (.slice B2 m2 d2) ∧ Hid (N2 w M g3 gf gg s1 A1 n1 c1 B1 m1 d1 a s2 A2 n2 c2 B2 m2 d2 b))) {x : Bool} {B C : Option Addr} {k k' c c' : Nat} : (World.cell? (((M.setCell ⟨g3, 0, none⟩ (.bool x)).setCell ⟨g3, 1, none⟩ (.slice B k k')).setCell ⟨g3, 2, none⟩ (.slice C c c')) ⟨gf, 0, none⟩ = some (.bool s1) ∧ World.cell? (((M.setCell ⟨g3, 0, none⟩ (.bool x)).setCell ⟨g3, 1, none⟩ (.slice B k k')).setCell ⟨g3, 2, none⟩ (.slice C c c')) ⟨gf, 1, none⟩ = some (.slice A1 n1 c1) ∧ World.cell? (((M.setCell ⟨g3, 0, none⟩ (.bool x)).setCell ⟨g3, 1, none⟩ (.slice B k k')).setCell ⟨g3, 2, none⟩ (.slice C c c')) ⟨gf, 2, none⟩ = some (.slice B1 m1 d1) ∧ World.cell? (((M.setCell ⟨g3, 0, none⟩ (.bool x)).setCell ⟨g3, 1, none⟩ (.slice B k k')).setCell ⟨g3, 2, none⟩ (.slice C c c')) ⟨gg, 0, none⟩ = some (.bool s2) ∧ World.cell? (((M.setCell ⟨g3, 0, none⟩ (.bool x)).setCell ⟨g3, 1, none⟩ (.slice B k k')).setCell ⟨g3, 2, none⟩ (.slice C c c')) ⟨gg, 1, none⟩ = some (.slice A2 n2 c2) ∧ World.cell? (((M.setCell ⟨g3, 0, none⟩ (.bool x)).setCell ⟨g3, 1, none⟩ (.slice B k k')).setCell ⟨g3, 2, none⟩ (.slice C c c')) ⟨gg, 2, none⟩ = some (.slice B2 m2 d2) ∧ Hid (N2 w (((M.setCell ⟨g3, 0, none⟩ (.bool x)).setCell ⟨g3, 1, none⟩ (.slice B k k')).setCell ⟨g3, 2, none⟩ (.slice C c c')) g3 gf gg s1 A1 n1 c1 B1 m1 d1 a s2 A2 n2 c2 B2 m2 d2 b)) :=
  ((N2.of h).grown (NI.bool _) (NI.slice _ _ _) (NI.slice _ _ _)).cells
end
/-- how two rational numbers compare -/
def cmpQ (a b : Rat) : Int := sgnI (ng (a - b)) (a - b).num.natAbs
theorem sgnI_mk (n : Int) (d : Nat) (hd : d ≠ 0) : sgnI (ng (mkRat n d)) (mkRat n d).num.natAbs = cmpZ n 0 := by
  obtain ⟨s, k, rfl, hs⟩ : ∃ s k, n = sg s k ∧ (s = true → k ≠ 0) := ⟨decide (n < 0), n.natAbs, by unfold sg; by_cases h : n < 0 <;> simp [h] <;> omega, by intro h; simp at h; omega⟩
  by_cases hk : k = 0
  · subst hk
    rw [mk_zero, sg_zero]
    decide
  · rw [mk_sign s hd hk, mk_abs s k hd]
    have := div_gcd_pos (d := d) hk
    unfold sgnI cmpZ sg
    rw [if_neg (by omega)]
    cases s
    · have h1 : ¬ ((k : Int) < 0) := by omega
      have h2 : ¬ ((k : Int) = 0) := by omega
      simp [h1, hk]
    · rw [if_pos rfl, if_pos]
      simp
      omega
theorem cmpZ_Q (a b : Rat) : cmpZ (sg (ng a) a.num.natAbs * b.den) (sg (ng b) b.num.natAbs * a.den) = cmpQ a b := by
  unfold cmpQ
  have e : a - b = mkRat (a.num * b.den - b.num * a.den) (a.den * b.den) := by
    rw [Rat.sub_eq_add_neg, Rat.add_def', Rat.neg_num, Rat.neg_den]
    congr 1
    grind
  rw [e, sgnI_mk _ _ (Nat.mul_ne_zero a.den_nz b.den_nz), sg_ng, sg_ng]
  unfold cmpZ
  split <;> split <;> (try split) <;> (try split) <;> omega
theorem inv_facts {b : Rat} (h : b ≠ 0) : ng b⁻¹ = ng b ∧ b⁻¹.num.natAbs = b.den ∧ b⁻¹.den = b.num.natAbs := by
  have hn : b.num.natAbs ≠ 0 := by
    have : b.num ≠ 0 := fun h0 => h (Rat.num_eq_zero.1 h0)
    omega
  have e := rat_div 1 b h
  rw [Rat.div_def, Rat.one_mul] at e
  have e1 : mkRat (sg (ng b) b.den) b.num.natAbs = b⁻¹ := by
    rw [← e]
    have h1 : ng (1 : Rat) = false := by decide
    have h2 : (1 : Rat).num.natAbs = 1 := by decide
    have h3 : (1 : Rat).den = 1 := by decide
    rw [h1, h2, h3, Nat.one_mul, Nat.one_mul]
    cases ng b <;> rfl
  have hc : Nat.gcd b.den b.num.natAbs = 1 := by rw [Nat.gcd_comm]; exact b.reduced
  rw [← e1, mk_sign _ hn b.den_nz, mk_abs _ _ hn, mk_den _ _ hn, hc, Nat.div_one, Nat.div_one]
  exact ⟨rfl, rfl, rfl⟩
theorem fCmp (a b : Rat) (w : World) (v1 v2 : Value) (h1 : IsF w v1 a) (h2 : IsF w v2 b) (k1 : Wq 400000 a) (k2 : Wq 400000 b) :
    Calls Tryd.prog 75 #[v1, v2] w fun e w' => e = .returned (.int .i64 (cmpQ a b)) ∧ Below w.heap.size w w' := by
  obtain ⟨A1, c1, A2, c2, rfl, r1, r2⟩ := h1
  obtain ⟨A3, c3, A4, c4, rfl, r3, r4⟩ := h2
  have := fracCmp (ng a) a.num.natAbs a.den (ng b) b.num.natAbs b.den w _ _ _ _ _ _ _ _ r1 r2 r3 r4 k1.1 k1.2 k2.1 k2.2 a.den_nz b.den_nz
  rwa [cmpZ_Q] at this
theorem fInv (b : Rat) (w : World) (v : Value) (h : IsF w v b) (hb : b ≠ 0) :
    Calls Tryd.prog 55 #[v] w fun e w' => ∃ u, e = .returned u ∧ IsF w' u b⁻¹ ∧ Below w.heap.size w w' := by
  obtain ⟨A1, c1, A2, c2, rfl, r1, r2⟩ := h
  obtain ⟨e1, e2, e3⟩ := inv_facts hb
  refine (fracInverse _ _ _ w _ _ _ _).mono ?_
  rintro e w' ⟨rfl, hl⟩
  exact ⟨_, rfl, by unfold IsF; rw [e1, e2, e3]; exact ⟨_, _, _, _, rfl, r2.below hl, r1.below hl⟩, hl⟩
theorem inv_Wq {b : Rat} {k : Nat} (h : b ≠ 0) (hk : Wq k b) : Wq k b⁻¹ := by
  obtain ⟨_, e2, e3⟩ := inv_facts h
  unfold Wq
  rw [e2, e3]
  exact ⟨hk.2, hk.1⟩
end Go.Proofs.YtfmhplcpejmkhabDoor

namespace Go.Proofs.YtfmhplcpejmkhabDoor
open Go.RowKit Dig
set_option linter.unusedVariables false
set_option linter.unusedSimpArgs false
theorem sgn_eq (x : Rat) : sgnI (ng x) x.num.natAbs = if x < 0 then -1 else if x = 0 then 0 else 1 := by
  unfold sgnI ng
  by_cases h0 : x = 0
  · subst h0
    decide
  · have hn : x.num ≠ 0 := fun h => h0 (Rat.num_eq_zero.1 h)
    rw [if_neg (by omega), if_neg h0]
    by_cases hl : x < 0
    · have h1 : ¬ (0 ≤ x) := by grind
      rw [← Rat.num_nonneg] at h1
      have : x.num < 0 := by omega
      rw [if_pos (by simpa using this), if_pos hl]
    · have h1 : 0 ≤ x := by grind
      rw [← Rat.num_nonneg] at h1
      have : ¬ x.num < 0 := by omega
      rw [if_neg (by simpa using this), if_neg hl]
theorem cmp_lt {a b : Rat} (h : a < b) : cmpQ a b = -1 := by
  unfold cmpQ
  rw [sgn_eq, if_pos (by grind)]
theorem cmp_eq {a b : Rat} (h : a = b) : cmpQ a b = 0 := by
  unfold cmpQ
  rw [sgn_eq, if_neg (by grind), if_pos (by grind)]
theorem cmp_gt {a b : Rat} (h : b < a) : cmpQ a b = 1 := by
  unfold cmpQ
  rw [sgn_eq, if_neg (by grind), if_neg (by grind)]
theorem cmp_cases (a b : Rat) : (a < b ∧ cmpQ a b = -1) ∨ (a = b ∧ cmpQ a b = 0) ∨ (b < a ∧ cmpQ a b = 1) := by
  by_cases h : a < b
  · exact Or.inl ⟨h, cmp_lt h⟩
  · by_cases h2 : a = b
    · exact Or.inr (Or.inl ⟨h2, cmp_eq h2⟩)
    · have h3 : b < a := by grind
      exact Or.inr (Or.inr ⟨h3, cmp_gt h3⟩)
theorem cmp_swap (a b : Rat) : cmpQ b a = -cmpQ a b := by
  rcases cmp_cases a b with ⟨h, e⟩ | ⟨h, e⟩ | ⟨h, e⟩
  · rw [e, cmp_gt h]; rfl
  · rw [e, cmp_eq h.symm]; rfl
  · rw [e, cmp_lt h]
theorem cmp_add (a b c : Rat) : cmpQ (a + c) (b + c) = cmpQ a b := by
  unfold cmpQ
  have : a + c - (b + c) = a - b := by grind
  rw [this]
theorem cmp_trans (x y z : Rat) : (cmpQ x y = cmpQ y z → cmpQ x z = cmpQ x y) ∧ (cmpQ x y = 0 → cmpQ x z = cmpQ y z) ∧ (cmpQ y z = 0 → cmpQ x z = cmpQ x y) := by
  rcases cmp_cases x y with ⟨h, e⟩ | ⟨h, e⟩ | ⟨h, e⟩ <;> rcases cmp_cases y z with ⟨h2, e2⟩ | ⟨h2, e2⟩ | ⟨h2, e2⟩ <;> rw [e, e2]
  · have h3 : x < z := by grind
    rw [cmp_lt h3]; decide
  · subst h2; rw [e]; decide
  · refine ⟨fun h => ?_, fun h => ?_, fun h => ?_⟩ <;> exact absurd h (by decide)
  · subst h; rw [e2]; decide
  · subst h h2; rw [cmp_eq rfl]; decide
  · subst h; rw [e2]; decide
  · refine ⟨fun h => ?_, fun h => ?_, fun h => ?_⟩ <;> exact absurd h (by decide)
  · subst h2; rw [e]; decide
  · have h3 : z < x := by grind
    rw [cmp_gt h3]; decide
end Go.Proofs.YtfmhplcpejmkhabDoor

namespace Go.Proofs.YtfmhplcpejmkhabDoor
open Go.RowKit Dig
set_option linter.unusedVariables false
set_option linter.unusedSimpArgs false
set_option maxHeartbeats 2000000 in
set_option maxRecDepth 100000 in
theorem nCompare_true_true (s1 : Bool) (X1 Y1 : Nat) (s2 : Bool) (X2 Y2 : Nat)  (w : World) (v1 v2 : Value) (h1 : RawV w v1 s1 X1 Y1) (h2 : RawV w v2 s2 X2 Y2) (hT : Tab w) (a b : Rat) (ha : ratOf s1 X1 Y1 = a) (hb : ratOf s2 X2 Y2 = b) (hL1 : largeB s1 X1 Y1 = true) (hL2 : largeB s2 X2 Y2 = true) :
    Calls Tryd.prog 32 #[v1, v2] w (fun e w' => e = .returned (.tuple #[.int .i64 0, .int .i64 1]) ∧ Below w.heap.size w w') := by
  have H1 := Lib.hid h1
  have H2 := Lib.hid h2
  have HT := Lib.hid hT
  obtain ⟨A1, n1, c1, A1', n1', c1', rfl⟩ := h1.shape
  obtain ⟨A2, n2, c2, A2', n2', c2', rfl⟩ := h2.shape
  clear h1 h2 hT
  obtain ⟨M, hM, k1, k2, bM⟩ := start1 w (.bool s1) (.slice A1 n1 c1) (.slice A1' n1' c1') (.bool s2) (.slice A2 n2 c2) (.slice A2' n2' c2') 24 24
  have HR := Lib.hid True.intro
  have HX := Lib.hid k1
  have HY := Lib.hid k2
  have BM := Lib.hid bM
  replace H1 := Lib.hid (H1.out.below bM)
  replace H2 := Lib.hid (H2.out.below bM)
  replace HT := Lib.hid (HT.out.below bM)
  have HA := Lib.hid ha
  have HB := Lib.hid hb
  have HL1 := Lib.hid hL1
  have HL2 := Lib.hid hL2
  clear ha hb hL1 hL2 k1 k2 bM
  go_enter Tryd.func32, Tryd.ntmps32
  go_upto_region 1 with (fail)
  rw [← hM]
  clear hM
  obtain ⟨x1, x2, x3, _, _, _⟩ := HX.out.cells
  go_wp2_with fail
  refine (readV _ s1 X1 Y1 _ H1.out HT.out).mono ?_
  rw [HL1.out, Bool.not_true]
  rintro e wa ⟨t1, B1, m1, d1, B1', m1', d1', rfl, f1, ba⟩
  have bb := below_step ba ba.size (below_alloc wa (.cells #[.bool t1, .slice B1 m1 d1, .slice B1' m1' d1'] 65))
  have HF1 := Lib.hid (Box.new wa (.bool t1) (.slice B1 m1 d1) (.slice B1' m1' d1') 65)
  have F1 : Hid (largeB s1 X1 Y1 = false → IsF (wa.alloc (.cells #[.bool t1, .slice B1 m1 d1, .slice B1' m1' d1'] 65)) (.agg #[.bool t1, .slice B1 m1 d1, .slice B1' m1' d1']) (ratOf s1 X1 Y1)) := Lib.hid (fun h => absurd (HL1.out.symm.trans h) (by simp))
  have hsz : w.heap.size + 1 < wa.heap.size := Nat.lt_of_lt_of_le (HY.out.lt) ba.size
  replace HX := Lib.hid (HX.out.below bb)
  replace HY := Lib.hid (HY.out.below bb)
  replace H2 := Lib.hid (H2.out.below bb)
  replace HT := Lib.hid (HT.out.below bb)
  have BM := Lib.hid (below_step BM.out BM.out.size bb)
  obtain ⟨w1, hw1⟩ : ∃ w1, wa.alloc (.cells #[.bool t1, .slice B1 m1 d1, .slice B1' m1' d1'] 65) = w1 := ⟨_, rfl⟩
  have hs1 : w1.heap.size = wa.heap.size + 1 := by rw [← hw1]; simp
  have HS1 := Lib.hid hs1
  have HSZ := Lib.hid hsz
  clear x1 x2 x3 ba bb f1 hs1 hsz
  go_upto_region 2 with (fail)
  rw [hw1] at HX HY H2 HT BM HF1 F1
  try rw [hw1]
  clear hw1
  obtain ⟨y1, y2, y3, _, _, _⟩ := HY.out.cells
  go_wp2_with fail
  refine (readV _ s2 X2 Y2 _ H2.out HT.out).mono ?_
  rw [HL2.out, Bool.not_true]
  rintro e wc ⟨t2, B2, m2, d2, B2', m2', d2', rfl, f2, bc⟩
  have bd := below_step bc bc.size (below_alloc wc (.cells #[.bool t2, .slice B2 m2 d2, .slice B2' m2' d2'] 65))
  have HF2 := Lib.hid (Box.new wc (.bool t2) (.slice B2 m2 d2) (.slice B2' m2' d2') 65)
  have F2 : Hid (largeB s2 X2 Y2 = false → IsF (wc.alloc (.cells #[.bool t2, .slice B2 m2 d2, .slice B2' m2' d2'] 65)) (.agg #[.bool t2, .slice B2 m2 d2, .slice B2' m2' d2']) (ratOf s2 X2 Y2)) := Lib.hid (fun h => absurd (HL2.out.symm.trans h) (by simp))
  have F1 : Hid (largeB s1 X1 Y1 = false → IsF (wc.alloc (.cells #[.bool t2, .slice B2 m2 d2, .slice B2' m2' d2'] 65)) (.agg #[.bool t1, .slice B1 m1 d1, .slice B1' m1' d1']) (ratOf s1 X1 Y1)) := Lib.hid (fun h => (F1.out h).below bd)
  have hsz2 : wa.heap.size + 1 ≤ wc.heap.size := by have := bc.size; have := HS1.out; omega
  replace HF1 := Lib.hid (HF1.out.below bd)
  replace HT := Lib.hid (HT.out.below bd)
  have BM := Lib.hid (below_step BM.out BM.out.size bd)
  have HSZ2 := Lib.hid hsz2
  obtain ⟨w2, hw2⟩ : ∃ w2, wc.alloc (.cells #[.bool t2, .slice B2 m2 d2, .slice B2' m2' d2'] 65) = w2 := ⟨_, rfl⟩
  obtain ⟨gf, hgf⟩ : ∃ g, wa.heap.size = g := ⟨_, rfl⟩
  obtain ⟨gg, hgg⟩ : ∃ g, wc.heap.size = g := ⟨_, rfl⟩
  clear y1 y2 y3 bc bd f2 HS1 hsz2 HX HY H1 H2
  go_upto_region 3 with (fail)
  rw [hw2] at HF1 HF2 HT BM F1 F2
  try rw [hw2]
  rw [hgf] at HF1 HSZ HSZ2
  rw [hgg] at HF2 HSZ2
  try rw [hgf]
  try rw [hgg]
  clear hw2 hgf hgg
  go_wp2_with fail
  refine bodyPost_ret (v := .tuple #[.int .i64 0, .int .i64 1]) (by simp [results, Tryd.results32, go_sem]) rfl ⟨rfl, BM.out⟩
set_option maxHeartbeats 2000000 in
set_option maxRecDepth 100000 in
theorem nCompare_true_false (s1 : Bool) (X1 Y1 : Nat) (s2 : Bool) (X2 Y2 : Nat)  (w : World) (v1 v2 : Value) (h1 : RawV w v1 s1 X1 Y1) (h2 : RawV w v2 s2 X2 Y2) (hT : Tab w) (a b : Rat) (ha : ratOf s1 X1 Y1 = a) (hb : ratOf s2 X2 Y2 = b) (hL1 : largeB s1 X1 Y1 = true) (hL2 : largeB s2 X2 Y2 = false) :
    Calls Tryd.prog 32 #[v1, v2] w (fun e w' => e = .returned (.tuple #[.int .i64 0, .int .i64 1]) ∧ Below w.heap.size w w') := by
  have H1 := Lib.hid h1
  have H2 := Lib.hid h2
  have HT := Lib.hid hT
  obtain ⟨A1, n1, c1, A1', n1', c1', rfl⟩ := h1.shape
  obtain ⟨A2, n2, c2, A2', n2', c2', rfl⟩ := h2.shape
  clear h1 h2 hT
  obtain ⟨M, hM, k1, k2, bM⟩ := start1 w (.bool s1) (.slice A1 n1 c1) (.slice A1' n1' c1') (.bool s2) (.slice A2 n2 c2) (.slice A2' n2' c2') 24 24
  have HR := Lib.hid True.intro
  have HX := Lib.hid k1
  have HY := Lib.hid k2
  have BM := Lib.hid bM
  replace H1 := Lib.hid (H1.out.below bM)
  replace H2 := Lib.hid (H2.out.below bM)
  replace HT := Lib.hid (HT.out.below bM)
  have HA := Lib.hid ha
  have HB := Lib.hid hb
  have HL1 := Lib.hid hL1
  have HL2 := Lib.hid hL2
  clear ha hb hL1 hL2 k1 k2 bM
  go_enter Tryd.func32, Tryd.ntmps32
  go_upto_region 1 with (fail)
  rw [← hM]
  clear hM
  obtain ⟨x1, x2, x3, _, _, _⟩ := HX.out.cells
  go_wp2_with fail
  refine (readV _ s1 X1 Y1 _ H1.out HT.out).mono ?_
  rw [HL1.out, Bool.not_true]
  rintro e wa ⟨t1, B1, m1, d1, B1', m1', d1', rfl, f1, ba⟩
  have bb := below_step ba ba.size (below_alloc wa (.cells #[.bool t1, .slice B1 m1 d1, .slice B1' m1' d1'] 65))
  have HF1 := Lib.hid (Box.new wa (.bool t1) (.slice B1 m1 d1) (.slice B1' m1' d1') 65)
  have F1 : Hid (largeB s1 X1 Y1 = false → IsF (wa.alloc (.cells #[.bool t1, .slice B1 m1 d1, .slice B1' m1' d1'] 65)) (.agg #[.bool t1, .slice B1 m1 d1, .slice B1' m1' d1']) (ratOf s1 X1 Y1)) := Lib.hid (fun h => absurd (HL1.out.symm.trans h) (by simp))
  have hsz : w.heap.size + 1 < wa.heap.size := Nat.lt_of_lt_of_le (HY.out.lt) ba.size
  replace HX := Lib.hid (HX.out.below bb)
  replace HY := Lib.hid (HY.out.below bb)
  replace H2 := Lib.hid (H2.out.below bb)
  replace HT := Lib.hid (HT.out.below bb)
  have BM := Lib.hid (below_step BM.out BM.out.size bb)
  obtain ⟨w1, hw1⟩ : ∃ w1, wa.alloc (.cells #[.bool t1, .slice B1 m1 d1, .slice B1' m1' d1'] 65) = w1 := ⟨_, rfl⟩
  have hs1 : w1.heap.size = wa.heap.size + 1 := by rw [← hw1]; simp
  have HS1 := Lib.hid hs1
  have HSZ := Lib.hid hsz
  clear x1 x2 x3 ba bb f1 hs1 hsz
  go_upto_region 2 with (fail)
  rw [hw1] at HX HY H2 HT BM HF1 F1
  try rw [hw1]
  clear hw1
  obtain ⟨y1, y2, y3, _, _, _⟩ := HY.out.cells
  go_wp2_with fail
  refine (readV _ s2 X2 Y2 _ H2.out HT.out).mono ?_
  rw [HL2.out, Bool.not_false]
  rintro e wc ⟨t2, B2, m2, d2, B2', m2', d2', rfl, f2, bc⟩
  have bd := below_step bc bc.size (below_alloc wc (.cells #[.bool t2, .slice B2 m2 d2, .slice B2' m2' d2'] 65))
  have HF2 := Lib.hid (Box.new wc (.bool t2) (.slice B2 m2 d2) (.slice B2' m2' d2') 65)
  have F2 : Hid (largeB s2 X2 Y2 = false → IsF (wc.alloc (.cells #[.bool t2, .slice B2 m2 d2, .slice B2' m2' d2'] 65)) (.agg #[.bool t2, .slice B2 m2 d2, .slice B2' m2' d2']) (ratOf s2 X2 Y2)) := Lib.hid (fun h => (f2.out rfl).below (below_alloc _ _))
  have F1 : Hid (largeB s1 X1 Y1 = false → IsF (wc.alloc (.cells #[.bool t2, .slice B2 m2 d2, .slice B2' m2' d2'] 65)) (.agg #[.bool t1, .slice B1 m1 d1, .slice B1' m1' d1']) (ratOf s1 X1 Y1)) := Lib.hid (fun h => (F1.out h).below bd)
  have hsz2 : wa.heap.size + 1 ≤ wc.heap.size := by have := bc.size; have := HS1.out; omega
  replace HF1 := Lib.hid (HF1.out.below bd)
  replace HT := Lib.hid (HT.out.below bd)
  have BM := Lib.hid (below_step BM.out BM.out.size bd)
  have HSZ2 := Lib.hid hsz2
  obtain ⟨w2, hw2⟩ : ∃ w2, wc.alloc (.cells #[.bool t2, .slice B2 m2 d2, .slice B2' m2' d2'] 65) = w2 := ⟨_, rfl⟩
  obtain ⟨gf, hgf⟩ : ∃ g, wa.heap.size = g := ⟨_, rfl⟩
  obtain ⟨gg, hgg⟩ : ∃ g, wc.heap.size = g := ⟨_, rfl⟩
  clear y1 y2 y3 bc bd f2 HS1 hsz2 HX HY H1 H2
  go_upto_region 3 with (fail)
  rw [hw2] at HF1 HF2 HT BM F1 F2
  try rw [hw2]
  rw [hgf] at HF1 HSZ HSZ2
  rw [hgg] at HF2 HSZ2
  try rw [hgf]
  try rw [hgg]
  clear hw2 hgf hgg
  go_wp2_with fail
  refine bodyPost_ret (v := .tuple #[.int .i64 0, .int .i64 1]) (by simp [results, Tryd.results32, go_sem]) rfl ⟨rfl, BM.out⟩
set_option maxHeartbeats 2000000 in
set_option maxRecDepth 100000 in
theorem nCompare_false_true (s1 : Bool) (X1 Y1 : Nat) (s2 : Bool) (X2 Y2 : Nat)  (w : World) (v1 v2 : Value) (h1 : RawV w v1 s1 X1 Y1) (h2 : RawV w v2 s2 X2 Y2) (hT : Tab w) (a b : Rat) (ha : ratOf s1 X1 Y1 = a) (hb : ratOf s2 X2 Y2 = b) (hL1 : largeB s1 X1 Y1 = false) (hL2 : largeB s2 X2 Y2 = true) :
    Calls Tryd.prog 32 #[v1, v2] w (fun e w' => e = .returned (.tuple #[.int .i64 0, .int .i64 1]) ∧ Below w.heap.size w w') := by
  have H1 := Lib.hid h1
  have H2 := Lib.hid h2
  have HT := Lib.hid hT
  obtain ⟨A1, n1, c1, A1', n1', c1', rfl⟩ := h1.shape
  obtain ⟨A2, n2, c2, A2', n2', c2', rfl⟩ := h2.shape
  clear h1 h2 hT
  obtain ⟨M, hM, k1, k2, bM⟩ := start1 w (.bool s1) (.slice A1 n1 c1) (.slice A1' n1' c1') (.bool s2) (.slice A2 n2 c2) (.slice A2' n2' c2') 24 24
  have HR := Lib.hid True.intro
  have HX := Lib.hid k1
  have HY := Lib.hid k2
  have BM := Lib.hid bM
  replace H1 := Lib.hid (H1.out.below bM)
  replace H2 := Lib.hid (H2.out.below bM)
  replace HT := Lib.hid (HT.out.below bM)
  have HA := Lib.hid ha
  have HB := Lib.hid hb
  have HL1 := Lib.hid hL1
  have HL2 := Lib.hid hL2
  clear ha hb hL1 hL2 k1 k2 bM
  go_enter Tryd.func32, Tryd.ntmps32
  go_upto_region 1 with (fail)
  rw [← hM]
  clear hM
  obtain ⟨x1, x2, x3, _, _, _⟩ := HX.out.cells
  go_wp2_with fail
  refine (readV _ s1 X1 Y1 _ H1.out HT.out).mono ?_
  rw [HL1.out, Bool.not_false]
  rintro e wa ⟨t1, B1, m1, d1, B1', m1', d1', rfl, f1, ba⟩
  have bb := below_step ba ba.size (below_alloc wa (.cells #[.bool t1, .slice B1 m1 d1, .slice B1' m1' d1'] 65))
  have HF1 := Lib.hid (Box.new wa (.bool t1) (.slice B1 m1 d1) (.slice B1' m1' d1') 65)
  have F1 : Hid (largeB s1 X1 Y1 = false → IsF (wa.alloc (.cells #[.bool t1, .slice B1 m1 d1, .slice B1' m1' d1'] 65)) (.agg #[.bool t1, .slice B1 m1 d1, .slice B1' m1' d1']) (ratOf s1 X1 Y1)) := Lib.hid (fun h => (f1.out rfl).below (below_alloc _ _))
  have hsz : w.heap.size + 1 < wa.heap.size := Nat.lt_of_lt_of_le (HY.out.lt) ba.size
  replace HX := Lib.hid (HX.out.below bb)
  replace HY := Lib.hid (HY.out.below bb)
  replace H2 := Lib.hid (H2.out.below bb)
  replace HT := Lib.hid (HT.out.below bb)
  have BM := Lib.hid (below_step BM.out BM.out.size bb)
  obtain ⟨w1, hw1⟩ : ∃ w1, wa.alloc (.cells #[.bool t1, .slice B1 m1 d1, .slice B1' m1' d1'] 65) = w1 := ⟨_, rfl⟩
  have hs1 : w1.heap.size = wa.heap.size + 1 := by rw [← hw1]; simp
  have HS1 := Lib.hid hs1
  have HSZ := Lib.hid hsz
  clear x1 x2 x3 ba bb f1 hs1 hsz
  go_upto_region 2 with (fail)
  rw [hw1] at HX HY H2 HT BM HF1 F1
  try rw [hw1]
  clear hw1
  obtain ⟨y1, y2, y3, _, _, _⟩ := HY.out.cells
  go_wp2_with fail
  refine (readV _ s2 X2 Y2 _ H2.out HT.out).mono ?_
  rw [HL2.out, Bool.not_true]
  rintro e wc ⟨t2, B2, m2, d2, B2', m2', d2', rfl, f2, bc⟩
  have bd := below_step bc bc.size (below_alloc wc (.cells #[.bool t2, .slice B2 m2 d2, .slice B2' m2' d2'] 65))
  have HF2 := Lib.hid (Box.new wc (.bool t2) (.slice B2 m2 d2) (.slice B2' m2' d2') 65)
  have F2 : Hid (largeB s2 X2 Y2 = false → IsF (wc.alloc (.cells #[.bool t2, .slice B2 m2 d2, .slice B2' m2' d2'] 65)) (.agg #[.bool t2, .slice B2 m2 d2, .slice B2' m2' d2']) (ratOf s2 X2 Y2)) := Lib.hid (fun h => absurd (HL2.out.symm.trans h) (by simp))
  have F1 : Hid (largeB s1 X1 Y1 = false → IsF (wc.alloc (.cells #[.bool t2, .slice B2 m2 d2, .slice B2' m2' d2'] 65)) (.agg #[.bool t1, .slice B1 m1 d1, .slice B1' m1' d1']) (ratOf s1 X1 Y1)) := Lib.hid (fun h => (F1.out h).below bd)
  have hsz2 : wa.heap.size + 1 ≤ wc.heap.size := by have := bc.size; have := HS1.out; omega
  replace HF1 := Lib.hid (HF1.out.below bd)
  replace HT := Lib.hid (HT.out.below bd)
  have BM := Lib.hid (below_step BM.out BM.out.size bd)
  have HSZ2 := Lib.hid hsz2
  obtain ⟨w2, hw2⟩ : ∃ w2, wc.alloc (.cells #[.bool t2, .slice B2 m2 d2, .slice B2' m2' d2'] 65) = w2 := ⟨_, rfl⟩
  obtain ⟨gf, hgf⟩ : ∃ g, wa.heap.size = g := ⟨_, rfl⟩
  obtain ⟨gg, hgg⟩ : ∃ g, wc.heap.size = g := ⟨_, rfl⟩
  clear y1 y2 y3 bc bd f2 HS1 hsz2 HX HY H1 H2
  go_upto_region 3 with (fail)
  rw [hw2] at HF1 HF2 HT BM F1 F2
  try rw [hw2]
  rw [hgf] at HF1 HSZ HSZ2
  rw [hgg] at HF2 HSZ2
  try rw [hgf]
  try rw [hgg]
  clear hw2 hgf hgg
  go_wp2_with fail
  refine bodyPost_ret (v := .tuple #[.int .i64 0, .int .i64 1]) (by simp [results, Tryd.results32, go_sem]) rfl ⟨rfl, BM.out⟩
set_option maxHeartbeats 2000000 in
set_option maxRecDepth 100000 in
theorem nCompare_fit (s1 : Bool) (X1 Y1 : Nat) (s2 : Bool) (X2 Y2 : Nat) (c : Int) (hc : cmpQ (ratOf s1 X1 Y1) (ratOf s2 X2 Y2) = c) (w : World) (v1 v2 : Value) (h1 : RawV w v1 s1 X1 Y1) (h2 : RawV w v2 s2 X2 Y2) (hT : Tab w) (a b : Rat) (ha : ratOf s1 X1 Y1 = a) (hb : ratOf s2 X2 Y2 = b) (hL1 : largeB s1 X1 Y1 = false) (hL2 : largeB s2 X2 Y2 = false) :
    Calls Tryd.prog 32 #[v1, v2] w (fun e w' => e = .returned (.tuple #[.int .i64 c, .int .i64 0]) ∧ Below w.heap.size w w') := by
  have H1 := Lib.hid h1
  have H2 := Lib.hid h2
  have HT := Lib.hid hT
  obtain ⟨A1, n1, c1, A1', n1', c1', rfl⟩ := h1.shape
  obtain ⟨A2, n2, c2, A2', n2', c2', rfl⟩ := h2.shape
  clear h1 h2 hT
  obtain ⟨M, hM, k1, k2, bM⟩ := start1 w (.bool s1) (.slice A1 n1 c1) (.slice A1' n1' c1') (.bool s2) (.slice A2 n2 c2) (.slice A2' n2' c2') 24 24
  have HR := Lib.hid True.intro
  have HX := Lib.hid k1
  have HY := Lib.hid k2
  have BM := Lib.hid bM
  replace H1 := Lib.hid (H1.out.below bM)
  replace H2 := Lib.hid (H2.out.below bM)
  replace HT := Lib.hid (HT.out.below bM)
  have HA := Lib.hid ha
  have HB := Lib.hid hb
  have HL1 := Lib.hid hL1
  have HL2 := Lib.hid hL2
  have fa := (largeB_false hL1).2.2
  have fb := (largeB_false hL2).2.2
  rw [ha] at fa
  rw [hb] at fb
  have FA := Lib.hid fa
  have FB := Lib.hid fb
  clear fa fb
  rw [ha, hb] at hc
  have HC := Lib.hid hc
  clear hc
  clear ha hb hL1 hL2 k1 k2 bM
  go_enter Tryd.func32, Tryd.ntmps32
  go_upto_region 1 with (fail)
  rw [← hM]
  clear hM
  obtain ⟨x1, x2, x3, _, _, _⟩ := HX.out.cells
  go_wp2_with fail
  refine (readV _ s1 X1 Y1 _ H1.out HT.out).mono ?_
  rw [HL1.out, Bool.not_false]
  rintro e wa ⟨t1, B1, m1, d1, B1', m1', d1', rfl, f1, ba⟩
  have bb := below_step ba ba.size (below_alloc wa (.cells #[.bool t1, .slice B1 m1 d1, .slice B1' m1' d1'] 65))
  have HF1 := Lib.hid (Box.new wa (.bool t1) (.slice B1 m1 d1) (.slice B1' m1' d1') 65)
  have F1 : Hid (largeB s1 X1 Y1 = false → IsF (wa.alloc (.cells #[.bool t1, .slice B1 m1 d1, .slice B1' m1' d1'] 65)) (.agg #[.bool t1, .slice B1 m1 d1, .slice B1' m1' d1']) (ratOf s1 X1 Y1)) := Lib.hid (fun h => (f1.out rfl).below (below_alloc _ _))
  have hsz : w.heap.size + 1 < wa.heap.size := Nat.lt_of_lt_of_le (HY.out.lt) ba.size
  replace HX := Lib.hid (HX.out.below bb)
  replace HY := Lib.hid (HY.out.below bb)
  replace H2 := Lib.hid (H2.out.below bb)
  replace HT := Lib.hid (HT.out.below bb)
  have BM := Lib.hid (below_step BM.out BM.out.size bb)
  obtain ⟨w1, hw1⟩ : ∃ w1, wa.alloc (.cells #[.bool t1, .slice B1 m1 d1, .slice B1' m1' d1'] 65) = w1 := ⟨_, rfl⟩
  have hs1 : w1.heap.size = wa.heap.size + 1 := by rw [← hw1]; simp
  have HS1 := Lib.hid hs1
  have HSZ := Lib.hid hsz
  clear x1 x2 x3 ba bb f1 hs1 hsz
  go_upto_region 2 with (fail)
  rw [hw1] at HX HY H2 HT BM HF1 F1
  try rw [hw1]
  clear hw1
  obtain ⟨y1, y2, y3, _, _, _⟩ := HY.out.cells
  go_wp2_with fail
  refine (readV _ s2 X2 Y2 _ H2.out HT.out).mono ?_
  rw [HL2.out, Bool.not_false]
  rintro e wc ⟨t2, B2, m2, d2, B2', m2', d2', rfl, f2, bc⟩
  have bd := below_step bc bc.size (below_alloc wc (.cells #[.bool t2, .slice B2 m2 d2, .slice B2' m2' d2'] 65))
  have HF2 := Lib.hid (Box.new wc (.bool t2) (.slice B2 m2 d2) (.slice B2' m2' d2') 65)
  have F2 : Hid (largeB s2 X2 Y2 = false → IsF (wc.alloc (.cells #[.bool t2, .slice B2 m2 d2, .slice B2' m2' d2'] 65)) (.agg #[.bool t2, .slice B2 m2 d2, .slice B2' m2' d2']) (ratOf s2 X2 Y2)) := Lib.hid (fun h => (f2.out rfl).below (below_alloc _ _))
  have F1 : Hid (largeB s1 X1 Y1 = false → IsF (wc.alloc (.cells #[.bool t2, .slice B2 m2 d2, .slice B2' m2' d2'] 65)) (.agg #[.bool t1, .slice B1 m1 d1, .slice B1' m1' d1']) (ratOf s1 X1 Y1)) := Lib.hid (fun h => (F1.out h).below bd)
  have hsz2 : wa.heap.size + 1 ≤ wc.heap.size := by have := bc.size; have := HS1.out; omega
  replace HF1 := Lib.hid (HF1.out.below bd)
  replace HT := Lib.hid (HT.out.below bd)
  have BM := Lib.hid (below_step BM.out BM.out.size bd)
  have HSZ2 := Lib.hid hsz2
  obtain ⟨w2, hw2⟩ : ∃ w2, wc.alloc (.cells #[.bool t2, .slice B2 m2 d2, .slice B2' m2' d2'] 65) = w2 := ⟨_, rfl⟩
  obtain ⟨gf, hgf⟩ : ∃ g, wa.heap.size = g := ⟨_, rfl⟩
  obtain ⟨gg, hgg⟩ : ∃ g, wc.heap.size = g := ⟨_, rfl⟩
  clear y1 y2 y3 bc bd f2 HS1 hsz2 HX HY H1 H2
  go_upto_region 3 with (fail)
  rw [hw2] at HF1 HF2 HT BM F1 F2
  try rw [hw2]
  rw [hgf] at HF1 HSZ HSZ2
  rw [hgg] at HF2 HSZ2
  try rw [hgf]
  try rw [hgg]
  clear hw2 hgf hgg
  have F1 := Lib.hid (F1.out HL1.out)
  have F2 := Lib.hid (F2.out HL2.out)
  rw [HA.out] at F1
  rw [HB.out] at F2
  obtain ⟨x1, x2, x3, _⟩ := HF1.out.cells
  obtain ⟨y1, y2, y3, _⟩ := HF2.out.cells
  go_wp2_with fail
  refine (fCmp a b _ _ _ F1.out F2.out (fit_Wq FA.out (by omega)) (fit_Wq FB.out (by omega))).mono ?_
  rw [HC.out]
  rintro e we ⟨rfl, be⟩
  have BM := Lib.hid (below_step BM.out BM.out.size be)
  clear be
  go_wp2_with fail
  refine bodyPost_ret (v := .tuple #[.int .i64 c, .int .i64 0]) (by simp [results, Tryd.results32, go_sem]) rfl ⟨rfl, BM.out⟩
/-- what Compare returns -/
theorem nCompare (s1 : Bool) (X1 Y1 : Nat) (s2 : Bool) (X2 Y2 : Nat) (w : World) (v1 v2 : Value) (h1 : RawV w v1 s1 X1 Y1) (h2 : RawV w v2 s2 X2 Y2) (hT : Tab w) (c k : Int) (hc : (if (largeB s1 X1 Y1 || largeB s2 X2 Y2) = true then 0 else cmpQ (ratOf s1 X1 Y1) (ratOf s2 X2 Y2)) = c) (hk : (if (largeB s1 X1 Y1 || largeB s2 X2 Y2) = true then 1 else 0) = k) :
    Calls Tryd.prog 32 #[v1, v2] w fun e w' => e = .returned (.tuple #[.int .i64 c, .int .i64 k]) ∧ Below w.heap.size w w' := by
  subst hc hk
  cases e1 : largeB s1 X1 Y1 <;> cases e2 : largeB s2 X2 Y2
  · exact nCompare_fit s1 X1 Y1 s2 X2 Y2 _ rfl w v1 v2 h1 h2 hT _ _ rfl rfl e1 e2
  · exact nCompare_false_true s1 X1 Y1 s2 X2 Y2 w v1 v2 h1 h2 hT _ _ rfl rfl e1 e2
  · exact nCompare_true_false s1 X1 Y1 s2 X2 Y2 w v1 v2 h1 h2 hT _ _ rfl rfl e1 e2
  · exact nCompare_true_true s1 X1 Y1 s2 X2 Y2 w v1 v2 h1 h2 hT _ _ rfl rfl e1 e2
end Go.Proofs.YtfmhplcpejmkhabDoor

namespace Go.Proofs.YtfmhplcpejmkhabDoor
open Go.RowKit Dig
set_option linter.unusedVariables false
set_option linter.unusedSimpArgs false
def valO : Out → Rat
  | .ok q => q
  | .err _ => 0
theorem fit_zero : fitQ 0 := by
  refine ⟨?_, ?_⟩
  · exact Nat.le_trans ((dig_length_le B32_two _ 2).2 (by unfold B32; decide)) (by omega : 2 ≤ 64)
  · exact Nat.le_trans ((dig_length_le B32_two _ 2).2 (by unfold B32; decide)) (by omega : 2 ≤ 64)
theorem OutIs.rawV {w : World} {o : Out} {u : Value} {k : Int} (h : OutIs w o u k) : RawV w u (ng (valO o)) (valO o).num.natAbs (dwv (valO o).den) := by
  cases o with
  | ok q => exact h.2.1.raw h.2.2
  | err j =>
    obtain ⟨_, e, _, _⟩ := h
    rw [e]
    exact ⟨none, 0, [], none, 0, [], rfl, Rd.nil _ _ _ (by omega), Rd.nil _ _ _ (by omega), (fun x hx => by cases hx), (fun x hx => by cases hx), rfl, rfl, by simp, by simp⟩
theorem OutIs.fit {w : World} {o : Out} {u : Value} {k : Int} (h : OutIs w o u k) : fitQ (valO o) := by
  cases o with
  | ok q => exact h.2.2
  | err j => exact fit_zero
theorem give_cases (q : Rat) : (give q = .ok q ∧ fitQ q) ∨ give q = .err 1 := by
  unfold give
  by_cases h : fitQ q
  · exact Or.inl ⟨if_pos h, h⟩
  · exact Or.inr (if_neg h)
end Go.Proofs.YtfmhplcpejmkhabDoor

namespace Go.Proofs.YtfmhplcpejmkhabDoor
open Go.RowKit Dig
set_option linter.unusedVariables false
set_option linter.unusedSimpArgs false
/-- the slice of n words is the number a -/
def NatAt (w : World) (A : Option Addr) (n c a : Nat) : Prop := (W a).length = n ∧ Rd w A c (W a)
theorem NatAt.below {w w' : World} {A : Option Addr} {n c a : Nat} (h : NatAt w A n c a) (hb : Below w.heap.size w w') : NatAt w' A n c a := ⟨h.1, h.2.below hb⟩
theorem NatAt.grown {w w' : World} {A : Option Addr} {n c a g : Nat} {x y z : Value} {t : TypeId} (h : NatAt w A n c a) (hb : Box w g x y z t) (hx : NI x) (hy : NI y) (hz : NI z) (hg : w.grownBy w' (some g)) : NatAt w' A n c a := ⟨h.1, h.2.grown_box hb hx hy hz hg⟩
theorem NatAt.of {w : World} {A : Option Addr} {c a : Nat} (h : Rd w A c (W a)) : NatAt w A (W a).length c a := ⟨rfl, h⟩
theorem IsF.at_ {w : World} {t : Bool} {A B : Option Addr} {n c m d : Nat} {q : Rat} (h : IsF w (.agg #[.bool t, .slice A n c, .slice B m d]) q) : t = ng q ∧ NatAt w A n c q.num.natAbs ∧ NatAt w B m d q.den := by
  obtain ⟨A1, c1, A2, c2, e, h1, h2⟩ := h
  simp only [Value.agg.injEq, Array.mk.injEq, List.cons.injEq, Value.bool.injEq, Value.slice.injEq, and_true] at e
  obtain ⟨rfl, ⟨rfl, rfl, rfl⟩, rfl, rfl, rfl⟩ := e
  exact ⟨rfl, ⟨rfl, h1⟩, rfl, h2⟩
theorem IsF.mk_at {w : World} {t : Bool} {A B : Option Addr} {n c m d : Nat} {q : Rat} (h0 : t = ng q) (h1 : NatAt w A n c q.num.natAbs) (h2 : NatAt w B m d q.den) : IsF w (.agg #[.bool t, .slice A n c, .slice B m d]) q := by
  obtain ⟨rfl, r1⟩ := h1
  obtain ⟨rfl, r2⟩ := h2
  subst h0
  exact ⟨_, _, _, _, rfl, r1, r2⟩
theorem GrQ.zero (w : World) : GrQ w noRat 0 := by
  refine ⟨none, 0, none, 0, ?_, ?_, ?_⟩
  · rw [show ((0 : Rat).num.natAbs) = 0 from rfl, show ((0 : Rat).den) = 1 from rfl, W_zero]; rfl
  · rw [show ((0 : Rat).num.natAbs) = 0 from rfl, W_zero]; exact Rd.nil _ _ _ (by omega)
  · exact Rd.nil _ _ _ (by omega)
theorem OutIs.zero (w : World) : OutIs w (.ok 0) noRat 0 := ⟨rfl, GrQ.zero w, fit_zero⟩
theorem aRoot (a k : Nat) (w : World) (A : Option Addr) (n c : Nat) (h : NatAt w A n c a) (hs : (W a).length ≤ 2000) (h2 : 2 ≤ k) (h8 : k ≤ 12) :
    Calls Tryd.prog 73 #[.slice A n c, .int .i64 k] w fun e w' => ∃ A' n' c', e = .returned (.tuple #[.slice A' n' c', .bool (decide (irt k a ^ k = a))]) ∧ Hid (NatAt w' A' n' c' (irt k a)) ∧ Below w.heap.size w w' := by
  obtain ⟨m, rfl⟩ : ∃ m, k = m + 2 := ⟨k - 2, by omega⟩
  obtain ⟨rfl, hr⟩ := h
  refine (wRoot a m w A c hr hs (by omega)).mono ?_
  rintro e w' ⟨B, d, rfl, hB, hb⟩
  exact ⟨_, _, _, rfl, NatAt.of hB, hb⟩
theorem aShl (a k : Nat) (w : World) (A : Option Addr) (n c : Nat) (h : NatAt w A n c a) (hs : (W a).length ≤ 500000) (hk : k ≤ 1000000) :
    Calls Tryd.prog 108 #[.slice A n c, .int .i64 k] w fun e w' => ∃ A' n' c', e = .returned (.slice A' n' c') ∧ Hid (NatAt w' A' n' c' (a * 2 ^ k)) ∧ Below w.heap.size w w' := by
  obtain ⟨rfl, hr⟩ := h
  refine (wShl a k w A c hr (by omega) (by omega)).mono ?_
  rintro e w' ⟨B, d, rfl, hB, hb⟩
  exact ⟨_, _, _, rfl, NatAt.of hB, hb⟩
theorem aDiv (a b : Nat) (w : World) (A A' : Option Addr) (n c n' c' : Nat) (h : NatAt w A n c a) (h' : NatAt w A' n' c' b) (hs : (W a).length ≤ 1000000) (hb : 0 < b) :
    Calls Tryd.prog 109 #[.slice A n c, .slice A' n' c'] w fun e w' => ∃ B x y B' x' y', e = .returned (.tuple #[.slice B x y, .slice B' x' y']) ∧ Hid (NatAt w' B x y (a / b)) ∧ Hid (NatAt w' B' x' y' (a % b)) ∧ Below w.heap.size w w' := by
  obtain ⟨rfl, hr⟩ := h
  obtain ⟨rfl, hr'⟩ := h'
  refine (wDiv a b w A A' c c' hr hr' hs hb).mono ?_
  rintro e w' ⟨B, d, B', d', rfl, hB, hB', hbl⟩
  exact ⟨_, _, _, _, _, _, rfl, NatAt.of hB, NatAt.of hB', hbl⟩
theorem aAdd (a b : Nat) (w : World) (A A' : Option Addr) (n c n' c' : Nat) (h : NatAt w A n c a) (h' : NatAt w A' n' c' b) (hs : (W a).length ≤ 500000) (hs' : (W b).length ≤ 500000) :
    Calls Tryd.prog 111 #[.slice A n c, .slice A' n' c'] w fun e w' => ∃ B x y, e = .returned (.slice B x y) ∧ Hid (NatAt w' B x y (a + b)) ∧ Below w.heap.size w w' := by
  obtain ⟨rfl, hr⟩ := h
  obtain ⟨rfl, hr'⟩ := h'
  refine (wAdd a b w A A' c c' hr hr' (by omega) (by omega)).mono ?_
  rintro e w' ⟨B, d, rfl, hB, hbl⟩
  exact ⟨_, _, _, rfl, NatAt.of hB, hbl⟩
theorem aSmall1 (w : World) : Calls Tryd.prog 94 #[.int .u64 1] w fun e w' => ∃ B x y, e = .returned (.slice B x y) ∧ Hid (NatAt w' B x y 1) ∧ Below w.heap.size w w' := by
  refine (wSmall1 w).mono ?_
  rintro e w' ⟨B, d, rfl, hB, hbl⟩
  exact ⟨_, _, _, rfl, NatAt.of hB, hbl⟩
theorem W_nil_iff (a : Nat) : W a = [] ↔ a = 0 := dig_ne_nil B32_two
theorem aZero (a : Nat) (w : World) (A : Option Addr) (n c : Nat) (h : NatAt w A n c a) :
    Calls Tryd.prog 54 #[.slice A n c] w fun e w' => e = .returned (.bool (decide (a = 0))) ∧ w = w' := by
  obtain ⟨rfl, hr⟩ := h
  refine (wZero w A (W a) c).mono ?_
  rintro e w' ⟨rfl, rfl⟩
  refine ⟨ret_bool ?_, rfl⟩
  congr 1
  exact propext (W_nil_iff a)
theorem aReduce (s : Bool) (a d : Nat) (w : World) (A A' : Option Addr) (n c n' c' : Nat) (h : NatAt w A n c a) (h' : NatAt w A' n' c' d) (hd : d ≠ 0) (hs : (W a).length ≤ 500000) (hs' : (W d).length ≤ 500000) (hT : Tab w) (q : Rat) (hq : mkRat (sg s a) d = q) :
    Calls Tryd.prog 92 #[.bool s, .slice A n c, .slice A' n' c'] w fun e w' => ∃ t B1 m1 e1 B2 m2 e2, e = .returned (.agg #[.bool t, .slice B1 m1 e1, .slice B2 m2 e2]) ∧ Hid (IsF w' (.agg #[.bool t, .slice B1 m1 e1, .slice B2 m2 e2]) q) ∧ Below w.heap.size w w' := by
  obtain ⟨rfl, hr⟩ := h
  obtain ⟨rfl, hr'⟩ := h'
  subst hq
  exact Calls.partsF ((wReduce s a d w A A' c c' hr hr' hd (by omega) (by omega) hT).mono fun e w' hh => hh)
end Go.Proofs.YtfmhplcpejmkhabDoor

namespace Go.Proofs.YtfmhplcpejmkhabDoor
open Go.RowKit Dig
set_option linter.unusedVariables false
set_option linter.unusedSimpArgs false
theorem mk_sub (n m : Int) (d e : Nat) (hd : d ≠ 0) (he : e ≠ 0) : mkRat n d - mkRat m e = mkRat (n * e - m * d) (d * e) := by
  rw [Rat.sub_eq_add_neg, Rat.neg_mkRat, Rat.mkRat_add_mkRat _ _ hd he]
  congr 1
  grind
theorem cmp_mk (n m : Int) (d e : Nat) (hd : d ≠ 0) (he : e ≠ 0) : cmpQ (mkRat n d) (mkRat m e) = cmpZ (n * e) (m * d) := by
  unfold cmpQ
  rw [mk_sub n m d e hd he, sgnI_mk _ _ (Nat.mul_ne_zero hd he)]
  unfold cmpZ
  split <;> split <;> (try split) <;> (try split) <;> omega
theorem x_mk (x : Rat) : x = mkRat (sg (ng x) x.num.natAbs) x.den := by rw [sg_ng, Rat.mkRat_self]
theorem cmpZ_lt {a b : Int} (h : a < b) : cmpZ a b = -1 := by unfold cmpZ; rw [if_pos h]
/-- below, above, and how far apart -/
theorem grid_steps (x : Rat) (p : Nat) :
    (gridQ x p false = x ∧ gridQ x p true = x) ∨
    (cmpQ (gridQ x p false) x = -1 ∧ cmpQ x (gridQ x p true) = -1 ∧ cmpQ (gridQ x p false) (gridQ x p true) = -1 ∧ gridQ x p true - gridQ x p false = mkRat 1 (2 ^ p)) := by
  have hP : (2 ^ p : Nat) ≠ 0 := Nat.ne_of_gt (Nat.two_pow_pos p)
  have hd := x.den_nz
  have hx := x_mk x
  obtain ⟨s, hs⟩ : ∃ s, ng x = s := ⟨_, rfl⟩
  obtain ⟨n, hn⟩ : ∃ n, x.num.natAbs = n := ⟨_, rfl⟩
  obtain ⟨d, hdd⟩ : ∃ d, x.den = d := ⟨_, rfl⟩
  obtain ⟨P, hPP⟩ : ∃ P, (2 ^ p : Nat) = P := ⟨_, rfl⟩
  unfold gridQ gridN
  rw [hs, hn, hdd, hPP]
  rw [hs, hn, hdd] at hx
  rw [hdd] at hd
  rw [hPP] at hP
  have hm := Nat.div_add_mod (n * P) d
  have hr := Nat.mod_lt (n * P) (Nat.pos_of_ne_zero hd)
  obtain ⟨k, hk⟩ : ∃ k, n * P / d = k := ⟨_, rfl⟩
  obtain ⟨r, hrr⟩ : ∃ r, n * P % d = r := ⟨_, rfl⟩
  rw [hk, hrr] at hm ⊢
  rw [hrr] at hr
  have hmi : (d : Int) * k + r = n * P := by exact_mod_cast hm
  rw [hx]
  by_cases h0 : r = 0
  · left
    have e : ∀ b : Bool, (k + if (b != s) = true ∧ r ≠ 0 then 1 else 0) = k := by intro b; rw [if_neg (by simp [h0])]; rfl
    rw [e, e]
    have : mkRat (sg s k) P = mkRat (sg s n) d := by
      rw [Rat.mkRat_eq_iff hP hd]
      subst h0
      unfold sg
      cases s <;> simp <;> grind
    exact ⟨this, this⟩
  · right
    rw [cmp_mk _ _ _ _ hP hd, cmp_mk _ _ _ _ hd hP, cmp_mk _ _ _ _ hP hP, mk_sub _ _ _ _ hP hP]
    have hP0 : (0 : Int) < P := by omega
    have hr0 : 0 < r := by omega
    have hc : (k : Int) * d + r = n * P := by grind
    have m1 : (k : Int) * d < n * P := by omega
    have m2 : (n : Int) * P < ((k : Int) + 1) * d := by
      have : ((k : Int) + 1) * d = k * d + d := by grind
      omega
    have m3 : (k : Int) * P < ((k : Int) + 1) * P := by
      have : ((k : Int) + 1) * P = k * P + P := by grind
      omega
    have m4 : ((k : Int) + 1) * P - k * P = P := by grind
    have m5 : mkRat (P : Int) (P * P) = mkRat 1 P := by
      rw [Rat.mkRat_eq_iff (Nat.mul_ne_zero hP hP) hP]
      push_cast
      grind
    cases s
    · have e1 : (k + if (false != false) = true ∧ r ≠ 0 then 1 else 0) = k := by simp
      have e2 : (k + if (true != false) = true ∧ r ≠ 0 then 1 else 0) = k + 1 := by simp [h0]
      rw [e1, e2]
      simp only [sg, Bool.false_eq_true, if_false]
      push_cast
      refine ⟨cmpZ_lt m1, cmpZ_lt m2, cmpZ_lt m3, ?_⟩
      rw [m4, m5]
    · have e1 : (k + if (false != true) = true ∧ r ≠ 0 then 1 else 0) = k + 1 := by simp [h0]
      have e2 : (k + if (true != true) = true ∧ r ≠ 0 then 1 else 0) = k := by simp
      rw [e1, e2]
      simp only [sg, if_true]
      push_cast
      refine ⟨cmpZ_lt ?_, cmpZ_lt ?_, cmpZ_lt ?_, ?_⟩
      · rw [Int.neg_mul, Int.neg_mul]; omega
      · rw [Int.neg_mul, Int.neg_mul]; omega
      · rw [Int.neg_mul, Int.neg_mul]; omega
      · have m6 : -(k : Int) * P - -((k : Int) + 1) * P = P := by grind
        rw [m6, m5]
end Go.Proofs.YtfmhplcpejmkhabDoor

namespace Go.Proofs.YtfmhplcpejmkhabDoor
set_option linter.unusedVariables false
set_option linter.unusedSimpArgs false
/-- the beginnings of the continued fraction -/
def plainL (n d m e : Nat) : List Nat :=
  if n % d = 0 then [n / d]
  else if (n / d + 1) * e ≤ m then [n / d + 1]
  else if h : 0 < d ∧ m < (n / d + 1) * e then n / d :: plainL e (m - n / d * e) d (n % d)
  else []
termination_by d + e
decreasing_by
  have h1 := Nat.mod_lt n h.1
  have h2 := h.2
  rw [Nat.add_mul] at h2
  omega
/-- put together -/
def foldL : List Nat → Nat × Nat
  | [] => (0, 1)
  | [x] => (x, 1)
  | x :: y :: t => (x * (foldL (y :: t)).1 + (foldL (y :: t)).2, (foldL (y :: t)).1)
def plainN (n d m e : Nat) : Nat × Nat := foldL (plainL n d m e)
/-- 0 < n / d <= m / e -/
structure Btw (n d m e : Nat) : Prop where
  n0 : 0 < n
  d0 : 0 < d
  e0 : 0 < e
  le : n * e ≤ m * d
theorem Btw.m0 {n d m e : Nat} (h : Btw n d m e) : 0 < m := by
  rcases Nat.eq_zero_or_pos m with h0 | h0
  · have := h.le
    have := Nat.mul_pos h.n0 h.e0
    rw [h0] at *
    omega
  · exact h0
theorem Btw.next {n d m e : Nat} (h : Btw n d m e) (h1 : ¬ n % d = 0) (h2 : ¬ (n / d + 1) * e ≤ m) : Btw e (m - n / d * e) d (n % d) ∧ n / d * e < m ∧ m < (n / d + 1) * e := by
  have hm := Nat.div_add_mod n d
  have hr := Nat.mod_lt n h.d0
  have hle := h.le
  generalize n / d = f at *
  generalize n % d = r at *
  have e1 : d * f * e + r * e ≤ m * d := by rw [← Nat.add_mul, hm]; exact hle
  have e2 : 0 < r * e := Nat.mul_pos (by omega) h.e0
  have e3 : d * f * e = d * (f * e) := Nat.mul_assoc _ _ _
  have e4 : d * (f * e) < d * m := by rw [Nat.mul_comm d m]; omega
  have e5 : f * e < m := Nat.lt_of_mul_lt_mul_left e4
  refine ⟨⟨h.e0, by omega, by omega, ?_⟩, e5, by omega⟩
  rw [Nat.mul_comm e r, Nat.mul_sub]
  rw [Nat.mul_comm d m]
  omega
theorem plainL_step {n d m e : Nat} (h : Btw n d m e) (h1 : ¬ n % d = 0) (h2 : ¬ (n / d + 1) * e ≤ m) : plainL n d m e = n / d :: plainL e (m - n / d * e) d (n % d) := by
  conv => lhs; rw [plainL]
  rw [if_neg h1, if_neg h2, dif_pos ⟨h.d0, by omega⟩]
theorem plainL_whole {n d m e : Nat} (h1 : n % d = 0) : plainL n d m e = [n / d] := by rw [plainL, if_pos h1]
theorem plainL_above {n d m e : Nat} (h1 : ¬ n % d = 0) (h2 : (n / d + 1) * e ≤ m) : plainL n d m e = [n / d + 1] := by rw [plainL, if_neg h1, if_pos h2]
theorem plainL_ne (n d m e : Nat) (h : Btw n d m e) : ∃ x t, plainL n d m e = x :: t := by
  by_cases h1 : n % d = 0
  · exact ⟨_, _, plainL_whole h1⟩
  · by_cases h2 : (n / d + 1) * e ≤ m
    · exact ⟨_, _, plainL_above h1 h2⟩
    · exact ⟨_, _, plainL_step h h1 h2⟩
theorem foldL_cons {x : Nat} {l : List Nat} (h : l ≠ []) : foldL (x :: l) = (x * (foldL l).1 + (foldL l).2, (foldL l).1) := by
  cases l with
  | nil => exact absurd rfl h
  | cons y t => rfl
theorem plainN_step {n d m e : Nat} (h : Btw n d m e) (h1 : ¬ n % d = 0) (h2 : ¬ (n / d + 1) * e ≤ m) : plainN n d m e = (n / d * (plainN e (m - n / d * e) d (n % d)).1 + (plainN e (m - n / d * e) d (n % d)).2, (plainN e (m - n / d * e) d (n % d)).1) := by
  unfold plainN
  obtain ⟨x, t, ht⟩ := plainL_ne _ _ _ _ (h.next h1 h2).1
  rw [plainL_step h h1 h2, foldL_cons (by rw [ht]; simp)]
/-- what the result is: between, and least -/
structure Least (n d m e : Nat) (r : Nat × Nat) : Prop where
  x0 : 0 < r.1
  y0 : 0 < r.2
  lo : n * r.2 ≤ r.1 * d
  hi : r.1 * e ≤ m * r.2
  min : ∀ p q, 0 < q → n * q ≤ p * d → p * e ≤ m * q → r.1 ≤ p ∧ r.2 ≤ q
theorem plain_least : ∀ (k n d m e : Nat), d + e ≤ k → Btw n d m e → Least n d m e (plainN n d m e)
  | 0, n, d, m, e, hk, h => by have := h.d0; omega
  | k + 1, n, d, m, e, hk, h => by
    have hm := Nat.div_add_mod n d
    have hr := Nat.mod_lt n h.d0
    have hd0 := h.d0
    have he0 := h.e0
    have hn0 := h.n0
    have hle := h.le
    by_cases h1 : n % d = 0
    · have e0 : plainN n d m e = (n / d, 1) := by unfold plainN; rw [plainL_whole h1]; rfl
      rw [e0]
      generalize n / d = f at *
      rw [h1, Nat.add_zero] at hm
      have hf : 0 < f := by
        rcases Nat.eq_zero_or_pos f with h0 | h0
        · rw [h0, Nat.mul_zero] at hm; omega
        · exact h0
      refine ⟨hf, Nat.one_pos, ?_, ?_, ?_⟩
      · show n * 1 ≤ f * d
        rw [Nat.mul_one, Nat.mul_comm f d]; omega
      · show f * e ≤ m * 1
        rw [Nat.mul_one]
        have : d * (f * e) ≤ d * m := by rw [← Nat.mul_assoc, hm, Nat.mul_comm d m]; exact hle
        exact Nat.le_of_mul_le_mul_left this hd0
      · intro p q hq hp _
        refine ⟨?_, hq⟩
        show f ≤ p
        have : d * f ≤ d * p := by
          rw [hm]
          refine Nat.le_trans (Nat.le_mul_of_pos_right n hq) ?_
          rw [Nat.mul_comm d p]; exact hp
        exact Nat.le_of_mul_le_mul_left this hd0
    · by_cases h2 : (n / d + 1) * e ≤ m
      · have e0 : plainN n d m e = (n / d + 1, 1) := by unfold plainN; rw [plainL_above h1 h2]; rfl
        rw [e0]
        generalize n / d = f at *
        generalize n % d = r at *
        refine ⟨Nat.succ_pos _, Nat.one_pos, ?_, ?_, ?_⟩
        · show n * 1 ≤ (f + 1) * d
          rw [Nat.mul_one, Nat.add_mul, Nat.mul_comm f d]; omega
        · show (f + 1) * e ≤ m * 1
          rw [Nat.mul_one]; exact h2
        · intro p q hq hp _
          refine ⟨?_, hq⟩
          show f + 1 ≤ p
          have : d * f < d * p := by
            refine Nat.lt_of_lt_of_le (by omega : d * f < n) (Nat.le_trans (Nat.le_mul_of_pos_right n hq) ?_)
            rw [Nat.mul_comm d p]; exact hp
          exact Nat.lt_of_mul_lt_mul_left this
      · have e0 := plainN_step h h1 h2
        obtain ⟨hB, hlt, hgt⟩ := h.next h1 h2
        have hfe : n / d * e + e = (n / d + 1) * e := by rw [Nat.add_mul]; omega
        have ih := plain_least k e (m - n / d * e) d (n % d) (by omega) hB
        rw [e0]
        generalize plainN e (m - n / d * e) d (n % d) = ab at *
        obtain ⟨a, b⟩ := ab
        obtain ⟨ha, hb, hlo, hhi, hmin⟩ := ih
        generalize n / d = f at *
        generalize n % d = r at *
        dsimp only at *
        obtain ⟨v, hv⟩ : ∃ v, m = f * e + v := ⟨m - f * e, by omega⟩
        have hv2 : m - f * e = v := by omega
        rw [hv2] at hlo hmin hB
        subst hv
        subst hm
        refine ⟨?_, ?_, ?_, ?_, ?_⟩
        · show 0 < f * a + b
          omega
        · exact ha
        · show (d * f + r) * a ≤ (f * a + b) * d
          grind
        · show (f * a + b) * e ≤ (f * e + v) * a
          grind
        · intro p q hq hp hpe
          show f * a + b ≤ p ∧ a ≤ q
          have hr0 : 0 < r := by omega
          have h3 : f * q < p := by
            have : d * (f * q) < d * p := by
              have : 0 < r * q := Nat.mul_pos hr0 hq
              grind
            exact Nat.lt_of_mul_lt_mul_left this
          obtain ⟨t, ht⟩ : ∃ t, p = f * q + t := ⟨p - f * q, by omega⟩
          have ht0 : 0 < t := by omega
          subst ht
          have := hmin q t ht0 (by grind) (by grind)
          have h4 : f * a ≤ f * q := Nat.mul_le_mul_left f this.1
          omega
theorem plain_is {n d m e : Nat} (h : Btw n d m e) : Least n d m e (plainN n d m e) := plain_least _ _ _ _ _ (Nat.le_refl _) h
theorem plain_le {n d m e : Nat} (h : Btw n d m e) : (plainN n d m e).1 ≤ n ∧ (plainN n d m e).2 ≤ d :=
  (plain_is h).min n d h.d0 (Nat.le_refl _) h.le
/-- the quotient of two natural numbers -/
def qq (n d : Nat) : Rat := mkRat (n : Int) d
theorem qq_floor (n d : Nat) (hd : 0 < d) : gridQ (qq n d) 0 false = qq (n / d) 1 := by
  have := grid_mk false n d false (by omega)
  have e : mkRat (sg false n) d = qq n d := rfl
  rw [e] at this
  rw [this]
  unfold gridN qq
  simp [sg]
theorem qq_cmp (n d m e : Nat) (hd : 0 < d) (he : 0 < e) : cmpQ (qq n d) (qq m e) = cmpZ ((n * e : Nat) : Int) ((m * d : Nat) : Int) := by
  unfold qq
  rw [cmp_mk _ _ _ _ (by omega) (by omega)]
  push_cast
  rfl
theorem cmpZ_zero (a b : Int) : (cmpZ a b == 0) = decide (a = b) := by
  unfold cmpZ
  split
  · have : a ≠ b := by omega
    simp [this]
  · split
    · simp [*]
    · simp [*]
theorem cmpZ_le (a b : Int) : decide (cmpZ a b ≤ 0) = decide (a ≤ b) := by
  unfold cmpZ
  split
  · rw [decide_eq_true (by omega), decide_eq_true (by omega)]
  · split
    · rw [decide_eq_true (by omega), decide_eq_true (by omega)]
    · rw [decide_eq_false (by omega), decide_eq_false (by omega)]
theorem qq_whole (n d : Nat) (hd : 0 < d) : (cmpQ (qq (n / d) 1) (qq n d) == 0) = decide (n % d = 0) := by
  rw [qq_cmp _ _ _ _ Nat.one_pos hd, cmpZ_zero]
  have := Nat.div_add_mod n d
  rw [Nat.mul_comm] at this
  congr 1
  rw [Nat.mul_one, eq_iff_iff]
  omega
theorem qq_next (k m e : Nat) (he : 0 < e) : decide (cmpQ (qq k 1) (qq m e) ≤ 0) = decide (k * e ≤ m) := by
  rw [qq_cmp _ _ _ _ Nat.one_pos he, cmpZ_le, Nat.mul_one]
  congr 1
  rw [eq_iff_iff]
  omega
theorem qq_one (k : Nat) : qq k 1 + ((1 : Int) : Rat) = qq (k + 1) 1 := by
  have : ((1 : Int) : Rat) = mkRat 1 1 := rfl
  unfold qq
  rw [this, Rat.mkRat_add_mkRat _ _ (by omega) (by omega)]
  push_cast
  simp
theorem qq_inv (n d : Nat) (hn : 0 < n) : (qq n d)⁻¹ = qq d n := by
  unfold qq
  obtain ⟨k, rfl⟩ : ∃ k, n = k + 1 := ⟨n - 1, by omega⟩
  rw [Rat.mkRat_eq_div, Rat.mkRat_eq_div, Rat.div_def, Rat.div_def]
  have : ((k + 1 : Nat) : Rat) ≠ 0 := by
    intro h
    have h2 : (k + 1 : Nat) = 0 := by exact_mod_cast h
    omega
  have e : (((k + 1 : Nat) : Int) : Rat) = ((k + 1 : Nat) : Rat) := rfl
  have e2 : (((d : Nat) : Int) : Rat) = ((d : Nat) : Rat) := rfl
  rw [e, e2]
  by_cases h0 : d = 0
  · subst h0
    simp
  · have h1 : ((d : Nat) : Rat) ≠ 0 := by
      intro h
      exact h0 (by exact_mod_cast h)
    grind
theorem qq_sub (m e k : Nat) (he : 0 < e) (h : k * e ≤ m) : qq m e + -(qq k 1) = qq (m - k * e) e := by
  unfold qq
  rw [Rat.neg_mkRat, Rat.mkRat_add_mkRat _ _ (by omega) (by omega), Rat.mkRat_eq_iff (by omega) (by omega), Int.ofNat_sub h]
  push_cast
  grind
theorem qq_add (k x y : Nat) (hx : 0 < x) : qq k 1 + qq y x = qq (k * x + y) x := by
  unfold qq
  rw [Rat.mkRat_add_mkRat _ _ (by omega) (by omega), Rat.mkRat_eq_iff (by omega) (by omega)]
  push_cast
  grind
theorem qq_nz {n d : Nat} (hn : 0 < n) (hd : 0 < d) : qq n d ≠ 0 := by
  unfold qq
  rw [Ne, Rat.mkRat_eq_zero (by omega)]
  omega
theorem qq_abs {n d : Nat} (hd : 0 < d) : (qq n d).num.natAbs ≤ n ∧ (qq n d).den ≤ d := by
  have e : qq n d = mkRat (sg false n) d := rfl
  rw [e, mk_abs _ _ (by omega), mk_den _ _ (by omega)]
  exact ⟨Nat.div_le_self _ _, Nat.div_le_self _ _⟩
theorem qq_self {a : Rat} (h : ng a = false) : qq a.num.natAbs a.den = a := by
  have := mk_ng a
  rw [h] at this
  exact this
/-- of several the one with the least absolute value -/
def simpQ (a b : Rat) : Rat :=
  if a ≤ 0 ∧ 0 ≤ b then 0
  else if b < 0 then -(qq (plainN b.num.natAbs b.den a.num.natAbs a.den).1 (plainN b.num.natAbs b.den a.num.natAbs a.den).2)
  else qq (plainN a.num.natAbs a.den b.num.natAbs b.den).1 (plainN a.num.natAbs a.den b.num.natAbs b.den).2
theorem rat_pos {a : Rat} (h : 0 < a) : 0 < a.num := by
  have h1 : 0 ≤ a := by grind
  have h2 := Rat.num_nonneg.2 h1
  have h3 : a.num ≠ 0 := fun h0 => by
    have := Rat.num_eq_zero.1 h0
    subst this
    exact absurd h (by decide)
  omega
theorem btw_of {a b : Rat} (ha : 0 < a) (h : a ≤ b) : Btw a.num.natAbs a.den b.num.natAbs b.den := by
  have hn : 0 < a.num := (rat_pos ha)
  have hb : 0 < b := by grind
  have hm : 0 < b.num := (rat_pos hb)
  refine ⟨by omega, a.den_pos, b.den_pos, ?_⟩
  have := (Rat.le_iff a b).1 h
  have e1 : (a.num.natAbs : Int) = a.num := by omega
  have e2 : (b.num.natAbs : Int) = b.num := by omega
  have : ((a.num.natAbs * b.den : Nat) : Int) ≤ ((b.num.natAbs * a.den : Nat) : Int) := by
    push_cast
    rw [e1, e2]
    exact this
  exact_mod_cast this
end Go.Proofs.YtfmhplcpejmkhabDoor

namespace Go.Proofs.YtfmhplcpejmkhabDoor
open Go.RowKit Dig
set_option linter.unusedVariables false
set_option linter.unusedSimpArgs false
theorem infoFrac : (Tryd.prog.info? 65).map (fun i => (i.zero, i.size, i.bytes)) = some (some (.agg #[.bool false, .slice none 0 0, .slice none 0 0]), 3, 56) := by kernel_rfl
theorem info_partsF : ∃ i : TypeInfo, Tryd.prog.info? 65 = some i ∧ i.zero = some (.agg #[.bool false, .slice none 0 0, .slice none 0 0]) ∧ i.size = 3 ∧ i.bytes = 56 := by
  have h := infoFrac
  cases hi : Tryd.prog.info? 65 with
  | none => rw [hi] at h; cases h
  | some i =>
    rw [hi] at h
    simp only [Option.map_some, Option.some.injEq, Prod.mk.injEq] at h
    exact ⟨i, rfl, h.1, h.2.1, h.2.2⟩
/-- the parts of a fraction in memory -/
structure F3 where
  s : Bool
  A : Option Addr
  n : Nat
  c : Nat
  B : Option Addr
  m : Nat
  d : Nat
def F3.val (f : F3) : Value := .agg #[.bool f.s, .slice f.A f.n f.c, .slice f.B f.m f.d]
def F3.cells (f : F3) : List Value := [.bool f.s, .slice f.A f.n f.c, .slice f.B f.m f.d]
def rowOf : List F3 → List Value
  | [] => []
  | f :: t => f.cells ++ rowOf t
theorem rowOf_append (l r : List F3) : rowOf (l ++ r) = rowOf l ++ rowOf r := by
  induction l with
  | nil => rfl
  | cons f t ih => show f.cells ++ rowOf (t ++ r) = f.cells ++ rowOf t ++ rowOf r; rw [ih, List.append_assoc]
theorem rowOf_get (fs : List F3) : ∀ (i : Nat) (f : F3) (r : Nat), fs[i]? = some f → r < 3 → (rowOf fs)[i * 3 + r]? = f.cells[r]? := by
  induction fs with
  | nil => intro i f r h; simp at h
  | cons g t ih =>
    intro i f r h hr
    cases i with
    | zero =>
      simp at h
      subst h
      rw [Nat.zero_mul, Nat.zero_add]
      show (g.cells ++ rowOf t)[r]? = _
      rw [List.getElem?_append_left (by simpa [F3.cells] using hr)]
    | succ i =>
      have h2 := ih i f r (by simpa using h) hr
      show (g.cells ++ rowOf t)[(i + 1) * 3 + r]? = _
      rw [List.getElem?_append_right (by simp [F3.cells]; omega), ← h2]
      congr 1
      simp [F3.cells]; omega
/-- the slice v owns a row of fractions, in blocks from B on; its block holds no number -/
def OwnF (w : World) (B : Nat) (v : Value) (n : Nat) (xs : List Value) : Prop :=
  xs.length = n * 3 ∧ ((v = .slice none 0 0 ∧ n = 0) ∨
    ∃ (g cap : Nat) (cur : Array Value), v = .slice (some ⟨g, 0, none⟩) n cap ∧ B ≤ g ∧ w.heap[g]? = some (.cells cur 65 (0, 0)) ∧ n ≤ cap ∧ cap ≤ maxLen ∧ cur.size = cap * 3 ∧ cur.toList.take (n * 3) = xs ∧ ∀ x ∈ cur.toList, NI x)
def zeroF : Value := .agg #[.bool false, .slice none 0 0, .slice none 0 0]
theorem niZero (n : Nat) : ∀ x ∈ (Builtin.zeroCells zeroF.cells n).toList, NI x := by
  intro x hx
  simp only [Builtin.zeroCells, Array.toList_map, List.mem_map] at hx
  obtain ⟨i, _, rfl⟩ := hx
  have h3 : i % 3 < 3 := Nat.mod_lt _ (by omega)
  show NI ((#[Value.bool false, .slice none 0 0, .slice none 0 0] : Array Value)[i % 3]!)
  generalize i % 3 = r at *
  match r, h3 with
  | 0, _ => exact NI.bool _
  | 1, _ => exact NI.slice _ _ _
  | 2, _ => exact NI.slice _ _ _
theorem NI3 {s : Bool} {A : Option Addr} {n c : Nat} {B : Option Addr} {m d : Nat} : ∀ x ∈ [Value.bool s, .slice A n c, .slice B m d], NI x := by
  intro x hx
  simp at hx
  rcases hx with rfl | rfl | rfl
  · exact NI.bool _
  · exact NI.slice _ _ _
  · exact NI.slice _ _ _
theorem OwnF.ni {w : World} {B : Nat} {v : Value} {n : Nat} {xs : List Value} (h : OwnF w B v n xs) : ∀ x ∈ xs, NI x := by
  rcases h.2 with ⟨_, rfl⟩ | ⟨g, cap, cur, e, h1, hg, h2, h3, h4, h5, h6⟩
  · have : xs = [] := List.eq_nil_of_length_eq_zero (by simpa using h.1)
    subst this
    intro x hx; cases hx
  · intro x hx
    rw [← h5] at hx
    exact h6 x (List.mem_of_mem_take hx)
set_option maxHeartbeats 1000000 in
/-- append of one fraction -/
theorem OwnF.run (w : World) (B : Nat) (ty : TypeId) (v : Value) (n : Nat) (xs : List Value) (h : OwnF w B v n xs) (hT : Tryd.prog.underlying 122 = some (.slice 65))
    (a : Addr) (c : Nat) (s : Bool) (A : Option Addr) (n1 c1 : Nat) (A' : Option Addr) (n2 c2 : Nat) (hnews : ∀ j u, [Value.bool s, .slice A n1 c1, .slice A' n2 c2][j]? = some u → w.cell? (a.add j) = some u) (hn : n ≤ 1000000) (hB : B ≤ w.heap.size) :
    ∃ v' w', (Builtin.append_ #[122, 122] ty #[v, .slice (some a) 1 c]).run Tryd.prog w = .ok v' w' ∧ OwnF w' B v' (n + 1) (xs ++ [.bool s, .slice A n1 c1, .slice A' n2 c2]) ∧ w.grownBy w' v.ownBlock := by
  obtain ⟨i, hi, hz, h3, h56⟩ := info_partsF
  have hxl := h.1
  have hni := h.ni
  have h1 : ∀ u ∈ [Value.bool s, .slice A n1 c1, .slice A' n2 c2], u.oneCell' = true := by
    intro u hu
    simp at hu
    rcases hu with rfl | rfl | rfl <;> rfl
  have fresh : ∀ (old : Nat) (row : Option Nat), OwnF (w.drew.alloc (.cells (xs.toArray ++ [Value.bool s, .slice A n1 c1, .slice A' n2 c2].toArray ++ Builtin.zeroCells zeroF.cells (grownCap w (n + 1) old 65 - (n + 1))) 65)) B (.slice (some ⟨w.heap.size, 0, none⟩) (n + 1) (grownCap w (n + 1) old 65)) (n + 1) (xs ++ [.bool s, .slice A n1 c1, .slice A' n2 c2]) ∧
      w.grownBy (w.drew.alloc (.cells (xs.toArray ++ [Value.bool s, .slice A n1 c1, .slice A' n2 c2].toArray ++ Builtin.zeroCells zeroF.cells (grownCap w (n + 1) old 65 - (n + 1))) 65)) row := by
    intro old row
    have hge := grownCap_ge w (n + 1) old 65
    have hcm := grownCap_le_maxLen w (n + 1) old 65 (by unfold maxLen; omega)
    have hzc : (Builtin.zeroCells zeroF.cells (grownCap w (n + 1) old 65 - (n + 1))).size = (grownCap w (n + 1) old 65 - (n + 1)) * 3 := size_zeroCells _ _
    refine ⟨⟨by simp; omega, Or.inr ⟨w.heap.size, _, _, rfl, hB, heap_alloc_new w.drew _, hge, hcm, ?_, ?_, ?_⟩⟩, ⟨rfl, rfl, rfl, by simp, fun k hk _ => heap_alloc_old w.drew _ hk⟩⟩
    · simp only [Array.size_append, List.size_toArray, hzc]
      simp; omega
    · simp only [Array.toList_append, List.append_assoc]
      rw [← List.append_assoc, List.take_append_of_le_length (by simp; omega), List.take_of_length_le (by simp; omega)]
    · intro x hx
      simp only [Array.toList_append, List.mem_append] at hx
      rcases hx with (hx | hx) | hx
      · exact hni x hx
      · exact NI3 x hx
      · exact niZero _ x hx
  rcases h.2 with ⟨rfl, rfl⟩ | ⟨g, cap, cur, rfl, hbg, hg, hnc, hcm, hcs, htake, hcn⟩
  · have hx : xs = [] := List.eq_nil_of_length_eq_zero (by simpa using hxl)
    subst hx
    have hr := Go.run_append_nil (P := Tryd.prog) w 122 ty 65 i zeroF hT hi hz a 1 c [Value.bool s, .slice A n1 c1, .slice A' n2 c2] (by rw [h3]; rfl) hnews (by omega) (by omega) (by rw [h56]; omega)
    have hf := fresh 0 (Value.ownBlock (.slice none 0 0))
    simp only [Nat.zero_add, List.nil_append, Array.empty_append] at hf ⊢
    exact ⟨_, _, hr, hf.1, hf.2⟩
  · by_cases hroom : n + 1 ≤ cap
    · have hr := run_append_room (P := Tryd.prog) w 122 ty 65 i hT hi g n cap cur hg a 1 c [Value.bool s, .slice A n1 c1, .slice A' n2 c2] (by rw [h3]; rfl) hnews h1 hroom (by rw [h3, hcs]; simp; omega)
      rw [h3] at hr
      refine ⟨_, _, hr, ⟨by simp; omega, Or.inr ⟨g, cap, _, rfl, hbg, setRow_heap w g cur _ 65 _ hg, hroom, hcm, ?_, ?_, ?_⟩⟩, ⟨rfl, rfl, rfl, by simp, fun k _ hk => setRow_other w g k _ (fun e => hk (by simp [Value.ownBlock, e]))⟩⟩
      · simp only [List.size_toArray, List.length_append, List.length_take, List.length_drop, Array.length_toList]
        simp; omega
      · rw [htake]
        simp only [List.append_assoc]
        rw [← List.append_assoc, List.take_append_of_le_length (by simp; omega), List.take_of_length_le (by simp; omega)]
      · intro x hx
        simp only [List.mem_append] at hx
        rcases hx with (hx | hx) | hx
        · exact hcn x (List.mem_of_mem_take hx)
        · exact NI3 x hx
        · exact hcn x (List.mem_of_mem_drop hx)
    · have holds : ∀ j u, xs[j]? = some u → w.cell? ((⟨g, 0, none⟩ : Addr).add j) = some u := by
        intro j u hu
        rw [add_plain, Nat.zero_add]
        rw [← htake, List.getElem?_take] at hu
        split at hu
        · simp only [World.cell?, hg]
          simpa using hu
        · cases hu
      have hr := run_append_grow (P := Tryd.prog) w 122 ty 65 i zeroF hT hi hz ⟨g, 0, none⟩ n cap xs (by rw [h3]; exact hxl) holds a 1 c [Value.bool s, .slice A n1 c1, .slice A' n2 c2] (by rw [h3]; rfl) hnews (by omega) (by omega) (by rw [h56]; exact growslice_fits (by omega) (by omega))
      have hf := fresh cap (Value.ownBlock (.slice (some ⟨g, 0, none⟩) n cap))
      exact ⟨_, _, hr, hf.1, hf.2⟩
theorem OwnF.wp {w : World} {ops : Array Oper} {rest : List Oper} {o : Oper} {a : Act} {Q : Exit → Act → World → Prop} (hgd : o.guard = none) (s x : Operand)
    (ho : o.op = .call { callee := .builtin .append, args := #[s, x], argTypes := #[122, 122] }) (hT : Tryd.prog.underlying 122 = some (.slice 65))
    (B : Nat) (v : Value) (n : Nat) (xs : List Value) (hs : a.eval s = v) (h : OwnF w B v n xs)
    (ad : Addr) (c : Nat) (b : Bool) (A : Option Addr) (n1 c1 : Nat) (A' : Option Addr) (n2 c2 : Nat) (hx : a.eval x = .slice (some ad) 1 c) (hnews : ∀ j u, [Value.bool b, .slice A n1 c1, .slice A' n2 c2][j]? = some u → w.cell? (ad.add j) = some u) (hn : n ≤ 1000000) (hB : B ≤ w.heap.size)
    (k : ∀ v' w', OwnF w' B v' (n + 1) (xs ++ [.bool b, .slice A n1 c1, .slice A' n2 c2]) → w.grownBy w' v.ownBlock → wpList Tryd.prog ops Q rest (a.put o.dst v') w') :
    wpList Tryd.prog ops Q (o :: rest) a w := by
  refine wpList_plain hgd fun K hK => ?_
  obtain ⟨v', w', hr, h2, h3⟩ := OwnF.run w B o.type v n xs h hT ad c b A n1 c1 A' n2 c2 hnews hn hB
  unfold Oper.wp execOp
  simp only [ho, resolve, invoke, builtin, Sem.run_bind, Sem.run_pure, Result.andThen_ok, List.map_toArray, List.map_cons, List.map_nil, hs, hx, hr]
  exact hK _ _ (k v' w' h2 h3)
theorem OwnF.lt {w : World} {B : Nat} {v : Value} {n : Nat} {xs : List Value} (h : OwnF w B v n xs) : ∀ k, v.ownBlock = some k → B ≤ k ∧ k < w.heap.size := by
  intro k hk
  rcases h.2 with ⟨rfl, _⟩ | ⟨g, cap, cur, rfl, hb, hg, _⟩
  · simp [Value.ownBlock] at hk
  · simp [Value.ownBlock] at hk
    subst hk
    exact ⟨hb, (Array.getElem?_eq_some_iff.1 hg).1⟩
theorem OwnF.kept {w w' : World} {B : Nat} {v : Value} {n : Nat} {xs : List Value} (h : OwnF w B v n xs) (hk : ∀ g, v.ownBlock = some g → w'.heap[g]? = w.heap[g]?) : OwnF w' B v n xs := by
  refine ⟨h.1, ?_⟩
  rcases h.2 with e | ⟨g, cap, cur, rfl, hb, hg, r⟩
  · exact Or.inl e
  · exact Or.inr ⟨g, cap, cur, rfl, hb, (hk g rfl).trans hg, r⟩
/-- the slice v owns the fractions ks, in blocks from B on -/
def Whs (w : World) (B : Nat) (v : Value) (ks : List Nat) : Prop :=
  ∃ fs : List F3, fs.length = ks.length ∧ OwnF w B v ks.length (rowOf fs) ∧ ∀ (i k : Nat), ks[i]? = some k → ∃ f, fs[i]? = some f ∧ IsF w f.val (qq k 1)
theorem Whs.nil (w : World) (B : Nat) : Whs w B (.slice none 0 0) [] := ⟨[], rfl, ⟨rfl, Or.inl ⟨rfl, rfl⟩⟩, fun i k h => by simp at h⟩
theorem Whs.below {w w' : World} {B : Nat} {v : Value} {ks : List Nat} (h : Whs w B v ks) (hb : Below w.heap.size w w') : Whs w' B v ks := by
  obtain ⟨fs, hl, ho, hf⟩ := h
  refine ⟨fs, hl, ho.kept (fun g hg => hb.block g (ho.lt g hg).2), fun i k hk => ?_⟩
  obtain ⟨f, h1, h2⟩ := hf i k hk
  exact ⟨f, h1, h2.below hb⟩
theorem Whs.boxed {w w' : World} {B : Nat} {v : Value} {ks : List Nat} {g : Nat} {x y z : Value} {t : TypeId} (h : Whs w B v ks) (hb : Box w g x y z t) (hx : NI x) (hy : NI y) (hz : NI z) (hg : w.grownBy w' (some g)) (hn : v.ownBlock ≠ some g) : Whs w' B v ks := by
  obtain ⟨fs, hl, ho, hf⟩ := h
  refine ⟨fs, hl, ho.kept (fun k hk => hg.block k (ho.lt k hk).2 (fun e => hn (hk.trans e))), fun i k hk => ?_⟩
  obtain ⟨f, h1, h2⟩ := hf i k hk
  exact ⟨f, h1, h2.grown hb hx hy hz hg⟩
theorem Whs.lt {w : World} {B : Nat} {v : Value} {ks : List Nat} (h : Whs w B v ks) : ∀ k, v.ownBlock = some k → B ≤ k ∧ k < w.heap.size := by
  obtain ⟨fs, hl, ho, hf⟩ := h
  exact ho.lt
theorem Whs.shape {w : World} {B : Nat} {v : Value} {ks : List Nat} (h : Whs w B v ks) : ∃ A cap, v = .slice A ks.length cap ∧ ks.length ≤ cap ∧ cap ≤ 9223372036854775807 := by
  obtain ⟨fs, hl, ho, hf⟩ := h
  rcases ho.2 with ⟨e, h0⟩ | ⟨g, cap, cur, e, h1, hg, r, hm, _⟩
  · exact ⟨none, 0, by rw [e, h0], by omega, by omega⟩
  · exact ⟨_, cap, e, r, by unfold maxLen at hm; omega⟩
/-- a fraction of the slice -/
theorem Whs.get {w : World} {B : Nat} {A : Option Addr} {cap : Nat} {ks : List Nat} (h : Whs w B (.slice A ks.length cap) ks) {i k : Nat} (hk : ks[i]? = some k) :
    ∃ g s A1 n c B1 m d, A = some ⟨g, 0, none⟩ ∧ w.cell? ⟨g, i * 3, none⟩ = some (.bool s) ∧ w.cell? ⟨g, i * 3 + 1, none⟩ = some (.slice A1 n c) ∧ w.cell? ⟨g, i * 3 + 2, none⟩ = some (.slice B1 m d) ∧ IsF w (.agg #[.bool s, .slice A1 n c, .slice B1 m d]) (qq k 1) := by
  obtain ⟨fs, hl, ho, hf⟩ := h
  obtain ⟨f, h1, h2⟩ := hf i k hk
  have hi : i < ks.length := (List.getElem?_eq_some_iff.1 hk).1
  rcases ho.2 with ⟨e, h0⟩ | ⟨g, cap', cur, e, hB, hg, hnc, hcm, hcs, htake, hcn⟩
  · omega
  · simp only [Value.slice.injEq] at e
    obtain ⟨rfl, _, rfl⟩ := e
    have hc : ∀ (r : Nat) (u : Value), r < 3 → f.cells[r]? = some u → w.cell? ⟨g, i * 3 + r, none⟩ = some u := by
      intro r u hr hu
      have h9 := rowOf_get fs i f r h1 hr
      rw [hu, ← htake, List.getElem?_take] at h9
      split at h9
      · simp only [World.cell?, hg]
        simpa using h9
      · cases h9
    exact ⟨g, f.s, f.A, f.n, f.c, f.B, f.m, f.d, rfl, hc 0 _ (by omega) rfl, hc 1 _ (by omega) rfl, hc 2 _ (by omega) rfl, h2⟩
theorem Rd.no_num {w w' : World} {A : Option Addr} {cc g : Nat} {l : List Int} {cur : Array Value} {t : TypeId} (h : Rd w A cc l) (hg : w.heap[g]? = some (.cells cur t (0, 0))) (hn : ∀ x ∈ cur.toList, NI x) (hk : w.grownBy w' (some g)) : Rd w' A cc l := by
  refine ⟨h.le, h.max, fun j hj => ?_⟩
  obtain ⟨ad, e1, hc⟩ := h.at_ j hj
  refine ⟨ad, e1, hk.cell hc ?_⟩
  intro hbad
  have hb2 : (ad.add j).block = g := Option.some.inj hbad
  simp only [World.cell?, hb2, hg] at hc
  split at hc
  · cases hc
  · have : (Value.int .u32 (rd l j)) ∈ cur.toList := Array.mem_toList_iff.2 (Array.mem_of_getElem? hc)
    exact hn _ this _ _ rfl
theorem IsF.pushed {w w' : World} {B : Nat} {v : Value} {n : Nat} {xs : List Value} {u : Value} {q : Rat} (h : IsF w u q) (ho : OwnF w B v n xs) (hg : w.grownBy w' v.ownBlock) : IsF w' u q := by
  obtain ⟨A1, c1, A2, c2, e, r1, r2⟩ := h
  rcases ho.2 with ⟨rfl, _⟩ | ⟨g, cap, cur, rfl, hb, hgg, _, _, _, _, hn⟩
  · have rg : ∀ {X : Option Addr} {cc : Nat} {l : List Int}, Rd w X cc l → Rd w' X cc l := fun r => ⟨r.le, r.max, fun j hj => by
      obtain ⟨ad, e1, hc⟩ := r.at_ j hj
      exact ⟨ad, e1, hg.cell hc (by simp [Value.ownBlock])⟩⟩
    exact ⟨A1, c1, A2, c2, e, rg r1, rg r2⟩
  · exact ⟨A1, c1, A2, c2, e, r1.no_num hgg hn hg, r2.no_num hgg hn hg⟩
/-- what an append of one fraction leaves: w1 behind it, M ahead of it, with the new block for the fraction -/
theorem Whs.push {w0 M w1 : World} {B : Nat} {v v' : Value} {ks : List Nat} {k : Nat} {s : Bool} {A : Option Addr} {n c : Nat} {B' : Option Addr} {m d : Nat} {fs : List F3} (hl : fs.length = ks.length) (ho : OwnF M B v ks.length (rowOf fs)) (hf : ∀ (i k : Nat), ks[i]? = some k → ∃ f, fs[i]? = some f ∧ IsF M f.val (qq k 1))
    (hq : IsF M (.agg #[.bool s, .slice A n c, .slice B' m d]) (qq k 1)) (hb : Below w0.heap.size w0 M) (hB : w0.heap.size ≤ B)
    (hown : OwnF w1 B v' (ks.length + 1) (rowOf fs ++ [.bool s, .slice A n c, .slice B' m d])) (hgrow : M.grownBy w1 v.ownBlock) :
    Whs w1 B v' (ks ++ [k]) ∧ Below w0.heap.size w0 w1 := by
  refine ⟨⟨fs ++ [⟨s, A, n, c, B', m, d⟩], by simp [hl], ?_, fun i j hj => ?_⟩, ?_⟩
  · rw [List.length_append, rowOf_append]
    exact hown
  · by_cases hi : i < ks.length
    · rw [List.getElem?_append_left hi] at hj
      obtain ⟨f, h1, h2⟩ := hf i j hj
      exact ⟨f, by rw [List.getElem?_append_left (by omega)]; exact h1, h2.pushed ho hgrow⟩
    · have hi2 : i = ks.length := by
        have := (List.getElem?_eq_some_iff.1 hj).1
        simp at this
        omega
      subst hi2
      simp at hj
      subst hj
      exact ⟨⟨s, A, n, c, B', m, d⟩, by rw [← hl]; simp, hq.pushed ho hgrow⟩
  · exact hb.grown hgrow (by have := hb.size; omega) (fun j hj => Nat.le_trans hB (ho.lt j hj).1)
theorem new3 (w : World) (x y z : Value) (t : TypeId) : ∀ j u, [x, y, z][j]? = some u → (w.alloc (.cells #[x, y, z] t)).cell? ((⟨w.heap.size, 0, none⟩ : Addr).add j) = some u := by
  intro j u hj
  obtain ⟨k0, k1, k2, _, _, _⟩ := (Box.new w x y z t).cells
  match j, hj with
  | 0, hj => simp at hj; subst hj; rw [add_plain]; exact k0
  | 1, hj => simp at hj; subst hj; rw [add_plain]; exact k1
  | 2, hj => simp at hj; subst hj; rw [add_plain]; exact k2
/-- how far the beginnings may go on -/
def CFB (C : Nat) (ks : List Nat) (n d m e : Nat) : Prop := ks.length + (bl n + bl d + bl m + bl e) ≤ C ∧ (ks = [] ∨ (d < n ∧ e < m))
theorem bl_mod {n d : Nat} (hd : 0 < d) (h : d < n) : bl (n % d) < bl n := by
  have h1 := Nat.div_add_mod n d
  have h2 := Nat.mod_lt n hd
  have h3 : 1 ≤ n / d := (Nat.le_div_iff_mul_le hd).2 (by omega)
  have h4 : d * 1 ≤ d * (n / d) := Nat.mul_le_mul_left d h3
  have h5 := bl_half (n := n) (by omega)
  have h6 := bl_mono (a := n % d) (b := n / 2) (by omega)
  omega
theorem CFB.next {C : Nat} {ks : List Nat} {n d m e : Nat} (h : CFB C ks n d m e) (hB : Btw n d m e) (h1 : ¬ n % d = 0) (h2 : ¬ (n / d + 1) * e ≤ m) (k : Nat) : CFB (C + 1) (ks ++ [k]) e (m - n / d * e) d (n % d) ∧ (ks ≠ [] → CFB C (ks ++ [k]) e (m - n / d * e) d (n % d)) := by
  obtain ⟨a, b⟩ := h
  obtain ⟨hN, hlt, hgt⟩ := hB.next h1 h2
  rw [Nat.add_mul] at hgt
  have m1 := Nat.mod_lt n hB.d0
  have b1 := bl_mono (a := m - n / d * e) (b := m) (Nat.sub_le _ _)
  have b2 := bl_mono (a := n % d) (b := n) (Nat.mod_le _ _)
  have hr : d < n → bl (n % d) < bl n := fun h => bl_mod hB.d0 h
  refine ⟨⟨by simp; omega, Or.inr ⟨by omega, m1⟩⟩, fun hne => ⟨?_, Or.inr ⟨by omega, m1⟩⟩⟩
  rcases b with b | b
  · exact absurd b hne
  · have := hr b.1
    simp; omega
end Go.Proofs.YtfmhplcpejmkhabDoor

namespace Go.Proofs.YtfmhplcpejmkhabDoor
open Go.RowKit Dig
set_option linter.unusedVariables false
set_option linter.unusedSimpArgs false
theorem R_pow_len (a e : Nat) : (R (a ^ e)).length ≤ (R a).length * e + 1 := by
  rw [show R (a ^ e) = dig B16 (a ^ e) from rfl, dig_length_le B16_two]
  have h0 : a < B16 ^ (R a).length := (dig_length_le B16_two a (R a).length).1 (Nat.le_refl _)
  have h1 : a ^ e ≤ (B16 ^ (R a).length) ^ e := Nat.pow_le_pow_left (Nat.le_of_lt h0) e
  rw [← Nat.pow_mul] at h1
  exact Nat.lt_of_le_of_lt h1 (Nat.pow_lt_pow_right B16_two (Nat.lt_succ_self _))
set_option maxHeartbeats 1000000 in
theorem rNatPow (a n : Nat) (w : World) (A : Option Addr) (c : Nat) (h : Rd w A c (R a)) (hn : n ≤ 1000000) (hs : (R a).length * n ≤ 500000) (l0 : (R a).length ≤ 500000) :
    Calls Tryd.prog 101 #[.slice A (R a).length c, .int .i64 n] w fun e w' => ∃ A c, e = .returned (.slice A (R (a ^ n)).length c) ∧ Rd w' A c (R (a ^ n)) ∧ Below w.heap.size w w' := by
  have H0 := Lib.hid h
  have HS := Lib.hid hs
  clear h hs
  go_enter Tryd.func101, Tryd.ntmps101
  go_wp2_with fail
  refine (rNatOf1 _).mono ?_
  rintro e w1 ⟨A1, c1, rfl, hr1, hb1⟩
  have R1 := Lib.hid hr1
  have HB1 := Lib.hid hb1
  have R0 := Lib.hid (H0.out.below hb1)
  clear hr1 hb1
  go_wp2
  go_loopg [5, 8] n (fun k v5 v8 wr => ∃ (i : Nat) (A5 : Option Addr) (c5 : Nat), v5 = .slice A5 (R (a ^ i)).length c5 ∧ v8 = .int .i64 i ∧ i + k = n ∧ Hid (Rd wr A5 c5 (R (a ^ i))) ∧ Hid (Rd wr A c (R a)) ∧ Hid (Below w.heap.size w wr))
  case atStart => exact ⟨0, _, _, by rw [Nat.pow_zero], rfl, by omega, by rw [Nat.pow_zero]; exact R1, R0, HB1⟩
  case round =>
    obtain ⟨i, A5, c5, rfl, rfl, hk, R5, RA, hb⟩ := hrel
    by_cases hi : i < n
    · have hlen : (R (a ^ i)).length ≤ 500001 := by
        have h1 := R_pow_len a i
        have h2 : (R a).length * i ≤ (R a).length * n := Nat.mul_le_mul_left _ (by omega)
        have := HS.out
        omega
      have hd1 : decide ((i : Int) < (n : Int)) = true := decide_eq_true (by omega)
      go_wp2_with fail
      refine (rMul (a ^ i) a _ _ _ _ _ R5.out RA.out (by omega) (by omega)).mono ?_
      rw [← Nat.pow_succ]
      rintro e2 w2 ⟨A2, c2, rfl, hr2, hb2⟩
      have R2 := Lib.hid hr2
      have RA2 := Lib.hid (RA.out.below hb2)
      have HB := Lib.hid (below_step hb.out hb.out.size hb2)
      clear hr2 hb2
      go_wp2
      go_roundg (n - i - 1)
      case measure => omega
      case rel => exact ⟨i + 1, _, _, rfl, by simp, by omega, R2, RA2, HB⟩
    · have hin : i = n := by omega
      subst hin
      have hd1 : decide ((i : Int) < (i : Int)) = false := decide_eq_false (by omega)
      go_wp2
      go_ret
      exact ⟨_, _, rfl, R5.out, hb.out⟩
set_option maxHeartbeats 2000000 in
set_option maxRecDepth 100000 in
theorem rPower_false (n1 d1 : Nat) (p : Nat) (w : World) (A1 A2 : Option Addr) (c1 c2 : Nat) (h1 : Rd w A1 c1 (R n1)) (h2 : Rd w A2 c2 (R d1)) (l1 : (R n1).length * p ≤ 500000) (l2 : (R d1).length * p ≤ 500000) (m1 : (R n1).length ≤ 500000) (m2 : (R d1).length ≤ 500000) (lp : p ≤ 1000) (hd : d1 ≠ 0) :
    Calls Tryd.prog 59 #[.agg #[.bool false, .slice A1 (R n1).length c1, .slice A2 (R d1).length c2], .int .i64 p] w fun e w' => ∃ u, e = .returned u ∧ Qr w' u (false && decide (p % 2 = 1)) (n1 ^ p) (d1 ^ p) ∧ Below w.heap.size w w' := by
  have T0 := Lib.hid (GvR.start (s1 := false) (t := 39) h1 h2)
  have L1 := Lib.hid l1
  have L2 := Lib.hid l2
  have Z := Lib.hid hd
  have hm := tmod_two p
  have hm2 : IntKind.i64.wrap ((p % 2 : Nat) : Int) = ((p % 2 : Nat) : Int) := wraps_i64 _ (by omega) (by omega)
  have hq := beq_one p
  have hn0 : decide ((p : Int) < 0) = false := decide_eq_false (by omega)
  clear h1 h2 l1 l2 hd
  go_enter Tryd.func59, Tryd.ntmps59
  go_wp2_with fail
  refine wp_region_noPanic ?_
  refine wp_region_held_drew (S := (fun W' => (World.cell? W' ⟨(w.heap.size), 0, none⟩ = some (.bool false) ∧ World.cell? W' ⟨(w.heap.size), 1, none⟩ = some (.slice A1 (R n1).length c1) ∧ World.cell? W' ⟨(w.heap.size), 2, none⟩ = some (.slice A2 (R d1).length c2) ∧ Hid (GvR w W' (w.heap.size) (w.heap.size + 1) 39 false A1 c1 n1 A2 c2 d1)))) (by kernel_rfl) T0.out.drew.cells (fun hHeld => ?_)
  refine wpAnyH_take (i := 0) (v := ?v0) rfl (by kernel_rfl) (by kernel_rfl) (by kernel_rfl) (fun _ _ _ h => h) (Or.inl ⟨by rfl, ?hy0⟩) (by assumption) ?rest0
  case hy0 => (intro w' hSw; (try dsimp only at hSw); go_simp; (try with_reducible rfl))
  case rest0 =>
  (try simp only [Act.put, List.setIfInBounds_toArray, List.set_cons_zero, List.set_cons_succ])
  refine wpAnyH_take (i := 1) (v := ?v1) rfl (by kernel_rfl) (by kernel_rfl) (by kernel_rfl) (fun _ _ _ h => h) (Or.inl ⟨by rfl, ?hy1⟩) (by assumption) ?rest1
  case hy1 => (intro w' hSw; (try dsimp only at hSw); go_simp; (try with_reducible rfl))
  case rest1 =>
  (try simp only [Act.put, List.setIfInBounds_toArray, List.set_cons_zero, List.set_cons_succ])
  refine wpAnyH_take (i := 2) (v := ?v2) rfl (by kernel_rfl) (by kernel_rfl) (by kernel_rfl) (fun _ _ _ h => h) (Or.inl ⟨by rfl, ?hy2⟩) (by assumption) ?rest2
  case hy2 => (intro w' hSw; (try dsimp only at hSw); go_simp; (try with_reducible rfl))
  case rest2 =>
  (try simp only [Act.put, List.setIfInBounds_toArray, List.set_cons_zero, List.set_cons_succ])
  refine wpAnyH_take (i := 3) rfl (by kernel_rfl) (by kernel_rfl) (by kernel_rfl) (fun _ _ _ h => h) (Or.inr ⟨by rfl, rfl⟩) (by assumption) ?_
  (try simp only [Act.put, List.setIfInBounds_toArray, List.set_cons_zero, List.set_cons_succ])
  refine wpAnyH_take (i := 4) rfl (by kernel_rfl) (by kernel_rfl) (by kernel_rfl) (fun _ _ _ h => h) (Or.inr ⟨by rfl, rfl⟩) (by assumption) ?_
  (try simp only [Act.put, List.setIfInBounds_toArray, List.set_cons_zero, List.set_cons_succ])
  refine wpAnyH_take (i := 5) rfl (by kernel_rfl) (by kernel_rfl) (by kernel_rfl) (fun _ _ _ h => h) (Or.inr ⟨by rfl, rfl⟩) (by assumption) ?_
  (try simp only [Act.put, List.setIfInBounds_toArray, List.set_cons_zero, List.set_cons_succ])
  refine wpAnyH_take (i := 6) (v := ?v6) rfl (by kernel_rfl) (by kernel_rfl) (by kernel_rfl) (fun _ _ _ h => h) (Or.inl ⟨by rfl, ?hy6⟩) (by assumption) ?rest6
  case hy6 => (intro w' hSw; (try dsimp only at hSw); go_simp; (try with_reducible rfl))
  case rest6 =>
  (try simp only [Act.put, List.setIfInBounds_toArray, List.set_cons_zero, List.set_cons_succ])
  refine wpAnyH_take (i := 7) (v := ?v7) rfl (by kernel_rfl) (by kernel_rfl) (by kernel_rfl) (fun _ _ _ h => h) (Or.inl ⟨by rfl, ?hy7⟩) (by assumption) ?rest7
  case hy7 => (intro w' hSw; (try dsimp only at hSw); go_simp; (try with_reducible rfl))
  case rest7 =>
  (try simp only [Act.put, List.setIfInBounds_toArray, List.set_cons_zero, List.set_cons_succ])
  refine wpAnyH_take (i := 8) (v := ?v8) rfl (by kernel_rfl) (by kernel_rfl) (by kernel_rfl) (fun _ _ _ h => h) (Or.inl ⟨by rfl, ?hy8⟩) (by assumption) ?rest8
  case hy8 => (intro w' hSw; (try dsimp only at hSw); go_simp; (try with_reducible rfl))
  case rest8 =>
  (try simp only [Act.put, List.setIfInBounds_toArray, List.set_cons_zero, List.set_cons_succ])
  refine wpAnyH_take (i := 9) (v := ?v9) rfl (by kernel_rfl) (by kernel_rfl) (by kernel_rfl) (fun _ _ _ h => h) (Or.inl ⟨by rfl, ?hy9⟩) (by assumption) ?rest9
  case hy9 => (intro w' hSw; (try dsimp only at hSw); go_simp; (try with_reducible rfl))
  case rest9 =>
  (try simp only [Act.put, List.setIfInBounds_toArray, List.set_cons_zero, List.set_cons_succ])
  refine wpAnyH_take (i := 11) (v := ?v11) rfl (by kernel_rfl) (by kernel_rfl) (by kernel_rfl) (fun _ _ _ h => h) (Or.inl ⟨by rfl, ?hy11⟩) (by assumption) ?rest11
  case hy11 => (intro w' hSw; (try dsimp only at hSw); go_simp; (try with_reducible rfl))
  case rest11 =>
  (try simp only [Act.put, List.setIfInBounds_toArray, List.set_cons_zero, List.set_cons_succ])
  refine wpAnyH_take (i := 13) (v := ?v13) rfl (by kernel_rfl) (by kernel_rfl) (by kernel_rfl) (fun _ _ _ h => h) (Or.inl ⟨by rfl, ?hy13⟩) (by assumption) ?rest13
  case hy13 => (intro w' hSw; (try dsimp only at hSw); go_simp; (try with_reducible rfl))
  case rest13 =>
  (try simp only [Act.put, List.setIfInBounds_toArray, List.set_cons_zero, List.set_cons_succ])
  refine wpAnyH_ready (rs := [10]) (by kernel_rfl) (by simp) ?_
  refine AllReadyH.cons rfl (fun K hK => ?_) AllReadyH.nil
  go_simp
  go_at_call 101
  refine (rNatPow n1 p _ _ _ (GvR.of hHeld).f.r1 (by omega) L1.out m1).mono ?_
  rintro e wa ⟨Aa, ca, rfl, ra, ba⟩
  refine hK.out _ _ ?_ (fun hHeld => ?_)
  · exact GvR.next (by assumption) (by assumption)
  clear hK K
  (try simp only [Act.put, List.setIfInBounds_toArray, List.set_cons_zero, List.set_cons_succ])
  refine wpAnyH_ready (rs := [12]) (by kernel_rfl) (by simp) ?_
  refine AllReadyH.cons rfl (fun K hK => ?_) AllReadyH.nil
  go_simp
  go_at_call 85
  refine (rDen _ _ _ _ _ _ _ _ (GvR.of hHeld).f.r2 Z.out).mono ?_
  rintro e wc ⟨Ac, cc, rfl, rc, bc⟩
  refine hK.out _ _ ?_ (fun hHeld => ?_)
  · exact GvR.next (by assumption) (by assumption)
  clear hK K
  (try simp only [Act.put, List.setIfInBounds_toArray, List.set_cons_zero, List.set_cons_succ])
  refine wpAnyH_ready (rs := [14]) (by kernel_rfl) (by simp) ?_
  refine AllReadyH.cons rfl (fun K hK => ?_) AllReadyH.nil
  go_simp
  go_at_call 101
  refine (rNatPow d1 p _ _ _ rc (by omega) L2.out m2).mono ?_
  rintro e wb ⟨Ab, cb, rfl, rb, bb⟩
  have hh := (GvR.of hHeld).below bb
  obtain ⟨x, y, z, hx, hy, hz, k1, k2, k3⟩ := hh.res.cells
  refine hK.out _ _ ?_ (fun hHeld => ?_)
  · exact GvR.next (by assumption) (by assumption)
  clear hK K
  (try simp only [Act.put, List.setIfInBounds_toArray, List.set_cons_zero, List.set_cons_succ])
  refine wpAnyH_take (i := 15) (v := ?v15) rfl (by kernel_rfl) (by kernel_rfl) (by kernel_rfl) (fun _ _ _ h => h) (Or.inl ⟨by rfl, ?hy15⟩) (by assumption) ?rest15
  case hy15 => (intro w' hSw; (try dsimp only at hSw); go_simp; (try with_reducible rfl))
  case rest15 =>
  (try simp only [Act.put, List.setIfInBounds_toArray, List.set_cons_zero, List.set_cons_succ])
  refine wpAnyH_ready (rs := [16]) (by kernel_rfl) (by simp) ?_
  refine AllReadyH.cons rfl (fun K hK => ?_) AllReadyH.nil
  go_simp
  refine hK.out _ _ ?_ (fun hHeld => ?_)
  · exact GvR.nextS (by assumption)
  clear hK K
  (try simp only [Act.put, List.setIfInBounds_toArray, List.set_cons_zero, List.set_cons_succ])
  refine wpAnyH_done (by kernel_rfl) ?_ _
  refine NoPanic.normal ?_
  go_wp2
  obtain ⟨q0, q1, q2, r1, r2, hb⟩ := hh.finish (s := false) ((ra.below bc).below bb) rb
  refine bodyPost_ret (v := .agg #[.bool false, .slice Aa (R (n1 ^ p)).length ca, .slice Ab (R (d1 ^ p)).length cb]) (by simp [results, Tryd.results59, go_sem, q0, q1, q2]) rfl ?_
  exact ⟨_, rfl, ⟨_, _, _, _, rfl, r1, r2⟩, hb⟩
set_option maxHeartbeats 2000000 in
set_option maxRecDepth 100000 in
theorem rPower_true (n1 d1 : Nat) (p : Nat) (w : World) (A1 A2 : Option Addr) (c1 c2 : Nat) (h1 : Rd w A1 c1 (R n1)) (h2 : Rd w A2 c2 (R d1)) (l1 : (R n1).length * p ≤ 500000) (l2 : (R d1).length * p ≤ 500000) (m1 : (R n1).length ≤ 500000) (m2 : (R d1).length ≤ 500000) (lp : p ≤ 1000) (hd : d1 ≠ 0) :
    Calls Tryd.prog 59 #[.agg #[.bool true, .slice A1 (R n1).length c1, .slice A2 (R d1).length c2], .int .i64 p] w fun e w' => ∃ u, e = .returned u ∧ Qr w' u (true && decide (p % 2 = 1)) (n1 ^ p) (d1 ^ p) ∧ Below w.heap.size w w' := by
  have T0 := Lib.hid (GvR.start (s1 := true) (t := 39) h1 h2)
  have L1 := Lib.hid l1
  have L2 := Lib.hid l2
  have Z := Lib.hid hd
  have hm := tmod_two p
  have hm2 : IntKind.i64.wrap ((p % 2 : Nat) : Int) = ((p % 2 : Nat) : Int) := wraps_i64 _ (by omega) (by omega)
  have hq := beq_one p
  have hn0 : decide ((p : Int) < 0) = false := decide_eq_false (by omega)
  clear h1 h2 l1 l2 hd
  go_enter Tryd.func59, Tryd.ntmps59
  go_wp2_with fail
  obtain ⟨bo, hbo⟩ : ∃ b, decide (p % 2 = 1) = b := ⟨_, rfl⟩
  go_region_held3 (fun W' => (World.cell? W' ⟨(w.heap.size), 0, none⟩ = some (.bool true) ∧ World.cell? W' ⟨(w.heap.size), 1, none⟩ = some (.slice A1 (R n1).length c1) ∧ World.cell? W' ⟨(w.heap.size), 2, none⟩ = some (.slice A2 (R d1).length c2) ∧ Hid (GvR w W' (w.heap.size) (w.heap.size + 1) 39 true A1 c1 n1 A2 c2 d1)))
    (with_reducible (first | assumption | exact T0.out.drew.cells | exact GvR.next (by assumption) (by assumption) | exact GvR.nextS (by assumption)))
    (first
       | (go_at_call_of 101 (Value.slice A1 (R n1).length c1)
          refine (rNatPow n1 p _ _ _ (GvR.of (by assumption)).f.r1 (by omega) L1.out m1).mono ?_
          rintro e wa ⟨Aa, ca, rfl, ra, ba⟩)
       | (go_at_call 85
          refine (rDen _ _ _ _ _ _ _ _ (GvR.of (by assumption)).f.r2 Z.out).mono ?_
          rintro e wc ⟨Ac, cc, rfl, rc, bc⟩)
       | (go_at_call 101
          refine (rNatPow d1 p _ _ _ rc (by omega) L2.out m2).mono ?_
          rintro e wb ⟨Ab, cb, rfl, rb, bb⟩
          have hh := (GvR.of (by assumption)).below bb
          obtain ⟨x, y, z, hx, hy, hz, k1, k2, k3⟩ := hh.res.cells))
  go_wp2
  obtain ⟨q0, q1, q2, r1, r2, hb⟩ := hh.finish (s := ((p : Int) % 2 == 1)) ((ra.below bc).below bb) rb
  refine bodyPost_ret (v := .agg #[.bool ((p : Int) % 2 == 1), .slice Aa (R (n1 ^ p)).length ca, .slice Ab (R (d1 ^ p)).length cb]) (by simp [results, Tryd.results59, go_sem, q0, q1, q2]) rfl ?_
  exact ⟨_, rfl, ⟨_, _, _, _, by rw [Bool.true_and, ← beq_one]; rfl, r1, r2⟩, hb⟩
end Go.Proofs.YtfmhplcpejmkhabDoor

namespace Go.Proofs.YtfmhplcpejmkhabDoor
open Go.RowKit Dig
set_option linter.unusedVariables false
set_option linter.unusedSimpArgs false
def powN (q : Rat) (p : Nat) : Rat := mkRat (sg (ng q && decide (p % 2 = 1)) (q.num.natAbs ^ p)) (q.den ^ p)
theorem powN_facts (q : Rat) (p : Nat) : ng (powN q p) = (ng q && decide (p % 2 = 1)) ∧ (powN q p).num.natAbs = q.num.natAbs ^ p ∧ (powN q p).den = q.den ^ p := by
  have hd : q.den ^ p ≠ 0 := Nat.ne_of_gt (Nat.pow_pos (Nat.pos_of_ne_zero q.den_nz))
  have hc : Nat.gcd (q.num.natAbs ^ p) (q.den ^ p) = 1 := Nat.Coprime.pow p p q.reduced
  refine ⟨?_, ?_, ?_⟩
  · by_cases hn : q.num.natAbs ^ p = 0
    · have h0 : q.num.natAbs = 0 := by
        rcases Nat.eq_zero_or_pos q.num.natAbs with h | h
        · exact h
        · exact absurd hn (Nat.ne_of_gt (Nat.pow_pos h))
      have hg : ng q = false := by
        cases h : ng q
        · rfl
        · exact absurd h0 (ng_nz h)
      unfold powN
      rw [hn, mk_zero, hg]
      rfl
    · unfold powN; rw [mk_sign _ hd hn]
  · unfold powN; rw [mk_abs _ _ hd, hc, Nat.div_one]
  · unfold powN; rw [mk_den _ _ hd, hc, Nat.div_one]
def powZ (q : Rat) (n : Int) : Rat := if n < 0 then powN q⁻¹ n.natAbs else powN q n.natAbs
/-- what Pow returns -/
def powOut (L : Bool) (n : Int) (q : Rat) : Out := if L = true then .err 1 else if n < -32 ∨ 32 < n then .err 2 else if n < 0 ∧ q = 0 then .err 10 else give (powZ q n)
/-- a rational number of the reference in a variable, and a variable for a result -/
structure XP (w M : World) (g1 g3 : Nat) (s1 : Bool) (A1 : Option Addr) (n1 c1 : Nat) (B1 : Option Addr) (m1 d1 : Nat) (q : Rat) : Prop where
  f : Box M g1 (.bool s1) (.slice A1 n1 c1) (.slice B1 m1 d1) 39
  res : Res M g3 39
  r1 : IsQ M (.agg #[.bool s1, .slice A1 n1 c1, .slice B1 m1 d1]) q
  bel : Below w.heap.size w M
  n3 : w.heap.size ≤ g3
  ne : g1 ≠ g3
section
variable {w M M' : World} {g1 g3 : Nat} {s1 : Bool} {A1 : Option Addr} {n1 c1 : Nat} {B1 : Option Addr} {m1 d1 : Nat} {q : Rat}
theorem XP.below (h : XP w M g1 g3 s1 A1 n1 c1 B1 m1 d1 q) (hb : Below M.heap.size M M') : XP w M' g1 g3 s1 A1 n1 c1 B1 m1 d1 q :=
  ⟨h.f.below hb, h.res.below hb, h.r1.below hb, below_step h.bel h.bel.size hb, h.n3, h.ne⟩
theorem XP.drew (h : XP w M g1 g3 s1 A1 n1 c1 B1 m1 d1 q) : XP w M.drew g1 g3 s1 A1 n1 c1 B1 m1 d1 q := h.below (Below.refl _ _).drew
theorem XP.cells (h : XP w M g1 g3 s1 A1 n1 c1 B1 m1 d1 q) : (World.cell? M ⟨g1, 0, none⟩ = some (.bool s1) ∧ World.cell? M ⟨g1, 1, none⟩ = some (.slice A1 n1 c1) ∧ World.cell? M ⟨g1, 2, none⟩ = some (.slice B1 m1 d1) ∧ Hid (XP w M g1 g3 s1 A1 n1 c1 B1 m1 d1 q)) := by
  obtain ⟨a1, a2, a3, _, _, _⟩ := h.f.cells
  exact ⟨a1, a2, a3, h⟩
theorem XP.of (h : (World.cell? M ⟨g1, 0, none⟩ = some (.bool s1) ∧ World.cell? M ⟨g1, 1, none⟩ = some (.slice A1 n1 c1) ∧ World.cell? M ⟨g1, 2, none⟩ = some (.slice B1 m1 d1) ∧ Hid (XP w M g1 g3 s1 A1 n1 c1 B1 m1 d1 q))) : XP w M g1 g3 s1 A1 n1 c1 B1 m1 d1 q := h.2.2.2.out
theorem XP.next (h : (World.cell? M ⟨g1, 0, none⟩ = some (.bool s1) ∧ World.cell? M ⟨g1, 1, none⟩ = some (.slice A1 n1 c1) ∧ World.cell? M ⟨g1, 2, none⟩ = some (.slice B1 m1 d1) ∧ Hid (XP w M g1 g3 s1 A1 n1 c1 B1 m1 d1 q))) (hb : Below M.heap.size M M') : (World.cell? M' ⟨g1, 0, none⟩ = some (.bool s1) ∧ World.cell? M' ⟨g1, 1, none⟩ = some (.slice A1 n1 c1) ∧ World.cell? M' ⟨g1, 2, none⟩ = some (.slice B1 m1 d1) ∧ Hid (XP w M' g1 g3 s1 A1 n1 c1 B1 m1 d1 q)) := ((XP.of h).below hb).cells
theorem XP.nextS (h : (World.cell? M ⟨g1, 0, none⟩ = some (.bool s1) ∧ World.cell? M ⟨g1, 1, none⟩ = some (.slice A1 n1 c1) ∧ World.cell? M ⟨g1, 2, none⟩ = some (.slice B1 m1 d1) ∧ Hid (XP w M g1 g3 s1 A1 n1 c1 B1 m1 d1 q))) {a : Bool} {B C : Option Addr} {b b' c c' : Nat} : (World.cell? (((M.setCell ⟨g3, 0, none⟩ (.bool a)).setCell ⟨g3, 1, none⟩ (.slice B b b')).setCell ⟨g3, 2, none⟩ (.slice C c c')) ⟨g1, 0, none⟩ = some (.bool s1) ∧ World.cell? (((M.setCell ⟨g3, 0, none⟩ (.bool a)).setCell ⟨g3, 1, none⟩ (.slice B b b')).setCell ⟨g3, 2, none⟩ (.slice C c c')) ⟨g1, 1, none⟩ = some (.slice A1 n1 c1) ∧ World.cell? (((M.setCell ⟨g3, 0, none⟩ (.bool a)).setCell ⟨g3, 1, none⟩ (.slice B b b')).setCell ⟨g3, 2, none⟩ (.slice C c c')) ⟨g1, 2, none⟩ = some (.slice B1 m1 d1) ∧ Hid (XP w (((M.setCell ⟨g3, 0, none⟩ (.bool a)).setCell ⟨g3, 1, none⟩ (.slice B b b')).setCell ⟨g3, 2, none⟩ (.slice C c c')) g1 g3 s1 A1 n1 c1 B1 m1 d1 q)) := by
  have h := XP.of h
  have hg := grown_set3 M g3 (.bool a) (.slice B b b') (.slice C c c')
  obtain ⟨x, y, z, hx, hy, hz, h4⟩ := h.res
  obtain ⟨E1, e1, E2, e2, e, r1, r2⟩ := h.r1
  exact XP.cells ⟨(hg.block g1 h.f.lt (fun e => h.ne (Option.some.inj e))).trans h.f, h.res.set3 (NI.bool _) (NI.slice _ _ _) (NI.slice _ _ _), ⟨E1, e1, E2, e2, e, r1.grown_box h4 hx hy hz hg, r2.grown_box h4 hx hy hz hg⟩, below_set3 h.bel h.n3 _ _ _, h.n3, h.ne⟩
end
theorem rPowerN (s1 : Bool) (n1 d1 : Nat) (p : Nat) (w : World) (A1 A2 : Option Addr) (c1 c2 : Nat) (h1 : Rd w A1 c1 (R n1)) (h2 : Rd w A2 c2 (R d1)) (l1 : (R n1).length * p ≤ 500000) (l2 : (R d1).length * p ≤ 500000) (m1 : (R n1).length ≤ 500000) (m2 : (R d1).length ≤ 500000) (lp : p ≤ 1000) (hd : d1 ≠ 0) :
    Calls Tryd.prog 59 #[.agg #[.bool s1, .slice A1 (R n1).length c1, .slice A2 (R d1).length c2], .int .i64 p] w fun e w' => ∃ u, e = .returned u ∧ Qr w' u (s1 && decide (p % 2 = 1)) (n1 ^ p) (d1 ^ p) ∧ Below w.heap.size w w' := by
  cases s1
  · exact rPower_false n1 d1 p w A1 A2 c1 c2 h1 h2 l1 l2 m1 m2 lp hd
  · exact rPower_true n1 d1 p w A1 A2 c1 c2 h1 h2 l1 l2 m1 m2 lp hd
theorem qPowerN (a : Rat) (p : Nat) (lp : p ≤ 32) (w : World) (v : Value) (h : IsQ w v a) (k : Rq 10000 a) (q : Rat) (hq : powN a p = q) :
    Calls Tryd.prog 59 #[v, .int .i64 p] w fun e w' => ∃ u, e = .returned u ∧ IsQ w' u q ∧ Below w.heap.size w w' := by
  obtain ⟨A1, c1, A2, c2, rfl, r1, r2⟩ := h
  obtain ⟨f1, f2, f3⟩ := powN_facts a p
  have z1 : (R a.num.natAbs).length * p ≤ 10000 * 32 := Nat.mul_le_mul k.1 lp
  have z2 : (R a.den).length * p ≤ 10000 * 32 := Nat.mul_le_mul k.2 lp
  refine (rPowerN _ _ _ p w _ _ _ _ r1 r2 (by omega) (by omega) (Nat.le_trans k.1 (by omega)) (Nat.le_trans k.2 (by omega)) (by omega) a.den_nz).mono ?_
  rintro e w' ⟨u, rfl, hu, hb⟩
  exact ⟨u, rfl, hu.isQ (by rw [← hq, f1]) (by rw [← hq, f2]) (by rw [← hq, f3]), hb⟩
theorem one_div_inv (a : Rat) : ((1 : Int) : Rat) / a = a⁻¹ := by
  have : ((1 : Int) : Rat) = 1 := rfl
  rw [this, Rat.div_def, Rat.one_mul]
set_option maxHeartbeats 2000000 in
set_option maxRecDepth 100000 in
theorem rPower_neg (p : Nat) (lp : p ≤ 32) (p0 : 0 < p) (s1 : Bool) (A1 : Option Addr) (n1 c1 : Nat) (A2 : Option Addr) (n2 c2 : Nat) (w : World) (a b q : Rat) (h : IsQ w (.agg #[.bool s1, .slice A1 n1 c1, .slice A2 n2 c2]) a) (k : Rq 10000 a) (hz : a ≠ 0) (hb : ((1 : Int) : Rat) / a = b) (kb : Rq 10000 b) (hq : powN b p = q) :
    Calls Tryd.prog 59 #[.agg #[.bool s1, .slice A1 n1 c1, .slice A2 n2 c2], .int .i64 (-(p : Int))] w fun e w' => ∃ t B1 m1 e1 B2 m2 e2, e = .returned (.agg #[.bool t, .slice B1 m1 e1, .slice B2 m2 e2]) ∧ Hid (IsQ w' (.agg #[.bool t, .slice B1 m1 e1, .slice B2 m2 e2]) q) ∧ Below w.heap.size w w' := by
  obtain ⟨M, hM, k1, k2, bM⟩ := start1 w (.bool s1) (.slice A1 n1 c1) (.slice A2 n2 c2) (.bool false) (.slice none 0 0) (.slice none 0 0) 39 39
  have TR : Hid (XP w M w.heap.size (w.heap.size + 1) s1 A1 n1 c1 A2 n2 c2 a) := Lib.hid ⟨k1, ⟨_, _, _, NI.bool _, NI.slice _ _ _, NI.slice _ _ _, k2⟩, h.below bM, bM, by omega, by omega⟩
  have HB := Lib.hid hb
  have HQ := Lib.hid hq
  have HZ := Lib.hid hz
  have K1 := Lib.hid (show Rq 400000 ((1 : Int) : Rat) from ⟨Nat.le_trans ((dig_length_le B16_two _ 4).2 (by unfold B16; decide)) (by omega : 4 ≤ 400000), Nat.le_trans ((dig_length_le B16_two _ 4).2 (by unfold B16; decide)) (by omega : 4 ≤ 400000)⟩)
  have CI := Lib.hid (fun w => rInt 1 (by omega) (by omega) w)
  generalize ((1 : Int) : Rat) = one at *
  have hd2 : decide (-(p : Int) < 0) = true := decide_eq_true (by omega)
  have E3 := Lib.hid (wrap_i64 (p : Int) (by omega) (by omega))
  clear k1 k2 bM h hb hq hz
  go_enter Tryd.func59, Tryd.ntmps59
  go_upto_region 1 with (fail)
  rw [← hM]
  clear hM
  go_wp2_with fail
  go_region_held3 (fun W' => (World.cell? W' ⟨w.heap.size, 0, none⟩ = some (.bool s1) ∧ World.cell? W' ⟨w.heap.size, 1, none⟩ = some (.slice A1 n1 c1) ∧ World.cell? W' ⟨w.heap.size, 2, none⟩ = some (.slice A2 n2 c2) ∧ Hid (XP w W' w.heap.size (w.heap.size + 1) s1 A1 n1 c1 A2 n2 c2 a)))
    (with_reducible (first | assumption | exact TR.out.drew.cells | exact XP.next (by assumption) (by assumption) | exact XP.nextS (by assumption)))
    (first
     | (go_at_call 42
        refine (CI.out _).mono ?_
        rintro e wi ⟨t4, B4, m4, e4, B4', m4', e4', rfl, i4, bi⟩)
     | (go_at_call 100
        refine (Calls.parts (qDiv _ _ _ _ _ i4.out (XP.of (by assumption)).r1 K1.out (k.le (by omega)) HZ.out)).mono ?_
        rw [HB.out]
        rintro e wd ⟨t5, B5, m5, e5, B5', m5', e5', rfl, i5, bd⟩)
     | (go_at_call 59
        rw [E3.out]
        refine (Calls.parts (qPowerN b p lp _ _ i5.out kb q HQ.out)).mono ?_
        rintro e we ⟨t6, B6, m6, e6, B6', m6', e6', rfl, i6, be⟩
        have hh := (XP.of (by assumption)).below be
        obtain ⟨x, y, z, hx, hy, hz, k1, k2, k3⟩ := hh.res.cells))
  obtain ⟨q0, q1, q2, hs, hb⟩ := IsQ.stored i6.out hh.res hh.bel hh.n3
  have Q := Lib.hid (And.intro q0 (And.intro q1 q2))
  have HS := Lib.hid hs
  have HBB := Lib.hid hb
  clear q0 q1 q2 hs hb
  go_wp2
  obtain ⟨q0, q1, q2⟩ := Q.out
  refine bodyPost_ret (v := .agg #[.bool t6, .slice B6 m6 e6, .slice B6' m6' e6']) (by simp [results, Tryd.results59, go_sem, q0, q1, q2]) rfl ?_
  exact ⟨_, _, _, _, _, _, _, rfl, HS, HBB.out⟩
end Go.Proofs.YtfmhplcpejmkhabDoor

namespace Go.Proofs.YtfmhplcpejmkhabDoor
open Go.RowKit Dig
set_option linter.unusedVariables false
set_option linter.unusedSimpArgs false
theorem IsF.len {w : World} {t : Bool} {A B : Option Addr} {n c m d : Nat} {q : Rat} (h : IsF w (.agg #[.bool t, .slice A n c, .slice B m d]) q) : (W q.num.natAbs).length = n := by
  obtain ⟨A1, c1, A2, c2, e, _, _⟩ := h
  simp only [Value.agg.injEq, Array.mk.injEq, List.cons.injEq, Value.bool.injEq, Value.slice.injEq, and_true] at e
  exact e.2.1.2.1.symm
theorem N1.setF {w M : World} {g3 g : Nat} {s : Bool} {A1 : Option Addr} {n1 c1 : Nat} {B1 : Option Addr} {m1 d1 : Nat} (h : N1 w M g3 g s A1 n1 c1 B1 m1 d1) {t : Bool} {A2 : Option Addr} {n2 c2 : Nat} {B2 : Option Addr} {m2 d2 : Nat} (hg : w.heap.size ≤ g) (h0 : g ≠ 0) :
    N1 w (((M.setCell ⟨g, 0, none⟩ (.bool t)).setCell ⟨g, 1, none⟩ (.slice A2 n2 c2)).setCell ⟨g, 2, none⟩ (.slice B2 m2 d2)) g3 g t A2 n2 c2 B2 m2 d2 := by
  have hgr := grown_set3 M g (.bool t) (.slice A2 n2 c2) (.slice B2 m2 d2)
  obtain ⟨x, y, z, hx, hy, hz, h4⟩ := h.res
  exact ⟨⟨x, y, z, hx, hy, hz, (hgr.block g3 h4.lt (fun e => h.ne (Option.some.inj e).symm)).trans h4⟩, h.box.set3 _ _ _, h.tab.grown hgr h0, below_set3 h.bel hg _ _ _, h.n3, h.ne⟩
theorem W_pow_len (a e : Nat) : (W (a ^ e)).length ≤ (W a).length * e + 1 := W_pow_length a e
theorem fPow (a : Rat) (p : Nat) (lp : p ≤ 32) (w : World) (v : Value) (h : IsF w v a) (k : Wq 1000 a) (hT : Tab w) (q : Rat) (hq : powN a p = q) :
    Calls Tryd.prog 56 #[v, .int .i64 p] w fun e w' => ∃ u, e = .returned u ∧ IsF w' u q ∧ Below w.heap.size w w' := by
  obtain ⟨A1, c1, A2, c2, rfl, r1, r2⟩ := h
  obtain ⟨f1, f2, f3⟩ := powN_facts a p
  have z1 : (W a.num.natAbs).length * p ≤ 1000 * 32 := Nat.mul_le_mul k.1 lp
  have z2 : (W a.den).length * p ≤ 1000 * 32 := Nat.mul_le_mul k.2 lp
  refine (fracPow _ _ _ p w _ _ _ _ r1 r2 (by omega) (by omega) (by omega) hT).mono ?_
  rintro e w' ⟨u, rfl, hu, hb⟩
  exact ⟨u, rfl, by unfold IsF; rw [← hq, f1, f2, f3]; exact hu, hb⟩
set_option maxHeartbeats 2000000 in
set_option maxRecDepth 100000 in
theorem nPow_large (s1 : Bool) (N1' D1' : Nat) (p : Int) (w : World) (v1 : Value) (h1 : RawV w v1 s1 N1' D1') (hT : Tab w) (q : Rat) (hq : ratOf s1 N1' D1' = q) (hL : largeB s1 N1' D1' = true) :
    Calls Tryd.prog 14 #[v1, .int .i64 p] w (OutPost w (Out.err 1)) := by
  have H1 := Lib.hid h1
  have HT := Lib.hid hT
  obtain ⟨A1, n1, c1, A1', n1', c1', rfl⟩ := h1.shape
  clear h1 hT
  obtain ⟨M, hM, k1, k3, bM⟩ := start1 w (.bool s1) (.slice A1 n1 c1) (.slice A1' n1' c1') (.bool false) (.slice none 0 0) (.slice none 0 0) 24 24
  have HX := Lib.hid k1
  have HR := Lib.hid (show Res M (w.heap.size + 1) 24 from ⟨_, _, _, NI.bool _, NI.slice _ _ _, NI.slice _ _ _, k3⟩)
  have BM := Lib.hid bM
  replace H1 := Lib.hid (H1.out.below bM)
  replace HT := Lib.hid (HT.out.below bM)
  have HQ := Lib.hid hq
  have HL := Lib.hid hL
  obtain ⟨o, ho⟩ : ∃ o, Out.err 1 = o := ⟨_, rfl⟩
  have HO := Lib.hid ho
  rw [ho]
  clear hq hL k1 k3 bM ho
  go_enter Tryd.func14, Tryd.ntmps14
  go_upto_region 1 with (fail)
  rw [← hM]
  clear hM
  obtain ⟨x1, x2, x3, _, _, _⟩ := HX.out.cells
  go_wp2_with fail
  refine (readV _ s1 N1' D1' _ H1.out HT.out).mono ?_
  rw [HL.out, Bool.not_true]
  rintro e wa ⟨t1, B1, m1, d1, B1', m1', d1', rfl, f1, ba⟩
  have bb := below_step ba ba.size (below_alloc wa (.cells #[.bool t1, .slice B1 m1 d1, .slice B1' m1' d1'] 65))
  have hf1 := Box.new wa (.bool t1) (.slice B1 m1 d1) (.slice B1' m1' d1') 65
  have szw : w.heap.size + 1 < wa.heap.size := Nat.lt_of_lt_of_le (by obtain ⟨_, _, _, _, _, _, hh⟩ := HR.out; exact hh.lt) ba.size
  have TA : Hid (N1 w (wa.alloc (.cells #[.bool t1, .slice B1 m1 d1, .slice B1' m1' d1'] 65)) (w.heap.size + 1) wa.heap.size t1 B1 m1 d1 B1' m1' d1') :=
    Lib.hid ⟨HR.out.below bb, hf1, HT.out.below bb, below_step BM.out BM.out.size bb, by omega, by omega⟩
  obtain ⟨w2, hw2⟩ : ∃ w2, wa.alloc (.cells #[.bool t1, .slice B1 m1 d1, .slice B1' m1' d1'] 65) = w2 := ⟨_, rfl⟩
  obtain ⟨gf, hgf⟩ : ∃ gf, wa.heap.size = gf := ⟨_, rfl⟩
  clear x1 x2 x3 ba bb f1 hf1 szw HR BM HX H1 HT
  go_upto_region 2 with (fail)
  rw [hw2] at TA
  try rw [hw2]
  rw [hgf] at TA
  try rw [hgf]
  clear hw2 hgf
  obtain ⟨y1, y2, y3, _⟩ := TA.out.box.cells
  obtain ⟨z1, z2, z3, hy1, hy2, hy3, f1, f2, f3⟩ := TA.out.res.cells
  obtain ⟨q0, q1, q2, hs, hb⟩ := OutIs.stored (o := .err 1) (k := 1) (s := false) (A1 := none) (A2 := none) (n1 := 0) (c1 := 0) (n2 := 0) (c2 := 0) ⟨rfl, rfl, by omega, by omega⟩ TA.out.res TA.out.bel TA.out.n3
  have Q := Lib.hid (And.intro q0 (And.intro q1 q2))
  have HBB := Lib.hid hb
  clear q0 q1 q2 hs hb
  go_wp2_with fail
  obtain ⟨q0, q1, q2⟩ := Q.out
  refine bodyPost_ret (v := .tuple #[noRat, .int .i64 1]) (by simp [results, Tryd.results14, go_sem, q0, q1, q2, noRat]) rfl ?_
  rw [← HO.out]
  exact OutPost.err rfl (by omega) (by omega) HBB.out
set_option maxHeartbeats 2000000 in
set_option maxRecDepth 100000 in
theorem nPow_low (s1 : Bool) (N1' D1' : Nat) (p : Int) (hp : p < -32) (w : World) (v1 : Value) (h1 : RawV w v1 s1 N1' D1') (hT : Tab w) (q : Rat) (hq : ratOf s1 N1' D1' = q) (hL : largeB s1 N1' D1' = false) :
    Calls Tryd.prog 14 #[v1, .int .i64 p] w (OutPost w (Out.err 2)) := by
  have H1 := Lib.hid h1
  have HT := Lib.hid hT
  obtain ⟨A1, n1, c1, A1', n1', c1', rfl⟩ := h1.shape
  clear h1 hT
  obtain ⟨M, hM, k1, k3, bM⟩ := start1 w (.bool s1) (.slice A1 n1 c1) (.slice A1' n1' c1') (.bool false) (.slice none 0 0) (.slice none 0 0) 24 24
  have HX := Lib.hid k1
  have HR := Lib.hid (show Res M (w.heap.size + 1) 24 from ⟨_, _, _, NI.bool _, NI.slice _ _ _, NI.slice _ _ _, k3⟩)
  have BM := Lib.hid bM
  replace H1 := Lib.hid (H1.out.below bM)
  replace HT := Lib.hid (HT.out.below bM)
  have HQ := Lib.hid hq
  have HL := Lib.hid hL
  have hp1 : decide (p < -32) = true := decide_eq_true hp
  clear hp
  obtain ⟨o, ho⟩ : ∃ o, Out.err 2 = o := ⟨_, rfl⟩
  have HO := Lib.hid ho
  rw [ho]
  clear hq hL k1 k3 bM ho
  go_enter Tryd.func14, Tryd.ntmps14
  go_upto_region 1 with (fail)
  rw [← hM]
  clear hM
  obtain ⟨x1, x2, x3, _, _, _⟩ := HX.out.cells
  go_wp2_with fail
  refine (readV _ s1 N1' D1' _ H1.out HT.out).mono ?_
  rw [HL.out, Bool.not_false]
  rintro e wa ⟨t1, B1, m1, d1, B1', m1', d1', rfl, f1, ba⟩
  have bb := below_step ba ba.size (below_alloc wa (.cells #[.bool t1, .slice B1 m1 d1, .slice B1' m1' d1'] 65))
  have hf1 := Box.new wa (.bool t1) (.slice B1 m1 d1) (.slice B1' m1' d1') 65
  have szw : w.heap.size + 1 < wa.heap.size := Nat.lt_of_lt_of_le (by obtain ⟨_, _, _, _, _, _, hh⟩ := HR.out; exact hh.lt) ba.size
  have TA : Hid (N1 w (wa.alloc (.cells #[.bool t1, .slice B1 m1 d1, .slice B1' m1' d1'] 65)) (w.heap.size + 1) wa.heap.size t1 B1 m1 d1 B1' m1' d1') :=
    Lib.hid ⟨HR.out.below bb, hf1, HT.out.below bb, below_step BM.out BM.out.size bb, by omega, by omega⟩
  have F1 : Hid (IsF (wa.alloc (.cells #[.bool t1, .slice B1 m1 d1, .slice B1' m1' d1'] 65)) (.agg #[.bool t1, .slice B1 m1 d1, .slice B1' m1' d1']) q) := Lib.hid (by rw [← HQ.out]; exact (f1.out rfl).below (below_alloc _ _))
  obtain ⟨w2, hw2⟩ : ∃ w2, wa.alloc (.cells #[.bool t1, .slice B1 m1 d1, .slice B1' m1' d1'] 65) = w2 := ⟨_, rfl⟩
  obtain ⟨gf, hgf⟩ : ∃ gf, wa.heap.size = gf := ⟨_, rfl⟩
  clear x1 x2 x3 ba bb f1 hf1 szw HR BM HX H1 HT
  go_upto_region 2 with (fail)
  rw [hw2] at TA F1
  try rw [hw2]
  rw [hgf] at TA
  try rw [hgf]
  clear hw2 hgf
  obtain ⟨y1, y2, y3, _⟩ := TA.out.box.cells
  obtain ⟨z1, z2, z3, hy1, hy2, hy3, f1, f2, f3⟩ := TA.out.res.cells
  obtain ⟨q0, q1, q2, hs, hb⟩ := OutIs.stored (o := .err 2) (k := 2) (s := false) (A1 := none) (A2 := none) (n1 := 0) (c1 := 0) (n2 := 0) (c2 := 0) ⟨rfl, rfl, by omega, by omega⟩ TA.out.res TA.out.bel TA.out.n3
  have Q := Lib.hid (And.intro q0 (And.intro q1 q2))
  have HBB := Lib.hid hb
  clear q0 q1 q2 hs hb
  go_wp2_with fail
  obtain ⟨q0, q1, q2⟩ := Q.out
  refine bodyPost_ret (v := .tuple #[noRat, .int .i64 2]) (by simp [results, Tryd.results14, go_sem, q0, q1, q2, noRat]) rfl ?_
  rw [← HO.out]
  exact OutPost.err rfl (by omega) (by omega) HBB.out
set_option maxHeartbeats 2000000 in
set_option maxRecDepth 100000 in
theorem nPow_high (s1 : Bool) (N1' D1' : Nat) (p : Int) (hp : 32 < p) (w : World) (v1 : Value) (h1 : RawV w v1 s1 N1' D1') (hT : Tab w) (q : Rat) (hq : ratOf s1 N1' D1' = q) (hL : largeB s1 N1' D1' = false) :
    Calls Tryd.prog 14 #[v1, .int .i64 p] w (OutPost w (Out.err 2)) := by
  have H1 := Lib.hid h1
  have HT := Lib.hid hT
  obtain ⟨A1, n1, c1, A1', n1', c1', rfl⟩ := h1.shape
  clear h1 hT
  obtain ⟨M, hM, k1, k3, bM⟩ := start1 w (.bool s1) (.slice A1 n1 c1) (.slice A1' n1' c1') (.bool false) (.slice none 0 0) (.slice none 0 0) 24 24
  have HX := Lib.hid k1
  have HR := Lib.hid (show Res M (w.heap.size + 1) 24 from ⟨_, _, _, NI.bool _, NI.slice _ _ _, NI.slice _ _ _, k3⟩)
  have BM := Lib.hid bM
  replace H1 := Lib.hid (H1.out.below bM)
  replace HT := Lib.hid (HT.out.below bM)
  have HQ := Lib.hid hq
  have HL := Lib.hid hL
  have hp1 : decide (p < -32) = false := decide_eq_false (by omega)
  have hp2 : decide (32 < p) = true := decide_eq_true hp
  clear hp
  obtain ⟨o, ho⟩ : ∃ o, Out.err 2 = o := ⟨_, rfl⟩
  have HO := Lib.hid ho
  rw [ho]
  clear hq hL k1 k3 bM ho
  go_enter Tryd.func14, Tryd.ntmps14
  go_upto_region 1 with (fail)
  rw [← hM]
  clear hM
  obtain ⟨x1, x2, x3, _, _, _⟩ := HX.out.cells
  go_wp2_with fail
  refine (readV _ s1 N1' D1' _ H1.out HT.out).mono ?_
  rw [HL.out, Bool.not_false]
  rintro e wa ⟨t1, B1, m1, d1, B1', m1', d1', rfl, f1, ba⟩
  have bb := below_step ba ba.size (below_alloc wa (.cells #[.bool t1, .slice B1 m1 d1, .slice B1' m1' d1'] 65))
  have hf1 := Box.new wa (.bool t1) (.slice B1 m1 d1) (.slice B1' m1' d1') 65
  have szw : w.heap.size + 1 < wa.heap.size := Nat.lt_of_lt_of_le (by obtain ⟨_, _, _, _, _, _, hh⟩ := HR.out; exact hh.lt) ba.size
  have TA : Hid (N1 w (wa.alloc (.cells #[.bool t1, .slice B1 m1 d1, .slice B1' m1' d1'] 65)) (w.heap.size + 1) wa.heap.size t1 B1 m1 d1 B1' m1' d1') :=
    Lib.hid ⟨HR.out.below bb, hf1, HT.out.below bb, below_step BM.out BM.out.size bb, by omega, by omega⟩
  have F1 : Hid (IsF (wa.alloc (.cells #[.bool t1, .slice B1 m1 d1, .slice B1' m1' d1'] 65)) (.agg #[.bool t1, .slice B1 m1 d1, .slice B1' m1' d1']) q) := Lib.hid (by rw [← HQ.out]; exact (f1.out rfl).below (below_alloc _ _))
  obtain ⟨w2, hw2⟩ : ∃ w2, wa.alloc (.cells #[.bool t1, .slice B1 m1 d1, .slice B1' m1' d1'] 65) = w2 := ⟨_, rfl⟩
  obtain ⟨gf, hgf⟩ : ∃ gf, wa.heap.size = gf := ⟨_, rfl⟩
  clear x1 x2 x3 ba bb f1 hf1 szw HR BM HX H1 HT
  go_upto_region 2 with (fail)
  rw [hw2] at TA F1
  try rw [hw2]
  rw [hgf] at TA
  try rw [hgf]
  clear hw2 hgf
  obtain ⟨y1, y2, y3, _⟩ := TA.out.box.cells
  obtain ⟨z1, z2, z3, hy1, hy2, hy3, f1, f2, f3⟩ := TA.out.res.cells
  obtain ⟨q0, q1, q2, hs, hb⟩ := OutIs.stored (o := .err 2) (k := 2) (s := false) (A1 := none) (A2 := none) (n1 := 0) (c1 := 0) (n2 := 0) (c2 := 0) ⟨rfl, rfl, by omega, by omega⟩ TA.out.res TA.out.bel TA.out.n3
  have Q := Lib.hid (And.intro q0 (And.intro q1 q2))
  have HBB := Lib.hid hb
  clear q0 q1 q2 hs hb
  go_wp2_with fail
  obtain ⟨q0, q1, q2⟩ := Q.out
  refine bodyPost_ret (v := .tuple #[noRat, .int .i64 2]) (by simp [results, Tryd.results14, go_sem, q0, q1, q2, noRat]) rfl ?_
  rw [← HO.out]
  exact OutPost.err rfl (by omega) (by omega) HBB.out
set_option maxHeartbeats 2000000 in
set_option maxRecDepth 100000 in
theorem nPow_zero (s1 : Bool) (N1' D1' : Nat) (p : Int) (hp : -32 ≤ p) (hn : p < 0) (hz : ratOf s1 N1' D1' = 0) (w : World) (v1 : Value) (h1 : RawV w v1 s1 N1' D1') (hT : Tab w) (q : Rat) (hq : ratOf s1 N1' D1' = q) (hL : largeB s1 N1' D1' = false) :
    Calls Tryd.prog 14 #[v1, .int .i64 p] w (OutPost w (Out.err 10)) := by
  have H1 := Lib.hid h1
  have HT := Lib.hid hT
  obtain ⟨A1, n1, c1, A1', n1', c1', rfl⟩ := h1.shape
  clear h1 hT
  obtain ⟨M, hM, k1, k3, bM⟩ := start1 w (.bool s1) (.slice A1 n1 c1) (.slice A1' n1' c1') (.bool false) (.slice none 0 0) (.slice none 0 0) 24 24
  have HX := Lib.hid k1
  have HR := Lib.hid (show Res M (w.heap.size + 1) 24 from ⟨_, _, _, NI.bool _, NI.slice _ _ _, NI.slice _ _ _, k3⟩)
  have BM := Lib.hid bM
  replace H1 := Lib.hid (H1.out.below bM)
  replace HT := Lib.hid (HT.out.below bM)
  have HQ := Lib.hid hq
  have HL := Lib.hid hL
  have hp1 : decide (p < -32) = false := decide_eq_false (by omega)
  have hp2 : decide (32 < p) = false := decide_eq_false (by omega)
  have hp3 : decide (p < 0) = true := decide_eq_true (by omega)
  have HZD := Lib.hid (show decide (W q.num.natAbs = []) = true by rw [← hq, hz]; simp [W_zero])
  clear hp hn hz
  obtain ⟨o, ho⟩ : ∃ o, Out.err 10 = o := ⟨_, rfl⟩
  have HO := Lib.hid ho
  rw [ho]
  clear hq hL k1 k3 bM ho
  go_enter Tryd.func14, Tryd.ntmps14
  go_upto_region 1 with (fail)
  rw [← hM]
  clear hM
  obtain ⟨x1, x2, x3, _, _, _⟩ := HX.out.cells
  go_wp2_with fail
  refine (readV _ s1 N1' D1' _ H1.out HT.out).mono ?_
  rw [HL.out, Bool.not_false]
  rintro e wa ⟨t1, B1, m1, d1, B1', m1', d1', rfl, f1, ba⟩
  have bb := below_step ba ba.size (below_alloc wa (.cells #[.bool t1, .slice B1 m1 d1, .slice B1' m1' d1'] 65))
  have hf1 := Box.new wa (.bool t1) (.slice B1 m1 d1) (.slice B1' m1' d1') 65
  have szw : w.heap.size + 1 < wa.heap.size := Nat.lt_of_lt_of_le (by obtain ⟨_, _, _, _, _, _, hh⟩ := HR.out; exact hh.lt) ba.size
  have TA : Hid (N1 w (wa.alloc (.cells #[.bool t1, .slice B1 m1 d1, .slice B1' m1' d1'] 65)) (w.heap.size + 1) wa.heap.size t1 B1 m1 d1 B1' m1' d1') :=
    Lib.hid ⟨HR.out.below bb, hf1, HT.out.below bb, below_step BM.out BM.out.size bb, by omega, by omega⟩
  have F1 : Hid (IsF (wa.alloc (.cells #[.bool t1, .slice B1 m1 d1, .slice B1' m1' d1'] 65)) (.agg #[.bool t1, .slice B1 m1 d1, .slice B1' m1' d1']) q) := Lib.hid (by rw [← HQ.out]; exact (f1.out rfl).below (below_alloc _ _))
  obtain ⟨w2, hw2⟩ : ∃ w2, wa.alloc (.cells #[.bool t1, .slice B1 m1 d1, .slice B1' m1' d1'] 65) = w2 := ⟨_, rfl⟩
  obtain ⟨gf, hgf⟩ : ∃ gf, wa.heap.size = gf := ⟨_, rfl⟩
  clear x1 x2 x3 ba bb f1 hf1 szw HR BM HX H1 HT
  go_upto_region 2 with (fail)
  rw [hw2] at TA F1
  try rw [hw2]
  rw [hgf] at TA
  try rw [hgf]
  clear hw2 hgf
  obtain ⟨y1, y2, y3, _⟩ := TA.out.box.cells
  have hm1 := F1.out.len
  have C0 := Lib.hid (fun w => wZero w B1 (W q.num.natAbs) d1)
  rw [HZD.out] at C0
  rw [hm1] at C0
  clear hm1
  go_wp2_with fail
  refine (C0.out _).mono ?_
  rintro e we ⟨rfl, rfl⟩
  obtain ⟨z1, z2, z3, hy1, hy2, hy3, f1, f2, f3⟩ := TA.out.res.cells
  obtain ⟨q0, q1, q2, hs, hb⟩ := OutIs.stored (o := .err 10) (k := 10) (s := false) (A1 := none) (A2 := none) (n1 := 0) (c1 := 0) (n2 := 0) (c2 := 0) ⟨rfl, rfl, by omega, by omega⟩ TA.out.res TA.out.bel TA.out.n3
  have Q := Lib.hid (And.intro q0 (And.intro q1 q2))
  have HBB := Lib.hid hb
  clear q0 q1 q2 hs hb
  go_wp2_with fail
  obtain ⟨q0, q1, q2⟩ := Q.out
  refine bodyPost_ret (v := .tuple #[noRat, .int .i64 10]) (by simp [results, Tryd.results14, go_sem, q0, q1, q2, noRat]) rfl ?_
  rw [← HO.out]
  exact OutPost.err rfl (by omega) (by omega) HBB.out
set_option maxHeartbeats 2000000 in
set_option maxRecDepth 100000 in
theorem nPow_nn (s1 : Bool) (N1' D1' : Nat) (k : Nat) (hp : k ≤ 32) (r : Rat) (hr : powN (ratOf s1 N1' D1') k = r) (w : World) (v1 : Value) (h1 : RawV w v1 s1 N1' D1') (hT : Tab w) (q : Rat) (hq : ratOf s1 N1' D1' = q) (hL : largeB s1 N1' D1' = false) :
    Calls Tryd.prog 14 #[v1, .int .i64 k] w (OutPost w (give r)) := by
  have H1 := Lib.hid h1
  have HT := Lib.hid hT
  obtain ⟨A1, n1, c1, A1', n1', c1', rfl⟩ := h1.shape
  clear h1 hT
  obtain ⟨M, hM, k1, k3, bM⟩ := start1 w (.bool s1) (.slice A1 n1 c1) (.slice A1' n1' c1') (.bool false) (.slice none 0 0) (.slice none 0 0) 24 24
  have HX := Lib.hid k1
  have HR := Lib.hid (show Res M (w.heap.size + 1) 24 from ⟨_, _, _, NI.bool _, NI.slice _ _ _, NI.slice _ _ _, k3⟩)
  have BM := Lib.hid bM
  replace H1 := Lib.hid (H1.out.below bM)
  replace HT := Lib.hid (HT.out.below bM)
  have HQ := Lib.hid hq
  have HL := Lib.hid hL
  have hf := (largeB_false hL).2.2
  rw [hq] at hf
  have HF := Lib.hid hf
  clear hf
  have hp1 : decide ((k : Int) < -32) = false := decide_eq_false (by omega)
  have hp2 : decide (32 < (k : Int)) = false := decide_eq_false (by omega)
  have hp4 : decide (32 < k) = false := decide_eq_false (by omega)
  have hp3 : decide ((k : Int) < 0) = false := decide_eq_false (by omega)
  rw [hq] at hr
  have HR2 := Lib.hid hr
  have HP := Lib.hid hp
  clear hr hp
  obtain ⟨o, ho⟩ : ∃ o, give r = o := ⟨_, rfl⟩
  have HO := Lib.hid ho
  rw [ho]
  clear hq hL k1 k3 bM ho
  go_enter Tryd.func14, Tryd.ntmps14
  go_upto_region 1 with (fail)
  rw [← hM]
  clear hM
  obtain ⟨x1, x2, x3, _, _, _⟩ := HX.out.cells
  go_wp2_with fail
  refine (readV _ s1 N1' D1' _ H1.out HT.out).mono ?_
  rw [HL.out, Bool.not_false]
  rintro e wa ⟨t1, B1, m1, d1, B1', m1', d1', rfl, f1, ba⟩
  have bb := below_step ba ba.size (below_alloc wa (.cells #[.bool t1, .slice B1 m1 d1, .slice B1' m1' d1'] 65))
  have hf1 := Box.new wa (.bool t1) (.slice B1 m1 d1) (.slice B1' m1' d1') 65
  have szw : w.heap.size + 1 < wa.heap.size := Nat.lt_of_lt_of_le (by obtain ⟨_, _, _, _, _, _, hh⟩ := HR.out; exact hh.lt) ba.size
  have TA : Hid (N1 w (wa.alloc (.cells #[.bool t1, .slice B1 m1 d1, .slice B1' m1' d1'] 65)) (w.heap.size + 1) wa.heap.size t1 B1 m1 d1 B1' m1' d1') :=
    Lib.hid ⟨HR.out.below bb, hf1, HT.out.below bb, below_step BM.out BM.out.size bb, by omega, by omega⟩
  have F1 : Hid (IsF (wa.alloc (.cells #[.bool t1, .slice B1 m1 d1, .slice B1' m1' d1'] 65)) (.agg #[.bool t1, .slice B1 m1 d1, .slice B1' m1' d1']) q) := Lib.hid (by rw [← HQ.out]; exact (f1.out rfl).below (below_alloc _ _))
  obtain ⟨w2, hw2⟩ : ∃ w2, wa.alloc (.cells #[.bool t1, .slice B1 m1 d1, .slice B1' m1' d1'] 65) = w2 := ⟨_, rfl⟩
  obtain ⟨gf, hgf⟩ : ∃ gf, wa.heap.size = gf := ⟨_, rfl⟩
  clear x1 x2 x3 ba bb f1 hf1 szw HR BM HX H1 HT
  go_upto_region 2 with (fail)
  rw [hw2] at TA F1
  try rw [hw2]
  rw [hgf] at TA
  try rw [hgf]
  clear hw2 hgf
  obtain ⟨y1, y2, y3, _⟩ := TA.out.box.cells
  go_wp2_with fail
  refine (Calls.partsF (fPow q k HP.out _ _ F1.out (fit_Wq HF.out (by omega)) TA.out.tab r HR2.out)).mono ?_
  rintro e wb ⟨t2, B2, m2, d2, B2', m2', d2', rfl, i1, bb⟩
  replace TA := Lib.hid (TA.out.below bb)
  clear bb
  go_wp2_with fail
  refine (giveF _ _ _ i1.out).mono ?_
  rintro e we ⟨s9, A9, n9, c9, A9', n9', c9', k9, rfl, h9, b9⟩
  replace TA := Lib.hid (TA.out.below b9)
  obtain ⟨z1, z2, z3, hz1, hz2, hz3, k1, k2, k3⟩ := TA.out.res.cells
  obtain ⟨q0, q1, q2, hs, hb⟩ := OutIs.stored h9 TA.out.res TA.out.bel TA.out.n3
  have Q := Lib.hid (And.intro q0 (And.intro q1 q2))
  have HS := Lib.hid hs
  have HBB := Lib.hid hb
  clear q0 q1 q2 hs hb h9 b9
  go_wp2
  obtain ⟨q0, q1, q2⟩ := Q.out
  refine bodyPost_ret (v := .tuple #[.agg #[.bool s9, .slice A9 n9 c9, .slice A9' n9' c9'], .int .i64 k9]) (by simp [results, Tryd.results14, go_sem, q0, q1, q2]) rfl ?_
  rw [← HO.out]
  exact ⟨_, _, _, _, _, _, _, _, rfl, HS.out, HBB.out⟩
set_option maxHeartbeats 2000000 in
set_option maxRecDepth 100000 in
theorem nPow_neg (s1 : Bool) (N1' D1' : Nat) (k : Nat) (hp : k ≤ 32) (hn : 0 < k) (hz : ratOf s1 N1' D1' ≠ 0) (r : Rat) (hr : powN (ratOf s1 N1' D1')⁻¹ k = r) (w : World) (v1 : Value) (h1 : RawV w v1 s1 N1' D1') (hT : Tab w) (q : Rat) (hq : ratOf s1 N1' D1' = q) (hL : largeB s1 N1' D1' = false) :
    Calls Tryd.prog 14 #[v1, .int .i64 (-(k : Int))] w (OutPost w (give r)) := by
  have H1 := Lib.hid h1
  have HT := Lib.hid hT
  obtain ⟨A1, n1, c1, A1', n1', c1', rfl⟩ := h1.shape
  clear h1 hT
  obtain ⟨M, hM, k1, k3, bM⟩ := start1 w (.bool s1) (.slice A1 n1 c1) (.slice A1' n1' c1') (.bool false) (.slice none 0 0) (.slice none 0 0) 24 24
  have HX := Lib.hid k1
  have HR := Lib.hid (show Res M (w.heap.size + 1) 24 from ⟨_, _, _, NI.bool _, NI.slice _ _ _, NI.slice _ _ _, k3⟩)
  have BM := Lib.hid bM
  replace H1 := Lib.hid (H1.out.below bM)
  replace HT := Lib.hid (HT.out.below bM)
  have HQ := Lib.hid hq
  have HL := Lib.hid hL
  have hf := (largeB_false hL).2.2
  rw [hq] at hf
  have HF := Lib.hid hf
  clear hf
  have hp1 : decide (-(k : Int) < -32) = false := decide_eq_false (by omega)
  have hp1' : decide (32 < k) = false := decide_eq_false (by omega)
  have hp1'' : decide (32 < (k : Int)) = false := decide_eq_false (by omega)
  have hp2 : decide (32 < -(k : Int)) = false := decide_eq_false (by omega)
  have hp3 : decide (-(k : Int) < 0) = true := decide_eq_true (by omega)
  have hp4 : decide (0 < k) = true := decide_eq_true (by omega)
  rw [hq] at hr hz
  have HR2 := Lib.hid hr
  have HZ := Lib.hid hz
  have HP := Lib.hid hp
  have hnn : q.num ≠ 0 := fun h0 => hz (Rat.num_eq_zero.1 h0)
  have HZD := Lib.hid (show decide (W q.num.natAbs = []) = false by
    rw [decide_eq_false_iff_not]
    intro h0
    have h1 := val_W q.num.natAbs
    rw [h0] at h1
    have h2 : val B32 ([] : List Int) = 0 := rfl
    rw [h2] at h1
    omega)
  have e3 : IntKind.i64.wrap (k : Int) = (k : Int) := wrap_i64 _ (by omega) (by omega)
  have e4 : wrap64 (k : Int) = (k : Int) := by unfold wrap64; omega
  clear hr hz hp hn hnn
  obtain ⟨o, ho⟩ : ∃ o, give r = o := ⟨_, rfl⟩
  have HO := Lib.hid ho
  rw [ho]
  clear hq hL k1 k3 bM ho
  go_enter Tryd.func14, Tryd.ntmps14
  go_upto_region 1 with (fail)
  rw [← hM]
  clear hM
  obtain ⟨x1, x2, x3, _, _, _⟩ := HX.out.cells
  go_wp2_with fail
  refine (readV _ s1 N1' D1' _ H1.out HT.out).mono ?_
  rw [HL.out, Bool.not_false]
  rintro e wa ⟨t1, B1, m1, d1, B1', m1', d1', rfl, f1, ba⟩
  have bb := below_step ba ba.size (below_alloc wa (.cells #[.bool t1, .slice B1 m1 d1, .slice B1' m1' d1'] 65))
  have hf1 := Box.new wa (.bool t1) (.slice B1 m1 d1) (.slice B1' m1' d1') 65
  have szw : w.heap.size + 1 < wa.heap.size := Nat.lt_of_lt_of_le (by obtain ⟨_, _, _, _, _, _, hh⟩ := HR.out; exact hh.lt) ba.size
  have TA : Hid (N1 w (wa.alloc (.cells #[.bool t1, .slice B1 m1 d1, .slice B1' m1' d1'] 65)) (w.heap.size + 1) wa.heap.size t1 B1 m1 d1 B1' m1' d1') :=
    Lib.hid ⟨HR.out.below bb, hf1, HT.out.below bb, below_step BM.out BM.out.size bb, by omega, by omega⟩
  have F1 : Hid (IsF (wa.alloc (.cells #[.bool t1, .slice B1 m1 d1, .slice B1' m1' d1'] 65)) (.agg #[.bool t1, .slice B1 m1 d1, .slice B1' m1' d1']) q) := Lib.hid (by rw [← HQ.out]; exact (f1.out rfl).below (below_alloc _ _))
  obtain ⟨w2, hw2⟩ : ∃ w2, wa.alloc (.cells #[.bool t1, .slice B1 m1 d1, .slice B1' m1' d1'] 65) = w2 := ⟨_, rfl⟩
  obtain ⟨gf, hgf⟩ : ∃ gf, wa.heap.size = gf := ⟨_, rfl⟩
  have HGF := Lib.hid (show w.heap.size ≤ gf ∧ gf ≠ 0 by omega)
  clear x1 x2 x3 ba bb f1 hf1 szw HR BM HX H1 HT
  go_upto_region 2 with (fail)
  rw [hw2] at TA F1
  try rw [hw2]
  rw [hgf] at TA
  try rw [hgf]
  clear hw2 hgf
  obtain ⟨y1, y2, y3, _⟩ := TA.out.box.cells
  have hm1 := F1.out.len
  have C0 := Lib.hid (fun w => wZero w B1 (W q.num.natAbs) d1)
  rw [HZD.out] at C0
  rw [hm1] at C0
  clear hm1
  go_wp2_with fail
  refine (C0.out _).mono ?_
  rintro e we ⟨rfl, rfl⟩
  go_wp2_with fail
  refine (Calls.partsF (fInv q _ _ F1.out HZ.out)).mono ?_
  rintro e wb ⟨t2, B2, m2, d2, B2', m2', d2', rfl, i1, bb⟩
  replace TA := Lib.hid (TA.out.below bb)
  have TB := Lib.hid (TA.out.setF (t := t2) (A2 := B2) (n2 := m2) (c2 := d2) (B2 := B2') (m2 := m2') (d2 := d2') HGF.out.1 HGF.out.2)
  have I2 := Lib.hid (i1.out.grown TA.out.box (NI.bool _) (NI.slice _ _ _) (NI.slice _ _ _) (grown_set3 _ _ (.bool t2) (.slice B2 m2 d2) (.slice B2' m2' d2')))
  obtain ⟨M2, hM2⟩ : ∃ M2, (((wb.setCell ⟨gf, 0, none⟩ (.bool t2)).setCell ⟨gf, 1, none⟩ (.slice B2 m2 d2)).setCell ⟨gf, 2, none⟩ (.slice B2' m2' d2')) = M2 := ⟨_, rfl⟩
  clear bb y1 y2 y3
  obtain ⟨y1, y2, y3, u1, u2, u3⟩ := TA.out.box.cells
  go_upto_region 10 with (fail)
  rw [hM2] at TB I2
  try rw [hM2]
  clear hM2 TA i1 y1 y2 y3 u1 u2 u3
  have TA := TB
  have i1 := I2
  obtain ⟨y1, y2, y3, _⟩ := TA.out.box.cells
  go_wp2_with fail
  refine (Calls.partsF (fPow q⁻¹ k HP.out _ _ i1.out (inv_Wq HZ.out (fit_Wq HF.out (by omega))) TA.out.tab r HR2.out)).mono ?_
  rintro e wb ⟨t3, B3, m3, d3, B3', m3', d3', rfl, i2, bb⟩
  replace TA := Lib.hid (TA.out.below bb)
  have F1 := i2
  clear bb
  go_wp2_with fail
  refine (giveF _ _ _ F1.out).mono ?_
  rintro e we ⟨s9, A9, n9, c9, A9', n9', c9', k9, rfl, h9, b9⟩
  replace TA := Lib.hid (TA.out.below b9)
  obtain ⟨z1, z2, z3, hz1, hz2, hz3, k1, k2, k3⟩ := TA.out.res.cells
  obtain ⟨q0, q1, q2, hs, hb⟩ := OutIs.stored h9 TA.out.res TA.out.bel TA.out.n3
  have Q := Lib.hid (And.intro q0 (And.intro q1 q2))
  have HS := Lib.hid hs
  have HBB := Lib.hid hb
  clear q0 q1 q2 hs hb h9 b9
  go_wp2
  obtain ⟨q0, q1, q2⟩ := Q.out
  refine bodyPost_ret (v := .tuple #[.agg #[.bool s9, .slice A9 n9 c9, .slice A9' n9' c9'], .int .i64 k9]) (by simp [results, Tryd.results14, go_sem, q0, q1, q2]) rfl ?_
  rw [← HO.out]
  exact ⟨_, _, _, _, _, _, _, _, rfl, HS.out, HBB.out⟩
theorem nPow (s1 : Bool) (N1' D1' : Nat) (p : Int) (w : World) (v1 : Value) (h1 : RawV w v1 s1 N1' D1') (hT : Tab w) :
    Calls Tryd.prog 14 #[v1, .int .i64 p] w (OutPost w (powOut (largeB s1 N1' D1') p (ratOf s1 N1' D1'))) := by
  unfold powOut
  by_cases h : largeB s1 N1' D1' = true
  · rw [if_pos h]; exact nPow_large s1 N1' D1' p w v1 h1 hT _ rfl h
  · rw [if_neg h]
    have h' : largeB s1 N1' D1' = false := by simpa using h
    by_cases hl : p < -32
    · rw [if_pos (Or.inl hl)]; exact nPow_low s1 N1' D1' p hl w v1 h1 hT _ rfl h'
    · by_cases hh : 32 < p
      · rw [if_pos (Or.inr hh)]; exact nPow_high s1 N1' D1' p hh w v1 h1 hT _ rfl h'
      · rw [if_neg (by omega)]
        by_cases hn : p < 0
        · obtain ⟨k, rfl⟩ : ∃ k : Nat, p = -(k : Int) := ⟨p.natAbs, by omega⟩
          by_cases hz : ratOf s1 N1' D1' = 0
          · rw [if_pos ⟨hn, hz⟩]; exact nPow_zero s1 N1' D1' _ (by omega) hn hz w v1 h1 hT _ rfl h'
          · rw [if_neg (fun h => hz h.2), powZ, if_pos hn]
            have e : (-(k : Int)).natAbs = k := by omega
            rw [e]
            exact nPow_neg s1 N1' D1' k (by omega) (by omega) hz _ rfl w v1 h1 hT _ rfl h'
        · obtain ⟨k, rfl⟩ : ∃ k : Nat, p = (k : Int) := ⟨p.natAbs, by omega⟩
          rw [if_neg (fun h => hn h.1), powZ, if_neg hn]
          have e : ((k : Int)).natAbs = k := by omega
          rw [e]
          exact nPow_nn s1 N1' D1' k (by omega) _ rfl w v1 h1 hT _ rfl h'
end Go.Proofs.YtfmhplcpejmkhabDoor

namespace Go.Proofs.YtfmhplcpejmkhabDoor
open Go.RowKit Dig
set_option linter.unusedVariables false
set_option linter.unusedSimpArgs false
theorem Tab.pos {w : World} (h : Tab w) : w.heap.size ≠ 0 := by
  have hc := h 0 (by decide)
  have := World.block_lt_of_cell? w _ hc
  omega
theorem qq_Wq {n d X k : Nat} (hn : n ≤ X) (hd : d ≤ X) (h0 : 0 < d) (hX : (W X).length ≤ k) : Wq k (qq n d) := by
  obtain ⟨h1, h2⟩ := qq_abs (n := n) h0
  exact ⟨Nat.le_trans (dig_length_mono B32_two (Nat.le_trans h1 hn)) hX, Nat.le_trans (dig_length_mono B32_two (Nat.le_trans h2 hd)) hX⟩
/-- what a round of the loop has: two fractions, the slice, their numbers -/
structure LP where
  f : F3
  g : F3
  v : Value
  n : Nat
  d : Nat
  m : Nat
  e : Nat
  ks : List Nat
def LP.fv (p : LP) : Value := .agg #[.bool p.f.s, .slice p.f.A p.f.n p.f.c, .slice p.f.B p.f.m p.f.d]
def LP.gv (p : LP) : Value := .agg #[.bool p.g.s, .slice p.g.A p.g.n p.g.c, .slice p.g.B p.g.m p.g.d]
structure SL (w wr : World) (p : LP) : Prop where
  f : Box wr w.heap.size (.bool p.f.s) (.slice p.f.A p.f.n p.f.c) (.slice p.f.B p.f.m p.f.d) 65
  g : Box wr (w.heap.size + 1) (.bool p.g.s) (.slice p.g.A p.g.n p.g.c) (.slice p.g.B p.g.m p.g.d) 65
  res : Res wr (w.heap.size + 1 + 1) 65
  fa : IsF wr (.agg #[.bool p.f.s, .slice p.f.A p.f.n p.f.c, .slice p.f.B p.f.m p.f.d]) (qq p.n p.d)
  fb : IsF wr (.agg #[.bool p.g.s, .slice p.g.A p.g.n p.g.c, .slice p.g.B p.g.m p.g.d]) (qq p.m p.e)
  ws : Whs wr (w.heap.size + 1 + 1 + 1) p.v p.ks
  tab : Tab wr
  bel : Below w.heap.size w wr
  w0 : w.heap.size ≠ 0
theorem SL.below {w M M' : World} {p : LP} (h : SL w M p) (hb : Below M.heap.size M M') : SL w M' p :=
  ⟨h.f.below hb, h.g.below hb, h.res.below hb, h.fa.below hb, h.fb.below hb, h.ws.below hb, h.tab.below hb, below_step h.bel h.bel.size hb, h.w0⟩
/-- a block that is newer than all of them -/
def NewB (w : World) (v : Value) (gW g5 : Nat) : Prop := w.heap.size + 1 + 1 < g5 ∧ gW ≠ g5 ∧ v.ownBlock ≠ some g5
theorem SL.boxed {w M : World} {p : LP} {g5 gW : Nat} {x y z : Value} {t : TypeId} (h : SL w M p) (h5 : Box M g5 (.bool false) (.slice none 0 0) (.slice none 0 0) t) (hn : NewB w p.v gW g5) (hx : NI x) (hy : NI y) (hz : NI z) :
    SL w (((M.setCell ⟨g5, 0, none⟩ x).setCell ⟨g5, 1, none⟩ y).setCell ⟨g5, 2, none⟩ z) p := by
  have hg := grown_set3 M g5 x y z
  obtain ⟨n1, n2, n3⟩ := hn
  obtain ⟨x', y', z', hx', hy', hz', h4⟩ := h.res
  have z0 := NI.bool false
  have zs := NI.slice none 0 0
  exact ⟨(hg.block _ h.f.lt (fun e => by have := Option.some.inj e; omega)).trans h.f, (hg.block _ h.g.lt (fun e => by have := Option.some.inj e; omega)).trans h.g, ⟨x', y', z', hx', hy', hz', (hg.block _ h4.lt (fun e => by have := Option.some.inj e; omega)).trans h4⟩,
    h.fa.grown h5 z0 zs zs hg, h.fb.grown h5 z0 zs zs hg, h.ws.boxed h5 z0 zs zs hg n3, h.tab.grown hg (by omega), below_set3 h.bel (by omega) _ _ _, h.w0⟩
theorem Box.far {M : World} {g g5 : Nat} {a b c x y z : Value} {t : TypeId} (h : Box M g a b c t) (hn : g ≠ g5) : Box (((M.setCell ⟨g5, 0, none⟩ x).setCell ⟨g5, 1, none⟩ y).setCell ⟨g5, 2, none⟩ z) g a b c t :=
  ((grown_set3 M g5 x y z).block g h.lt (fun e => hn (Option.some.inj e))).trans h
/-- .. and a fraction in a variable -/
structure SW (w M : World) (gW : Nat) (s : Bool) (A : Option Addr) (n c : Nat) (B : Option Addr) (m d : Nat) (q : Rat) (p : LP) : Prop where
  l : SL w M p
  b : Box M gW (.bool s) (.slice A n c) (.slice B m d) 65
  i : IsF M (.agg #[.bool s, .slice A n c, .slice B m d]) q
  nw : p.v.ownBlock ≠ some gW
section
variable {w M M' : World} {gW : Nat} {s : Bool} {A : Option Addr} {n c : Nat} {B : Option Addr} {m d : Nat} {q : Rat} {p : LP}
theorem SW.below (h : SW w M gW s A n c B m d q p) (hb : Below M.heap.size M M') : SW w M' gW s A n c B m d q p := ⟨h.l.below hb, h.b.below hb, h.i.below hb, h.nw⟩
theorem SW.drew (h : SW w M gW s A n c B m d q p) : SW w M.drew gW s A n c B m d q p := h.below (Below.refl _ _).drew
theorem SW.cells (h : SW w M gW s A n c B m d q p) : (World.cell? M ⟨gW, 0, none⟩ = some (.bool s) ∧ World.cell? M ⟨gW, 1, none⟩ = some (.slice A n c) ∧ World.cell? M ⟨gW, 2, none⟩ = some (.slice B m d) ∧ Hid (SW w M gW s A n c B m d q p)) := by
  obtain ⟨a1, a2, a3, _, _, _⟩ := h.b.cells
  exact ⟨a1, a2, a3, h⟩
theorem SW.of (h : (World.cell? M ⟨gW, 0, none⟩ = some (.bool s) ∧ World.cell? M ⟨gW, 1, none⟩ = some (.slice A n c) ∧ World.cell? M ⟨gW, 2, none⟩ = some (.slice B m d) ∧ Hid (SW w M gW s A n c B m d q p))) : SW w M gW s A n c B m d q p := h.2.2.2.out
theorem SW.next (h : (World.cell? M ⟨gW, 0, none⟩ = some (.bool s) ∧ World.cell? M ⟨gW, 1, none⟩ = some (.slice A n c) ∧ World.cell? M ⟨gW, 2, none⟩ = some (.slice B m d) ∧ Hid (SW w M gW s A n c B m d q p))) (hb : Below M.heap.size M M') : (World.cell? M' ⟨gW, 0, none⟩ = some (.bool s) ∧ World.cell? M' ⟨gW, 1, none⟩ = some (.slice A n c) ∧ World.cell? M' ⟨gW, 2, none⟩ = some (.slice B m d) ∧ Hid (SW w M' gW s A n c B m d q p)) := ((SW.of h).below hb).cells
theorem SW.newer (h : SW w M gW s A n c B m d q p) : NewB w p.v gW M.heap.size := by
  obtain ⟨_, _, _, _, _, _, h4⟩ := h.l.res
  have h1 := h4.lt
  have h2 := h.b.lt
  refine ⟨h1, by omega, fun e => ?_⟩
  have := (h.l.ws.lt _ e).2
  omega
theorem SW.boxed {g5 : Nat} {x y z : Value} {t : TypeId} (h : (World.cell? M ⟨gW, 0, none⟩ = some (.bool s) ∧ World.cell? M ⟨gW, 1, none⟩ = some (.slice A n c) ∧ World.cell? M ⟨gW, 2, none⟩ = some (.slice B m d) ∧ Hid (SW w M gW s A n c B m d q p))) (h5 : Box M g5 (.bool false) (.slice none 0 0) (.slice none 0 0) t) (hn : NewB w p.v gW g5) (hx : NI x) (hy : NI y) (hz : NI z) :
    (World.cell? (((M.setCell ⟨g5, 0, none⟩ x).setCell ⟨g5, 1, none⟩ y).setCell ⟨g5, 2, none⟩ z) ⟨gW, 0, none⟩ = some (.bool s) ∧ World.cell? (((M.setCell ⟨g5, 0, none⟩ x).setCell ⟨g5, 1, none⟩ y).setCell ⟨g5, 2, none⟩ z) ⟨gW, 1, none⟩ = some (.slice A n c) ∧ World.cell? (((M.setCell ⟨g5, 0, none⟩ x).setCell ⟨g5, 1, none⟩ y).setCell ⟨g5, 2, none⟩ z) ⟨gW, 2, none⟩ = some (.slice B m d) ∧ Hid (SW w (((M.setCell ⟨g5, 0, none⟩ x).setCell ⟨g5, 1, none⟩ y).setCell ⟨g5, 2, none⟩ z) gW s A n c B m d q p)) := by
  have h := SW.of h
  exact SW.cells ⟨h.l.boxed h5 hn hx hy hz, h.b.far hn.2.1, h.i.grown h5 (NI.bool _) (NI.slice _ _ _) (NI.slice _ _ _) (grown_set3 _ _ _ _ _), h.nw⟩
/-- two fractions in variables -/
theorem SW.last {s2 : Bool} {A2 : Option Addr} {n2 c2 : Nat} {B2 : Option Addr} {m2 d2 : Nat} {q2 : Rat} (h : SW w M gW s A n c B m d q p) (h2 : IsF M (.agg #[.bool s2, .slice A2 n2 c2, .slice B2 m2 d2]) q2) :
    SW w (M.alloc (.cells #[.bool s2, .slice A2 n2 c2, .slice B2 m2 d2] 65)) gW s A n c B m d q p ∧ SW w (M.alloc (.cells #[.bool s2, .slice A2 n2 c2, .slice B2 m2 d2] 65)) M.heap.size s2 A2 n2 c2 B2 m2 d2 q2 p :=
  ⟨h.below (below_alloc _ _), h.l.below (below_alloc _ _), Box.new _ _ _ _ _, h2.below (below_alloc _ _), h.newer.2.2⟩
theorem SW.first {s2 : Bool} {A2 : Option Addr} {n2 c2 : Nat} {B2 : Option Addr} {m2 d2 : Nat} {q2 : Rat} {g5 : Nat} (h : SW w M gW s A n c B m d q p) (h2 : IsF M (.agg #[.bool s2, .slice A2 n2 c2, .slice B2 m2 d2]) q2) (h5 : Box M g5 (.bool false) (.slice none 0 0) (.slice none 0 0) 65) (hn : NewB w p.v gW g5) :
    SW w (((M.setCell ⟨g5, 0, none⟩ (.bool s2)).setCell ⟨g5, 1, none⟩ (.slice A2 n2 c2)).setCell ⟨g5, 2, none⟩ (.slice B2 m2 d2)) gW s A n c B m d q p ∧ SW w (((M.setCell ⟨g5, 0, none⟩ (.bool s2)).setCell ⟨g5, 1, none⟩ (.slice A2 n2 c2)).setCell ⟨g5, 2, none⟩ (.slice B2 m2 d2)) g5 s2 A2 n2 c2 B2 m2 d2 q2 p := by
  have h' := SW.of (SW.boxed h.cells h5 hn (NI.bool s2) (NI.slice A2 n2 c2) (NI.slice B2 m2 d2))
  exact ⟨h', h'.l, h5.set3 _ _ _, h2.grown h5 (NI.bool _) (NI.slice _ _ _) (NI.slice _ _ _) (grown_set3 _ _ _ _ _), hn.2.2⟩
end
theorem SW.cellsB {w M : World} {gW : Nat} {s : Bool} {A : Option Addr} {n c : Nat} {B : Option Addr} {m d : Nat} {q : Rat} {p : LP} (h : SW w M gW s A n c B m d q p) : (World.cell? M ⟨w.heap.size, 0, none⟩ = some (.bool p.f.s) ∧ World.cell? M ⟨w.heap.size, 1, none⟩ = some (.slice p.f.A p.f.n p.f.c) ∧ World.cell? M ⟨w.heap.size, 2, none⟩ = some (.slice p.f.B p.f.m p.f.d) ∧ World.cell? M ⟨w.heap.size + 1, 0, none⟩ = some (.bool p.g.s) ∧ World.cell? M ⟨w.heap.size + 1, 1, none⟩ = some (.slice p.g.A p.g.n p.g.c) ∧ World.cell? M ⟨w.heap.size + 1, 2, none⟩ = some (.slice p.g.B p.g.m p.g.d) ∧ World.cell? M ⟨gW, 0, none⟩ = some (.bool s) ∧ World.cell? M ⟨gW, 1, none⟩ = some (.slice A n c) ∧ World.cell? M ⟨gW, 2, none⟩ = some (.slice B m d) ∧ Hid (SW w M gW s A n c B m d q p)) := by
  obtain ⟨a1, a2, a3, _, _, _⟩ := h.l.f.cells
  obtain ⟨b1, b2, b3, _, _, _⟩ := h.l.g.cells
  obtain ⟨c1, c2, c3, _, _, _⟩ := h.b.cells
  exact ⟨a1, a2, a3, b1, b2, b3, c1, c2, c3, h⟩
theorem SW.ofB {w M : World} {gW : Nat} {s : Bool} {A : Option Addr} {n c : Nat} {B : Option Addr} {m d : Nat} {q : Rat} {p : LP} (h : (World.cell? M ⟨w.heap.size, 0, none⟩ = some (.bool p.f.s) ∧ World.cell? M ⟨w.heap.size, 1, none⟩ = some (.slice p.f.A p.f.n p.f.c) ∧ World.cell? M ⟨w.heap.size, 2, none⟩ = some (.slice p.f.B p.f.m p.f.d) ∧ World.cell? M ⟨w.heap.size + 1, 0, none⟩ = some (.bool p.g.s) ∧ World.cell? M ⟨w.heap.size + 1, 1, none⟩ = some (.slice p.g.A p.g.n p.g.c) ∧ World.cell? M ⟨w.heap.size + 1, 2, none⟩ = some (.slice p.g.B p.g.m p.g.d) ∧ World.cell? M ⟨gW, 0, none⟩ = some (.bool s) ∧ World.cell? M ⟨gW, 1, none⟩ = some (.slice A n c) ∧ World.cell? M ⟨gW, 2, none⟩ = some (.slice B m d) ∧ Hid (SW w M gW s A n c B m d q p))) : SW w M gW s A n c B m d q p := h.2.2.2.2.2.2.2.2.2.out
theorem SW.nextB {w M M' : World} {gW : Nat} {s : Bool} {A : Option Addr} {n c : Nat} {B : Option Addr} {m d : Nat} {q : Rat} {p : LP} (h : (World.cell? M ⟨w.heap.size, 0, none⟩ = some (.bool p.f.s) ∧ World.cell? M ⟨w.heap.size, 1, none⟩ = some (.slice p.f.A p.f.n p.f.c) ∧ World.cell? M ⟨w.heap.size, 2, none⟩ = some (.slice p.f.B p.f.m p.f.d) ∧ World.cell? M ⟨w.heap.size + 1, 0, none⟩ = some (.bool p.g.s) ∧ World.cell? M ⟨w.heap.size + 1, 1, none⟩ = some (.slice p.g.A p.g.n p.g.c) ∧ World.cell? M ⟨w.heap.size + 1, 2, none⟩ = some (.slice p.g.B p.g.m p.g.d) ∧ World.cell? M ⟨gW, 0, none⟩ = some (.bool s) ∧ World.cell? M ⟨gW, 1, none⟩ = some (.slice A n c) ∧ World.cell? M ⟨gW, 2, none⟩ = some (.slice B m d) ∧ Hid (SW w M gW s A n c B m d q p))) (hb : Below M.heap.size M M') : (World.cell? M' ⟨w.heap.size, 0, none⟩ = some (.bool p.f.s) ∧ World.cell? M' ⟨w.heap.size, 1, none⟩ = some (.slice p.f.A p.f.n p.f.c) ∧ World.cell? M' ⟨w.heap.size, 2, none⟩ = some (.slice p.f.B p.f.m p.f.d) ∧ World.cell? M' ⟨w.heap.size + 1, 0, none⟩ = some (.bool p.g.s) ∧ World.cell? M' ⟨w.heap.size + 1, 1, none⟩ = some (.slice p.g.A p.g.n p.g.c) ∧ World.cell? M' ⟨w.heap.size + 1, 2, none⟩ = some (.slice p.g.B p.g.m p.g.d) ∧ World.cell? M' ⟨gW, 0, none⟩ = some (.bool s) ∧ World.cell? M' ⟨gW, 1, none⟩ = some (.slice A n c) ∧ World.cell? M' ⟨gW, 2, none⟩ = some (.slice B m d) ∧ Hid (SW w M' gW s A n c B m d q p)) := ((SW.ofB h).below hb).cellsB
/-- both fractions are stored anew -/
theorem SL.turn {w M : World} {p : LP} (h : SL w M p) {s1 : Bool} {A1 : Option Addr} {n1 c1 : Nat} {B1 : Option Addr} {m1 d1 : Nat} {s2 : Bool} {A2 : Option Addr} {n2 c2 : Nat} {B2 : Option Addr} {m2 d2 : Nat} {n d m e : Nat}
    (h1 : IsF M (.agg #[.bool s1, .slice A1 n1 c1, .slice B1 m1 d1]) (qq n d)) (h2 : IsF M (.agg #[.bool s2, .slice A2 n2 c2, .slice B2 m2 d2]) (qq m e)) :
    SL w (((((((M.setCell ⟨w.heap.size, 0, none⟩ (.bool s1)).setCell ⟨w.heap.size, 1, none⟩ (.slice A1 n1 c1)).setCell ⟨w.heap.size, 2, none⟩ (.slice B1 m1 d1)).setCell ⟨w.heap.size + 1, 0, none⟩ (.bool s2)).setCell ⟨w.heap.size + 1, 1, none⟩ (.slice A2 n2 c2)).setCell ⟨w.heap.size + 1, 2, none⟩ (.slice B2 m2 d2)))
      ⟨⟨s1, A1, n1, c1, B1, m1, d1⟩, ⟨s2, A2, n2, c2, B2, m2, d2⟩, p.v, n, d, m, e, p.ks⟩ := by
  have g1 := grown_set3 M w.heap.size (.bool s1) (.slice A1 n1 c1) (.slice B1 m1 d1)
  obtain ⟨x', y', z', hx', hy', hz', h4⟩ := h.res
  have hb := NI.bool p.f.s
  have hA := NI.slice p.f.A p.f.n p.f.c
  have hB := NI.slice p.f.B p.f.m p.f.d
  have f1 := h.f.set3 (.bool s1) (.slice A1 n1 c1) (.slice B1 m1 d1)
  have q1 : Box _ (w.heap.size + 1) _ _ _ 65 := h.g.far (x := .bool s1) (y := .slice A1 n1 c1) (z := .slice B1 m1 d1) (g5 := w.heap.size) (by omega)
  have r1 : Box _ (w.heap.size + 1 + 1) _ _ _ 65 := h4.far (x := .bool s1) (y := .slice A1 n1 c1) (z := .slice B1 m1 d1) (g5 := w.heap.size) (by omega)
  have a1 := h1.grown h.f hb hA hB g1
  have a2 := h2.grown h.f hb hA hB g1
  have w1 := h.ws.boxed h.f hb hA hB g1 (fun e => by have := (h.ws.lt _ e).1; omega)
  have t1 := h.tab.grown g1 h.w0
  have b1 := below_set3 h.bel (Nat.le_refl _) (.bool s1) (.slice A1 n1 c1) (.slice B1 m1 d1)
  generalize ((M.setCell ⟨w.heap.size, 0, none⟩ (.bool s1)).setCell ⟨w.heap.size, 1, none⟩ (.slice A1 n1 c1)).setCell ⟨w.heap.size, 2, none⟩ (.slice B1 m1 d1) = M1 at *
  have g2 := grown_set3 M1 (w.heap.size + 1) (.bool s2) (.slice A2 n2 c2) (.slice B2 m2 d2)
  have hb := NI.bool p.g.s
  have hA := NI.slice p.g.A p.g.n p.g.c
  have hB := NI.slice p.g.B p.g.m p.g.d
  exact ⟨f1.far (by omega), q1.set3 _ _ _, ⟨x', y', z', hx', hy', hz', r1.far (by omega)⟩, a1.grown q1 hb hA hB g2, a2.grown q1 hb hA hB g2, w1.boxed q1 hb hA hB g2 (fun e => by have := (w1.lt _ e).1; omega), t1.grown g2 (by omega), below_set3 b1 (by omega) _ _ _, h.w0⟩
theorem SL.start (w : World) {s1 : Bool} {A1 : Option Addr} {n1 c1 : Nat} {B1 : Option Addr} {m1 d1 : Nat} {s2 : Bool} {A2 : Option Addr} {n2 c2 : Nat} {B2 : Option Addr} {m2 d2 : Nat} {n d m e : Nat} (h1 : IsF w (.agg #[.bool s1, .slice A1 n1 c1, .slice B1 m1 d1]) (qq n d)) (h2 : IsF w (.agg #[.bool s2, .slice A2 n2 c2, .slice B2 m2 d2]) (qq m e)) (hT : Tab w) :
    ∃ M, M = (((w.alloc (.cells #[.bool s1, .slice A1 n1 c1, .slice B1 m1 d1] 65)).alloc (.cells #[.bool s2, .slice A2 n2 c2, .slice B2 m2 d2] 65)).alloc (.cells #[.bool false, .slice none 0 0, .slice none 0 0] 65)) ∧
      SL w M ⟨⟨s1, A1, n1, c1, B1, m1, d1⟩, ⟨s2, A2, n2, c2, B2, m2, d2⟩, .slice none 0 0, n, d, m, e, []⟩ := by
  obtain ⟨M, hM, k1, k2, k3, bM⟩ := start2 w (.bool s1) (.slice A1 n1 c1) (.slice B1 m1 d1) (.bool s2) (.slice A2 n2 c2) (.slice B2 m2 d2) (.bool false) (.slice none 0 0) (.slice none 0 0) 65 65 65
  exact ⟨M, hM, k1, k2, ⟨_, _, _, NI.bool _, NI.slice _ _ _, NI.slice _ _ _, k3⟩, h1.below bM, h2.below bM, Whs.nil _ _, hT.below bM, bM, hT.pos⟩
/-- how many beginnings there may be -/
def CFI (C : Nat) (ks : List Nat) (n d m e : Nat) : Prop := (ks = [] ∧ CFB C ks n d m e) ∨ (ks ≠ [] ∧ CFB (C + 1) ks n d m e)
theorem CFI.len {C : Nat} {ks : List Nat} {n d m e : Nat} (h : CFI C ks n d m e) : ks.length ≤ C + 1 := by
  rcases h with ⟨_, h, _⟩ | ⟨_, h, _⟩ <;> omega
theorem CFI.next {C : Nat} {ks : List Nat} {n d m e : Nat} (h : CFI C ks n d m e) (hB : Btw n d m e) (h1 : ¬ n % d = 0) (h2 : ¬ (n / d + 1) * e ≤ m) (k : Nat) : CFI C (ks ++ [k]) e (m - n / d * e) d (n % d) := by
  rcases h with ⟨_, h⟩ | ⟨h0, h⟩
  · exact Or.inr ⟨by simp, (h.next hB h1 h2 k).1⟩
  · exact Or.inr ⟨by simp, (h.next hB h1 h2 k).2 h0⟩
/-- the fractions are all there: what the end has -/
structure SE (w M : World) (v : Value) (ks : List Nat) : Prop where
  res : Res M (w.heap.size + 1 + 1) 65
  ws : Whs M (w.heap.size + 1 + 1 + 1) v ks
  tab : Tab M
  bel : Below w.heap.size w M
  w0 : w.heap.size ≠ 0
theorem SE.below {w M M' : World} {v : Value} {ks : List Nat} (h : SE w M v ks) (hb : Below M.heap.size M M') : SE w M' v ks := ⟨h.res.below hb, h.ws.below hb, h.tab.below hb, below_step h.bel h.bel.size hb, h.w0⟩
theorem SL.pushed {w M w1 : World} {p : LP} {v' : Value} {k : Nat} {fs : List F3} {s : Bool} {A : Option Addr} {n c : Nat} {B : Option Addr} {m d : Nat} (h : SL w M p) (hl : fs.length = p.ks.length) (ho : OwnF M (w.heap.size + 1 + 1 + 1) p.v p.ks.length (rowOf fs)) (hf : ∀ (i k : Nat), p.ks[i]? = some k → ∃ f, fs[i]? = some f ∧ IsF M f.val (qq k 1))
    (hq : IsF M (.agg #[.bool s, .slice A n c, .slice B m d]) (qq k 1)) (hown : OwnF w1 (w.heap.size + 1 + 1 + 1) v' (p.ks.length + 1) (rowOf fs ++ [.bool s, .slice A n c, .slice B m d])) (hgrow : M.grownBy w1 p.v.ownBlock) :
    SL w w1 ⟨p.f, p.g, v', p.n, p.d, p.m, p.e, p.ks ++ [k]⟩ := by
  obtain ⟨h1, h2⟩ := Whs.push (w0 := w) hl ho hf hq h.bel (by omega) hown hgrow
  have hne : ∀ g, g < w.heap.size + 1 + 1 + 1 → some g ≠ p.v.ownBlock := fun g hg e => by have := (h.ws.lt _ e.symm).1; omega
  obtain ⟨x', y', z', hx', hy', hz', h4⟩ := h.res
  refine ⟨(hgrow.block _ h.f.lt (hne _ (by omega))).trans h.f, (hgrow.block _ h.g.lt (hne _ (by omega))).trans h.g, ⟨x', y', z', hx', hy', hz', (hgrow.block _ h4.lt (hne _ (by omega))).trans h4⟩, h.fa.pushed ho hgrow, h.fb.pushed ho hgrow, h1, ?_, h2, h.w0⟩
  intro j hj
  have hc := h.tab j hj
  exact hgrow.cell hc (by
    intro e
    have h1 := (h.ws.lt _ e.symm).1
    have h0 := h.w0
    have h3 : w.heap.size + 1 + 1 + 1 ≤ 0 := h1
    omega)
theorem SL.opened {w M : World} {p : LP} (h : SL w M p) : ∃ fs : List F3, fs.length = p.ks.length ∧ OwnF M (w.heap.size + 1 + 1 + 1) p.v p.ks.length (rowOf fs) ∧ ∀ (i k : Nat), p.ks[i]? = some k → ∃ f, fs[i]? = some f ∧ IsF M f.val (qq k 1) := h.ws
end Go.Proofs.YtfmhplcpejmkhabDoor

namespace Go.Proofs.YtfmhplcpejmkhabDoor
open Go.RowKit Dig
set_option linter.unusedVariables false
set_option linter.unusedSimpArgs false
structure X2 (w M : World) (g1 g2 : Nat) (s1 : Bool) (A1 : Option Addr) (n1 c1 : Nat) (B1 : Option Addr) (m1 d1 N1 D1 : Nat) (s2 : Bool) (A2 : Option Addr) (n2 c2 : Nat) (B2 : Option Addr) (m2 d2 N2 D2 : Nat) : Prop where
  f : Box M g1 (.bool s1) (.slice A1 n1 c1) (.slice B1 m1 d1) 24
  g : Box M g2 (.bool s2) (.slice A2 n2 c2) (.slice B2 m2 d2) 24
  r1 : RawV M (.agg #[.bool s1, .slice A1 n1 c1, .slice B1 m1 d1]) s1 N1 D1
  r2 : RawV M (.agg #[.bool s2, .slice A2 n2 c2, .slice B2 m2 d2]) s2 N2 D2
  tab : Tab M
  bel : Below w.heap.size w M
structure X1 (w M : World) (g1 : Nat) (s1 : Bool) (A1 : Option Addr) (n1 c1 : Nat) (B1 : Option Addr) (m1 d1 N1 D1 : Nat) : Prop where
  f : Box M g1 (.bool s1) (.slice A1 n1 c1) (.slice B1 m1 d1) 24
  r1 : RawV M (.agg #[.bool s1, .slice A1 n1 c1, .slice B1 m1 d1]) s1 N1 D1
  tab : Tab M
  bel : Below w.heap.size w M
section
variable {w M M' : World} {g1 g2 : Nat} {s1 : Bool} {A1 : Option Addr} {n1 c1 : Nat} {B1 : Option Addr} {m1 d1 N1 D1 : Nat} {s2 : Bool} {A2 : Option Addr} {n2 c2 : Nat} {B2 : Option Addr} {m2 d2 N2 D2 : Nat}
theorem X2.below (h : X2 w M g1 g2 s1 A1 n1 c1 B1 m1 d1 N1 D1 s2 A2 n2 c2 B2 m2 d2 N2 D2) (hb : Below M.heap.size M M') : X2 w M' g1 g2 s1 A1 n1 c1 B1 m1 d1 N1 D1 s2 A2 n2 c2 B2 m2 d2 N2 D2 :=
  ⟨h.f.below hb, h.g.below hb, h.r1.below hb, h.r2.below hb, h.tab.below hb, below_step h.bel h.bel.size hb⟩
theorem X2.drew (h : X2 w M g1 g2 s1 A1 n1 c1 B1 m1 d1 N1 D1 s2 A2 n2 c2 B2 m2 d2 N2 D2) : X2 w M.drew g1 g2 s1 A1 n1 c1 B1 m1 d1 N1 D1 s2 A2 n2 c2 B2 m2 d2 N2 D2 := h.below (Below.refl _ _).drew
theorem X2.cells (h : X2 w M g1 g2 s1 A1 n1 c1 B1 m1 d1 N1 D1 s2 A2 n2 c2 B2 m2 d2 N2 D2) : (World.cell? M ⟨g1, 0, none⟩ = some (.bool s1) ∧ World.cell? M ⟨g1, 1, none⟩ = some (.slice A1 n1 c1) ∧ World.cell? M ⟨g1, 2, none⟩ = some (.slice B1 m1 d1) ∧ World.cell? M ⟨g2, 0, none⟩ = some (.bool s2) ∧ World.cell? M ⟨g2, 1, none⟩ = some (.slice A2 n2 c2) ∧ World.cell? M ⟨g2, 2, none⟩ = some (.slice B2 m2 d2) ∧ Hid (X2 w M g1 g2 s1 A1 n1 c1 B1 m1 d1 N1 D1 s2 A2 n2 c2 B2 m2 d2 N2 D2)) := by
  obtain ⟨a1, a2, a3, _, _, _⟩ := h.f.cells
  obtain ⟨b1, b2, b3, _, _, _⟩ := h.g.cells
  exact ⟨a1, a2, a3, b1, b2, b3, h⟩
theorem X2.of (h : (World.cell? M ⟨g1, 0, none⟩ = some (.bool s1) ∧ World.cell? M ⟨g1, 1, none⟩ = some (.slice A1 n1 c1) ∧ World.cell? M ⟨g1, 2, none⟩ = some (.slice B1 m1 d1) ∧ World.cell? M ⟨g2, 0, none⟩ = some (.bool s2) ∧ World.cell? M ⟨g2, 1, none⟩ = some (.slice A2 n2 c2) ∧ World.cell? M ⟨g2, 2, none⟩ = some (.slice B2 m2 d2) ∧ Hid (X2 w M g1 g2 s1 A1 n1 c1 B1 m1 d1 N1 D1 s2 A2 n2 c2 B2 m2 d2 N2 D2))) : X2 w M g1 g2 s1 A1 n1 c1 B1 m1 d1 N1 D1 s2 A2 n2 c2 B2 m2 d2 N2 D2 := h.2.2.2.2.2.2.out
theorem X2.next (h : (World.cell? M ⟨g1, 0, none⟩ = some (.bool s1) ∧ World.cell? M ⟨g1, 1, none⟩ = some (.slice A1 n1 c1) ∧ World.cell? M ⟨g1, 2, none⟩ = some (.slice B1 m1 d1) ∧ World.cell? M ⟨g2, 0, none⟩ = some (.bool s2) ∧ World.cell? M ⟨g2, 1, none⟩ = some (.slice A2 n2 c2) ∧ World.cell? M ⟨g2, 2, none⟩ = some (.slice B2 m2 d2) ∧ Hid (X2 w M g1 g2 s1 A1 n1 c1 B1 m1 d1 N1 D1 s2 A2 n2 c2 B2 m2 d2 N2 D2))) (hb : Below M.heap.size M M') : (World.cell? M' ⟨g1, 0, none⟩ = some (.bool s1) ∧ World.cell? M' ⟨g1, 1, none⟩ = some (.slice A1 n1 c1) ∧ World.cell? M' ⟨g1, 2, none⟩ = some (.slice B1 m1 d1) ∧ World.cell? M' ⟨g2, 0, none⟩ = some (.bool s2) ∧ World.cell? M' ⟨g2, 1, none⟩ = some (.slice A2 n2 c2) ∧ World.cell? M' ⟨g2, 2, none⟩ = some (.slice B2 m2 d2) ∧ Hid (X2 w M' g1 g2 s1 A1 n1 c1 B1 m1 d1 N1 D1 s2 A2 n2 c2 B2 m2 d2 N2 D2)) := ((X2.of h).below hb).cells
theorem X1.below (h : X1 w M g1 s1 A1 n1 c1 B1 m1 d1 N1 D1) (hb : Below M.heap.size M M') : X1 w M' g1 s1 A1 n1 c1 B1 m1 d1 N1 D1 :=
  ⟨h.f.below hb, h.r1.below hb, h.tab.below hb, below_step h.bel h.bel.size hb⟩
theorem X1.drew (h : X1 w M g1 s1 A1 n1 c1 B1 m1 d1 N1 D1) : X1 w M.drew g1 s1 A1 n1 c1 B1 m1 d1 N1 D1 := h.below (Below.refl _ _).drew
theorem X1.cells (h : X1 w M g1 s1 A1 n1 c1 B1 m1 d1 N1 D1) : (World.cell? M ⟨g1, 0, none⟩ = some (.bool s1) ∧ World.cell? M ⟨g1, 1, none⟩ = some (.slice A1 n1 c1) ∧ World.cell? M ⟨g1, 2, none⟩ = some (.slice B1 m1 d1) ∧ Hid (X1 w M g1 s1 A1 n1 c1 B1 m1 d1 N1 D1)) := by
  obtain ⟨a1, a2, a3, _, _, _⟩ := h.f.cells
  exact ⟨a1, a2, a3, h⟩
theorem X1.of (h : (World.cell? M ⟨g1, 0, none⟩ = some (.bool s1) ∧ World.cell? M ⟨g1, 1, none⟩ = some (.slice A1 n1 c1) ∧ World.cell? M ⟨g1, 2, none⟩ = some (.slice B1 m1 d1) ∧ Hid (X1 w M g1 s1 A1 n1 c1 B1 m1 d1 N1 D1))) : X1 w M g1 s1 A1 n1 c1 B1 m1 d1 N1 D1 := h.2.2.2.out
theorem X1.next (h : (World.cell? M ⟨g1, 0, none⟩ = some (.bool s1) ∧ World.cell? M ⟨g1, 1, none⟩ = some (.slice A1 n1 c1) ∧ World.cell? M ⟨g1, 2, none⟩ = some (.slice B1 m1 d1) ∧ Hid (X1 w M g1 s1 A1 n1 c1 B1 m1 d1 N1 D1))) (hb : Below M.heap.size M M') : (World.cell? M' ⟨g1, 0, none⟩ = some (.bool s1) ∧ World.cell? M' ⟨g1, 1, none⟩ = some (.slice A1 n1 c1) ∧ World.cell? M' ⟨g1, 2, none⟩ = some (.slice B1 m1 d1) ∧ Hid (X1 w M' g1 s1 A1 n1 c1 B1 m1 d1 N1 D1)) := ((X1.of h).below hb).cells
end
end Go.Proofs.YtfmhplcpejmkhabDoor

namespace Go.Proofs.YtfmhplcpejmkhabDoor
open Go.RowKit Dig
set_option linter.unusedVariables false
set_option linter.unusedSimpArgs false
/-- a canonical value in a variable -/
structure XG (w M : World) (g1 : Nat) (s1 : Bool) (A1 : Option Addr) (n1 c1 : Nat) (B1 : Option Addr) (m1 d1 : Nat) (q : Rat) : Prop where
  f : Box M g1 (.bool s1) (.slice A1 n1 c1) (.slice B1 m1 d1) 24
  r1 : GrQ M (.agg #[.bool s1, .slice A1 n1 c1, .slice B1 m1 d1]) q
  tab : Tab M
  bel : Below w.heap.size w M
section
variable {w M M' : World} {g1 : Nat} {s1 : Bool} {A1 : Option Addr} {n1 c1 : Nat} {B1 : Option Addr} {m1 d1 : Nat} {q : Rat}
theorem XG.below (h : XG w M g1 s1 A1 n1 c1 B1 m1 d1 q) (hb : Below M.heap.size M M') : XG w M' g1 s1 A1 n1 c1 B1 m1 d1 q :=
  ⟨h.f.below hb, h.r1.below hb, h.tab.below hb, below_step h.bel h.bel.size hb⟩
theorem XG.drew (h : XG w M g1 s1 A1 n1 c1 B1 m1 d1 q) : XG w M.drew g1 s1 A1 n1 c1 B1 m1 d1 q := h.below (Below.refl _ _).drew
theorem XG.cells (h : XG w M g1 s1 A1 n1 c1 B1 m1 d1 q) : (World.cell? M ⟨g1, 0, none⟩ = some (.bool s1) ∧ World.cell? M ⟨g1, 1, none⟩ = some (.slice A1 n1 c1) ∧ World.cell? M ⟨g1, 2, none⟩ = some (.slice B1 m1 d1) ∧ Hid (XG w M g1 s1 A1 n1 c1 B1 m1 d1 q)) := by
  obtain ⟨a1, a2, a3, _, _, _⟩ := h.f.cells
  exact ⟨a1, a2, a3, h⟩
theorem XG.of (h : (World.cell? M ⟨g1, 0, none⟩ = some (.bool s1) ∧ World.cell? M ⟨g1, 1, none⟩ = some (.slice A1 n1 c1) ∧ World.cell? M ⟨g1, 2, none⟩ = some (.slice B1 m1 d1) ∧ Hid (XG w M g1 s1 A1 n1 c1 B1 m1 d1 q))) : XG w M g1 s1 A1 n1 c1 B1 m1 d1 q := h.2.2.2.out
theorem XG.next (h : (World.cell? M ⟨g1, 0, none⟩ = some (.bool s1) ∧ World.cell? M ⟨g1, 1, none⟩ = some (.slice A1 n1 c1) ∧ World.cell? M ⟨g1, 2, none⟩ = some (.slice B1 m1 d1) ∧ Hid (XG w M g1 s1 A1 n1 c1 B1 m1 d1 q))) (hb : Below M.heap.size M M') : (World.cell? M' ⟨g1, 0, none⟩ = some (.bool s1) ∧ World.cell? M' ⟨g1, 1, none⟩ = some (.slice A1 n1 c1) ∧ World.cell? M' ⟨g1, 2, none⟩ = some (.slice B1 m1 d1) ∧ Hid (XG w M' g1 s1 A1 n1 c1 B1 m1 d1 q)) := ((XG.of h).below hb).cells
theorem XG.newer (h : XG w M g1 s1 A1 n1 c1 B1 m1 d1 q) : g1 ≠ M.heap.size ∧ w.heap.size ≤ M.heap.size ∧ M.heap.size ≠ 0 := by
  have h1 := h.f.lt
  exact ⟨by omega, h.bel.size, by omega⟩
theorem GrQ.grown {v : Value} {x y z : Value} {t : TypeId} {g5 : Nat} (h : GrQ M v q) (hb : Box M g5 x y z t) (hx : NI x) (hy : NI y) (hz : NI z) (hg : M.grownBy M' (some g5)) : GrQ M' v q := by
  obtain ⟨A1, c1, A2, c2, e, r1, r2⟩ := h
  exact ⟨A1, c1, A2, c2, e, r1.grown_box hb hx hy hz hg, r2.grown_box hb hx hy hz hg⟩
theorem XG.boxed {g5 : Nat} {a b c : Value} {t' : TypeId} (h : (World.cell? M ⟨g1, 0, none⟩ = some (.bool s1) ∧ World.cell? M ⟨g1, 1, none⟩ = some (.slice A1 n1 c1) ∧ World.cell? M ⟨g1, 2, none⟩ = some (.slice B1 m1 d1) ∧ Hid (XG w M g1 s1 A1 n1 c1 B1 m1 d1 q))) (h5 : Box M g5 (.bool false) (.slice none 0 0) (.slice none 0 0) t') (hn : g1 ≠ g5 ∧ w.heap.size ≤ g5 ∧ g5 ≠ 0) (ha : NI a) (hb : NI b) (hc : NI c) :
    (World.cell? (((M.setCell ⟨g5, 0, none⟩ a).setCell ⟨g5, 1, none⟩ b).setCell ⟨g5, 2, none⟩ c) ⟨g1, 0, none⟩ = some (.bool s1) ∧ World.cell? (((M.setCell ⟨g5, 0, none⟩ a).setCell ⟨g5, 1, none⟩ b).setCell ⟨g5, 2, none⟩ c) ⟨g1, 1, none⟩ = some (.slice A1 n1 c1) ∧ World.cell? (((M.setCell ⟨g5, 0, none⟩ a).setCell ⟨g5, 1, none⟩ b).setCell ⟨g5, 2, none⟩ c) ⟨g1, 2, none⟩ = some (.slice B1 m1 d1) ∧ Hid (XG w (((M.setCell ⟨g5, 0, none⟩ a).setCell ⟨g5, 1, none⟩ b).setCell ⟨g5, 2, none⟩ c) g1 s1 A1 n1 c1 B1 m1 d1 q)) := by
  have hg := grown_set3 M g5 a b c
  have h := XG.of h
  exact XG.cells ⟨(hg.block g1 h.f.lt (fun e => hn.1 (Option.some.inj e))).trans h.f, h.r1.grown h5 (NI.bool _) (NI.slice _ _ _) (NI.slice _ _ _) hg, h.tab.grown hg hn.2.2, below_set3 h.bel hn.2.1 _ _ _⟩
/-- a result that is stored in a new variable, which was made last -/
theorem XG.last {s2 : Bool} {A2 : Option Addr} {n2 c2 : Nat} {B2 : Option Addr} {m2 d2 : Nat} {q2 : Rat} (h : XG w M g1 s1 A1 n1 c1 B1 m1 d1 q) (h2 : GrQ M (.agg #[.bool s2, .slice A2 n2 c2, .slice B2 m2 d2]) q2) :
    XG w (M.alloc (.cells #[.bool s2, .slice A2 n2 c2, .slice B2 m2 d2] 24)) M.heap.size s2 A2 n2 c2 B2 m2 d2 q2 :=
  ⟨Box.new _ _ _ _ _, h2.below (below_alloc _ _), h.tab.below (below_alloc _ _), below_step h.bel h.bel.size (below_alloc _ _)⟩
/-- .. which was made before -/
theorem XG.first {s2 : Bool} {A2 : Option Addr} {n2 c2 : Nat} {B2 : Option Addr} {m2 d2 : Nat} {q2 : Rat} {g5 : Nat} (h : XG w M g1 s1 A1 n1 c1 B1 m1 d1 q) (h2 : GrQ M (.agg #[.bool s2, .slice A2 n2 c2, .slice B2 m2 d2]) q2) (h5 : Box M g5 (.bool false) (.slice none 0 0) (.slice none 0 0) 24) (hn : g1 ≠ g5 ∧ w.heap.size ≤ g5 ∧ g5 ≠ 0) :
    XG w (((M.setCell ⟨g5, 0, none⟩ (.bool s2)).setCell ⟨g5, 1, none⟩ (.slice A2 n2 c2)).setCell ⟨g5, 2, none⟩ (.slice B2 m2 d2)) g5 s2 A2 n2 c2 B2 m2 d2 q2 := by
  have hg := grown_set3 M g5 (.bool s2) (.slice A2 n2 c2) (.slice B2 m2 d2)
  exact ⟨h5.set3 _ _ _, h2.grown h5 (NI.bool _) (NI.slice _ _ _) (NI.slice _ _ _) hg, h.tab.grown hg hn.2.2, below_set3 h.bel hn.2.1 _ _ _⟩
end
theorem ng_int (n : Int) : ng (n : Rat) = decide (n < 0) := rfl
theorem int_abs (n : Int) : ((n : Rat)).num.natAbs = n.natAbs := rfl
theorem int_den (n : Int) : ((n : Rat)).den = 1 := rfl
theorem int_fit {n : Int} (h0 : -9223372036854775808 ≤ n) (h1 : n ≤ 9223372036854775807) : fitQ (n : Rat) := by
  refine ⟨?_, ?_⟩
  · rw [int_abs]
    exact Nat.le_trans ((dig_length_le B32_two _ 2).2 (by unfold B32; omega)) (by omega : 2 ≤ 64)
  · rw [int_den]
    exact Nat.le_trans ((dig_length_le B32_two _ 2).2 (by unfold B32; omega)) (by omega : 2 ≤ 64)
end Go.Proofs.YtfmhplcpejmkhabDoor

namespace Go.Proofs.YtfmhplcpejmkhabDoor
open Go.RowKit
set_option linter.unusedVariables false
set_option linter.unusedSimpArgs false
section
variable {P : Program} {ops : Array Oper} {Q : Exit → Act → World → Prop} {md : Region.Mode} {S T : World → Prop} {k : Nat}
/-- whatever order is picked from here on, S holds behind every operation until number k has come up, and T behind every operation -/
def wpUntil (P : Program) (md : Region.Mode) (ops : Array Oper) (Q : Exit → Act → World → Prop) (S T : World → Prop) (k : Nat) : Nat → Array Bool → Act → World → Prop
  | 0, listed, a, w => Region.ready md ops listed = [] ∧ Q .normal a w
  | fuel + 1, listed, a, w =>
    (Region.ready md ops listed = [] → Q .normal a w) ∧
    ∀ i ∈ Region.ready md ops listed, wpOp P ops Q i (fun a' w' => (((listed.setIfInBounds i true).getD k true = false → S w') ∧ T w') ∧ wpUntil P md ops Q S T k fuel (listed.setIfInBounds i true) a' w') a w
theorem wpUntil.any : ∀ (fuel : Nat) (listed : Array Bool) (a : Act) (w : World), wpUntil P md ops Q S T k fuel listed a w → wpAny P md ops Q fuel listed a w
  | 0, _, _, _, h => h
  | fuel + 1, _, _, _, h => ⟨h.1, fun i hi => wpOp_mono (fun a' w' h' => wpUntil.any fuel _ a' w' h'.2) (h.2 i hi)⟩
theorem not_ready {i j : Nat} {listed : Array Bool} (hj : j ∈ Region.ready md ops listed) (hi : i ∈ Region.ready md ops listed) : ∀ o, ops[j]? = some o → ∀ e ∈ o.after, Region.binds md e = true → e.on ≠ i := by
  intro o ho e he hb heq
  obtain ⟨_, oj, hoj, hall⟩ := mem_ready.1 hj
  have h0 := (mem_ready.1 hi).1
  rw [ho] at hoj
  cases hoj
  have h1 := hall e he hb
  rw [heq] at h1
  rcases Nat.lt_or_ge i listed.size with h' | h'
  · simp [h'] at h0 h1
    rw [h0] at h1
    cases h1
  · simp [Array.getElem?_eq_none h'] at h1
theorem wpUntil.first {i : Nat} {oi : Oper} {v : Value} (hi : ops[i]? = some oi) (hsel : ∀ (j : Nat) (o : Oper) cs b, ops[j]? = some o → o.op ≠ .select cs b)
    (hQ : ∀ c a w, Q (.panic c) (a.put oi.dst v) w → Q (.panic c) a w) (hik : i ≠ k) (hwait : ∃ ok e, ops[k]? = some ok ∧ e ∈ ok.after ∧ Region.binds md e = true ∧ e.on = i) :
    ∀ (fuel : Nat) (listed : Array Bool) (a : Act) (w : World),
      (∀ j oj, ops[j]? = some oj → j ≠ i → listed.getD j true = false → (∀ e ∈ oj.after, Region.binds md e = true → e.on ≠ i) → oi.apart ops oj = true) →
      i ∈ Region.ready md ops listed → listed.getD k true = false → YieldsIf P ops S oi v a → S w → T w →
      wpUntil P md ops Q S T k fuel (listed.setIfInBounds i true) (a.put oi.dst v) w → wpUntil P md ops Q S T k (fuel + 1) listed a w := by
  intro fuel
  induction fuel with
  | zero =>
    intro listed a w _ hr hk hy hS hT H
    refine ⟨fun h => (by rw [h] at hr; cases hr), fun j hj => ?_⟩
    by_cases hji : j = i
    · subst hji
      exact hy.wpOp hi hS ⟨⟨fun _ => hS, hT⟩, H⟩
    · have := ready_mono hj hji
      rw [H.1] at this
      cases this
  | succ fuel ih =>
    intro listed a w hfree hr hk hy hS hT H
    refine ⟨fun h => (by rw [h] at hr; cases hr), fun j hj => ?_⟩
    by_cases hji : j = i
    · subst hji
      exact hy.wpOp hi hS ⟨⟨fun _ => hS, hT⟩, H⟩
    · have h1 := H.2 j (ready_mono hj hji)
      obtain ⟨hjun, oj, hoj, hall⟩ := mem_ready.1 hj
      have hnot := not_ready hj hr oj hoj
      have hjk : j ≠ k := by
        intro e
        subst e
        obtain ⟨ok, e, ho, he, hb, hon⟩ := hwait
        exact not_ready hj hr ok ho e he hb hon
      have h2 := wpOp_putIf hoj (hfree j oj hoj hji hjun hnot) (fun cs b => hsel i oi cs b hi) (fun cs b => hsel j oj cs b hoj) hQ hy h1
      have hk2 : (listed.setIfInBounds j true).getD k true = false := by rw [getD_set_ne true hjk]; exact hk
      have hk3 : ((listed.setIfInBounds i true).setIfInBounds j true).getD k true = false := by rw [getD_set_ne true hjk, getD_set_ne true hik]; exact hk
      have hfree' : ∀ l ol, ops[l]? = some ol → l ≠ i → (listed.setIfInBounds j true).getD l true = false →
          (∀ e ∈ ol.after, Region.binds md e = true → e.on ≠ i) → oi.apart ops ol = true := fun l ol hl hli hun hno => by
        refine hfree l ol hl hli ?_ hno
        by_cases hjl : j = l
        · subst hjl; exact hjun
        · rw [getD_set_ne true hjl] at hun; exact hun
      refine wpOp_mono (fun a' w' h3 => ⟨⟨fun _ => h3.2.1.1 hk3, h3.2.1.2⟩, ih (listed.setIfInBounds j true) a' w' hfree' (ready_mono hr (Ne.symm hji)) hk2 h3.1 (h3.2.1.1 hk3) h3.2.1.2 ?_⟩) h2
      rw [Array.setIfInBounds_comm _ _ hji]
      exact h3.2.2
theorem wpUntil.firstT {i : Nat} {oi : Oper} {v : Value} (hi : ops[i]? = some oi) (hsel : ∀ (j : Nat) (o : Oper) cs b, ops[j]? = some o → o.op ≠ .select cs b)
    (hQ : ∀ c a w, Q (.panic c) (a.put oi.dst v) w → Q (.panic c) a w) (hik : i ≠ k) :
    ∀ (fuel : Nat) (listed : Array Bool) (a : Act) (w : World),
      (∀ j oj, ops[j]? = some oj → j ≠ i → listed.getD j true = false → (∀ e ∈ oj.after, Region.binds md e = true → e.on ≠ i) → oi.apart ops oj = true) →
      i ∈ Region.ready md ops listed → YieldsIf P ops T oi v a → ((listed.setIfInBounds i true).getD k true = false → S w) → T w →
      wpUntil P md ops Q S T k fuel (listed.setIfInBounds i true) (a.put oi.dst v) w → wpUntil P md ops Q S T k (fuel + 1) listed a w := by
  intro fuel
  induction fuel with
  | zero =>
    intro listed a w _ hr hy hS hT H
    refine ⟨fun h => (by rw [h] at hr; cases hr), fun j hj => ?_⟩
    by_cases hji : j = i
    · subst hji
      exact hy.wpOp hi hT ⟨⟨hS, hT⟩, H⟩
    · have := ready_mono hj hji
      rw [H.1] at this
      cases this
  | succ fuel ih =>
    intro listed a w hfree hr hy hS hT H
    refine ⟨fun h => (by rw [h] at hr; cases hr), fun j hj => ?_⟩
    by_cases hji : j = i
    · subst hji
      exact hy.wpOp hi hT ⟨⟨hS, hT⟩, H⟩
    · have h1 := H.2 j (ready_mono hj hji)
      obtain ⟨hjun, oj, hoj, hall⟩ := mem_ready.1 hj
      have hnot := not_ready hj hr oj hoj
      have h2 := wpOp_putIf hoj (hfree j oj hoj hji hjun hnot) (fun cs b => hsel i oi cs b hi) (fun cs b => hsel j oj cs b hoj) hQ hy h1
      have hfree' : ∀ l ol, ops[l]? = some ol → l ≠ i → (listed.setIfInBounds j true).getD l true = false →
          (∀ e ∈ ol.after, Region.binds md e = true → e.on ≠ i) → oi.apart ops ol = true := fun l ol hl hli hun hno => by
        refine hfree l ol hl hli ?_ hno
        by_cases hjl : j = l
        · subst hjl; exact hjun
        · rw [getD_set_ne true hjl] at hun; exact hun
      refine wpOp_mono (fun a' w' h3 => ⟨⟨fun hk => h3.2.1.1 (by rw [Array.setIfInBounds_comm _ _ (Ne.symm hji), getD_set_ne true hik]; exact hk), h3.2.1.2⟩, ih (listed.setIfInBounds j true) a' w' hfree' (ready_mono hr (Ne.symm hji)) h3.1 (fun hk => h3.2.1.1 (by rw [Array.setIfInBounds_comm _ _ (Ne.symm hji)]; exact hk)) h3.2.1.2 ?_⟩) h2
      rw [Array.setIfInBounds_comm _ _ hji]
      exact h3.2.2
/-- does number k wait for number i? -/
def waits (md : Region.Mode) (ops : Array Oper) (k i : Nat) : Bool :=
  match ops[k]? with
  | none => false
  | some o => o.after.any fun e => Region.binds md e && e.on == i
theorem waits_spec {i : Nat} (h : waits md ops k i = true) : ∃ ok e, ops[k]? = some ok ∧ e ∈ ok.after ∧ Region.binds md e = true ∧ e.on = i := by
  unfold waits at h
  cases ho : ops[k]? with
  | none => rw [ho] at h; cases h
  | some o =>
    rw [ho] at h
    simp only [Array.any_eq_true] at h
    obtain ⟨x, hx, hb⟩ := h
    simp only [Bool.and_eq_true, beq_iff_eq] at hb
    exact ⟨o, o.after[x], rfl, Array.getElem_mem hx, hb.1, hb.2⟩
theorem wpUntil.take {i : Nat} {oi : Oper} {v : Value} {fuel : Nat} {listed : Array Bool} {a : Act} {w : World} (hi : ops[i]? = some oi)
    (hs : Region.noSelect ops = true) (hf : Region.free md ops listed i = true) (hr : (Region.ready md ops listed).contains i = true) (hik : decide (i ≠ k) = true) (hw : waits md ops k i = true) (hk : listed.getD k true = false)
    (hQ : ∀ c a w, Q (.panic c) (a.put oi.dst v) w → Q (.panic c) a w) (hy : YieldsIf P ops S oi v a) (hS : S w) (hT : T w)
    (h : wpUntil P md ops Q S T k fuel (listed.setIfInBounds i true) (a.put oi.dst v) w) : wpUntil P md ops Q S T k (fuel + 1) listed a w :=
  wpUntil.first hi (Region.noSelect_spec hs) hQ (of_decide_eq_true hik) (waits_spec hw) fuel listed a w (Region.free_spec hi hf) (by simpa using hr) hk hy hS hT h
theorem wpUntil.takeT {i : Nat} {oi : Oper} {v : Value} {fuel : Nat} {listed : Array Bool} {a : Act} {w : World} (hi : ops[i]? = some oi)
    (hs : Region.noSelect ops = true) (hf : Region.free md ops listed i = true) (hr : (Region.ready md ops listed).contains i = true) (hik : decide (i ≠ k) = true)
    (hQ : ∀ c a w, Q (.panic c) (a.put oi.dst v) w → Q (.panic c) a w) (hy : YieldsIf P ops T oi v a) (hS : S w) (hT : T w)
    (h : wpUntil P md ops Q S T k fuel (listed.setIfInBounds i true) (a.put oi.dst v) w) : wpUntil P md ops Q S T k (fuel + 1) listed a w :=
  wpUntil.firstT hi (Region.noSelect_spec hs) hQ (of_decide_eq_true hik) fuel listed a w (Region.free_spec hi hf) (by simpa using hr) hy (fun _ => hS) hT h
theorem wpUntil.done {listed : Array Bool} {a : Act} {w : World} (hr : Region.ready md ops listed = []) (h : Q .normal a w) : ∀ fuel, wpUntil P md ops Q S T k fuel listed a w
  | 0 => ⟨hr, h⟩
  | _ + 1 => ⟨fun _ => h, by rw [hr]; simp⟩
/-- the one operation that may come up comes up -/
theorem wpUntil.only {i : Nat} {o : Oper} {fuel : Nat} {listed : Array Bool} {a : Act} {w : World} (hr : Region.ready md ops listed = [i]) (ho : ops[i]? = some o)
    (h : ∀ K' : Act → World → Prop, Shut (∀ a w, ((listed.setIfInBounds i true).getD k true = false → S w) → T w → (((listed.setIfInBounds i true).getD k true = false → S w) → T w → wpUntil P md ops Q S T k fuel (listed.setIfInBounds i true) a w) → K' a w) → if Region.wanted o (yielded ops a.tmps) = true then Oper.wp P o a w K' Q else K' (a.put o.dst undef) w) :
    wpUntil P md ops Q S T k (fuel + 1) listed a w :=
  ⟨fun h0 => (by rw [hr] at h0; cases h0), fun j hj => by
    rw [hr] at hj
    obtain rfl : j = i := by simpa using hj
    exact wpOp_step ho (fun K' hK => h K' (fun a w hS hT hW => hK a w ⟨⟨hS, hT⟩, hW hS hT⟩))⟩
theorem wpUntil.start {id : Nat} {a : Act} {w : World} (hm : P.follows .mixedOrders = true) (hS : S w.drew) (hT : T w.drew)
    (h : S w.drew → T w.drew → wpUntil P .any ops Q S T k ops.size (Array.replicate ops.size false) a w.drew) : (Code.region id ops true).wp P Q a w :=
  wp_region_any hm (wpUntil.any _ _ _ _ (h hS hT))
end
end Go.Proofs.YtfmhplcpejmkhabDoor
