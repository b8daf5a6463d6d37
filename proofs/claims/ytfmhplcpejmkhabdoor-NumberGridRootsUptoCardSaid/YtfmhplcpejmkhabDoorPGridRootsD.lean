/-
  Contracts of number.round, Down, Up. Under the premise that the table of math/bits lies as its initialiser lays it.
  Contracts of two values that have been read.
  How rational numbers compare: plain laws.
  Contracts of number.Compare. Under the premise that the table of math/bits lies as its initialiser lays it.
  Results of operations as values: an error's value is the zero value.
  The program's natural numbers as values of a known number: contracts by what they denote.
  Contracts of the reference: NatPow, Power of a number that is not negative.
  Powers of rational numbers, as the program and the reference have them.
  The grid's neighbours: plain laws.
  Roots of rational numbers: plain laws.
  Contracts of number.root, RootDown, RootUp. Under the premise that the table of math/bits lies as its initialiser lays it.
  Contract of the reference's NatRoot. No condition but bounds.
-/
import Derived.Test.YtfmhplcpejmkhabDoorPGridRootsC
namespace Go.Proofs.YtfmhplcpejmkhabDoor
open Go.RowKit Dig
set_option linter.unusedVariables false
set_option linter.unusedSimpArgs false
/-- a value that has been read, and a variable for a result -/
structure N1 (w M : World) (g3 g : Nat) (s : Bool) (A1 : Option Addr) (n1 c1 : Nat) (B1 : Option Addr) (m1 d1 : Nat) : Prop where
  res : Res M g3 24
  box : Box M g (.bool s) (.slice A1 n1 c1) (.slice B1 m1 d1) 65
  tab : Tab M
  bel : Below w.heap.size w M
  n3 : w.heap.size ≤ g3
  ne : g ≠ g3
theorem N1.below {w M M' : World} {g3 g : Nat} {s : Bool} {A1 : Option Addr} {n1 c1 : Nat} {B1 : Option Addr} {m1 d1 : Nat} (h : N1 w M g3 g s A1 n1 c1 B1 m1 d1) (hb : Below M.heap.size M M') : N1 w M' g3 g s A1 n1 c1 B1 m1 d1 :=
  ⟨h.res.below hb, h.box.below hb, h.tab.below hb, below_step h.bel h.bel.size hb, h.n3, h.ne⟩
theorem Calls.partsF {f : Nat} {args : Array Value} {w : World} {q : Rat} (h : Calls Tryd.prog f args w fun e w' => ∃ u, e = .returned u ∧ IsF w' u q ∧ Below w.heap.size w w') :
    Calls Tryd.prog f args w fun e w' => ∃ t B1 m1 e1 B2 m2 e2, e = .returned (.agg #[.bool t, .slice B1 m1 e1, .slice B2 m2 e2]) ∧ Hid (IsF w' (.agg #[.bool t, .slice B1 m1 e1, .slice B2 m2 e2]) q) ∧ Below w.heap.size w w' := by
  refine h.mono ?_
  rintro e w' ⟨u, rfl, hq, hb⟩
  have hq2 := hq
  obtain ⟨A1, c1, A2, c2, rfl, r1, r2⟩ := hq
  exact ⟨_, _, _, _, _, _, _, rfl, hq2, hb⟩
def gridOut (L : Bool) (p : Int) (up : Bool) (q : Rat) : Out := if L = true then .err 1 else if p < 0 ∨ 256 < p then .err 2 else give (gridQ q p.toNat up)
theorem fGrid (a : Rat) (p : Nat) (up : Bool) (lp : p ≤ 100000) (w : World) (v1 : Value) (h1 : IsF w v1 a) (k : Wq 200000 a) (hT : Tab w) : Calls Tryd.prog 116 #[v1, .int .i64 p, .bool up] w fun e w' => ∃ u, e = .returned u ∧ IsF w' u (gridQ a p up) ∧ Below w.heap.size w w' := by
  obtain ⟨A1, c1, A2, c2, rfl, r1, r2⟩ := h1
  exact fracGrid _ _ _ p up w _ _ _ _ r1 r2 k.1 k.2 lp a.den_nz hT
set_option maxHeartbeats 2000000 in
set_option maxRecDepth 100000 in
theorem nround_large (s1 : Bool) (N1' D1' : Nat) (p : Int) (up : Bool) (w : World) (v1 : Value) (h1 : RawV w v1 s1 N1' D1') (hT : Tab w) (q : Rat) (hq : ratOf s1 N1' D1' = q) (hL : largeB s1 N1' D1' = true) :
    Calls Tryd.prog 82 #[v1, .int .i64 p, .bool up] w (OutPost w (Out.err 1)) := by
  have H1 := Lib.hid h1
  have HT := Lib.hid hT
  obtain ⟨A1, n1, c1, A1', n1', c1', rfl⟩ := h1.shape
  clear h1 hT
  obtain ⟨M, hM, k1, k3, bM⟩ := start1 w (.bool s1) (.slice A1 n1 c1) (.slice A1' n1' c1') (.bool false) (.slice none 0 0) (.slice none 0 0) 24 24
  have HX := Lib.hid k1
  have HR := Lib.hid (show Res M (w.heap.size + 1) 24 from ⟨_, _, _, NI.bool _, NI.slice _ _ _, NI.slice _ _ _, k3⟩)
  have BM := Lib.hid bM
  replace H1 := Lib.hid (H1.out.below bM)
  replace HT := Lib.hid (HT.out.below bM)
  have HQ := Lib.hid hq
  have HL := Lib.hid hL
  obtain ⟨o, ho⟩ : ∃ o, Out.err 1 = o := ⟨_, rfl⟩
  have HO := Lib.hid ho
  rw [ho]
  clear hq hL k1 k3 bM ho
  go_enter Tryd.func82, Tryd.ntmps82
  go_upto_region 1 with (fail)
  rw [← hM]
  clear hM
  obtain ⟨x1, x2, x3, _, _, _⟩ := HX.out.cells
  go_wp2_with fail
  refine (readV _ s1 N1' D1' _ H1.out HT.out).mono ?_
  rw [HL.out, Bool.not_true]
  rintro e wa ⟨t1, B1, m1, d1, B1', m1', d1', rfl, f1, ba⟩
  have bb := below_step ba ba.size (below_alloc wa (.cells #[.bool t1, .slice B1 m1 d1, .slice B1' m1' d1'] 65))
  have hf1 := Box.new wa (.bool t1) (.slice B1 m1 d1) (.slice B1' m1' d1') 65
  have szw : w.heap.size + 1 < wa.heap.size := Nat.lt_of_lt_of_le (by obtain ⟨_, _, _, _, _, _, hh⟩ := HR.out; exact hh.lt) ba.size
  have TA : Hid (N1 w (wa.alloc (.cells #[.bool t1, .slice B1 m1 d1, .slice B1' m1' d1'] 65)) (w.heap.size + 1) wa.heap.size t1 B1 m1 d1 B1' m1' d1') :=
    Lib.hid ⟨HR.out.below bb, hf1, HT.out.below bb, below_step BM.out BM.out.size bb, by omega, by omega⟩
  obtain ⟨w2, hw2⟩ : ∃ w2, wa.alloc (.cells #[.bool t1, .slice B1 m1 d1, .slice B1' m1' d1'] 65) = w2 := ⟨_, rfl⟩
  obtain ⟨gf, hgf⟩ : ∃ gf, wa.heap.size = gf := ⟨_, rfl⟩
  clear x1 x2 x3 ba bb f1 hf1 szw HR BM HX H1 HT
  go_upto_region 2 with (fail)
  rw [hw2] at TA
  try rw [hw2]
  rw [hgf] at TA
  try rw [hgf]
  clear hw2 hgf
  obtain ⟨y1, y2, y3, _⟩ := TA.out.box.cells
  obtain ⟨z1, z2, z3, hy1, hy2, hy3, f1, f2, f3⟩ := TA.out.res.cells
  obtain ⟨q0, q1, q2, hs, hb⟩ := OutIs.stored (o := .err 1) (k := 1) (s := false) (A1 := none) (A2 := none) (n1 := 0) (c1 := 0) (n2 := 0) (c2 := 0) ⟨rfl, rfl, by omega, by omega⟩ TA.out.res TA.out.bel TA.out.n3
  have Q := Lib.hid (And.intro q0 (And.intro q1 q2))
  have HBB := Lib.hid hb
  clear q0 q1 q2 hs hb
  go_wp2_with fail
  obtain ⟨q0, q1, q2⟩ := Q.out
  refine bodyPost_ret (v := .tuple #[noRat, .int .i64 1]) (by simp [results, Tryd.results82, go_sem, q0, q1, q2, noRat]) rfl ?_
  rw [← HO.out]
  exact OutPost.err rfl (by omega) (by omega) HBB.out
set_option maxHeartbeats 2000000 in
set_option maxRecDepth 100000 in
theorem nround_neg (s1 : Bool) (N1' D1' : Nat) (p : Int) (hp : p < 0) (up : Bool) (w : World) (v1 : Value) (h1 : RawV w v1 s1 N1' D1') (hT : Tab w) (q : Rat) (hq : ratOf s1 N1' D1' = q) (hL : largeB s1 N1' D1' = false) :
    Calls Tryd.prog 82 #[v1, .int .i64 p, .bool up] w (OutPost w (Out.err 2)) := by
  have H1 := Lib.hid h1
  have HT := Lib.hid hT
  obtain ⟨A1, n1, c1, A1', n1', c1', rfl⟩ := h1.shape
  clear h1 hT
  obtain ⟨M, hM, k1, k3, bM⟩ := start1 w (.bool s1) (.slice A1 n1 c1) (.slice A1' n1' c1') (.bool false) (.slice none 0 0) (.slice none 0 0) 24 24
  have HX := Lib.hid k1
  have HR := Lib.hid (show Res M (w.heap.size + 1) 24 from ⟨_, _, _, NI.bool _, NI.slice _ _ _, NI.slice _ _ _, k3⟩)
  have BM := Lib.hid bM
  replace H1 := Lib.hid (H1.out.below bM)
  replace HT := Lib.hid (HT.out.below bM)
  have HQ := Lib.hid hq
  have HL := Lib.hid hL
  have hp1 : decide (p < 0) = true := decide_eq_true hp
  clear hp
  obtain ⟨o, ho⟩ : ∃ o, Out.err 2 = o := ⟨_, rfl⟩
  have HO := Lib.hid ho
  rw [ho]
  clear hq hL k1 k3 bM ho
  go_enter Tryd.func82, Tryd.ntmps82
  go_upto_region 1 with (fail)
  rw [← hM]
  clear hM
  obtain ⟨x1, x2, x3, _, _, _⟩ := HX.out.cells
  go_wp2_with fail
  refine (readV _ s1 N1' D1' _ H1.out HT.out).mono ?_
  rw [HL.out, Bool.not_false]
  rintro e wa ⟨t1, B1, m1, d1, B1', m1', d1', rfl, f1, ba⟩
  have bb := below_step ba ba.size (below_alloc wa (.cells #[.bool t1, .slice B1 m1 d1, .slice B1' m1' d1'] 65))
  have hf1 := Box.new wa (.bool t1) (.slice B1 m1 d1) (.slice B1' m1' d1') 65
  have szw : w.heap.size + 1 < wa.heap.size := Nat.lt_of_lt_of_le (by obtain ⟨_, _, _, _, _, _, hh⟩ := HR.out; exact hh.lt) ba.size
  have TA : Hid (N1 w (wa.alloc (.cells #[.bool t1, .slice B1 m1 d1, .slice B1' m1' d1'] 65)) (w.heap.size + 1) wa.heap.size t1 B1 m1 d1 B1' m1' d1') :=
    Lib.hid ⟨HR.out.below bb, hf1, HT.out.below bb, below_step BM.out BM.out.size bb, by omega, by omega⟩
  have F1 : Hid (IsF (wa.alloc (.cells #[.bool t1, .slice B1 m1 d1, .slice B1' m1' d1'] 65)) (.agg #[.bool t1, .slice B1 m1 d1, .slice B1' m1' d1']) q) := Lib.hid (by rw [← HQ.out]; exact (f1.out rfl).below (below_alloc _ _))
  obtain ⟨w2, hw2⟩ : ∃ w2, wa.alloc (.cells #[.bool t1, .slice B1 m1 d1, .slice B1' m1' d1'] 65) = w2 := ⟨_, rfl⟩
  obtain ⟨gf, hgf⟩ : ∃ gf, wa.heap.size = gf := ⟨_, rfl⟩
  clear x1 x2 x3 ba bb f1 hf1 szw HR BM HX H1 HT
  go_upto_region 2 with (fail)
  rw [hw2] at TA F1
  try rw [hw2]
  rw [hgf] at TA
  try rw [hgf]
  clear hw2 hgf
  obtain ⟨y1, y2, y3, _⟩ := TA.out.box.cells
  obtain ⟨z1, z2, z3, hy1, hy2, hy3, f1, f2, f3⟩ := TA.out.res.cells
  obtain ⟨q0, q1, q2, hs, hb⟩ := OutIs.stored (o := .err 2) (k := 2) (s := false) (A1 := none) (A2 := none) (n1 := 0) (c1 := 0) (n2 := 0) (c2 := 0) ⟨rfl, rfl, by omega, by omega⟩ TA.out.res TA.out.bel TA.out.n3
  have Q := Lib.hid (And.intro q0 (And.intro q1 q2))
  have HBB := Lib.hid hb
  clear q0 q1 q2 hs hb
  go_wp2_with fail
  obtain ⟨q0, q1, q2⟩ := Q.out
  refine bodyPost_ret (v := .tuple #[noRat, .int .i64 2]) (by simp [results, Tryd.results82, go_sem, q0, q1, q2, noRat]) rfl ?_
  rw [← HO.out]
  exact OutPost.err rfl (by omega) (by omega) HBB.out
set_option maxHeartbeats 2000000 in
set_option maxRecDepth 100000 in
theorem nround_big (s1 : Bool) (N1' D1' : Nat) (p : Int) (hp : 256 < p) (up : Bool) (w : World) (v1 : Value) (h1 : RawV w v1 s1 N1' D1') (hT : Tab w) (q : Rat) (hq : ratOf s1 N1' D1' = q) (hL : largeB s1 N1' D1' = false) :
    Calls Tryd.prog 82 #[v1, .int .i64 p, .bool up] w (OutPost w (Out.err 2)) := by
  have H1 := Lib.hid h1
  have HT := Lib.hid hT
  obtain ⟨A1, n1, c1, A1', n1', c1', rfl⟩ := h1.shape
  clear h1 hT
  obtain ⟨M, hM, k1, k3, bM⟩ := start1 w (.bool s1) (.slice A1 n1 c1) (.slice A1' n1' c1') (.bool false) (.slice none 0 0) (.slice none 0 0) 24 24
  have HX := Lib.hid k1
  have HR := Lib.hid (show Res M (w.heap.size + 1) 24 from ⟨_, _, _, NI.bool _, NI.slice _ _ _, NI.slice _ _ _, k3⟩)
  have BM := Lib.hid bM
  replace H1 := Lib.hid (H1.out.below bM)
  replace HT := Lib.hid (HT.out.below bM)
  have HQ := Lib.hid hq
  have HL := Lib.hid hL
  have hp1 : decide (p < 0) = false := decide_eq_false (by omega)
  have hp2 : decide (256 < p) = true := decide_eq_true hp
  clear hp
  obtain ⟨o, ho⟩ : ∃ o, Out.err 2 = o := ⟨_, rfl⟩
  have HO := Lib.hid ho
  rw [ho]
  clear hq hL k1 k3 bM ho
  go_enter Tryd.func82, Tryd.ntmps82
  go_upto_region 1 with (fail)
  rw [← hM]
  clear hM
  obtain ⟨x1, x2, x3, _, _, _⟩ := HX.out.cells
  go_wp2_with fail
  refine (readV _ s1 N1' D1' _ H1.out HT.out).mono ?_
  rw [HL.out, Bool.not_false]
  rintro e wa ⟨t1, B1, m1, d1, B1', m1', d1', rfl, f1, ba⟩
  have bb := below_step ba ba.size (below_alloc wa (.cells #[.bool t1, .slice B1 m1 d1, .slice B1' m1' d1'] 65))
  have hf1 := Box.new wa (.bool t1) (.slice B1 m1 d1) (.slice B1' m1' d1') 65
  have szw : w.heap.size + 1 < wa.heap.size := Nat.lt_of_lt_of_le (by obtain ⟨_, _, _, _, _, _, hh⟩ := HR.out; exact hh.lt) ba.size
  have TA : Hid (N1 w (wa.alloc (.cells #[.bool t1, .slice B1 m1 d1, .slice B1' m1' d1'] 65)) (w.heap.size + 1) wa.heap.size t1 B1 m1 d1 B1' m1' d1') :=
    Lib.hid ⟨HR.out.below bb, hf1, HT.out.below bb, below_step BM.out BM.out.size bb, by omega, by omega⟩
  have F1 : Hid (IsF (wa.alloc (.cells #[.bool t1, .slice B1 m1 d1, .slice B1' m1' d1'] 65)) (.agg #[.bool t1, .slice B1 m1 d1, .slice B1' m1' d1']) q) := Lib.hid (by rw [← HQ.out]; exact (f1.out rfl).below (below_alloc _ _))
  obtain ⟨w2, hw2⟩ : ∃ w2, wa.alloc (.cells #[.bool t1, .slice B1 m1 d1, .slice B1' m1' d1'] 65) = w2 := ⟨_, rfl⟩
  obtain ⟨gf, hgf⟩ : ∃ gf, wa.heap.size = gf := ⟨_, rfl⟩
  clear x1 x2 x3 ba bb f1 hf1 szw HR BM HX H1 HT
  go_upto_region 2 with (fail)
  rw [hw2] at TA F1
  try rw [hw2]
  rw [hgf] at TA
  try rw [hgf]
  clear hw2 hgf
  obtain ⟨y1, y2, y3, _⟩ := TA.out.box.cells
  obtain ⟨z1, z2, z3, hy1, hy2, hy3, f1, f2, f3⟩ := TA.out.res.cells
  obtain ⟨q0, q1, q2, hs, hb⟩ := OutIs.stored (o := .err 2) (k := 2) (s := false) (A1 := none) (A2 := none) (n1 := 0) (c1 := 0) (n2 := 0) (c2 := 0) ⟨rfl, rfl, by omega, by omega⟩ TA.out.res TA.out.bel TA.out.n3
  have Q := Lib.hid (And.intro q0 (And.intro q1 q2))
  have HBB := Lib.hid hb
  clear q0 q1 q2 hs hb
  go_wp2_with fail
  obtain ⟨q0, q1, q2⟩ := Q.out
  refine bodyPost_ret (v := .tuple #[noRat, .int .i64 2]) (by simp [results, Tryd.results82, go_sem, q0, q1, q2, noRat]) rfl ?_
  rw [← HO.out]
  exact OutPost.err rfl (by omega) (by omega) HBB.out
set_option maxHeartbeats 2000000 in
set_option maxRecDepth 100000 in
theorem nround_ok (s1 : Bool) (N1' D1' : Nat) (p : Nat) (hp : p ≤ 256) (up : Bool) (r : Rat) (hr : gridQ (ratOf s1 N1' D1') p up = r) (w : World) (v1 : Value) (h1 : RawV w v1 s1 N1' D1') (hT : Tab w) (q : Rat) (hq : ratOf s1 N1' D1' = q) (hL : largeB s1 N1' D1' = false) :
    Calls Tryd.prog 82 #[v1, .int .i64 p, .bool up] w (OutPost w (give r)) := by
  have H1 := Lib.hid h1
  have HT := Lib.hid hT
  obtain ⟨A1, n1, c1, A1', n1', c1', rfl⟩ := h1.shape
  clear h1 hT
  obtain ⟨M, hM, k1, k3, bM⟩ := start1 w (.bool s1) (.slice A1 n1 c1) (.slice A1' n1' c1') (.bool false) (.slice none 0 0) (.slice none 0 0) 24 24
  have HX := Lib.hid k1
  have HR := Lib.hid (show Res M (w.heap.size + 1) 24 from ⟨_, _, _, NI.bool _, NI.slice _ _ _, NI.slice _ _ _, k3⟩)
  have BM := Lib.hid bM
  replace H1 := Lib.hid (H1.out.below bM)
  replace HT := Lib.hid (HT.out.below bM)
  have HQ := Lib.hid hq
  have HL := Lib.hid hL
  have hf := (largeB_false hL).2.2
  rw [hq] at hf
  have HF := Lib.hid hf
  clear hf
  rw [hq] at hr
  have HR2 := Lib.hid hr
  have HP := Lib.hid hp
  have hp1 : decide ((p : Int) < 0) = false := decide_eq_false (by omega)
  have hp2 : decide (256 < (p : Int)) = false := decide_eq_false (by omega)
  have hp3 : decide (256 < p) = false := decide_eq_false (by omega)
  clear hr hp
  obtain ⟨o, ho⟩ : ∃ o, give r = o := ⟨_, rfl⟩
  have HO := Lib.hid ho
  rw [ho]
  clear hq hL k1 k3 bM ho
  go_enter Tryd.func82, Tryd.ntmps82
  go_upto_region 1 with (fail)
  rw [← hM]
  clear hM
  obtain ⟨x1, x2, x3, _, _, _⟩ := HX.out.cells
  go_wp2_with fail
  refine (readV _ s1 N1' D1' _ H1.out HT.out).mono ?_
  rw [HL.out, Bool.not_false]
  rintro e wa ⟨t1, B1, m1, d1, B1', m1', d1', rfl, f1, ba⟩
  have bb := below_step ba ba.size (below_alloc wa (.cells #[.bool t1, .slice B1 m1 d1, .slice B1' m1' d1'] 65))
  have hf1 := Box.new wa (.bool t1) (.slice B1 m1 d1) (.slice B1' m1' d1') 65
  have szw : w.heap.size + 1 < wa.heap.size := Nat.lt_of_lt_of_le (by obtain ⟨_, _, _, _, _, _, hh⟩ := HR.out; exact hh.lt) ba.size
  have TA : Hid (N1 w (wa.alloc (.cells #[.bool t1, .slice B1 m1 d1, .slice B1' m1' d1'] 65)) (w.heap.size + 1) wa.heap.size t1 B1 m1 d1 B1' m1' d1') :=
    Lib.hid ⟨HR.out.below bb, hf1, HT.out.below bb, below_step BM.out BM.out.size bb, by omega, by omega⟩
  have F1 : Hid (IsF (wa.alloc (.cells #[.bool t1, .slice B1 m1 d1, .slice B1' m1' d1'] 65)) (.agg #[.bool t1, .slice B1 m1 d1, .slice B1' m1' d1']) q) := Lib.hid (by rw [← HQ.out]; exact (f1.out rfl).below (below_alloc _ _))
  obtain ⟨w2, hw2⟩ : ∃ w2, wa.alloc (.cells #[.bool t1, .slice B1 m1 d1, .slice B1' m1' d1'] 65) = w2 := ⟨_, rfl⟩
  obtain ⟨gf, hgf⟩ : ∃ gf, wa.heap.size = gf := ⟨_, rfl⟩
  clear x1 x2 x3 ba bb f1 hf1 szw HR BM HX H1 HT
  go_upto_region 2 with (fail)
  rw [hw2] at TA F1
  try rw [hw2]
  rw [hgf] at TA
  try rw [hgf]
  clear hw2 hgf
  obtain ⟨y1, y2, y3, _⟩ := TA.out.box.cells
  go_wp2_with fail
  refine (Calls.partsF (fGrid q p up (Nat.le_trans HP.out (by omega)) _ _ F1.out (fit_Wq HF.out (by omega)) TA.out.tab)).mono ?_
  rw [HR2.out]
  rintro e wb ⟨t2, B2, m2, d2, B2', m2', d2', rfl, i1, bb⟩
  replace TA := Lib.hid (TA.out.below bb)
  clear bb
  go_wp2_with fail
  refine (giveF _ _ _ i1.out).mono ?_
  rintro e we ⟨s9, A9, n9, c9, A9', n9', c9', k9, rfl, h9, b9⟩
  replace TA := Lib.hid (TA.out.below b9)
  obtain ⟨z1, z2, z3, hz1, hz2, hz3, k1, k2, k3⟩ := TA.out.res.cells
  obtain ⟨q0, q1, q2, hs, hb⟩ := OutIs.stored h9 TA.out.res TA.out.bel TA.out.n3
  have Q := Lib.hid (And.intro q0 (And.intro q1 q2))
  have HS := Lib.hid hs
  have HBB := Lib.hid hb
  clear q0 q1 q2 hs hb h9 b9
  go_wp2
  obtain ⟨q0, q1, q2⟩ := Q.out
  refine bodyPost_ret (v := .tuple #[.agg #[.bool s9, .slice A9 n9 c9, .slice A9' n9' c9'], .int .i64 k9]) (by simp [results, Tryd.results82, go_sem, q0, q1, q2]) rfl ?_
  rw [← HO.out]
  exact ⟨_, _, _, _, _, _, _, _, rfl, HS.out, HBB.out⟩
theorem nround (s1 : Bool) (N1' D1' : Nat) (p : Int) (up : Bool) (w : World) (v1 : Value) (h1 : RawV w v1 s1 N1' D1') (hT : Tab w) :
    Calls Tryd.prog 82 #[v1, .int .i64 p, .bool up] w (OutPost w (gridOut (largeB s1 N1' D1') p up (ratOf s1 N1' D1'))) := by
  unfold gridOut
  by_cases h : largeB s1 N1' D1' = true
  · rw [if_pos h]; exact nround_large s1 N1' D1' p up w v1 h1 hT _ rfl h
  · rw [if_neg h]
    have h' : largeB s1 N1' D1' = false := by simpa using h
    by_cases hn : p < 0
    · rw [if_pos (Or.inl hn)]; exact nround_neg s1 N1' D1' p hn up w v1 h1 hT _ rfl h'
    · by_cases hb : 256 < p
      · rw [if_pos (Or.inr hb)]; exact nround_big s1 N1' D1' p hb up w v1 h1 hT _ rfl h'
      · rw [if_neg (by omega)]
        obtain ⟨k, rfl⟩ : ∃ k : Nat, p = (k : Int) := ⟨p.toNat, by omega⟩
        rw [Int.toNat_natCast]
        exact nround_ok s1 N1' D1' k (by omega) up _ rfl w v1 h1 hT _ rfl h'
set_option maxHeartbeats 1000000 in
set_option maxRecDepth 100000 in
theorem nDown (s1 : Bool) (N1 D1 : Nat) (p : Int) (w : World) (v1 : Value) (h1 : RawV w v1 s1 N1 D1) (hT : Tab w) :
    Calls Tryd.prog 38 #[v1, .int .i64 p] w (OutPost w (gridOut (largeB s1 N1 D1) p false (ratOf s1 N1 D1))) := by
  have H1 := Lib.hid h1
  have HT := Lib.hid hT
  obtain ⟨A1, n1, c1, A1', n1', c1', rfl⟩ := h1.shape
  clear h1 hT
  obtain ⟨M, hM, k1, k3, bM⟩ := start1 w (.bool s1) (.slice A1 n1 c1) (.slice A1' n1' c1') (.bool false) (.slice none 0 0) (.slice none 0 0) 24 24
  have HX := Lib.hid k1
  have HR := Lib.hid (show Res M (w.heap.size + 1) 24 from ⟨_, _, _, NI.bool _, NI.slice _ _ _, NI.slice _ _ _, k3⟩)
  have BM := Lib.hid bM
  replace H1 := Lib.hid (H1.out.below bM)
  replace HT := Lib.hid (HT.out.below bM)
  have C := Lib.hid (nround s1 N1 D1 p false M _ H1.out HT.out)
  obtain ⟨o, ho⟩ : ∃ o, gridOut (largeB s1 N1 D1) p false (ratOf s1 N1 D1) = o := ⟨_, rfl⟩
  rw [ho] at C
  rw [ho]
  clear k1 k3 bM ho
  go_enter Tryd.func38, Tryd.ntmps38
  go_upto_region 1 with (fail)
  rw [← hM]
  clear hM
  obtain ⟨x1, x2, x3, _, _, _⟩ := HX.out.cells
  go_wp2_with fail
  refine C.out.mono ?_
  rintro e we ⟨s9, A9, n9, c9, A9', n9', c9', k9, rfl, h9, b9⟩
  replace HR := Lib.hid (HR.out.below b9)
  have BE := Lib.hid (below_step BM.out BM.out.size b9)
  obtain ⟨q0, q1, q2, hs, hb⟩ := OutIs.stored h9 HR.out BE.out (by omega)
  have Q := Lib.hid (And.intro q0 (And.intro q1 q2))
  have HS := Lib.hid hs
  have HB := Lib.hid hb
  clear b9 h9 q0 q1 q2 hs hb x1 x2 x3
  obtain ⟨r1, r2, r3, hr1, hr2, hr3, _, _, _⟩ := HR.out.cells
  go_wp2_with fail
  obtain ⟨q0, q1, q2⟩ := Q.out
  refine bodyPost_ret (v := .tuple #[.agg #[.bool s9, .slice A9 n9 c9, .slice A9' n9' c9'], .int .i64 k9]) (by simp [results, Tryd.results38, go_sem, q0, q1, q2]) rfl ?_
  exact ⟨_, _, _, _, _, _, _, _, rfl, HS.out, HB.out⟩
set_option maxHeartbeats 1000000 in
set_option maxRecDepth 100000 in
theorem nUp (s1 : Bool) (N1 D1 : Nat) (p : Int) (w : World) (v1 : Value) (h1 : RawV w v1 s1 N1 D1) (hT : Tab w) :
    Calls Tryd.prog 39 #[v1, .int .i64 p] w (OutPost w (gridOut (largeB s1 N1 D1) p true (ratOf s1 N1 D1))) := by
  have H1 := Lib.hid h1
  have HT := Lib.hid hT
  obtain ⟨A1, n1, c1, A1', n1', c1', rfl⟩ := h1.shape
  clear h1 hT
  obtain ⟨M, hM, k1, k3, bM⟩ := start1 w (.bool s1) (.slice A1 n1 c1) (.slice A1' n1' c1') (.bool false) (.slice none 0 0) (.slice none 0 0) 24 24
  have HX := Lib.hid k1
  have HR := Lib.hid (show Res M (w.heap.size + 1) 24 from ⟨_, _, _, NI.bool _, NI.slice _ _ _, NI.slice _ _ _, k3⟩)
  have BM := Lib.hid bM
  replace H1 := Lib.hid (H1.out.below bM)
  replace HT := Lib.hid (HT.out.below bM)
  have C := Lib.hid (nround s1 N1 D1 p true M _ H1.out HT.out)
  obtain ⟨o, ho⟩ : ∃ o, gridOut (largeB s1 N1 D1) p true (ratOf s1 N1 D1) = o := ⟨_, rfl⟩
  rw [ho] at C
  rw [ho]
  clear k1 k3 bM ho
  go_enter Tryd.func39, Tryd.ntmps39
  go_upto_region 1 with (fail)
  rw [← hM]
  clear hM
  obtain ⟨x1, x2, x3, _, _, _⟩ := HX.out.cells
  go_wp2_with fail
  refine C.out.mono ?_
  rintro e we ⟨s9, A9, n9, c9, A9', n9', c9', k9, rfl, h9, b9⟩
  replace HR := Lib.hid (HR.out.below b9)
  have BE := Lib.hid (below_step BM.out BM.out.size b9)
  obtain ⟨q0, q1, q2, hs, hb⟩ := OutIs.stored h9 HR.out BE.out (by omega)
  have Q := Lib.hid (And.intro q0 (And.intro q1 q2))
  have HS := Lib.hid hs
  have HB := Lib.hid hb
  clear b9 h9 q0 q1 q2 hs hb x1 x2 x3
  obtain ⟨r1, r2, r3, hr1, hr2, hr3, _, _, _⟩ := HR.out.cells
  go_wp2_with fail
  obtain ⟨q0, q1, q2⟩ := Q.out
  refine bodyPost_ret (v := .tuple #[.agg #[.bool s9, .slice A9 n9 c9, .slice A9' n9' c9'], .int .i64 k9]) (by simp [results, Tryd.results39, go_sem, q0, q1, q2]) rfl ?_
  exact ⟨_, _, _, _, _, _, _, _, rfl, HS.out, HB.out⟩
end Go.Proofs.YtfmhplcpejmkhabDoor

namespace Go.Proofs.YtfmhplcpejmkhabDoor
open Go.RowKit Dig
set_option linter.unusedVariables false
set_option linter.unusedSimpArgs false
/-- two values that have been read, and a variable for a result -/
structure N2 (w M : World) (g3 gf gg : Nat) (s1 : Bool) (A1 : Option Addr) (n1 c1 : Nat) (B1 : Option Addr) (m1 d1 : Nat) (a : Rat) (s2 : Bool) (A2 : Option Addr) (n2 c2 : Nat) (B2 : Option Addr) (m2 d2 : Nat) (b : Rat) : Prop where
  res : Res M g3 24
  f : Box M gf (.bool s1) (.slice A1 n1 c1) (.slice B1 m1 d1) 65
  g : Box M gg (.bool s2) (.slice A2 n2 c2) (.slice B2 m2 d2) 65
  fa : IsF M (.agg #[.bool s1, .slice A1 n1 c1, .slice B1 m1 d1]) a
  fb : IsF M (.agg #[.bool s2, .slice A2 n2 c2, .slice B2 m2 d2]) b
  tab : Tab M
  bel : Below w.heap.size w M
  n3 : w.heap.size ≤ g3
  n1 : gf ≠ g3
  n2 : gg ≠ g3
  n4 : g3 ≠ 0
theorem IsF.grown {w w' : World} {v : Value} {q : Rat} {g : Nat} {x y z : Value} {t : TypeId} (h : IsF w v q) (hb : Box w g x y z t) (hx : NI x) (hy : NI y) (hz : NI z) (hg : w.grownBy w' (some g)) : IsF w' v q := by
  obtain ⟨A1, c1, A2, c2, e, r1, r2⟩ := h
  exact ⟨A1, c1, A2, c2, e, r1.grown_box hb hx hy hz hg, r2.grown_box hb hx hy hz hg⟩
section
variable {w M M' : World} {g3 gf gg : Nat} {s1 : Bool} {A1 : Option Addr} {n1 c1 : Nat} {B1 : Option Addr} {m1 d1 : Nat} {a : Rat} {s2 : Bool} {A2 : Option Addr} {n2 c2 : Nat} {B2 : Option Addr} {m2 d2 : Nat} {b : Rat}
theorem N2.below (h : N2 w M g3 gf gg s1 A1 n1 c1 B1 m1 d1 a s2 A2 n2 c2 B2 m2 d2 b) (hb : Below M.heap.size M M') : N2 w M' g3 gf gg s1 A1 n1 c1 B1 m1 d1 a s2 A2 n2 c2 B2 m2 d2 b :=
  ⟨h.res.below hb, h.f.below hb, h.g.below hb, h.fa.below hb, h.fb.below hb, h.tab.below hb, below_step h.bel h.bel.size hb, h.n3, h.n1, h.n2, h.n4⟩
theorem N2.drew (h : N2 w M g3 gf gg s1 A1 n1 c1 B1 m1 d1 a s2 A2 n2 c2 B2 m2 d2 b) : N2 w M.drew g3 gf gg s1 A1 n1 c1 B1 m1 d1 a s2 A2 n2 c2 B2 m2 d2 b := h.below (Below.refl _ _).drew
theorem N2.grown (h : N2 w M g3 gf gg s1 A1 n1 c1 B1 m1 d1 a s2 A2 n2 c2 B2 m2 d2 b) {x y z : Value} (hx : NI x) (hy : NI y) (hz : NI z) : N2 w (((M.setCell ⟨g3, 0, none⟩ x).setCell ⟨g3, 1, none⟩ y).setCell ⟨g3, 2, none⟩ z) g3 gf gg s1 A1 n1 c1 B1 m1 d1 a s2 A2 n2 c2 B2 m2 d2 b := by
  have hg := grown_set3 M g3 x y z
  obtain ⟨x', y', z', hx', hy', hz', h4⟩ := h.res
  exact ⟨h.res.set3 hx hy hz, (hg.block gf h.f.lt (fun e => h.n1 (Option.some.inj e))).trans h.f, (hg.block gg h.g.lt (fun e => h.n2 (Option.some.inj e))).trans h.g, h.fa.grown h4 hx' hy' hz' hg, h.fb.grown h4 hx' hy' hz' hg, h.tab.grown hg h.n4, below_set3 h.bel h.n3 _ _ _, h.n3, h.n1, h.n2, h.n4⟩
theorem N2.cells (h : N2 w M g3 gf gg s1 A1 n1 c1 B1 m1 d1 a s2 A2 n2 c2 B2 m2 d2 b) : (World.cell? M ⟨gf, 0, none⟩ = some (.bool s1) ∧ World.cell? M ⟨gf, 1, none⟩ = some (.slice A1 n1 c1) ∧ World.cell? M ⟨gf, 2, none⟩ = some (.slice B1 m1 d1) ∧ World.cell? M ⟨gg, 0, none⟩ = some (.bool s2) ∧ World.cell? M ⟨gg, 1, none⟩ = some (.slice A2 n2 c2) ∧ World.cell? M ⟨gg, 2, none⟩ = some (.slice B2 m2 d2) ∧ Hid (N2 w M g3 gf gg s1 A1 n1 c1 B1 m1 d1 a s2 A2 n2 c2 B2 m2 d2 b)) := by
  obtain ⟨a1, a2, a3, _, _, _⟩ := h.f.cells
  obtain ⟨b1, b2, b3, _, _, _⟩ := h.g.cells
  exact ⟨a1, a2, a3, b1, b2, b3, h⟩
theorem N2.of (h : (World.cell? M ⟨gf, 0, none⟩ = some (.bool s1) ∧ World.cell? M ⟨gf, 1, none⟩ = some (.slice A1 n1 c1) ∧ World.cell? M ⟨gf, 2, none⟩ = some (.slice B1 m1 d1) ∧ World.cell? M ⟨gg, 0, none⟩ = some (.bool s2) ∧ World.cell? M ⟨gg, 1, none⟩ = some (.slice A2 n2 c2) ∧ World.cell? M ⟨gg, 2, none⟩ = some (.slice B2 m2 d2) ∧ Hid (N2 w M g3 gf gg s1 A1 n1 c1 B1 m1 d1 a s2 A2 n2 c2 B2 m2 d2 b))) : N2 w M g3 gf gg s1 A1 n1 c1 B1 m1 d1 a s2 A2 n2 c2 B2 m2 d2 b := h.2.2.2.2.2.2.out
theorem N2.next (h : (World.cell? M ⟨gf, 0, none⟩ = some (.bool s1) ∧ World.cell? M ⟨gf, 1, none⟩ = some (.slice A1 n1 c1) ∧ World.cell? M ⟨gf, 2, none⟩ = some (.slice B1 m1 d1) ∧ World.cell? M ⟨gg, 0, none⟩ = some (.bool s2) ∧ World.cell? M ⟨gg, 1, none⟩ = some (.slice A2 n2 c2) ∧ World.cell? M ⟨gg, 2, none⟩ = some (.slice B2 m2 d2) ∧ Hid (N2 w M g3 gf gg s1 A1 n1 c1 B1 m1 d1 a s2 A2 n2 c2 B2 m2 d2 b))) (hb : Below M.heap.size M M') : (World.cell? M' ⟨gf, 0, none⟩ = some (.bool s1) ∧ World.cell? M' ⟨gf, 1, none⟩ = some (.slice A1 n1 c1) ∧ World.cell? M' ⟨gf, 2, none⟩ = some (.slice B1 m1 d1) ∧ World.cell? M' ⟨gg, 0, none⟩ = some (.bool s2) ∧ World.cell? M' ⟨gg, 1, none⟩ = some (.slice A2 n2 c2) ∧ World.cell? M' ⟨gg, 2, none⟩ = some (.slice B2 m2 d2) ∧ Hid (N2 w M' g3 gf gg s1 A1 n1 c1 B1 m1 d1 a s2 A2 n2 c2 B2 m2 d2 b)) := ((N2.of h).below hb).cells
theorem N2.nextS (h : (World.cell? M ⟨gf, 0, none⟩ = some (.bool s1) ∧ World.cell? M ⟨gf, 1, none⟩ = some (.slice A1 n1 c1) ∧ World.cell? M ⟨gf, 2, none⟩ = some (.slice B1 m1 d1) ∧ World.cell? M ⟨gg, 0, none⟩ = some (.bool s2) ∧ World.cell? M ⟨gg, 1, none⟩ = some (.slice A2 n2 c2) ∧ World.cell? M ⟨gg, 2, none⟩ = some (.slice B2 m2 d2) ∧ Hid (N2 w M g3 gf gg s1 A1 n1 c1 B1 m1 d1 a s2 A2 n2 c2 B2 m2 d2 b))) {x : Bool} {B C : Option Addr} {k k' c c' : Nat} : (World.cell? (((M.setCell ⟨g3, 0, none⟩ (.bool x)).setCell ⟨g3, 1, none⟩ (.slice B k k')).setCell ⟨g3, 2, none⟩ (.slice C c c')) ⟨gf, 0, none⟩ = some (.bool s1) ∧ World.cell? (((M.setCell ⟨g3, 0, none⟩ (.bool x)).setCell ⟨g3, 1, none⟩ (.slice B k k')).setCell ⟨g3, 2, none⟩ (.slice C c c')) ⟨gf, 1, none⟩ = some (.slice A1 n1 c1) ∧ World.cell? (((M.setCell ⟨g3, 0, none⟩ (.bool x)).setCell ⟨g3, 1, none⟩ (.slice B k k')).setCell ⟨g3, 2, none⟩ (.slice C c c')) ⟨gf, 2, none⟩ = some (.slice B1 m1 d1) ∧ World.cell? (((M.setCell ⟨g3, 0, none⟩ (.bool x)).setCell ⟨g3, 1, none⟩ (.slice B k k')).setCell ⟨g3, 2, none⟩ (.slice C c c')) ⟨gg, 0, none⟩ = some (.bool s2) ∧ World.cell? (((M.setCell ⟨g3, 0, none⟩ (.bool x)).setCell ⟨g3, 1, none⟩ (.slice B k k')).setCell ⟨g3, 2, none⟩ (.slice C c c')) ⟨gg, 1, none⟩ = some (.slice A2 n2 c2) ∧ World.cell? (((M.setCell ⟨g3, 0, none⟩ (.bool x)).setCell ⟨g3, 1, none⟩ (.slice B k k')).setCell ⟨g3, 2, none⟩ (.slice C c c')) ⟨gg, 2, none⟩ = some (.slice B2 m2 d2) ∧ Hid (N2 w (((M.setCell ⟨g3, 0, none⟩ (.bool x)).setCell ⟨g3, 1, none⟩ (.slice B k k')).setCell ⟨g3, 2, none⟩ (.slice C c c')) g3 gf gg s1 A1 n1 c1 B1 m1 d1 a s2 A2 n2 c2 B2 m2 d2 b)) :=
  ((N2.of h).grown (NI.bool _) (NI.slice _ _ _) (NI.slice _ _ _)).cells
end
/-- how two rational numbers compare -/
def cmpQ (a b : Rat) : Int := sgnI (ng (a - b)) (a - b).num.natAbs
theorem sgnI_mk (n : Int) (d : Nat) (hd : d ≠ 0) : sgnI (ng (mkRat n d)) (mkRat n d).num.natAbs = cmpZ n 0 := by
  obtain ⟨s, k, rfl, hs⟩ : ∃ s k, n = sg s k ∧ (s = true → k ≠ 0) := ⟨decide (n < 0), n.natAbs, by unfold sg; by_cases h : n < 0 <;> simp [h] <;> omega, by intro h; simp at h; omega⟩
  by_cases hk : k = 0
  · subst hk
    rw [mk_zero, sg_zero]
    decide
  · rw [mk_sign s hd hk, mk_abs s k hd]
    have := div_gcd_pos (d := d) hk
    unfold sgnI cmpZ sg
    rw [if_neg (by omega)]
    cases s
    · have h1 : ¬ ((k : Int) < 0) := by omega
      have h2 : ¬ ((k : Int) = 0) := by omega
      simp [h1, hk]
    · rw [if_pos rfl, if_pos]
      simp
      omega
theorem cmpZ_Q (a b : Rat) : cmpZ (sg (ng a) a.num.natAbs * b.den) (sg (ng b) b.num.natAbs * a.den) = cmpQ a b := by
  unfold cmpQ
  have e : a - b = mkRat (a.num * b.den - b.num * a.den) (a.den * b.den) := by
    rw [Rat.sub_eq_add_neg, Rat.add_def', Rat.neg_num, Rat.neg_den]
    congr 1
    grind
  rw [e, sgnI_mk _ _ (Nat.mul_ne_zero a.den_nz b.den_nz), sg_ng, sg_ng]
  unfold cmpZ
  split <;> split <;> (try split) <;> (try split) <;> omega
theorem inv_facts {b : Rat} (h : b ≠ 0) : ng b⁻¹ = ng b ∧ b⁻¹.num.natAbs = b.den ∧ b⁻¹.den = b.num.natAbs := by
  have hn : b.num.natAbs ≠ 0 := by
    have : b.num ≠ 0 := fun h0 => h (Rat.num_eq_zero.1 h0)
    omega
  have e := rat_div 1 b h
  rw [Rat.div_def, Rat.one_mul] at e
  have e1 : mkRat (sg (ng b) b.den) b.num.natAbs = b⁻¹ := by
    rw [← e]
    have h1 : ng (1 : Rat) = false := by decide
    have h2 : (1 : Rat).num.natAbs = 1 := by decide
    have h3 : (1 : Rat).den = 1 := by decide
    rw [h1, h2, h3, Nat.one_mul, Nat.one_mul]
    cases ng b <;> rfl
  have hc : Nat.gcd b.den b.num.natAbs = 1 := by rw [Nat.gcd_comm]; exact b.reduced
  rw [← e1, mk_sign _ hn b.den_nz, mk_abs _ _ hn, mk_den _ _ hn, hc, Nat.div_one, Nat.div_one]
  exact ⟨rfl, rfl, rfl⟩
theorem fCmp (a b : Rat) (w : World) (v1 v2 : Value) (h1 : IsF w v1 a) (h2 : IsF w v2 b) (k1 : Wq 400000 a) (k2 : Wq 400000 b) :
    Calls Tryd.prog 75 #[v1, v2] w fun e w' => e = .returned (.int .i64 (cmpQ a b)) ∧ Below w.heap.size w w' := by
  obtain ⟨A1, c1, A2, c2, rfl, r1, r2⟩ := h1
  obtain ⟨A3, c3, A4, c4, rfl, r3, r4⟩ := h2
  have := fracCmp (ng a) a.num.natAbs a.den (ng b) b.num.natAbs b.den w _ _ _ _ _ _ _ _ r1 r2 r3 r4 k1.1 k1.2 k2.1 k2.2 a.den_nz b.den_nz
  rwa [cmpZ_Q] at this
theorem fInv (b : Rat) (w : World) (v : Value) (h : IsF w v b) (hb : b ≠ 0) :
    Calls Tryd.prog 55 #[v] w fun e w' => ∃ u, e = .returned u ∧ IsF w' u b⁻¹ ∧ Below w.heap.size w w' := by
  obtain ⟨A1, c1, A2, c2, rfl, r1, r2⟩ := h
  obtain ⟨e1, e2, e3⟩ := inv_facts hb
  refine (fracInverse _ _ _ w _ _ _ _).mono ?_
  rintro e w' ⟨rfl, hl⟩
  exact ⟨_, rfl, by unfold IsF; rw [e1, e2, e3]; exact ⟨_, _, _, _, rfl, r2.below hl, r1.below hl⟩, hl⟩
theorem inv_Wq {b : Rat} {k : Nat} (h : b ≠ 0) (hk : Wq k b) : Wq k b⁻¹ := by
  obtain ⟨_, e2, e3⟩ := inv_facts h
  unfold Wq
  rw [e2, e3]
  exact ⟨hk.2, hk.1⟩
end Go.Proofs.YtfmhplcpejmkhabDoor

namespace Go.Proofs.YtfmhplcpejmkhabDoor
open Go.RowKit Dig
set_option linter.unusedVariables false
set_option linter.unusedSimpArgs false
theorem sgn_eq (x : Rat) : sgnI (ng x) x.num.natAbs = if x < 0 then -1 else if x = 0 then 0 else 1 := by
  unfold sgnI ng
  by_cases h0 : x = 0
  · subst h0
    decide
  · have hn : x.num ≠ 0 := fun h => h0 (Rat.num_eq_zero.1 h)
    rw [if_neg (by omega), if_neg h0]
    by_cases hl : x < 0
    · have h1 : ¬ (0 ≤ x) := by grind
      rw [← Rat.num_nonneg] at h1
      have : x.num < 0 := by omega
      rw [if_pos (by simpa using this), if_pos hl]
    · have h1 : 0 ≤ x := by grind
      rw [← Rat.num_nonneg] at h1
      have : ¬ x.num < 0 := by omega
      rw [if_neg (by simpa using this), if_neg hl]
theorem cmp_lt {a b : Rat} (h : a < b) : cmpQ a b = -1 := by
  unfold cmpQ
  rw [sgn_eq, if_pos (by grind)]
theorem cmp_eq {a b : Rat} (h : a = b) : cmpQ a b = 0 := by
  unfold cmpQ
  rw [sgn_eq, if_neg (by grind), if_pos (by grind)]
theorem cmp_gt {a b : Rat} (h : b < a) : cmpQ a b = 1 := by
  unfold cmpQ
  rw [sgn_eq, if_neg (by grind), if_neg (by grind)]
theorem cmp_cases (a b : Rat) : (a < b ∧ cmpQ a b = -1) ∨ (a = b ∧ cmpQ a b = 0) ∨ (b < a ∧ cmpQ a b = 1) := by
  by_cases h : a < b
  · exact Or.inl ⟨h, cmp_lt h⟩
  · by_cases h2 : a = b
    · exact Or.inr (Or.inl ⟨h2, cmp_eq h2⟩)
    · have h3 : b < a := by grind
      exact Or.inr (Or.inr ⟨h3, cmp_gt h3⟩)
theorem cmp_swap (a b : Rat) : cmpQ b a = -cmpQ a b := by
  rcases cmp_cases a b with ⟨h, e⟩ | ⟨h, e⟩ | ⟨h, e⟩
  · rw [e, cmp_gt h]; rfl
  · rw [e, cmp_eq h.symm]; rfl
  · rw [e, cmp_lt h]
theorem cmp_add (a b c : Rat) : cmpQ (a + c) (b + c) = cmpQ a b := by
  unfold cmpQ
  have : a + c - (b + c) = a - b := by grind
  rw [this]
theorem cmp_trans (x y z : Rat) : (cmpQ x y = cmpQ y z → cmpQ x z = cmpQ x y) ∧ (cmpQ x y = 0 → cmpQ x z = cmpQ y z) ∧ (cmpQ y z = 0 → cmpQ x z = cmpQ x y) := by
  rcases cmp_cases x y with ⟨h, e⟩ | ⟨h, e⟩ | ⟨h, e⟩ <;> rcases cmp_cases y z with ⟨h2, e2⟩ | ⟨h2, e2⟩ | ⟨h2, e2⟩ <;> rw [e, e2]
  · have h3 : x < z := by grind
    rw [cmp_lt h3]; decide
  · subst h2; rw [e]; decide
  · refine ⟨fun h => ?_, fun h => ?_, fun h => ?_⟩ <;> exact absurd h (by decide)
  · subst h; rw [e2]; decide
  · subst h h2; rw [cmp_eq rfl]; decide
  · subst h; rw [e2]; decide
  · refine ⟨fun h => ?_, fun h => ?_, fun h => ?_⟩ <;> exact absurd h (by decide)
  · subst h2; rw [e]; decide
  · have h3 : z < x := by grind
    rw [cmp_gt h3]; decide
end Go.Proofs.YtfmhplcpejmkhabDoor

namespace Go.Proofs.YtfmhplcpejmkhabDoor
open Go.RowKit Dig
set_option linter.unusedVariables false
set_option linter.unusedSimpArgs false
set_option maxHeartbeats 2000000 in
set_option maxRecDepth 100000 in
theorem nCompare_true_true (s1 : Bool) (X1 Y1 : Nat) (s2 : Bool) (X2 Y2 : Nat)  (w : World) (v1 v2 : Value) (h1 : RawV w v1 s1 X1 Y1) (h2 : RawV w v2 s2 X2 Y2) (hT : Tab w) (a b : Rat) (ha : ratOf s1 X1 Y1 = a) (hb : ratOf s2 X2 Y2 = b) (hL1 : largeB s1 X1 Y1 = true) (hL2 : largeB s2 X2 Y2 = true) :
    Calls Tryd.prog 32 #[v1, v2] w (fun e w' => e = .returned (.tuple #[.int .i64 0, .int .i64 1]) ∧ Below w.heap.size w w') := by
  have H1 := Lib.hid h1
  have H2 := Lib.hid h2
  have HT := Lib.hid hT
  obtain ⟨A1, n1, c1, A1', n1', c1', rfl⟩ := h1.shape
  obtain ⟨A2, n2, c2, A2', n2', c2', rfl⟩ := h2.shape
  clear h1 h2 hT
  obtain ⟨M, hM, k1, k2, bM⟩ := start1 w (.bool s1) (.slice A1 n1 c1) (.slice A1' n1' c1') (.bool s2) (.slice A2 n2 c2) (.slice A2' n2' c2') 24 24
  have HR := Lib.hid True.intro
  have HX := Lib.hid k1
  have HY := Lib.hid k2
  have BM := Lib.hid bM
  replace H1 := Lib.hid (H1.out.below bM)
  replace H2 := Lib.hid (H2.out.below bM)
  replace HT := Lib.hid (HT.out.below bM)
  have HA := Lib.hid ha
  have HB := Lib.hid hb
  have HL1 := Lib.hid hL1
  have HL2 := Lib.hid hL2
  clear ha hb hL1 hL2 k1 k2 bM
  go_enter Tryd.func32, Tryd.ntmps32
  go_upto_region 1 with (fail)
  rw [← hM]
  clear hM
  obtain ⟨x1, x2, x3, _, _, _⟩ := HX.out.cells
  go_wp2_with fail
  refine (readV _ s1 X1 Y1 _ H1.out HT.out).mono ?_
  rw [HL1.out, Bool.not_true]
  rintro e wa ⟨t1, B1, m1, d1, B1', m1', d1', rfl, f1, ba⟩
  have bb := below_step ba ba.size (below_alloc wa (.cells #[.bool t1, .slice B1 m1 d1, .slice B1' m1' d1'] 65))
  have HF1 := Lib.hid (Box.new wa (.bool t1) (.slice B1 m1 d1) (.slice B1' m1' d1') 65)
  have F1 : Hid (largeB s1 X1 Y1 = false → IsF (wa.alloc (.cells #[.bool t1, .slice B1 m1 d1, .slice B1' m1' d1'] 65)) (.agg #[.bool t1, .slice B1 m1 d1, .slice B1' m1' d1']) (ratOf s1 X1 Y1)) := Lib.hid (fun h => absurd (HL1.out.symm.trans h) (by simp))
  have hsz : w.heap.size + 1 < wa.heap.size := Nat.lt_of_lt_of_le (HY.out.lt) ba.size
  replace HX := Lib.hid (HX.out.below bb)
  replace HY := Lib.hid (HY.out.below bb)
  replace H2 := Lib.hid (H2.out.below bb)
  replace HT := Lib.hid (HT.out.below bb)
  have BM := Lib.hid (below_step BM.out BM.out.size bb)
  obtain ⟨w1, hw1⟩ : ∃ w1, wa.alloc (.cells #[.bool t1, .slice B1 m1 d1, .slice B1' m1' d1'] 65) = w1 := ⟨_, rfl⟩
  have hs1 : w1.heap.size = wa.heap.size + 1 := by rw [← hw1]; simp
  have HS1 := Lib.hid hs1
  have HSZ := Lib.hid hsz
  clear x1 x2 x3 ba bb f1 hs1 hsz
  go_upto_region 2 with (fail)
  rw [hw1] at HX HY H2 HT BM HF1 F1
  try rw [hw1]
  clear hw1
  obtain ⟨y1, y2, y3, _, _, _⟩ := HY.out.cells
  go_wp2_with fail
  refine (readV _ s2 X2 Y2 _ H2.out HT.out).mono ?_
  rw [HL2.out, Bool.not_true]
  rintro e wc ⟨t2, B2, m2, d2, B2', m2', d2', rfl, f2, bc⟩
  have bd := below_step bc bc.size (below_alloc wc (.cells #[.bool t2, .slice B2 m2 d2, .slice B2' m2' d2'] 65))
  have HF2 := Lib.hid (Box.new wc (.bool t2) (.slice B2 m2 d2) (.slice B2' m2' d2') 65)
  have F2 : Hid (largeB s2 X2 Y2 = false → IsF (wc.alloc (.cells #[.bool t2, .slice B2 m2 d2, .slice B2' m2' d2'] 65)) (.agg #[.bool t2, .slice B2 m2 d2, .slice B2' m2' d2']) (ratOf s2 X2 Y2)) := Lib.hid (fun h => absurd (HL2.out.symm.trans h) (by simp))
  have F1 : Hid (largeB s1 X1 Y1 = false → IsF (wc.alloc (.cells #[.bool t2, .slice B2 m2 d2, .slice B2' m2' d2'] 65)) (.agg #[.bool t1, .slice B1 m1 d1, .slice B1' m1' d1']) (ratOf s1 X1 Y1)) := Lib.hid (fun h => (F1.out h).below bd)
  have hsz2 : wa.heap.size + 1 ≤ wc.heap.size := by have := bc.size; have := HS1.out; omega
  replace HF1 := Lib.hid (HF1.out.below bd)
  replace HT := Lib.hid (HT.out.below bd)
  have BM := Lib.hid (below_step BM.out BM.out.size bd)
  have HSZ2 := Lib.hid hsz2
  obtain ⟨w2, hw2⟩ : ∃ w2, wc.alloc (.cells #[.bool t2, .slice B2 m2 d2, .slice B2' m2' d2'] 65) = w2 := ⟨_, rfl⟩
  obtain ⟨gf, hgf⟩ : ∃ g, wa.heap.size = g := ⟨_, rfl⟩
  obtain ⟨gg, hgg⟩ : ∃ g, wc.heap.size = g := ⟨_, rfl⟩
  clear y1 y2 y3 bc bd f2 HS1 hsz2 HX HY H1 H2
  go_upto_region 3 with (fail)
  rw [hw2] at HF1 HF2 HT BM F1 F2
  try rw [hw2]
  rw [hgf] at HF1 HSZ HSZ2
  rw [hgg] at HF2 HSZ2
  try rw [hgf]
  try rw [hgg]
  clear hw2 hgf hgg
  go_wp2_with fail
  refine bodyPost_ret (v := .tuple #[.int .i64 0, .int .i64 1]) (by simp [results, Tryd.results32, go_sem]) rfl ⟨rfl, BM.out⟩
set_option maxHeartbeats 2000000 in
set_option maxRecDepth 100000 in
theorem nCompare_true_false (s1 : Bool) (X1 Y1 : Nat) (s2 : Bool) (X2 Y2 : Nat)  (w : World) (v1 v2 : Value) (h1 : RawV w v1 s1 X1 Y1) (h2 : RawV w v2 s2 X2 Y2) (hT : Tab w) (a b : Rat) (ha : ratOf s1 X1 Y1 = a) (hb : ratOf s2 X2 Y2 = b) (hL1 : largeB s1 X1 Y1 = true) (hL2 : largeB s2 X2 Y2 = false) :
    Calls Tryd.prog 32 #[v1, v2] w (fun e w' => e = .returned (.tuple #[.int .i64 0, .int .i64 1]) ∧ Below w.heap.size w w') := by
  have H1 := Lib.hid h1
  have H2 := Lib.hid h2
  have HT := Lib.hid hT
  obtain ⟨A1, n1, c1, A1', n1', c1', rfl⟩ := h1.shape
  obtain ⟨A2, n2, c2, A2', n2', c2', rfl⟩ := h2.shape
  clear h1 h2 hT
  obtain ⟨M, hM, k1, k2, bM⟩ := start1 w (.bool s1) (.slice A1 n1 c1) (.slice A1' n1' c1') (.bool s2) (.slice A2 n2 c2) (.slice A2' n2' c2') 24 24
  have HR := Lib.hid True.intro
  have HX := Lib.hid k1
  have HY := Lib.hid k2
  have BM := Lib.hid bM
  replace H1 := Lib.hid (H1.out.below bM)
  replace H2 := Lib.hid (H2.out.below bM)
  replace HT := Lib.hid (HT.out.below bM)
  have HA := Lib.hid ha
  have HB := Lib.hid hb
  have HL1 := Lib.hid hL1
  have HL2 := Lib.hid hL2
  clear ha hb hL1 hL2 k1 k2 bM
  go_enter Tryd.func32, Tryd.ntmps32
  go_upto_region 1 with (fail)
  rw [← hM]
  clear hM
  obtain ⟨x1, x2, x3, _, _, _⟩ := HX.out.cells
  go_wp2_with fail
  refine (readV _ s1 X1 Y1 _ H1.out HT.out).mono ?_
  rw [HL1.out, Bool.not_true]
  rintro e wa ⟨t1, B1, m1, d1, B1', m1', d1', rfl, f1, ba⟩
  have bb := below_step ba ba.size (below_alloc wa (.cells #[.bool t1, .slice B1 m1 d1, .slice B1' m1' d1'] 65))
  have HF1 := Lib.hid (Box.new wa (.bool t1) (.slice B1 m1 d1) (.slice B1' m1' d1') 65)
  have F1 : Hid (largeB s1 X1 Y1 = false → IsF (wa.alloc (.cells #[.bool t1, .slice B1 m1 d1, .slice B1' m1' d1'] 65)) (.agg #[.bool t1, .slice B1 m1 d1, .slice B1' m1' d1']) (ratOf s1 X1 Y1)) := Lib.hid (fun h => absurd (HL1.out.symm.trans h) (by simp))
  have hsz : w.heap.size + 1 < wa.heap.size := Nat.lt_of_lt_of_le (HY.out.lt) ba.size
  replace HX := Lib.hid (HX.out.below bb)
  replace HY := Lib.hid (HY.out.below bb)
  replace H2 := Lib.hid (H2.out.below bb)
  replace HT := Lib.hid (HT.out.below bb)
  have BM := Lib.hid (below_step BM.out BM.out.size bb)
  obtain ⟨w1, hw1⟩ : ∃ w1, wa.alloc (.cells #[.bool t1, .slice B1 m1 d1, .slice B1' m1' d1'] 65) = w1 := ⟨_, rfl⟩
  have hs1 : w1.heap.size = wa.heap.size + 1 := by rw [← hw1]; simp
  have HS1 := Lib.hid hs1
  have HSZ := Lib.hid hsz
  clear x1 x2 x3 ba bb f1 hs1 hsz
  go_upto_region 2 with (fail)
  rw [hw1] at HX HY H2 HT BM HF1 F1
  try rw [hw1]
  clear hw1
  obtain ⟨y1, y2, y3, _, _, _⟩ := HY.out.cells
  go_wp2_with fail
  refine (readV _ s2 X2 Y2 _ H2.out HT.out).mono ?_
  rw [HL2.out, Bool.not_false]
  rintro e wc ⟨t2, B2, m2, d2, B2', m2', d2', rfl, f2, bc⟩
  have bd := below_step bc bc.size (below_alloc wc (.cells #[.bool t2, .slice B2 m2 d2, .slice B2' m2' d2'] 65))
  have HF2 := Lib.hid (Box.new wc (.bool t2) (.slice B2 m2 d2) (.slice B2' m2' d2') 65)
  have F2 : Hid (largeB s2 X2 Y2 = false → IsF (wc.alloc (.cells #[.bool t2, .slice B2 m2 d2, .slice B2' m2' d2'] 65)) (.agg #[.bool t2, .slice B2 m2 d2, .slice B2' m2' d2']) (ratOf s2 X2 Y2)) := Lib.hid (fun h => (f2.out rfl).below (below_alloc _ _))
  have F1 : Hid (largeB s1 X1 Y1 = false → IsF (wc.alloc (.cells #[.bool t2, .slice B2 m2 d2, .slice B2' m2' d2'] 65)) (.agg #[.bool t1, .slice B1 m1 d1, .slice B1' m1' d1']) (ratOf s1 X1 Y1)) := Lib.hid (fun h => (F1.out h).below bd)
  have hsz2 : wa.heap.size + 1 ≤ wc.heap.size := by have := bc.size; have := HS1.out; omega
  replace HF1 := Lib.hid (HF1.out.below bd)
  replace HT := Lib.hid (HT.out.below bd)
  have BM := Lib.hid (below_step BM.out BM.out.size bd)
  have HSZ2 := Lib.hid hsz2
  obtain ⟨w2, hw2⟩ : ∃ w2, wc.alloc (.cells #[.bool t2, .slice B2 m2 d2, .slice B2' m2' d2'] 65) = w2 := ⟨_, rfl⟩
  obtain ⟨gf, hgf⟩ : ∃ g, wa.heap.size = g := ⟨_, rfl⟩
  obtain ⟨gg, hgg⟩ : ∃ g, wc.heap.size = g := ⟨_, rfl⟩
  clear y1 y2 y3 bc bd f2 HS1 hsz2 HX HY H1 H2
  go_upto_region 3 with (fail)
  rw [hw2] at HF1 HF2 HT BM F1 F2
  try rw [hw2]
  rw [hgf] at HF1 HSZ HSZ2
  rw [hgg] at HF2 HSZ2
  try rw [hgf]
  try rw [hgg]
  clear hw2 hgf hgg
  go_wp2_with fail
  refine bodyPost_ret (v := .tuple #[.int .i64 0, .int .i64 1]) (by simp [results, Tryd.results32, go_sem]) rfl ⟨rfl, BM.out⟩
set_option maxHeartbeats 2000000 in
set_option maxRecDepth 100000 in
theorem nCompare_false_true (s1 : Bool) (X1 Y1 : Nat) (s2 : Bool) (X2 Y2 : Nat)  (w : World) (v1 v2 : Value) (h1 : RawV w v1 s1 X1 Y1) (h2 : RawV w v2 s2 X2 Y2) (hT : Tab w) (a b : Rat) (ha : ratOf s1 X1 Y1 = a) (hb : ratOf s2 X2 Y2 = b) (hL1 : largeB s1 X1 Y1 = false) (hL2 : largeB s2 X2 Y2 = true) :
    Calls Tryd.prog 32 #[v1, v2] w (fun e w' => e = .returned (.tuple #[.int .i64 0, .int .i64 1]) ∧ Below w.heap.size w w') := by
  have H1 := Lib.hid h1
  have H2 := Lib.hid h2
  have HT := Lib.hid hT
  obtain ⟨A1, n1, c1, A1', n1', c1', rfl⟩ := h1.shape
  obtain ⟨A2, n2, c2, A2', n2', c2', rfl⟩ := h2.shape
  clear h1 h2 hT
  obtain ⟨M, hM, k1, k2, bM⟩ := start1 w (.bool s1) (.slice A1 n1 c1) (.slice A1' n1' c1') (.bool s2) (.slice A2 n2 c2) (.slice A2' n2' c2') 24 24
  have HR := Lib.hid True.intro
  have HX := Lib.hid k1
  have HY := Lib.hid k2
  have BM := Lib.hid bM
  replace H1 := Lib.hid (H1.out.below bM)
  replace H2 := Lib.hid (H2.out.below bM)
  replace HT := Lib.hid (HT.out.below bM)
  have HA := Lib.hid ha
  have HB := Lib.hid hb
  have HL1 := Lib.hid hL1
  have HL2 := Lib.hid hL2
  clear ha hb hL1 hL2 k1 k2 bM
  go_enter Tryd.func32, Tryd.ntmps32
  go_upto_region 1 with (fail)
  rw [← hM]
  clear hM
  obtain ⟨x1, x2, x3, _, _, _⟩ := HX.out.cells
  go_wp2_with fail
  refine (readV _ s1 X1 Y1 _ H1.out HT.out).mono ?_
  rw [HL1.out, Bool.not_false]
  rintro e wa ⟨t1, B1, m1, d1, B1', m1', d1', rfl, f1, ba⟩
  have bb := below_step ba ba.size (below_alloc wa (.cells #[.bool t1, .slice B1 m1 d1, .slice B1' m1' d1'] 65))
  have HF1 := Lib.hid (Box.new wa (.bool t1) (.slice B1 m1 d1) (.slice B1' m1' d1') 65)
  have F1 : Hid (largeB s1 X1 Y1 = false → IsF (wa.alloc (.cells #[.bool t1, .slice B1 m1 d1, .slice B1' m1' d1'] 65)) (.agg #[.bool t1, .slice B1 m1 d1, .slice B1' m1' d1']) (ratOf s1 X1 Y1)) := Lib.hid (fun h => (f1.out rfl).below (below_alloc _ _))
  have hsz : w.heap.size + 1 < wa.heap.size := Nat.lt_of_lt_of_le (HY.out.lt) ba.size
  replace HX := Lib.hid (HX.out.below bb)
  replace HY := Lib.hid (HY.out.below bb)
  replace H2 := Lib.hid (H2.out.below bb)
  replace HT := Lib.hid (HT.out.below bb)
  have BM := Lib.hid (below_step BM.out BM.out.size bb)
  obtain ⟨w1, hw1⟩ : ∃ w1, wa.alloc (.cells #[.bool t1, .slice B1 m1 d1, .slice B1' m1' d1'] 65) = w1 := ⟨_, rfl⟩
  have hs1 : w1.heap.size = wa.heap.size + 1 := by rw [← hw1]; simp
  have HS1 := Lib.hid hs1
  have HSZ := Lib.hid hsz
  clear x1 x2 x3 ba bb f1 hs1 hsz
  go_upto_region 2 with (fail)
  rw [hw1] at HX HY H2 HT BM HF1 F1
  try rw [hw1]
  clear hw1
  obtain ⟨y1, y2, y3, _, _, _⟩ := HY.out.cells
  go_wp2_with fail
  refine (readV _ s2 X2 Y2 _ H2.out HT.out).mono ?_
  rw [HL2.out, Bool.not_true]
  rintro e wc ⟨t2, B2, m2, d2, B2', m2', d2', rfl, f2, bc⟩
  have bd := below_step bc bc.size (below_alloc wc (.cells #[.bool t2, .slice B2 m2 d2, .slice B2' m2' d2'] 65))
  have HF2 := Lib.hid (Box.new wc (.bool t2) (.slice B2 m2 d2) (.slice B2' m2' d2') 65)
  have F2 : Hid (largeB s2 X2 Y2 = false → IsF (wc.alloc (.cells #[.bool t2, .slice B2 m2 d2, .slice B2' m2' d2'] 65)) (.agg #[.bool t2, .slice B2 m2 d2, .slice B2' m2' d2']) (ratOf s2 X2 Y2)) := Lib.hid (fun h => absurd (HL2.out.symm.trans h) (by simp))
  have F1 : Hid (largeB s1 X1 Y1 = false → IsF (wc.alloc (.cells #[.bool t2, .slice B2 m2 d2, .slice B2' m2' d2'] 65)) (.agg #[.bool t1, .slice B1 m1 d1, .slice B1' m1' d1']) (ratOf s1 X1 Y1)) := Lib.hid (fun h => (F1.out h).below bd)
  have hsz2 : wa.heap.size + 1 ≤ wc.heap.size := by have := bc.size; have := HS1.out; omega
  replace HF1 := Lib.hid (HF1.out.below bd)
  replace HT := Lib.hid (HT.out.below bd)
  have BM := Lib.hid (below_step BM.out BM.out.size bd)
  have HSZ2 := Lib.hid hsz2
  obtain ⟨w2, hw2⟩ : ∃ w2, wc.alloc (.cells #[.bool t2, .slice B2 m2 d2, .slice B2' m2' d2'] 65) = w2 := ⟨_, rfl⟩
  obtain ⟨gf, hgf⟩ : ∃ g, wa.heap.size = g := ⟨_, rfl⟩
  obtain ⟨gg, hgg⟩ : ∃ g, wc.heap.size = g := ⟨_, rfl⟩
  clear y1 y2 y3 bc bd f2 HS1 hsz2 HX HY H1 H2
  go_upto_region 3 with (fail)
  rw [hw2] at HF1 HF2 HT BM F1 F2
  try rw [hw2]
  rw [hgf] at HF1 HSZ HSZ2
  rw [hgg] at HF2 HSZ2
  try rw [hgf]
  try rw [hgg]
  clear hw2 hgf hgg
  go_wp2_with fail
  refine bodyPost_ret (v := .tuple #[.int .i64 0, .int .i64 1]) (by simp [results, Tryd.results32, go_sem]) rfl ⟨rfl, BM.out⟩
set_option maxHeartbeats 2000000 in
set_option maxRecDepth 100000 in
theorem nCompare_fit (s1 : Bool) (X1 Y1 : Nat) (s2 : Bool) (X2 Y2 : Nat) (c : Int) (hc : cmpQ (ratOf s1 X1 Y1) (ratOf s2 X2 Y2) = c) (w : World) (v1 v2 : Value) (h1 : RawV w v1 s1 X1 Y1) (h2 : RawV w v2 s2 X2 Y2) (hT : Tab w) (a b : Rat) (ha : ratOf s1 X1 Y1 = a) (hb : ratOf s2 X2 Y2 = b) (hL1 : largeB s1 X1 Y1 = false) (hL2 : largeB s2 X2 Y2 = false) :
    Calls Tryd.prog 32 #[v1, v2] w (fun e w' => e = .returned (.tuple #[.int .i64 c, .int .i64 0]) ∧ Below w.heap.size w w') := by
  have H1 := Lib.hid h1
  have H2 := Lib.hid h2
  have HT := Lib.hid hT
  obtain ⟨A1, n1, c1, A1', n1', c1', rfl⟩ := h1.shape
  obtain ⟨A2, n2, c2, A2', n2', c2', rfl⟩ := h2.shape
  clear h1 h2 hT
  obtain ⟨M, hM, k1, k2, bM⟩ := start1 w (.bool s1) (.slice A1 n1 c1) (.slice A1' n1' c1') (.bool s2) (.slice A2 n2 c2) (.slice A2' n2' c2') 24 24
  have HR := Lib.hid True.intro
  have HX := Lib.hid k1
  have HY := Lib.hid k2
  have BM := Lib.hid bM
  replace H1 := Lib.hid (H1.out.below bM)
  replace H2 := Lib.hid (H2.out.below bM)
  replace HT := Lib.hid (HT.out.below bM)
  have HA := Lib.hid ha
  have HB := Lib.hid hb
  have HL1 := Lib.hid hL1
  have HL2 := Lib.hid hL2
  have fa := (largeB_false hL1).2.2
  have fb := (largeB_false hL2).2.2
  rw [ha] at fa
  rw [hb] at fb
  have FA := Lib.hid fa
  have FB := Lib.hid fb
  clear fa fb
  rw [ha, hb] at hc
  have HC := Lib.hid hc
  clear hc
  clear ha hb hL1 hL2 k1 k2 bM
  go_enter Tryd.func32, Tryd.ntmps32
  go_upto_region 1 with (fail)
  rw [← hM]
  clear hM
  obtain ⟨x1, x2, x3, _, _, _⟩ := HX.out.cells
  go_wp2_with fail
  refine (readV _ s1 X1 Y1 _ H1.out HT.out).mono ?_
  rw [HL1.out, Bool.not_false]
  rintro e wa ⟨t1, B1, m1, d1, B1', m1', d1', rfl, f1, ba⟩
  have bb := below_step ba ba.size (below_alloc wa (.cells #[.bool t1, .slice B1 m1 d1, .slice B1' m1' d1'] 65))
  have HF1 := Lib.hid (Box.new wa (.bool t1) (.slice B1 m1 d1) (.slice B1' m1' d1') 65)
  have F1 : Hid (largeB s1 X1 Y1 = false → IsF (wa.alloc (.cells #[.bool t1, .slice B1 m1 d1, .slice B1' m1' d1'] 65)) (.agg #[.bool t1, .slice B1 m1 d1, .slice B1' m1' d1']) (ratOf s1 X1 Y1)) := Lib.hid (fun h => (f1.out rfl).below (below_alloc _ _))
  have hsz : w.heap.size + 1 < wa.heap.size := Nat.lt_of_lt_of_le (HY.out.lt) ba.size
  replace HX := Lib.hid (HX.out.below bb)
  replace HY := Lib.hid (HY.out.below bb)
  replace H2 := Lib.hid (H2.out.below bb)
  replace HT := Lib.hid (HT.out.below bb)
  have BM := Lib.hid (below_step BM.out BM.out.size bb)
  obtain ⟨w1, hw1⟩ : ∃ w1, wa.alloc (.cells #[.bool t1, .slice B1 m1 d1, .slice B1' m1' d1'] 65) = w1 := ⟨_, rfl⟩
  have hs1 : w1.heap.size = wa.heap.size + 1 := by rw [← hw1]; simp
  have HS1 := Lib.hid hs1
  have HSZ := Lib.hid hsz
  clear x1 x2 x3 ba bb f1 hs1 hsz
  go_upto_region 2 with (fail)
  rw [hw1] at HX HY H2 HT BM HF1 F1
  try rw [hw1]
  clear hw1
  obtain ⟨y1, y2, y3, _, _, _⟩ := HY.out.cells
  go_wp2_with fail
  refine (readV _ s2 X2 Y2 _ H2.out HT.out).mono ?_
  rw [HL2.out, Bool.not_false]
  rintro e wc ⟨t2, B2, m2, d2, B2', m2', d2', rfl, f2, bc⟩
  have bd := below_step bc bc.size (below_alloc wc (.cells #[.bool t2, .slice B2 m2 d2, .slice B2' m2' d2'] 65))
  have HF2 := Lib.hid (Box.new wc (.bool t2) (.slice B2 m2 d2) (.slice B2' m2' d2') 65)
  have F2 : Hid (largeB s2 X2 Y2 = false → IsF (wc.alloc (.cells #[.bool t2, .slice B2 m2 d2, .slice B2' m2' d2'] 65)) (.agg #[.bool t2, .slice B2 m2 d2, .slice B2' m2' d2']) (ratOf s2 X2 Y2)) := Lib.hid (fun h => (f2.out rfl).below (below_alloc _ _))
  have F1 : Hid (largeB s1 X1 Y1 = false → IsF (wc.alloc (.cells #[.bool t2, .slice B2 m2 d2, .slice B2' m2' d2'] 65)) (.agg #[.bool t1, .slice B1 m1 d1, .slice B1' m1' d1']) (ratOf s1 X1 Y1)) := Lib.hid (fun h => (F1.out h).below bd)
  have hsz2 : wa.heap.size + 1 ≤ wc.heap.size := by have := bc.size; have := HS1.out; omega
  replace HF1 := Lib.hid (HF1.out.below bd)
  replace HT := Lib.hid (HT.out.below bd)
  have BM := Lib.hid (below_step BM.out BM.out.size bd)
  have HSZ2 := Lib.hid hsz2
  obtain ⟨w2, hw2⟩ : ∃ w2, wc.alloc (.cells #[.bool t2, .slice B2 m2 d2, .slice B2' m2' d2'] 65) = w2 := ⟨_, rfl⟩
  obtain ⟨gf, hgf⟩ : ∃ g, wa.heap.size = g := ⟨_, rfl⟩
  obtain ⟨gg, hgg⟩ : ∃ g, wc.heap.size = g := ⟨_, rfl⟩
  clear y1 y2 y3 bc bd f2 HS1 hsz2 HX HY H1 H2
  go_upto_region 3 with (fail)
  rw [hw2] at HF1 HF2 HT BM F1 F2
  try rw [hw2]
  rw [hgf] at HF1 HSZ HSZ2
  rw [hgg] at HF2 HSZ2
  try rw [hgf]
  try rw [hgg]
  clear hw2 hgf hgg
  have F1 := Lib.hid (F1.out HL1.out)
  have F2 := Lib.hid (F2.out HL2.out)
  rw [HA.out] at F1
  rw [HB.out] at F2
  obtain ⟨x1, x2, x3, _⟩ := HF1.out.cells
  obtain ⟨y1, y2, y3, _⟩ := HF2.out.cells
  go_wp2_with fail
  refine (fCmp a b _ _ _ F1.out F2.out (fit_Wq FA.out (by omega)) (fit_Wq FB.out (by omega))).mono ?_
  rw [HC.out]
  rintro e we ⟨rfl, be⟩
  have BM := Lib.hid (below_step BM.out BM.out.size be)
  clear be
  go_wp2_with fail
  refine bodyPost_ret (v := .tuple #[.int .i64 c, .int .i64 0]) (by simp [results, Tryd.results32, go_sem]) rfl ⟨rfl, BM.out⟩
/-- what Compare returns -/
theorem nCompare (s1 : Bool) (X1 Y1 : Nat) (s2 : Bool) (X2 Y2 : Nat) (w : World) (v1 v2 : Value) (h1 : RawV w v1 s1 X1 Y1) (h2 : RawV w v2 s2 X2 Y2) (hT : Tab w) (c k : Int) (hc : (if (largeB s1 X1 Y1 || largeB s2 X2 Y2) = true then 0 else cmpQ (ratOf s1 X1 Y1) (ratOf s2 X2 Y2)) = c) (hk : (if (largeB s1 X1 Y1 || largeB s2 X2 Y2) = true then 1 else 0) = k) :
    Calls Tryd.prog 32 #[v1, v2] w fun e w' => e = .returned (.tuple #[.int .i64 c, .int .i64 k]) ∧ Below w.heap.size w w' := by
  subst hc hk
  cases e1 : largeB s1 X1 Y1 <;> cases e2 : largeB s2 X2 Y2
  · exact nCompare_fit s1 X1 Y1 s2 X2 Y2 _ rfl w v1 v2 h1 h2 hT _ _ rfl rfl e1 e2
  · exact nCompare_false_true s1 X1 Y1 s2 X2 Y2 w v1 v2 h1 h2 hT _ _ rfl rfl e1 e2
  · exact nCompare_true_false s1 X1 Y1 s2 X2 Y2 w v1 v2 h1 h2 hT _ _ rfl rfl e1 e2
  · exact nCompare_true_true s1 X1 Y1 s2 X2 Y2 w v1 v2 h1 h2 hT _ _ rfl rfl e1 e2
end Go.Proofs.YtfmhplcpejmkhabDoor

namespace Go.Proofs.YtfmhplcpejmkhabDoor
open Go.RowKit Dig
set_option linter.unusedVariables false
set_option linter.unusedSimpArgs false
def valO : Out → Rat
  | .ok q => q
  | .err _ => 0
theorem fit_zero : fitQ 0 := by
  refine ⟨?_, ?_⟩
  · exact Nat.le_trans ((dig_length_le B32_two _ 2).2 (by unfold B32; decide)) (by omega : 2 ≤ 64)
  · exact Nat.le_trans ((dig_length_le B32_two _ 2).2 (by unfold B32; decide)) (by omega : 2 ≤ 64)
theorem OutIs.rawV {w : World} {o : Out} {u : Value} {k : Int} (h : OutIs w o u k) : RawV w u (ng (valO o)) (valO o).num.natAbs (dwv (valO o).den) := by
  cases o with
  | ok q => exact h.2.1.raw h.2.2
  | err j =>
    obtain ⟨_, e, _, _⟩ := h
    rw [e]
    exact ⟨none, 0, [], none, 0, [], rfl, Rd.nil _ _ _ (by omega), Rd.nil _ _ _ (by omega), (fun x hx => by cases hx), (fun x hx => by cases hx), rfl, rfl, by simp, by simp⟩
theorem OutIs.fit {w : World} {o : Out} {u : Value} {k : Int} (h : OutIs w o u k) : fitQ (valO o) := by
  cases o with
  | ok q => exact h.2.2
  | err j => exact fit_zero
theorem give_cases (q : Rat) : (give q = .ok q ∧ fitQ q) ∨ give q = .err 1 := by
  unfold give
  by_cases h : fitQ q
  · exact Or.inl ⟨if_pos h, h⟩
  · exact Or.inr (if_neg h)
end Go.Proofs.YtfmhplcpejmkhabDoor

namespace Go.Proofs.YtfmhplcpejmkhabDoor
open Go.RowKit Dig
set_option linter.unusedVariables false
set_option linter.unusedSimpArgs false
/-- the slice of n words is the number a -/
def NatAt (w : World) (A : Option Addr) (n c a : Nat) : Prop := (W a).length = n ∧ Rd w A c (W a)
theorem NatAt.below {w w' : World} {A : Option Addr} {n c a : Nat} (h : NatAt w A n c a) (hb : Below w.heap.size w w') : NatAt w' A n c a := ⟨h.1, h.2.below hb⟩
theorem NatAt.grown {w w' : World} {A : Option Addr} {n c a g : Nat} {x y z : Value} {t : TypeId} (h : NatAt w A n c a) (hb : Box w g x y z t) (hx : NI x) (hy : NI y) (hz : NI z) (hg : w.grownBy w' (some g)) : NatAt w' A n c a := ⟨h.1, h.2.grown_box hb hx hy hz hg⟩
theorem NatAt.of {w : World} {A : Option Addr} {c a : Nat} (h : Rd w A c (W a)) : NatAt w A (W a).length c a := ⟨rfl, h⟩
theorem IsF.at_ {w : World} {t : Bool} {A B : Option Addr} {n c m d : Nat} {q : Rat} (h : IsF w (.agg #[.bool t, .slice A n c, .slice B m d]) q) : t = ng q ∧ NatAt w A n c q.num.natAbs ∧ NatAt w B m d q.den := by
  obtain ⟨A1, c1, A2, c2, e, h1, h2⟩ := h
  simp only [Value.agg.injEq, Array.mk.injEq, List.cons.injEq, Value.bool.injEq, Value.slice.injEq, and_true] at e
  obtain ⟨rfl, ⟨rfl, rfl, rfl⟩, rfl, rfl, rfl⟩ := e
  exact ⟨rfl, ⟨rfl, h1⟩, rfl, h2⟩
theorem IsF.mk_at {w : World} {t : Bool} {A B : Option Addr} {n c m d : Nat} {q : Rat} (h0 : t = ng q) (h1 : NatAt w A n c q.num.natAbs) (h2 : NatAt w B m d q.den) : IsF w (.agg #[.bool t, .slice A n c, .slice B m d]) q := by
  obtain ⟨rfl, r1⟩ := h1
  obtain ⟨rfl, r2⟩ := h2
  subst h0
  exact ⟨_, _, _, _, rfl, r1, r2⟩
theorem GrQ.zero (w : World) : GrQ w noRat 0 := by
  refine ⟨none, 0, none, 0, ?_, ?_, ?_⟩
  · rw [show ((0 : Rat).num.natAbs) = 0 from rfl, show ((0 : Rat).den) = 1 from rfl, W_zero]; rfl
  · rw [show ((0 : Rat).num.natAbs) = 0 from rfl, W_zero]; exact Rd.nil _ _ _ (by omega)
  · exact Rd.nil _ _ _ (by omega)
theorem OutIs.zero (w : World) : OutIs w (.ok 0) noRat 0 := ⟨rfl, GrQ.zero w, fit_zero⟩
theorem aRoot (a k : Nat) (w : World) (A : Option Addr) (n c : Nat) (h : NatAt w A n c a) (hs : (W a).length ≤ 2000) (h2 : 2 ≤ k) (h8 : k ≤ 12) :
    Calls Tryd.prog 73 #[.slice A n c, .int .i64 k] w fun e w' => ∃ A' n' c', e = .returned (.tuple #[.slice A' n' c', .bool (decide (irt k a ^ k = a))]) ∧ Hid (NatAt w' A' n' c' (irt k a)) ∧ Below w.heap.size w w' := by
  obtain ⟨m, rfl⟩ : ∃ m, k = m + 2 := ⟨k - 2, by omega⟩
  obtain ⟨rfl, hr⟩ := h
  refine (wRoot a m w A c hr hs (by omega)).mono ?_
  rintro e w' ⟨B, d, rfl, hB, hb⟩
  exact ⟨_, _, _, rfl, NatAt.of hB, hb⟩
theorem aShl (a k : Nat) (w : World) (A : Option Addr) (n c : Nat) (h : NatAt w A n c a) (hs : (W a).length ≤ 500000) (hk : k ≤ 1000000) :
    Calls Tryd.prog 108 #[.slice A n c, .int .i64 k] w fun e w' => ∃ A' n' c', e = .returned (.slice A' n' c') ∧ Hid (NatAt w' A' n' c' (a * 2 ^ k)) ∧ Below w.heap.size w w' := by
  obtain ⟨rfl, hr⟩ := h
  refine (wShl a k w A c hr (by omega) (by omega)).mono ?_
  rintro e w' ⟨B, d, rfl, hB, hb⟩
  exact ⟨_, _, _, rfl, NatAt.of hB, hb⟩
theorem aDiv (a b : Nat) (w : World) (A A' : Option Addr) (n c n' c' : Nat) (h : NatAt w A n c a) (h' : NatAt w A' n' c' b) (hs : (W a).length ≤ 1000000) (hb : 0 < b) :
    Calls Tryd.prog 109 #[.slice A n c, .slice A' n' c'] w fun e w' => ∃ B x y B' x' y', e = .returned (.tuple #[.slice B x y, .slice B' x' y']) ∧ Hid (NatAt w' B x y (a / b)) ∧ Hid (NatAt w' B' x' y' (a % b)) ∧ Below w.heap.size w w' := by
  obtain ⟨rfl, hr⟩ := h
  obtain ⟨rfl, hr'⟩ := h'
  refine (wDiv a b w A A' c c' hr hr' hs hb).mono ?_
  rintro e w' ⟨B, d, B', d', rfl, hB, hB', hbl⟩
  exact ⟨_, _, _, _, _, _, rfl, NatAt.of hB, NatAt.of hB', hbl⟩
theorem aAdd (a b : Nat) (w : World) (A A' : Option Addr) (n c n' c' : Nat) (h : NatAt w A n c a) (h' : NatAt w A' n' c' b) (hs : (W a).length ≤ 500000) (hs' : (W b).length ≤ 500000) :
    Calls Tryd.prog 111 #[.slice A n c, .slice A' n' c'] w fun e w' => ∃ B x y, e = .returned (.slice B x y) ∧ Hid (NatAt w' B x y (a + b)) ∧ Below w.heap.size w w' := by
  obtain ⟨rfl, hr⟩ := h
  obtain ⟨rfl, hr'⟩ := h'
  refine (wAdd a b w A A' c c' hr hr' (by omega) (by omega)).mono ?_
  rintro e w' ⟨B, d, rfl, hB, hbl⟩
  exact ⟨_, _, _, rfl, NatAt.of hB, hbl⟩
theorem aSmall1 (w : World) : Calls Tryd.prog 94 #[.int .u64 1] w fun e w' => ∃ B x y, e = .returned (.slice B x y) ∧ Hid (NatAt w' B x y 1) ∧ Below w.heap.size w w' := by
  refine (wSmall1 w).mono ?_
  rintro e w' ⟨B, d, rfl, hB, hbl⟩
  exact ⟨_, _, _, rfl, NatAt.of hB, hbl⟩
theorem W_nil_iff (a : Nat) : W a = [] ↔ a = 0 := dig_ne_nil B32_two
theorem aZero (a : Nat) (w : World) (A : Option Addr) (n c : Nat) (h : NatAt w A n c a) :
    Calls Tryd.prog 54 #[.slice A n c] w fun e w' => e = .returned (.bool (decide (a = 0))) ∧ w = w' := by
  obtain ⟨rfl, hr⟩ := h
  refine (wZero w A (W a) c).mono ?_
  rintro e w' ⟨rfl, rfl⟩
  refine ⟨ret_bool ?_, rfl⟩
  congr 1
  exact propext (W_nil_iff a)
theorem aReduce (s : Bool) (a d : Nat) (w : World) (A A' : Option Addr) (n c n' c' : Nat) (h : NatAt w A n c a) (h' : NatAt w A' n' c' d) (hd : d ≠ 0) (hs : (W a).length ≤ 500000) (hs' : (W d).length ≤ 500000) (hT : Tab w) (q : Rat) (hq : mkRat (sg s a) d = q) :
    Calls Tryd.prog 92 #[.bool s, .slice A n c, .slice A' n' c'] w fun e w' => ∃ t B1 m1 e1 B2 m2 e2, e = .returned (.agg #[.bool t, .slice B1 m1 e1, .slice B2 m2 e2]) ∧ Hid (IsF w' (.agg #[.bool t, .slice B1 m1 e1, .slice B2 m2 e2]) q) ∧ Below w.heap.size w w' := by
  obtain ⟨rfl, hr⟩ := h
  obtain ⟨rfl, hr'⟩ := h'
  subst hq
  exact Calls.partsF ((wReduce s a d w A A' c c' hr hr' hd (by omega) (by omega) hT).mono fun e w' hh => hh)
end Go.Proofs.YtfmhplcpejmkhabDoor

namespace Go.Proofs.YtfmhplcpejmkhabDoor
open Go.RowKit Dig
set_option linter.unusedVariables false
set_option linter.unusedSimpArgs false
theorem R_pow_len (a e : Nat) : (R (a ^ e)).length ≤ (R a).length * e + 1 := by
  rw [show R (a ^ e) = dig B16 (a ^ e) from rfl, dig_length_le B16_two]
  have h0 : a < B16 ^ (R a).length := (dig_length_le B16_two a (R a).length).1 (Nat.le_refl _)
  have h1 : a ^ e ≤ (B16 ^ (R a).length) ^ e := Nat.pow_le_pow_left (Nat.le_of_lt h0) e
  rw [← Nat.pow_mul] at h1
  exact Nat.lt_of_le_of_lt h1 (Nat.pow_lt_pow_right B16_two (Nat.lt_succ_self _))
set_option maxHeartbeats 1000000 in
theorem rNatPow (a n : Nat) (w : World) (A : Option Addr) (c : Nat) (h : Rd w A c (R a)) (hn : n ≤ 1000000) (hs : (R a).length * n ≤ 500000) (l0 : (R a).length ≤ 500000) :
    Calls Tryd.prog 101 #[.slice A (R a).length c, .int .i64 n] w fun e w' => ∃ A c, e = .returned (.slice A (R (a ^ n)).length c) ∧ Rd w' A c (R (a ^ n)) ∧ Below w.heap.size w w' := by
  have H0 := Lib.hid h
  have HS := Lib.hid hs
  clear h hs
  go_enter Tryd.func101, Tryd.ntmps101
  go_wp2_with fail
  refine (rNatOf1 _).mono ?_
  rintro e w1 ⟨A1, c1, rfl, hr1, hb1⟩
  have R1 := Lib.hid hr1
  have HB1 := Lib.hid hb1
  have R0 := Lib.hid (H0.out.below hb1)
  clear hr1 hb1
  go_wp2
  go_loopg [5, 8] n (fun k v5 v8 wr => ∃ (i : Nat) (A5 : Option Addr) (c5 : Nat), v5 = .slice A5 (R (a ^ i)).length c5 ∧ v8 = .int .i64 i ∧ i + k = n ∧ Hid (Rd wr A5 c5 (R (a ^ i))) ∧ Hid (Rd wr A c (R a)) ∧ Hid (Below w.heap.size w wr))
  case atStart => exact ⟨0, _, _, by rw [Nat.pow_zero], rfl, by omega, by rw [Nat.pow_zero]; exact R1, R0, HB1⟩
  case round =>
    obtain ⟨i, A5, c5, rfl, rfl, hk, R5, RA, hb⟩ := hrel
    by_cases hi : i < n
    · have hlen : (R (a ^ i)).length ≤ 500001 := by
        have h1 := R_pow_len a i
        have h2 : (R a).length * i ≤ (R a).length * n := Nat.mul_le_mul_left _ (by omega)
        have := HS.out
        omega
      have hd1 : decide ((i : Int) < (n : Int)) = true := decide_eq_true (by omega)
      go_wp2_with fail
      refine (rMul (a ^ i) a _ _ _ _ _ R5.out RA.out (by omega) (by omega)).mono ?_
      rw [← Nat.pow_succ]
      rintro e2 w2 ⟨A2, c2, rfl, hr2, hb2⟩
      have R2 := Lib.hid hr2
      have RA2 := Lib.hid (RA.out.below hb2)
      have HB := Lib.hid (below_step hb.out hb.out.size hb2)
      clear hr2 hb2
      go_wp2
      go_roundg (n - i - 1)
      case measure => omega
      case rel => exact ⟨i + 1, _, _, rfl, by simp, by omega, R2, RA2, HB⟩
    · have hin : i = n := by omega
      subst hin
      have hd1 : decide ((i : Int) < (i : Int)) = false := decide_eq_false (by omega)
      go_wp2
      go_ret
      exact ⟨_, _, rfl, R5.out, hb.out⟩
set_option maxHeartbeats 2000000 in
set_option maxRecDepth 100000 in
theorem rPower_false (n1 d1 : Nat) (p : Nat) (w : World) (A1 A2 : Option Addr) (c1 c2 : Nat) (h1 : Rd w A1 c1 (R n1)) (h2 : Rd w A2 c2 (R d1)) (l1 : (R n1).length * p ≤ 500000) (l2 : (R d1).length * p ≤ 500000) (m1 : (R n1).length ≤ 500000) (m2 : (R d1).length ≤ 500000) (lp : p ≤ 1000) (hd : d1 ≠ 0) :
    Calls Tryd.prog 59 #[.agg #[.bool false, .slice A1 (R n1).length c1, .slice A2 (R d1).length c2], .int .i64 p] w fun e w' => ∃ u, e = .returned u ∧ Qr w' u (false && decide (p % 2 = 1)) (n1 ^ p) (d1 ^ p) ∧ Below w.heap.size w w' := by
  have T0 := Lib.hid (GvR.start (s1 := false) (t := 39) h1 h2)
  have L1 := Lib.hid l1
  have L2 := Lib.hid l2
  have Z := Lib.hid hd
  have hm := tmod_two p
  have hm2 : IntKind.i64.wrap ((p % 2 : Nat) : Int) = ((p % 2 : Nat) : Int) := wraps_i64 _ (by omega) (by omega)
  have hq := beq_one p
  have hn0 : decide ((p : Int) < 0) = false := decide_eq_false (by omega)
  clear h1 h2 l1 l2 hd
  go_enter Tryd.func59, Tryd.ntmps59
  go_wp2_with fail
  refine wp_region_noPanic ?_
  refine wp_region_held_drew (S := (fun W' => (World.cell? W' ⟨(w.heap.size), 0, none⟩ = some (.bool false) ∧ World.cell? W' ⟨(w.heap.size), 1, none⟩ = some (.slice A1 (R n1).length c1) ∧ World.cell? W' ⟨(w.heap.size), 2, none⟩ = some (.slice A2 (R d1).length c2) ∧ Hid (GvR w W' (w.heap.size) (w.heap.size + 1) 39 false A1 c1 n1 A2 c2 d1)))) (by kernel_rfl) T0.out.drew.cells (fun hHeld => ?_)
  refine wpAnyH_take (i := 0) (v := ?v0) rfl (by kernel_rfl) (by kernel_rfl) (by kernel_rfl) (fun _ _ _ h => h) (Or.inl ⟨by rfl, ?hy0⟩) (by assumption) ?rest0
  case hy0 => (intro w' hSw; (try dsimp only at hSw); go_simp; (try with_reducible rfl))
  case rest0 =>
  (try simp only [Act.put, List.setIfInBounds_toArray, List.set_cons_zero, List.set_cons_succ])
  refine wpAnyH_take (i := 1) (v := ?v1) rfl (by kernel_rfl) (by kernel_rfl) (by kernel_rfl) (fun _ _ _ h => h) (Or.inl ⟨by rfl, ?hy1⟩) (by assumption) ?rest1
  case hy1 => (intro w' hSw; (try dsimp only at hSw); go_simp; (try with_reducible rfl))
  case rest1 =>
  (try simp only [Act.put, List.setIfInBounds_toArray, List.set_cons_zero, List.set_cons_succ])
  refine wpAnyH_take (i := 2) (v := ?v2) rfl (by kernel_rfl) (by kernel_rfl) (by kernel_rfl) (fun _ _ _ h => h) (Or.inl ⟨by rfl, ?hy2⟩) (by assumption) ?rest2
  case hy2 => (intro w' hSw; (try dsimp only at hSw); go_simp; (try with_reducible rfl))
  case rest2 =>
  (try simp only [Act.put, List.setIfInBounds_toArray, List.set_cons_zero, List.set_cons_succ])
  refine wpAnyH_take (i := 3) rfl (by kernel_rfl) (by kernel_rfl) (by kernel_rfl) (fun _ _ _ h => h) (Or.inr ⟨by rfl, rfl⟩) (by assumption) ?_
  (try simp only [Act.put, List.setIfInBounds_toArray, List.set_cons_zero, List.set_cons_succ])
  refine wpAnyH_take (i := 4) rfl (by kernel_rfl) (by kernel_rfl) (by kernel_rfl) (fun _ _ _ h => h) (Or.inr ⟨by rfl, rfl⟩) (by assumption) ?_
  (try simp only [Act.put, List.setIfInBounds_toArray, List.set_cons_zero, List.set_cons_succ])
  refine wpAnyH_take (i := 5) rfl (by kernel_rfl) (by kernel_rfl) (by kernel_rfl) (fun _ _ _ h => h) (Or.inr ⟨by rfl, rfl⟩) (by assumption) ?_
  (try simp only [Act.put, List.setIfInBounds_toArray, List.set_cons_zero, List.set_cons_succ])
  refine wpAnyH_take (i := 6) (v := ?v6) rfl (by kernel_rfl) (by kernel_rfl) (by kernel_rfl) (fun _ _ _ h => h) (Or.inl ⟨by rfl, ?hy6⟩) (by assumption) ?rest6
  case hy6 => (intro w' hSw; (try dsimp only at hSw); go_simp; (try with_reducible rfl))
  case rest6 =>
  (try simp only [Act.put, List.setIfInBounds_toArray, List.set_cons_zero, List.set_cons_succ])
  refine wpAnyH_take (i := 7) (v := ?v7) rfl (by kernel_rfl) (by kernel_rfl) (by kernel_rfl) (fun _ _ _ h => h) (Or.inl ⟨by rfl, ?hy7⟩) (by assumption) ?rest7
  case hy7 => (intro w' hSw; (try dsimp only at hSw); go_simp; (try with_reducible rfl))
  case rest7 =>
  (try simp only [Act.put, List.setIfInBounds_toArray, List.set_cons_zero, List.set_cons_succ])
  refine wpAnyH_take (i := 8) (v := ?v8) rfl (by kernel_rfl) (by kernel_rfl) (by kernel_rfl) (fun _ _ _ h => h) (Or.inl ⟨by rfl, ?hy8⟩) (by assumption) ?rest8
  case hy8 => (intro w' hSw; (try dsimp only at hSw); go_simp; (try with_reducible rfl))
  case rest8 =>
  (try simp only [Act.put, List.setIfInBounds_toArray, List.set_cons_zero, List.set_cons_succ])
  refine wpAnyH_take (i := 9) (v := ?v9) rfl (by kernel_rfl) (by kernel_rfl) (by kernel_rfl) (fun _ _ _ h => h) (Or.inl ⟨by rfl, ?hy9⟩) (by assumption) ?rest9
  case hy9 => (intro w' hSw; (try dsimp only at hSw); go_simp; (try with_reducible rfl))
  case rest9 =>
  (try simp only [Act.put, List.setIfInBounds_toArray, List.set_cons_zero, List.set_cons_succ])
  refine wpAnyH_take (i := 11) (v := ?v11) rfl (by kernel_rfl) (by kernel_rfl) (by kernel_rfl) (fun _ _ _ h => h) (Or.inl ⟨by rfl, ?hy11⟩) (by assumption) ?rest11
  case hy11 => (intro w' hSw; (try dsimp only at hSw); go_simp; (try with_reducible rfl))
  case rest11 =>
  (try simp only [Act.put, List.setIfInBounds_toArray, List.set_cons_zero, List.set_cons_succ])
  refine wpAnyH_take (i := 13) (v := ?v13) rfl (by kernel_rfl) (by kernel_rfl) (by kernel_rfl) (fun _ _ _ h => h) (Or.inl ⟨by rfl, ?hy13⟩) (by assumption) ?rest13
  case hy13 => (intro w' hSw; (try dsimp only at hSw); go_simp; (try with_reducible rfl))
  case rest13 =>
  (try simp only [Act.put, List.setIfInBounds_toArray, List.set_cons_zero, List.set_cons_succ])
  refine wpAnyH_ready (rs := [10]) (by kernel_rfl) (by simp) ?_
  refine AllReadyH.cons rfl (fun K hK => ?_) AllReadyH.nil
  go_simp
  go_at_call 101
  refine (rNatPow n1 p _ _ _ (GvR.of hHeld).f.r1 (by omega) L1.out m1).mono ?_
  rintro e wa ⟨Aa, ca, rfl, ra, ba⟩
  refine hK.out _ _ ?_ (fun hHeld => ?_)
  · exact GvR.next (by assumption) (by assumption)
  clear hK K
  (try simp only [Act.put, List.setIfInBounds_toArray, List.set_cons_zero, List.set_cons_succ])
  refine wpAnyH_ready (rs := [12]) (by kernel_rfl) (by simp) ?_
  refine AllReadyH.cons rfl (fun K hK => ?_) AllReadyH.nil
  go_simp
  go_at_call 85
  refine (rDen _ _ _ _ _ _ _ _ (GvR.of hHeld).f.r2 Z.out).mono ?_
  rintro e wc ⟨Ac, cc, rfl, rc, bc⟩
  refine hK.out _ _ ?_ (fun hHeld => ?_)
  · exact GvR.next (by assumption) (by assumption)
  clear hK K
  (try simp only [Act.put, List.setIfInBounds_toArray, List.set_cons_zero, List.set_cons_succ])
  refine wpAnyH_ready (rs := [14]) (by kernel_rfl) (by simp) ?_
  refine AllReadyH.cons rfl (fun K hK => ?_) AllReadyH.nil
  go_simp
  go_at_call 101
  refine (rNatPow d1 p _ _ _ rc (by omega) L2.out m2).mono ?_
  rintro e wb ⟨Ab, cb, rfl, rb, bb⟩
  have hh := (GvR.of hHeld).below bb
  obtain ⟨x, y, z, hx, hy, hz, k1, k2, k3⟩ := hh.res.cells
  refine hK.out _ _ ?_ (fun hHeld => ?_)
  · exact GvR.next (by assumption) (by assumption)
  clear hK K
  (try simp only [Act.put, List.setIfInBounds_toArray, List.set_cons_zero, List.set_cons_succ])
  refine wpAnyH_take (i := 15) (v := ?v15) rfl (by kernel_rfl) (by kernel_rfl) (by kernel_rfl) (fun _ _ _ h => h) (Or.inl ⟨by rfl, ?hy15⟩) (by assumption) ?rest15
  case hy15 => (intro w' hSw; (try dsimp only at hSw); go_simp; (try with_reducible rfl))
  case rest15 =>
  (try simp only [Act.put, List.setIfInBounds_toArray, List.set_cons_zero, List.set_cons_succ])
  refine wpAnyH_ready (rs := [16]) (by kernel_rfl) (by simp) ?_
  refine AllReadyH.cons rfl (fun K hK => ?_) AllReadyH.nil
  go_simp
  refine hK.out _ _ ?_ (fun hHeld => ?_)
  · exact GvR.nextS (by assumption)
  clear hK K
  (try simp only [Act.put, List.setIfInBounds_toArray, List.set_cons_zero, List.set_cons_succ])
  refine wpAnyH_done (by kernel_rfl) ?_ _
  refine NoPanic.normal ?_
  go_wp2
  obtain ⟨q0, q1, q2, r1, r2, hb⟩ := hh.finish (s := false) ((ra.below bc).below bb) rb
  refine bodyPost_ret (v := .agg #[.bool false, .slice Aa (R (n1 ^ p)).length ca, .slice Ab (R (d1 ^ p)).length cb]) (by simp [results, Tryd.results59, go_sem, q0, q1, q2]) rfl ?_
  exact ⟨_, rfl, ⟨_, _, _, _, rfl, r1, r2⟩, hb⟩
set_option maxHeartbeats 2000000 in
set_option maxRecDepth 100000 in
theorem rPower_true (n1 d1 : Nat) (p : Nat) (w : World) (A1 A2 : Option Addr) (c1 c2 : Nat) (h1 : Rd w A1 c1 (R n1)) (h2 : Rd w A2 c2 (R d1)) (l1 : (R n1).length * p ≤ 500000) (l2 : (R d1).length * p ≤ 500000) (m1 : (R n1).length ≤ 500000) (m2 : (R d1).length ≤ 500000) (lp : p ≤ 1000) (hd : d1 ≠ 0) :
    Calls Tryd.prog 59 #[.agg #[.bool true, .slice A1 (R n1).length c1, .slice A2 (R d1).length c2], .int .i64 p] w fun e w' => ∃ u, e = .returned u ∧ Qr w' u (true && decide (p % 2 = 1)) (n1 ^ p) (d1 ^ p) ∧ Below w.heap.size w w' := by
  have T0 := Lib.hid (GvR.start (s1 := true) (t := 39) h1 h2)
  have L1 := Lib.hid l1
  have L2 := Lib.hid l2
  have Z := Lib.hid hd
  have hm := tmod_two p
  have hm2 : IntKind.i64.wrap ((p % 2 : Nat) : Int) = ((p % 2 : Nat) : Int) := wraps_i64 _ (by omega) (by omega)
  have hq := beq_one p
  have hn0 : decide ((p : Int) < 0) = false := decide_eq_false (by omega)
  clear h1 h2 l1 l2 hd
  go_enter Tryd.func59, Tryd.ntmps59
  go_wp2_with fail
  obtain ⟨bo, hbo⟩ : ∃ b, decide (p % 2 = 1) = b := ⟨_, rfl⟩
  go_region_held3 (fun W' => (World.cell? W' ⟨(w.heap.size), 0, none⟩ = some (.bool true) ∧ World.cell? W' ⟨(w.heap.size), 1, none⟩ = some (.slice A1 (R n1).length c1) ∧ World.cell? W' ⟨(w.heap.size), 2, none⟩ = some (.slice A2 (R d1).length c2) ∧ Hid (GvR w W' (w.heap.size) (w.heap.size + 1) 39 true A1 c1 n1 A2 c2 d1)))
    (with_reducible (first | assumption | exact T0.out.drew.cells | exact GvR.next (by assumption) (by assumption) | exact GvR.nextS (by assumption)))
    (first
       | (go_at_call_of 101 (Value.slice A1 (R n1).length c1)
          refine (rNatPow n1 p _ _ _ (GvR.of (by assumption)).f.r1 (by omega) L1.out m1).mono ?_
          rintro e wa ⟨Aa, ca, rfl, ra, ba⟩)
       | (go_at_call 85
          refine (rDen _ _ _ _ _ _ _ _ (GvR.of (by assumption)).f.r2 Z.out).mono ?_
          rintro e wc ⟨Ac, cc, rfl, rc, bc⟩)
       | (go_at_call 101
          refine (rNatPow d1 p _ _ _ rc (by omega) L2.out m2).mono ?_
          rintro e wb ⟨Ab, cb, rfl, rb, bb⟩
          have hh := (GvR.of (by assumption)).below bb
          obtain ⟨x, y, z, hx, hy, hz, k1, k2, k3⟩ := hh.res.cells))
  go_wp2
  obtain ⟨q0, q1, q2, r1, r2, hb⟩ := hh.finish (s := ((p : Int) % 2 == 1)) ((ra.below bc).below bb) rb
  refine bodyPost_ret (v := .agg #[.bool ((p : Int) % 2 == 1), .slice Aa (R (n1 ^ p)).length ca, .slice Ab (R (d1 ^ p)).length cb]) (by simp [results, Tryd.results59, go_sem, q0, q1, q2]) rfl ?_
  exact ⟨_, rfl, ⟨_, _, _, _, by rw [Bool.true_and, ← beq_one]; rfl, r1, r2⟩, hb⟩
end Go.Proofs.YtfmhplcpejmkhabDoor

namespace Go.Proofs.YtfmhplcpejmkhabDoor
open Go.RowKit Dig
set_option linter.unusedVariables false
set_option linter.unusedSimpArgs false
def powN (q : Rat) (p : Nat) : Rat := mkRat (sg (ng q && decide (p % 2 = 1)) (q.num.natAbs ^ p)) (q.den ^ p)
theorem powN_facts (q : Rat) (p : Nat) : ng (powN q p) = (ng q && decide (p % 2 = 1)) ∧ (powN q p).num.natAbs = q.num.natAbs ^ p ∧ (powN q p).den = q.den ^ p := by
  have hd : q.den ^ p ≠ 0 := Nat.ne_of_gt (Nat.pow_pos (Nat.pos_of_ne_zero q.den_nz))
  have hc : Nat.gcd (q.num.natAbs ^ p) (q.den ^ p) = 1 := Nat.Coprime.pow p p q.reduced
  refine ⟨?_, ?_, ?_⟩
  · by_cases hn : q.num.natAbs ^ p = 0
    · have h0 : q.num.natAbs = 0 := by
        rcases Nat.eq_zero_or_pos q.num.natAbs with h | h
        · exact h
        · exact absurd hn (Nat.ne_of_gt (Nat.pow_pos h))
      have hg : ng q = false := by
        cases h : ng q
        · rfl
        · exact absurd h0 (ng_nz h)
      unfold powN
      rw [hn, mk_zero, hg]
      rfl
    · unfold powN; rw [mk_sign _ hd hn]
  · unfold powN; rw [mk_abs _ _ hd, hc, Nat.div_one]
  · unfold powN; rw [mk_den _ _ hd, hc, Nat.div_one]
def powZ (q : Rat) (n : Int) : Rat := if n < 0 then powN q⁻¹ n.natAbs else powN q n.natAbs
/-- what Pow returns -/
def powOut (L : Bool) (n : Int) (q : Rat) : Out := if L = true then .err 1 else if n < -32 ∨ 32 < n then .err 2 else if n < 0 ∧ q = 0 then .err 10 else give (powZ q n)
/-- a rational number of the reference in a variable, and a variable for a result -/
structure XP (w M : World) (g1 g3 : Nat) (s1 : Bool) (A1 : Option Addr) (n1 c1 : Nat) (B1 : Option Addr) (m1 d1 : Nat) (q : Rat) : Prop where
  f : Box M g1 (.bool s1) (.slice A1 n1 c1) (.slice B1 m1 d1) 39
  res : Res M g3 39
  r1 : IsQ M (.agg #[.bool s1, .slice A1 n1 c1, .slice B1 m1 d1]) q
  bel : Below w.heap.size w M
  n3 : w.heap.size ≤ g3
  ne : g1 ≠ g3
section
variable {w M M' : World} {g1 g3 : Nat} {s1 : Bool} {A1 : Option Addr} {n1 c1 : Nat} {B1 : Option Addr} {m1 d1 : Nat} {q : Rat}
theorem XP.below (h : XP w M g1 g3 s1 A1 n1 c1 B1 m1 d1 q) (hb : Below M.heap.size M M') : XP w M' g1 g3 s1 A1 n1 c1 B1 m1 d1 q :=
  ⟨h.f.below hb, h.res.below hb, h.r1.below hb, below_step h.bel h.bel.size hb, h.n3, h.ne⟩
theorem XP.drew (h : XP w M g1 g3 s1 A1 n1 c1 B1 m1 d1 q) : XP w M.drew g1 g3 s1 A1 n1 c1 B1 m1 d1 q := h.below (Below.refl _ _).drew
theorem XP.cells (h : XP w M g1 g3 s1 A1 n1 c1 B1 m1 d1 q) : (World.cell? M ⟨g1, 0, none⟩ = some (.bool s1) ∧ World.cell? M ⟨g1, 1, none⟩ = some (.slice A1 n1 c1) ∧ World.cell? M ⟨g1, 2, none⟩ = some (.slice B1 m1 d1) ∧ Hid (XP w M g1 g3 s1 A1 n1 c1 B1 m1 d1 q)) := by
  obtain ⟨a1, a2, a3, _, _, _⟩ := h.f.cells
  exact ⟨a1, a2, a3, h⟩
theorem XP.of (h : (World.cell? M ⟨g1, 0, none⟩ = some (.bool s1) ∧ World.cell? M ⟨g1, 1, none⟩ = some (.slice A1 n1 c1) ∧ World.cell? M ⟨g1, 2, none⟩ = some (.slice B1 m1 d1) ∧ Hid (XP w M g1 g3 s1 A1 n1 c1 B1 m1 d1 q))) : XP w M g1 g3 s1 A1 n1 c1 B1 m1 d1 q := h.2.2.2.out
theorem XP.next (h : (World.cell? M ⟨g1, 0, none⟩ = some (.bool s1) ∧ World.cell? M ⟨g1, 1, none⟩ = some (.slice A1 n1 c1) ∧ World.cell? M ⟨g1, 2, none⟩ = some (.slice B1 m1 d1) ∧ Hid (XP w M g1 g3 s1 A1 n1 c1 B1 m1 d1 q))) (hb : Below M.heap.size M M') : (World.cell? M' ⟨g1, 0, none⟩ = some (.bool s1) ∧ World.cell? M' ⟨g1, 1, none⟩ = some (.slice A1 n1 c1) ∧ World.cell? M' ⟨g1, 2, none⟩ = some (.slice B1 m1 d1) ∧ Hid (XP w M' g1 g3 s1 A1 n1 c1 B1 m1 d1 q)) := ((XP.of h).below hb).cells
theorem XP.nextS (h : (World.cell? M ⟨g1, 0, none⟩ = some (.bool s1) ∧ World.cell? M ⟨g1, 1, none⟩ = some (.slice A1 n1 c1) ∧ World.cell? M ⟨g1, 2, none⟩ = some (.slice B1 m1 d1) ∧ Hid (XP w M g1 g3 s1 A1 n1 c1 B1 m1 d1 q))) {a : Bool} {B C : Option Addr} {b b' c c' : Nat} : (World.cell? (((M.setCell ⟨g3, 0, none⟩ (.bool a)).setCell ⟨g3, 1, none⟩ (.slice B b b')).setCell ⟨g3, 2, none⟩ (.slice C c c')) ⟨g1, 0, none⟩ = some (.bool s1) ∧ World.cell? (((M.setCell ⟨g3, 0, none⟩ (.bool a)).setCell ⟨g3, 1, none⟩ (.slice B b b')).setCell ⟨g3, 2, none⟩ (.slice C c c')) ⟨g1, 1, none⟩ = some (.slice A1 n1 c1) ∧ World.cell? (((M.setCell ⟨g3, 0, none⟩ (.bool a)).setCell ⟨g3, 1, none⟩ (.slice B b b')).setCell ⟨g3, 2, none⟩ (.slice C c c')) ⟨g1, 2, none⟩ = some (.slice B1 m1 d1) ∧ Hid (XP w (((M.setCell ⟨g3, 0, none⟩ (.bool a)).setCell ⟨g3, 1, none⟩ (.slice B b b')).setCell ⟨g3, 2, none⟩ (.slice C c c')) g1 g3 s1 A1 n1 c1 B1 m1 d1 q)) := by
  have h := XP.of h
  have hg := grown_set3 M g3 (.bool a) (.slice B b b') (.slice C c c')
  obtain ⟨x, y, z, hx, hy, hz, h4⟩ := h.res
  obtain ⟨E1, e1, E2, e2, e, r1, r2⟩ := h.r1
  exact XP.cells ⟨(hg.block g1 h.f.lt (fun e => h.ne (Option.some.inj e))).trans h.f, h.res.set3 (NI.bool _) (NI.slice _ _ _) (NI.slice _ _ _), ⟨E1, e1, E2, e2, e, r1.grown_box h4 hx hy hz hg, r2.grown_box h4 hx hy hz hg⟩, below_set3 h.bel h.n3 _ _ _, h.n3, h.ne⟩
end
theorem rPowerN (s1 : Bool) (n1 d1 : Nat) (p : Nat) (w : World) (A1 A2 : Option Addr) (c1 c2 : Nat) (h1 : Rd w A1 c1 (R n1)) (h2 : Rd w A2 c2 (R d1)) (l1 : (R n1).length * p ≤ 500000) (l2 : (R d1).length * p ≤ 500000) (m1 : (R n1).length ≤ 500000) (m2 : (R d1).length ≤ 500000) (lp : p ≤ 1000) (hd : d1 ≠ 0) :
    Calls Tryd.prog 59 #[.agg #[.bool s1, .slice A1 (R n1).length c1, .slice A2 (R d1).length c2], .int .i64 p] w fun e w' => ∃ u, e = .returned u ∧ Qr w' u (s1 && decide (p % 2 = 1)) (n1 ^ p) (d1 ^ p) ∧ Below w.heap.size w w' := by
  cases s1
  · exact rPower_false n1 d1 p w A1 A2 c1 c2 h1 h2 l1 l2 m1 m2 lp hd
  · exact rPower_true n1 d1 p w A1 A2 c1 c2 h1 h2 l1 l2 m1 m2 lp hd
theorem qPowerN (a : Rat) (p : Nat) (lp : p ≤ 32) (w : World) (v : Value) (h : IsQ w v a) (k : Rq 10000 a) (q : Rat) (hq : powN a p = q) :
    Calls Tryd.prog 59 #[v, .int .i64 p] w fun e w' => ∃ u, e = .returned u ∧ IsQ w' u q ∧ Below w.heap.size w w' := by
  obtain ⟨A1, c1, A2, c2, rfl, r1, r2⟩ := h
  obtain ⟨f1, f2, f3⟩ := powN_facts a p
  have z1 : (R a.num.natAbs).length * p ≤ 10000 * 32 := Nat.mul_le_mul k.1 lp
  have z2 : (R a.den).length * p ≤ 10000 * 32 := Nat.mul_le_mul k.2 lp
  refine (rPowerN _ _ _ p w _ _ _ _ r1 r2 (by omega) (by omega) (Nat.le_trans k.1 (by omega)) (Nat.le_trans k.2 (by omega)) (by omega) a.den_nz).mono ?_
  rintro e w' ⟨u, rfl, hu, hb⟩
  exact ⟨u, rfl, hu.isQ (by rw [← hq, f1]) (by rw [← hq, f2]) (by rw [← hq, f3]), hb⟩
theorem one_div_inv (a : Rat) : ((1 : Int) : Rat) / a = a⁻¹ := by
  have : ((1 : Int) : Rat) = 1 := rfl
  rw [this, Rat.div_def, Rat.one_mul]
set_option maxHeartbeats 2000000 in
set_option maxRecDepth 100000 in
theorem rPower_neg (p : Nat) (lp : p ≤ 32) (p0 : 0 < p) (s1 : Bool) (A1 : Option Addr) (n1 c1 : Nat) (A2 : Option Addr) (n2 c2 : Nat) (w : World) (a b q : Rat) (h : IsQ w (.agg #[.bool s1, .slice A1 n1 c1, .slice A2 n2 c2]) a) (k : Rq 10000 a) (hz : a ≠ 0) (hb : ((1 : Int) : Rat) / a = b) (kb : Rq 10000 b) (hq : powN b p = q) :
    Calls Tryd.prog 59 #[.agg #[.bool s1, .slice A1 n1 c1, .slice A2 n2 c2], .int .i64 (-(p : Int))] w fun e w' => ∃ t B1 m1 e1 B2 m2 e2, e = .returned (.agg #[.bool t, .slice B1 m1 e1, .slice B2 m2 e2]) ∧ Hid (IsQ w' (.agg #[.bool t, .slice B1 m1 e1, .slice B2 m2 e2]) q) ∧ Below w.heap.size w w' := by
  obtain ⟨M, hM, k1, k2, bM⟩ := start1 w (.bool s1) (.slice A1 n1 c1) (.slice A2 n2 c2) (.bool false) (.slice none 0 0) (.slice none 0 0) 39 39
  have TR : Hid (XP w M w.heap.size (w.heap.size + 1) s1 A1 n1 c1 A2 n2 c2 a) := Lib.hid ⟨k1, ⟨_, _, _, NI.bool _, NI.slice _ _ _, NI.slice _ _ _, k2⟩, h.below bM, bM, by omega, by omega⟩
  have HB := Lib.hid hb
  have HQ := Lib.hid hq
  have HZ := Lib.hid hz
  have K1 := Lib.hid (show Rq 400000 ((1 : Int) : Rat) from ⟨Nat.le_trans ((dig_length_le B16_two _ 4).2 (by unfold B16; decide)) (by omega : 4 ≤ 400000), Nat.le_trans ((dig_length_le B16_two _ 4).2 (by unfold B16; decide)) (by omega : 4 ≤ 400000)⟩)
  have CI := Lib.hid (fun w => rInt 1 (by omega) (by omega) w)
  generalize ((1 : Int) : Rat) = one at *
  have hd2 : decide (-(p : Int) < 0) = true := decide_eq_true (by omega)
  have E3 := Lib.hid (wrap_i64 (p : Int) (by omega) (by omega))
  clear k1 k2 bM h hb hq hz
  go_enter Tryd.func59, Tryd.ntmps59
  go_upto_region 1 with (fail)
  rw [← hM]
  clear hM
  go_wp2_with fail
  go_region_held3 (fun W' => (World.cell? W' ⟨w.heap.size, 0, none⟩ = some (.bool s1) ∧ World.cell? W' ⟨w.heap.size, 1, none⟩ = some (.slice A1 n1 c1) ∧ World.cell? W' ⟨w.heap.size, 2, none⟩ = some (.slice A2 n2 c2) ∧ Hid (XP w W' w.heap.size (w.heap.size + 1) s1 A1 n1 c1 A2 n2 c2 a)))
    (with_reducible (first | assumption | exact TR.out.drew.cells | exact XP.next (by assumption) (by assumption) | exact XP.nextS (by assumption)))
    (first
     | (go_at_call 42
        refine (CI.out _).mono ?_
        rintro e wi ⟨t4, B4, m4, e4, B4', m4', e4', rfl, i4, bi⟩)
     | (go_at_call 100
        refine (Calls.parts (qDiv _ _ _ _ _ i4.out (XP.of (by assumption)).r1 K1.out (k.le (by omega)) HZ.out)).mono ?_
        rw [HB.out]
        rintro e wd ⟨t5, B5, m5, e5, B5', m5', e5', rfl, i5, bd⟩)
     | (go_at_call 59
        rw [E3.out]
        refine (Calls.parts (qPowerN b p lp _ _ i5.out kb q HQ.out)).mono ?_
        rintro e we ⟨t6, B6, m6, e6, B6', m6', e6', rfl, i6, be⟩
        have hh := (XP.of (by assumption)).below be
        obtain ⟨x, y, z, hx, hy, hz, k1, k2, k3⟩ := hh.res.cells))
  obtain ⟨q0, q1, q2, hs, hb⟩ := IsQ.stored i6.out hh.res hh.bel hh.n3
  have Q := Lib.hid (And.intro q0 (And.intro q1 q2))
  have HS := Lib.hid hs
  have HBB := Lib.hid hb
  clear q0 q1 q2 hs hb
  go_wp2
  obtain ⟨q0, q1, q2⟩ := Q.out
  refine bodyPost_ret (v := .agg #[.bool t6, .slice B6 m6 e6, .slice B6' m6' e6']) (by simp [results, Tryd.results59, go_sem, q0, q1, q2]) rfl ?_
  exact ⟨_, _, _, _, _, _, _, rfl, HS, HBB.out⟩
end Go.Proofs.YtfmhplcpejmkhabDoor

namespace Go.Proofs.YtfmhplcpejmkhabDoor
open Go.RowKit Dig
set_option linter.unusedVariables false
set_option linter.unusedSimpArgs false
theorem mk_sub (n m : Int) (d e : Nat) (hd : d ≠ 0) (he : e ≠ 0) : mkRat n d - mkRat m e = mkRat (n * e - m * d) (d * e) := by
  rw [Rat.sub_eq_add_neg, Rat.neg_mkRat, Rat.mkRat_add_mkRat _ _ hd he]
  congr 1
  grind
theorem cmp_mk (n m : Int) (d e : Nat) (hd : d ≠ 0) (he : e ≠ 0) : cmpQ (mkRat n d) (mkRat m e) = cmpZ (n * e) (m * d) := by
  unfold cmpQ
  rw [mk_sub n m d e hd he, sgnI_mk _ _ (Nat.mul_ne_zero hd he)]
  unfold cmpZ
  split <;> split <;> (try split) <;> (try split) <;> omega
theorem x_mk (x : Rat) : x = mkRat (sg (ng x) x.num.natAbs) x.den := by rw [sg_ng, Rat.mkRat_self]
theorem cmpZ_lt {a b : Int} (h : a < b) : cmpZ a b = -1 := by unfold cmpZ; rw [if_pos h]
/-- below, above, and how far apart -/
theorem grid_steps (x : Rat) (p : Nat) :
    (gridQ x p false = x ∧ gridQ x p true = x) ∨
    (cmpQ (gridQ x p false) x = -1 ∧ cmpQ x (gridQ x p true) = -1 ∧ cmpQ (gridQ x p false) (gridQ x p true) = -1 ∧ gridQ x p true - gridQ x p false = mkRat 1 (2 ^ p)) := by
  have hP : (2 ^ p : Nat) ≠ 0 := Nat.ne_of_gt (Nat.two_pow_pos p)
  have hd := x.den_nz
  have hx := x_mk x
  obtain ⟨s, hs⟩ : ∃ s, ng x = s := ⟨_, rfl⟩
  obtain ⟨n, hn⟩ : ∃ n, x.num.natAbs = n := ⟨_, rfl⟩
  obtain ⟨d, hdd⟩ : ∃ d, x.den = d := ⟨_, rfl⟩
  obtain ⟨P, hPP⟩ : ∃ P, (2 ^ p : Nat) = P := ⟨_, rfl⟩
  unfold gridQ gridN
  rw [hs, hn, hdd, hPP]
  rw [hs, hn, hdd] at hx
  rw [hdd] at hd
  rw [hPP] at hP
  have hm := Nat.div_add_mod (n * P) d
  have hr := Nat.mod_lt (n * P) (Nat.pos_of_ne_zero hd)
  obtain ⟨k, hk⟩ : ∃ k, n * P / d = k := ⟨_, rfl⟩
  obtain ⟨r, hrr⟩ : ∃ r, n * P % d = r := ⟨_, rfl⟩
  rw [hk, hrr] at hm ⊢
  rw [hrr] at hr
  have hmi : (d : Int) * k + r = n * P := by exact_mod_cast hm
  rw [hx]
  by_cases h0 : r = 0
  · left
    have e : ∀ b : Bool, (k + if (b != s) = true ∧ r ≠ 0 then 1 else 0) = k := by intro b; rw [if_neg (by simp [h0])]; rfl
    rw [e, e]
    have : mkRat (sg s k) P = mkRat (sg s n) d := by
      rw [Rat.mkRat_eq_iff hP hd]
      subst h0
      unfold sg
      cases s <;> simp <;> grind
    exact ⟨this, this⟩
  · right
    rw [cmp_mk _ _ _ _ hP hd, cmp_mk _ _ _ _ hd hP, cmp_mk _ _ _ _ hP hP, mk_sub _ _ _ _ hP hP]
    have hP0 : (0 : Int) < P := by omega
    have hr0 : 0 < r := by omega
    have hc : (k : Int) * d + r = n * P := by grind
    have m1 : (k : Int) * d < n * P := by omega
    have m2 : (n : Int) * P < ((k : Int) + 1) * d := by
      have : ((k : Int) + 1) * d = k * d + d := by grind
      omega
    have m3 : (k : Int) * P < ((k : Int) + 1) * P := by
      have : ((k : Int) + 1) * P = k * P + P := by grind
      omega
    have m4 : ((k : Int) + 1) * P - k * P = P := by grind
    have m5 : mkRat (P : Int) (P * P) = mkRat 1 P := by
      rw [Rat.mkRat_eq_iff (Nat.mul_ne_zero hP hP) hP]
      push_cast
      grind
    cases s
    · have e1 : (k + if (false != false) = true ∧ r ≠ 0 then 1 else 0) = k := by simp
      have e2 : (k + if (true != false) = true ∧ r ≠ 0 then 1 else 0) = k + 1 := by simp [h0]
      rw [e1, e2]
      simp only [sg, Bool.false_eq_true, if_false]
      push_cast
      refine ⟨cmpZ_lt m1, cmpZ_lt m2, cmpZ_lt m3, ?_⟩
      rw [m4, m5]
    · have e1 : (k + if (false != true) = true ∧ r ≠ 0 then 1 else 0) = k + 1 := by simp [h0]
      have e2 : (k + if (true != true) = true ∧ r ≠ 0 then 1 else 0) = k := by simp
      rw [e1, e2]
      simp only [sg, if_true]
      push_cast
      refine ⟨cmpZ_lt ?_, cmpZ_lt ?_, cmpZ_lt ?_, ?_⟩
      · rw [Int.neg_mul, Int.neg_mul]; omega
      · rw [Int.neg_mul, Int.neg_mul]; omega
      · rw [Int.neg_mul, Int.neg_mul]; omega
      · have m6 : -(k : Int) * P - -((k : Int) + 1) * P = P := by grind
        rw [m6, m5]
end Go.Proofs.YtfmhplcpejmkhabDoor

namespace Go.Proofs.YtfmhplcpejmkhabDoor
set_option linter.unusedVariables false
set_option linter.unusedSimpArgs false
theorem irt_pos {n a : Nat} (hn : 0 < n) (ha : 0 < a) : 0 < irt n a := le_irt hn (by rw [Nat.one_pow]; exact ha)
theorem irt_pow {n : Nat} (hn : 0 < n) (a : Nat) : irt n (a ^ n) = a := irt_unique hn (Nat.le_refl _) (Nat.pow_lt_pow_left (Nat.lt_succ_self a) (by omega))
theorem dvd_powS {a n : Nat} (hn : 0 < n) : a ∣ a ^ n := by
  obtain ⟨m, rfl⟩ : ∃ m, n = m + 1 := ⟨n - 1, by omega⟩
  exact ⟨a ^ m, by rw [Nat.pow_succ, Nat.mul_comm]⟩
/-- the rational root, where there is one -/
def rtQ (n : Nat) (q : Rat) : Rat := mkRat (sg (ng q) (irt n q.num.natAbs)) (irt n q.den)
def isRt (n : Nat) (q : Rat) : Bool := decide (irt n q.num.natAbs ^ n = q.num.natAbs) && decide (irt n q.den ^ n = q.den)
theorem isRt_iff {n : Nat} {q : Rat} : isRt n q = true ↔ irt n q.num.natAbs ^ n = q.num.natAbs ∧ irt n q.den ^ n = q.den := by
  unfold isRt
  rw [Bool.and_eq_true, decide_eq_true_eq, decide_eq_true_eq]
theorem irt_den {n : Nat} (hn : 0 < n) (q : Rat) : irt n q.den ≠ 0 := Nat.ne_of_gt (irt_pos hn (Nat.pos_of_ne_zero q.den_nz))
theorem rt_facts {n : Nat} {q : Rat} (hn : 0 < n) (h : isRt n q = true) : ng (rtQ n q) = ng q ∧ (rtQ n q).num.natAbs = irt n q.num.natAbs ∧ (rtQ n q).den = irt n q.den := by
  obtain ⟨h1, h2⟩ := isRt_iff.1 h
  have hd := irt_den hn q
  have hc : Nat.gcd (irt n q.num.natAbs) (irt n q.den) = 1 := by
    have := q.reduced
    rw [← h1, ← h2] at this
    have g1 : Nat.gcd (irt n q.num.natAbs) (irt n q.den) ∣ irt n q.num.natAbs ^ n := Nat.dvd_trans (Nat.gcd_dvd_left _ _) (dvd_powS hn)
    have g2 : Nat.gcd (irt n q.num.natAbs) (irt n q.den) ∣ irt n q.den ^ n := Nat.dvd_trans (Nat.gcd_dvd_right _ _) (dvd_powS hn)
    have g3 := Nat.dvd_gcd g1 g2
    rw [Nat.Coprime] at this
    rw [this] at g3
    exact Nat.dvd_one.1 g3
  refine ⟨?_, ?_, ?_⟩
  · unfold rtQ
    by_cases h0 : irt n q.num.natAbs = 0
    · have : q.num.natAbs = 0 := by rw [← h1, h0, Nat.zero_pow hn]
      rw [h0, mk_zero]
      cases e : ng q
      · rfl
      · exact absurd this (ng_nz e)
    · exact mk_sign _ hd h0
  · unfold rtQ; rw [mk_abs _ _ hd, hc, Nat.div_one]
  · unfold rtQ; rw [mk_den _ _ hd, hc, Nat.div_one]
theorem rat_ext {a b : Rat} (h1 : ng a = ng b) (h2 : a.num.natAbs = b.num.natAbs) (h3 : a.den = b.den) : a = b := by
  rw [← mk_ng a, ← mk_ng b, h1, h2, h3]
theorem rt_iff {n : Nat} {q : Rat} (hn : 0 < n) (hs : ng q = true → n % 2 = 1) : powN (rtQ n q) n = q ↔ isRt n q = true := by
  constructor
  · intro h
    obtain ⟨_, e2, e3⟩ := powN_facts (rtQ n q) n
    rw [h] at e2 e3
    have hd := irt_den hn q
    have m2 := mk_abs (ng q) (irt n q.num.natAbs) hd
    have m3 := mk_den (ng q) (irt n q.num.natAbs) hd
    have l1 := irt_le (a := q.num.natAbs) hn
    have l2 := irt_le (a := q.den) hn
    rw [isRt_iff]
    unfold rtQ at e2 e3
    rw [m2] at e2
    rw [m3] at e3
    have k1 := Nat.pow_le_pow_left (Nat.div_le_self (irt n q.num.natAbs) (Nat.gcd (irt n q.num.natAbs) (irt n q.den))) n
    have k2 := Nat.pow_le_pow_left (Nat.div_le_self (irt n q.den) (Nat.gcd (irt n q.num.natAbs) (irt n q.den))) n
    omega
  · intro h
    obtain ⟨e1, e2, e3⟩ := rt_facts hn h
    obtain ⟨f1, f2, f3⟩ := powN_facts (rtQ n q) n
    obtain ⟨h1, h2⟩ := isRt_iff.1 h
    refine rat_ext ?_ ?_ ?_
    · rw [f1, e1]
      cases e : ng q
      · rfl
      · rw [hs e]; rfl
    · rw [f2, e2, h1]
    · rw [f3, e3, h2]
theorem powN_pow (q : Rat) (n : Nat) : powN q n = q ^ n := by
  induction n with
  | zero => rw [Rat.pow_zero]; unfold powN; simp [sg]; rfl
  | succ n ih =>
    rw [Rat.pow_succ, ← ih]
    unfold powN
    conv => rhs; arg 2; rw [← mk_ng q]
    rw [Rat.mkRat_mul_mkRat, ← sg_xor, Nat.pow_succ, Nat.pow_succ]
    congr 2
    rcases Nat.mod_two_eq_zero_or_one n with h | h
    · have h2 : (n + 1) % 2 = 1 := by omega
      rw [h, h2]; cases ng q <;> rfl
    · have h2 : (n + 1) % 2 = 0 := by omega
      rw [h, h2]; cases ng q <;> rfl
theorem isRt_pow (q : Rat) {k : Nat} (hk : 0 < k) : isRt k (powN q k) = true := by
  obtain ⟨_, f2, f3⟩ := powN_facts q k
  rw [isRt_iff, f2, f3, irt_pow hk, irt_pow hk]
  exact ⟨rfl, rfl⟩
theorem rt_pow (q : Rat) {k : Nat} (hk : 0 < k) : rtQ k (powN q k) = if k % 2 = 1 then q else absQ q := by
  obtain ⟨f1, f2, f3⟩ := powN_facts q k
  unfold rtQ
  rw [f1, f2, f3, irt_pow hk, irt_pow hk]
  split
  · rename_i h; rw [h]
    conv => rhs; rw [← mk_ng q]
    simp
  · rename_i h
    rw [decide_eq_false h, Bool.and_false]
    obtain ⟨g1, g2, g3⟩ := absQ_facts q
    rw [← mk_ng (absQ q), g1, g2, g3]
theorem mk_pow (s : Bool) (a d k : Nat) : powN (mkRat (sg s a) d) k = mkRat (sg (s && decide (k % 2 = 1)) (a ^ k)) (d ^ k) := by
  rw [powN_pow]
  induction k with
  | zero => rw [Rat.pow_zero]; simp [sg]; rfl
  | succ k ih =>
    rw [Rat.pow_succ, ih, Rat.mkRat_mul_mkRat, ← sg_xor, Nat.pow_succ, Nat.pow_succ]
    congr 2
    rcases Nat.mod_two_eq_zero_or_one k with h | h
    · have h2 : (k + 1) % 2 = 1 := by omega
      rw [h, h2]; cases s <;> rfl
    · have h2 : (k + 1) % 2 = 0 := by omega
      rw [h, h2]; cases s <;> rfl
/-- the root on the grid: its numerator -/
def rootN (n d k p : Nat) (c : Bool) : Nat :=
  irt k (n * 2 ^ (p * k) / d) + if c = true ∧ ¬ (irt k (n * 2 ^ (p * k) / d) ^ k = n * 2 ^ (p * k) / d ∧ n * 2 ^ (p * k) % d = 0) then 1 else 0
/-- the root on the grid -/
def grtQ (q : Rat) (k p : Nat) (up : Bool) : Rat := mkRat (sg (ng q) (rootN q.num.natAbs q.den k p (up != ng q))) (2 ^ p)
def lowQ (q : Rat) (k p : Nat) : Rat := mkRat (irt k (q.num.natAbs * 2 ^ (p * k) / q.den) : Nat) (2 ^ p)
theorem exact_iff {r N D P : Nat} (k : Nat) (hD : 0 < D) (h : r ^ k ≤ N * P / D) : r ^ k * D = N * P ↔ (r ^ k = N * P / D ∧ N * P % D = 0) := by
  have hm := Nat.div_add_mod (N * P) D
  constructor
  · intro e
    have h1 : N * P / D = r ^ k := by rw [← e]; exact Nat.mul_div_cancel _ hD
    refine ⟨h1.symm, ?_⟩
    rw [← e]; exact Nat.mul_mod_left _ _
  · rintro ⟨e1, e2⟩
    rw [e2, Nat.add_zero] at hm
    rw [e1, Nat.mul_comm, hm]
theorem low_pow (q : Rat) {k p : Nat} (hk : 0 < k) (hs : ng q = false) : powN (lowQ q k p) k = q ↔ (irt k (q.num.natAbs * 2 ^ (p * k) / q.den) ^ k = q.num.natAbs * 2 ^ (p * k) / q.den ∧ q.num.natAbs * 2 ^ (p * k) % q.den = 0) := by
  have hd := q.den_nz
  have hl := irt_le (a := q.num.natAbs * 2 ^ (p * k) / q.den) hk
  rw [← exact_iff k (Nat.pos_of_ne_zero hd) hl]
  unfold lowQ
  have e : ∀ x : Nat, (x : Int) = sg false x := fun _ => rfl
  have hx := mk_ng q
  rw [hs] at hx
  rw [e, mk_pow, Bool.false_and, ← Nat.pow_mul]
  conv => lhs; rhs; rw [← hx]
  rw [Rat.mkRat_eq_iff (Nat.ne_of_gt (Nat.two_pow_pos _)) hd]
  show (_ : Int) * _ = _ * _ ↔ _
  simp only [sg, Bool.false_eq_true, if_false]
  exact_mod_cast Iff.rfl
theorem grt_down (q : Rat) (k p : Nat) (hs : ng q = false) : grtQ q k p false = lowQ q k p := by
  unfold grtQ lowQ rootN
  rw [hs]
  simp [sg]
theorem grt_up (q : Rat) {k p : Nat} (hk : 0 < k) (hs : ng q = false) : grtQ q k p true = if powN (lowQ q k p) k = q then lowQ q k p else lowQ q k p + mkRat 1 (2 ^ p) := by
  have h := low_pow q (p := p) hk hs
  unfold grtQ rootN
  rw [hs]
  have hP : (2 ^ p : Nat) ≠ 0 := Nat.ne_of_gt (Nat.two_pow_pos p)
  by_cases he : powN (lowQ q k p) k = q
  · rw [if_pos he, if_neg (by rw [← h]; simp [he])]
    unfold lowQ
    simp [sg]
  · rw [if_neg he, if_pos (by rw [← h]; simp [he])]
    unfold lowQ
    rw [Rat.mkRat_add_mkRat _ _ hP hP, Rat.mkRat_eq_iff hP (Nat.mul_ne_zero hP hP)]
    simp [sg]
    grind
theorem grt_neg (q : Rat) (k p : Nat) (up : Bool) (hs : ng q = true) : grtQ q k p up = -(grtQ (-q) k p (!up)) := by
  have h0 := ng_nz hs
  have e := ng_neg q
  rw [hs] at e
  unfold grtQ
  rw [neg_abs, neg_den, e, hs, Rat.neg_mkRat]
  congr 1
  simp only [sg, Bool.not_true, Bool.false_and, Bool.false_eq_true, if_false, if_true]
  cases up <;> rfl
/-- below and above -/
theorem grt_between (q : Rat) {k p : Nat} (hk : 0 < k) (hs : ng q = true → k % 2 = 1) : cmpQ (powN (grtQ q k p false) k) q ≤ 0 ∧ cmpQ q (powN (grtQ q k p true) k) ≤ 0 := by
  have hP : ((2 ^ p) ^ k : Nat) ≠ 0 := Nat.ne_of_gt (Nat.pow_pos (Nat.two_pow_pos p))
  have hd := q.den_nz
  have hx := x_mk q
  unfold grtQ
  rw [mk_pow, mk_pow]
  obtain ⟨s, hss⟩ : ∃ s, ng q = s := ⟨_, rfl⟩
  obtain ⟨n, hn⟩ : ∃ n, q.num.natAbs = n := ⟨_, rfl⟩
  obtain ⟨d, hdd⟩ : ∃ d, q.den = d := ⟨_, rfl⟩
  rw [hss] at hs
  have hsk : (s && decide (k % 2 = 1)) = s := by
    cases s
    · rfl
    · rw [hs rfl]; rfl
  rw [hss, hn, hdd] at hx ⊢
  rw [hdd] at hd
  rw [hsk]
  rw [hx]
  rw [cmp_mk _ _ _ _ hP hd, cmp_mk _ _ _ _ hd hP]
  have hPk : ((2 ^ p) ^ k : Nat) = 2 ^ (p * k) := by rw [← Nat.pow_mul]
  have l1 := irt_le (a := n * 2 ^ (p * k) / d) hk
  have l2 := irt_lt (a := n * 2 ^ (p * k) / d) hk
  have lo : ∀ c, c = false → rootN n d k p c ^ k * d ≤ n * 2 ^ (p * k) := by
    intro c hc
    unfold rootN
    rw [if_neg (by rw [hc]; simp), Nat.add_zero]
    exact Nat.le_trans (Nat.mul_le_mul_right d l1) (Nat.div_mul_le_self _ _)
  have hi : ∀ c, c = true → n * 2 ^ (p * k) ≤ rootN n d k p c ^ k * d := by
    intro c hc
    unfold rootN
    by_cases he : irt k (n * 2 ^ (p * k) / d) ^ k = n * 2 ^ (p * k) / d ∧ n * 2 ^ (p * k) % d = 0
    · rw [if_neg (by simp [he.1, he.2]), Nat.add_zero, (exact_iff k (Nat.pos_of_ne_zero hd) l1).2 he]
      exact Nat.le_refl _
    · rw [if_pos ⟨hc, he⟩]
      have h3 : n * 2 ^ (p * k) / d + 1 ≤ (irt k (n * 2 ^ (p * k) / d) + 1) ^ k := l2
      have h4 := Nat.mul_le_mul_right d h3
      have h5 := Nat.div_add_mod (n * 2 ^ (p * k)) d
      have h6 := Nat.mod_lt (n * 2 ^ (p * k)) (Nat.pos_of_ne_zero hd)
      rw [Nat.add_mul, Nat.mul_comm (n * 2 ^ (p * k) / d) d] at h4
      omega
  have cz : ∀ a b : Int, a ≤ b → cmpZ a b ≤ 0 := by
    intro a b h
    unfold cmpZ
    split
    · omega
    · rw [if_pos (by omega)]; omega
  rw [hPk]
  cases s
  · have a1 := lo (false != false) rfl
    have a2 := hi (true != false) rfl
    refine ⟨cz _ _ ?_, cz _ _ ?_⟩
    · simp only [sg, Bool.false_eq_true, if_false]; exact_mod_cast a1
    · simp only [sg, Bool.false_eq_true, if_false]; exact_mod_cast a2
  · have a1 := hi (false != true) rfl
    have a2 := lo (true != true) rfl
    refine ⟨cz _ _ ?_, cz _ _ ?_⟩
    · simp only [sg, if_true]
      rw [Int.neg_mul, Int.neg_mul]
      have : ((n * 2 ^ (p * k) : Nat) : Int) ≤ ((rootN n d k p (false != true) ^ k * d : Nat) : Int) := by exact_mod_cast a1
      push_cast at this ⊢
      omega
    · simp only [sg, if_true]
      rw [Int.neg_mul, Int.neg_mul]
      have : ((rootN n d k p (true != true) ^ k * d : Nat) : Int) ≤ ((n * 2 ^ (p * k) : Nat) : Int) := by exact_mod_cast a2
      push_cast at this ⊢
      omega
end Go.Proofs.YtfmhplcpejmkhabDoor

namespace Go.Proofs.YtfmhplcpejmkhabDoor
open Go.RowKit Dig
set_option linter.unusedVariables false
set_option linter.unusedSimpArgs false
/-- a value that has been read, its numbers, a further number, and a variable for a result -/
structure NF (w M : World) (g3 g : Nat) (s : Bool) (A1 : Option Addr) (n1 c1 : Nat) (B1 : Option Addr) (m1 d1 : Nat) (q : Rat) (A3 : Option Addr) (n3 c3 x : Nat) : Prop where
  v : N1 w M g3 g s A1 n1 c1 B1 m1 d1
  a : NatAt M A1 n1 c1 q.num.natAbs
  b : NatAt M B1 m1 d1 q.den
  c : NatAt M A3 n3 c3 x
  g0 : g3 ≠ 0
section
variable {w M M' : World} {g3 g : Nat} {s : Bool} {A1 : Option Addr} {n1 c1 : Nat} {B1 : Option Addr} {m1 d1 : Nat} {q : Rat} {A3 : Option Addr} {n3 c3 x : Nat}
theorem NF.below (h : NF w M g3 g s A1 n1 c1 B1 m1 d1 q A3 n3 c3 x) (hb : Below M.heap.size M M') : NF w M' g3 g s A1 n1 c1 B1 m1 d1 q A3 n3 c3 x :=
  ⟨h.v.below hb, h.a.below hb, h.b.below hb, h.c.below hb, h.g0⟩
theorem NF.drew (h : NF w M g3 g s A1 n1 c1 B1 m1 d1 q A3 n3 c3 x) : NF w M.drew g3 g s A1 n1 c1 B1 m1 d1 q A3 n3 c3 x := h.below (Below.refl _ _).drew
theorem NF.cells (h : NF w M g3 g s A1 n1 c1 B1 m1 d1 q A3 n3 c3 x) : (World.cell? M ⟨g, 0, none⟩ = some (.bool s) ∧ World.cell? M ⟨g, 1, none⟩ = some (.slice A1 n1 c1) ∧ World.cell? M ⟨g, 2, none⟩ = some (.slice B1 m1 d1) ∧ Hid (NF w M g3 g s A1 n1 c1 B1 m1 d1 q A3 n3 c3 x)) := by
  obtain ⟨a1, a2, a3, _, _, _⟩ := h.v.box.cells
  exact ⟨a1, a2, a3, h⟩
theorem NF.of (h : (World.cell? M ⟨g, 0, none⟩ = some (.bool s) ∧ World.cell? M ⟨g, 1, none⟩ = some (.slice A1 n1 c1) ∧ World.cell? M ⟨g, 2, none⟩ = some (.slice B1 m1 d1) ∧ Hid (NF w M g3 g s A1 n1 c1 B1 m1 d1 q A3 n3 c3 x))) : NF w M g3 g s A1 n1 c1 B1 m1 d1 q A3 n3 c3 x := h.2.2.2.out
theorem NF.next (h : (World.cell? M ⟨g, 0, none⟩ = some (.bool s) ∧ World.cell? M ⟨g, 1, none⟩ = some (.slice A1 n1 c1) ∧ World.cell? M ⟨g, 2, none⟩ = some (.slice B1 m1 d1) ∧ Hid (NF w M g3 g s A1 n1 c1 B1 m1 d1 q A3 n3 c3 x))) (hb : Below M.heap.size M M') : (World.cell? M' ⟨g, 0, none⟩ = some (.bool s) ∧ World.cell? M' ⟨g, 1, none⟩ = some (.slice A1 n1 c1) ∧ World.cell? M' ⟨g, 2, none⟩ = some (.slice B1 m1 d1) ∧ Hid (NF w M' g3 g s A1 n1 c1 B1 m1 d1 q A3 n3 c3 x)) := ((NF.of h).below hb).cells
theorem NF.nextS (h : (World.cell? M ⟨g, 0, none⟩ = some (.bool s) ∧ World.cell? M ⟨g, 1, none⟩ = some (.slice A1 n1 c1) ∧ World.cell? M ⟨g, 2, none⟩ = some (.slice B1 m1 d1) ∧ Hid (NF w M g3 g s A1 n1 c1 B1 m1 d1 q A3 n3 c3 x))) {a : Bool} {B C : Option Addr} {b b' c c' : Nat} : (World.cell? (((M.setCell ⟨g3, 0, none⟩ (.bool a)).setCell ⟨g3, 1, none⟩ (.slice B b b')).setCell ⟨g3, 2, none⟩ (.slice C c c')) ⟨g, 0, none⟩ = some (.bool s) ∧ World.cell? (((M.setCell ⟨g3, 0, none⟩ (.bool a)).setCell ⟨g3, 1, none⟩ (.slice B b b')).setCell ⟨g3, 2, none⟩ (.slice C c c')) ⟨g, 1, none⟩ = some (.slice A1 n1 c1) ∧ World.cell? (((M.setCell ⟨g3, 0, none⟩ (.bool a)).setCell ⟨g3, 1, none⟩ (.slice B b b')).setCell ⟨g3, 2, none⟩ (.slice C c c')) ⟨g, 2, none⟩ = some (.slice B1 m1 d1) ∧ Hid (NF w (((M.setCell ⟨g3, 0, none⟩ (.bool a)).setCell ⟨g3, 1, none⟩ (.slice B b b')).setCell ⟨g3, 2, none⟩ (.slice C c c')) g3 g s A1 n1 c1 B1 m1 d1 q A3 n3 c3 x)) := by
  have h := NF.of h
  have hg := grown_set3 M g3 (.bool a) (.slice B b b') (.slice C c c')
  obtain ⟨x, y, z, hx, hy, hz, h4⟩ := h.v.res
  exact NF.cells ⟨⟨h.v.res.set3 (NI.bool _) (NI.slice _ _ _) (NI.slice _ _ _), (hg.block g h.v.box.lt (fun e => h.v.ne (Option.some.inj e))).trans h.v.box, h.v.tab.grown hg h.g0, below_set3 h.v.bel h.v.n3 _ _ _, h.v.n3, h.v.ne⟩, h.a.grown h4 hx hy hz hg, h.b.grown h4 hx hy hz hg, h.c.grown h4 hx hy hz hg, h.g0⟩
end
/-- what RootDown and RootUp return -/
def grootOut (L : Bool) (n p : Int) (up : Bool) (q : Rat) : Out :=
  if L = true then .err 1 else if n < 2 ∨ 8 < n ∨ p < 0 ∨ 256 < p then .err 2 else if ng q = true ∧ n.toNat % 2 = 0 then .err 5 else give (grtQ q n.toNat p.toNat up)
theorem irt_self {k : Nat} (hk : 0 < k) (a : Nat) : irt k a ≤ a := by
  have h1 := irt_le (a := a) hk
  rcases Nat.eq_zero_or_pos (irt k a) with h0 | h0
  · omega
  · exact Nat.le_trans (by have := Nat.pow_le_pow_right h0 (show 1 ≤ k by omega); simpa using this) h1
set_option maxHeartbeats 2000000 in
set_option maxRecDepth 100000 in
theorem nroot_large (s1 : Bool) (N1' D1' : Nat) (n p : Int) (up : Bool) (w : World) (v1 : Value) (h1 : RawV w v1 s1 N1' D1') (hT : Tab w) (q : Rat) (hq : ratOf s1 N1' D1' = q) (hL : largeB s1 N1' D1' = true) :
    Calls Tryd.prog 79 #[v1, .int .i64 n, .int .i64 p, .bool up] w (OutPost w (Out.err 1)) := by
  have H1 := Lib.hid h1
  have HT := Lib.hid hT
  obtain ⟨A1, n1, c1, A1', n1', c1', rfl⟩ := h1.shape
  clear h1 hT
  obtain ⟨M, hM, k1, k3, bM⟩ := start1 w (.bool s1) (.slice A1 n1 c1) (.slice A1' n1' c1') (.bool false) (.slice none 0 0) (.slice none 0 0) 24 24
  have HX := Lib.hid k1
  have HR := Lib.hid (show Res M (w.heap.size + 1) 24 from ⟨_, _, _, NI.bool _, NI.slice _ _ _, NI.slice _ _ _, k3⟩)
  have BM := Lib.hid bM
  replace H1 := Lib.hid (H1.out.below bM)
  replace HT := Lib.hid (HT.out.below bM)
  have HQ := Lib.hid hq
  have HL := Lib.hid hL
  obtain ⟨o, ho⟩ : ∃ o, Out.err 1 = o := ⟨_, rfl⟩
  have HO := Lib.hid ho
  rw [ho]
  clear hq hL k1 k3 bM ho
  go_enter Tryd.func79, Tryd.ntmps79
  go_upto_region 1 with (fail)
  rw [← hM]
  clear hM
  obtain ⟨x1, x2, x3, _, _, _⟩ := HX.out.cells
  go_wp2_with fail
  refine (readV _ s1 N1' D1' _ H1.out HT.out).mono ?_
  rw [HL.out, Bool.not_true]
  rintro e wa ⟨t1, B1, m1, d1, B1', m1', d1', rfl, f1, ba⟩
  have bb := below_step ba ba.size (below_alloc wa (.cells #[.bool t1, .slice B1 m1 d1, .slice B1' m1' d1'] 65))
  have hf1 := Box.new wa (.bool t1) (.slice B1 m1 d1) (.slice B1' m1' d1') 65
  have szw : w.heap.size + 1 < wa.heap.size := Nat.lt_of_lt_of_le (by obtain ⟨_, _, _, _, _, _, hh⟩ := HR.out; exact hh.lt) ba.size
  have TA : Hid (N1 w (wa.alloc (.cells #[.bool t1, .slice B1 m1 d1, .slice B1' m1' d1'] 65)) (w.heap.size + 1) wa.heap.size t1 B1 m1 d1 B1' m1' d1') :=
    Lib.hid ⟨HR.out.below bb, hf1, HT.out.below bb, below_step BM.out BM.out.size bb, by omega, by omega⟩
  obtain ⟨w2, hw2⟩ : ∃ w2, wa.alloc (.cells #[.bool t1, .slice B1 m1 d1, .slice B1' m1' d1'] 65) = w2 := ⟨_, rfl⟩
  obtain ⟨gf, hgf⟩ : ∃ gf, wa.heap.size = gf := ⟨_, rfl⟩
  clear x1 x2 x3 ba bb f1 hf1 szw HR BM HX H1 HT
  go_upto_region 2 with (fail)
  rw [hw2] at TA
  try rw [hw2]
  rw [hgf] at TA
  try rw [hgf]
  clear hw2 hgf
  obtain ⟨y1, y2, y3, _⟩ := TA.out.box.cells
  obtain ⟨z1, z2, z3, hy1, hy2, hy3, f1, f2, f3⟩ := TA.out.res.cells
  obtain ⟨q0, q1, q2, hs, hb⟩ := OutIs.stored (o := .err 1) (k := 1) (s := false) (A1 := none) (A2 := none) (n1 := 0) (c1 := 0) (n2 := 0) (c2 := 0) ⟨rfl, rfl, by omega, by omega⟩ TA.out.res TA.out.bel TA.out.n3
  have Q := Lib.hid (And.intro q0 (And.intro q1 q2))
  have HBB := Lib.hid hb
  clear q0 q1 q2 hs hb
  go_wp2_with fail
  obtain ⟨q0, q1, q2⟩ := Q.out
  refine bodyPost_ret (v := .tuple #[noRat, .int .i64 1]) (by simp [results, Tryd.results79, go_sem, q0, q1, q2, noRat]) rfl ?_
  rw [← HO.out]
  exact OutPost.err rfl (by omega) (by omega) HBB.out
set_option maxHeartbeats 2000000 in
set_option maxRecDepth 100000 in
theorem nroot_n2 (s1 : Bool) (N1' D1' : Nat) (n p : Int) (up : Bool) (hn : n < 2) (w : World) (v1 : Value) (h1 : RawV w v1 s1 N1' D1') (hT : Tab w) (q : Rat) (hq : ratOf s1 N1' D1' = q) (hL : largeB s1 N1' D1' = false) :
    Calls Tryd.prog 79 #[v1, .int .i64 n, .int .i64 p, .bool up] w (OutPost w (Out.err 2)) := by
  have H1 := Lib.hid h1
  have HT := Lib.hid hT
  obtain ⟨A1, n1, c1, A1', n1', c1', rfl⟩ := h1.shape
  clear h1 hT
  obtain ⟨M, hM, k1, k3, bM⟩ := start1 w (.bool s1) (.slice A1 n1 c1) (.slice A1' n1' c1') (.bool false) (.slice none 0 0) (.slice none 0 0) 24 24
  have HX := Lib.hid k1
  have HR := Lib.hid (show Res M (w.heap.size + 1) 24 from ⟨_, _, _, NI.bool _, NI.slice _ _ _, NI.slice _ _ _, k3⟩)
  have BM := Lib.hid bM
  replace H1 := Lib.hid (H1.out.below bM)
  replace HT := Lib.hid (HT.out.below bM)
  have HQ := Lib.hid hq
  have HL := Lib.hid hL
  have hp1 : decide (n < 2) = true := decide_eq_true hn
  clear hn
  obtain ⟨o, ho⟩ : ∃ o, Out.err 2 = o := ⟨_, rfl⟩
  have HO := Lib.hid ho
  rw [ho]
  clear hq hL k1 k3 bM ho
  go_enter Tryd.func79, Tryd.ntmps79
  go_upto_region 1 with (fail)
  rw [← hM]
  clear hM
  obtain ⟨x1, x2, x3, _, _, _⟩ := HX.out.cells
  go_wp2_with fail
  refine (readV _ s1 N1' D1' _ H1.out HT.out).mono ?_
  rw [HL.out, Bool.not_false]
  rintro e wa ⟨t1, B1, m1, d1, B1', m1', d1', rfl, f1, ba⟩
  have bb := below_step ba ba.size (below_alloc wa (.cells #[.bool t1, .slice B1 m1 d1, .slice B1' m1' d1'] 65))
  have hf1 := Box.new wa (.bool t1) (.slice B1 m1 d1) (.slice B1' m1' d1') 65
  have szw : w.heap.size + 1 < wa.heap.size := Nat.lt_of_lt_of_le (by obtain ⟨_, _, _, _, _, _, hh⟩ := HR.out; exact hh.lt) ba.size
  have TA : Hid (N1 w (wa.alloc (.cells #[.bool t1, .slice B1 m1 d1, .slice B1' m1' d1'] 65)) (w.heap.size + 1) wa.heap.size t1 B1 m1 d1 B1' m1' d1') :=
    Lib.hid ⟨HR.out.below bb, hf1, HT.out.below bb, below_step BM.out BM.out.size bb, by omega, by omega⟩
  have F1 : Hid (IsF (wa.alloc (.cells #[.bool t1, .slice B1 m1 d1, .slice B1' m1' d1'] 65)) (.agg #[.bool t1, .slice B1 m1 d1, .slice B1' m1' d1']) q) := Lib.hid (by rw [← HQ.out]; exact (f1.out rfl).below (below_alloc _ _))
  obtain ⟨w2, hw2⟩ : ∃ w2, wa.alloc (.cells #[.bool t1, .slice B1 m1 d1, .slice B1' m1' d1'] 65) = w2 := ⟨_, rfl⟩
  obtain ⟨gf, hgf⟩ : ∃ gf, wa.heap.size = gf := ⟨_, rfl⟩
  clear x1 x2 x3 ba bb f1 hf1 szw HR BM HX H1 HT
  go_upto_region 2 with (fail)
  rw [hw2] at TA F1
  try rw [hw2]
  rw [hgf] at TA
  try rw [hgf]
  clear hw2 hgf
  obtain ⟨y1, y2, y3, _⟩ := TA.out.box.cells
  obtain ⟨z1, z2, z3, hy1, hy2, hy3, f1, f2, f3⟩ := TA.out.res.cells
  obtain ⟨q0, q1, q2, hs, hb⟩ := OutIs.stored (o := .err 2) (k := 2) (s := false) (A1 := none) (A2 := none) (n1 := 0) (c1 := 0) (n2 := 0) (c2 := 0) ⟨rfl, rfl, by omega, by omega⟩ TA.out.res TA.out.bel TA.out.n3
  have Q := Lib.hid (And.intro q0 (And.intro q1 q2))
  have HBB := Lib.hid hb
  clear q0 q1 q2 hs hb
  go_wp2_with fail
  obtain ⟨q0, q1, q2⟩ := Q.out
  refine bodyPost_ret (v := .tuple #[noRat, .int .i64 2]) (by simp [results, Tryd.results79, go_sem, q0, q1, q2, noRat]) rfl ?_
  rw [← HO.out]
  exact OutPost.err rfl (by omega) (by omega) HBB.out
set_option maxHeartbeats 2000000 in
set_option maxRecDepth 100000 in
theorem nroot_n8 (s1 : Bool) (N1' D1' : Nat) (n p : Int) (up : Bool) (hn : 8 < n) (w : World) (v1 : Value) (h1 : RawV w v1 s1 N1' D1') (hT : Tab w) (q : Rat) (hq : ratOf s1 N1' D1' = q) (hL : largeB s1 N1' D1' = false) :
    Calls Tryd.prog 79 #[v1, .int .i64 n, .int .i64 p, .bool up] w (OutPost w (Out.err 2)) := by
  have H1 := Lib.hid h1
  have HT := Lib.hid hT
  obtain ⟨A1, n1, c1, A1', n1', c1', rfl⟩ := h1.shape
  clear h1 hT
  obtain ⟨M, hM, k1, k3, bM⟩ := start1 w (.bool s1) (.slice A1 n1 c1) (.slice A1' n1' c1') (.bool false) (.slice none 0 0) (.slice none 0 0) 24 24
  have HX := Lib.hid k1
  have HR := Lib.hid (show Res M (w.heap.size + 1) 24 from ⟨_, _, _, NI.bool _, NI.slice _ _ _, NI.slice _ _ _, k3⟩)
  have BM := Lib.hid bM
  replace H1 := Lib.hid (H1.out.below bM)
  replace HT := Lib.hid (HT.out.below bM)
  have HQ := Lib.hid hq
  have HL := Lib.hid hL
  have hp1 : decide (n < 2) = false := decide_eq_false (by omega)
  have hp2 : decide (8 < n) = true := decide_eq_true hn
  clear hn
  obtain ⟨o, ho⟩ : ∃ o, Out.err 2 = o := ⟨_, rfl⟩
  have HO := Lib.hid ho
  rw [ho]
  clear hq hL k1 k3 bM ho
  go_enter Tryd.func79, Tryd.ntmps79
  go_upto_region 1 with (fail)
  rw [← hM]
  clear hM
  obtain ⟨x1, x2, x3, _, _, _⟩ := HX.out.cells
  go_wp2_with fail
  refine (readV _ s1 N1' D1' _ H1.out HT.out).mono ?_
  rw [HL.out, Bool.not_false]
  rintro e wa ⟨t1, B1, m1, d1, B1', m1', d1', rfl, f1, ba⟩
  have bb := below_step ba ba.size (below_alloc wa (.cells #[.bool t1, .slice B1 m1 d1, .slice B1' m1' d1'] 65))
  have hf1 := Box.new wa (.bool t1) (.slice B1 m1 d1) (.slice B1' m1' d1') 65
  have szw : w.heap.size + 1 < wa.heap.size := Nat.lt_of_lt_of_le (by obtain ⟨_, _, _, _, _, _, hh⟩ := HR.out; exact hh.lt) ba.size
  have TA : Hid (N1 w (wa.alloc (.cells #[.bool t1, .slice B1 m1 d1, .slice B1' m1' d1'] 65)) (w.heap.size + 1) wa.heap.size t1 B1 m1 d1 B1' m1' d1') :=
    Lib.hid ⟨HR.out.below bb, hf1, HT.out.below bb, below_step BM.out BM.out.size bb, by omega, by omega⟩
  have F1 : Hid (IsF (wa.alloc (.cells #[.bool t1, .slice B1 m1 d1, .slice B1' m1' d1'] 65)) (.agg #[.bool t1, .slice B1 m1 d1, .slice B1' m1' d1']) q) := Lib.hid (by rw [← HQ.out]; exact (f1.out rfl).below (below_alloc _ _))
  obtain ⟨w2, hw2⟩ : ∃ w2, wa.alloc (.cells #[.bool t1, .slice B1 m1 d1, .slice B1' m1' d1'] 65) = w2 := ⟨_, rfl⟩
  obtain ⟨gf, hgf⟩ : ∃ gf, wa.heap.size = gf := ⟨_, rfl⟩
  clear x1 x2 x3 ba bb f1 hf1 szw HR BM HX H1 HT
  go_upto_region 2 with (fail)
  rw [hw2] at TA F1
  try rw [hw2]
  rw [hgf] at TA
  try rw [hgf]
  clear hw2 hgf
  obtain ⟨y1, y2, y3, _⟩ := TA.out.box.cells
  obtain ⟨z1, z2, z3, hy1, hy2, hy3, f1, f2, f3⟩ := TA.out.res.cells
  obtain ⟨q0, q1, q2, hs, hb⟩ := OutIs.stored (o := .err 2) (k := 2) (s := false) (A1 := none) (A2 := none) (n1 := 0) (c1 := 0) (n2 := 0) (c2 := 0) ⟨rfl, rfl, by omega, by omega⟩ TA.out.res TA.out.bel TA.out.n3
  have Q := Lib.hid (And.intro q0 (And.intro q1 q2))
  have HBB := Lib.hid hb
  clear q0 q1 q2 hs hb
  go_wp2_with fail
  obtain ⟨q0, q1, q2⟩ := Q.out
  refine bodyPost_ret (v := .tuple #[noRat, .int .i64 2]) (by simp [results, Tryd.results79, go_sem, q0, q1, q2, noRat]) rfl ?_
  rw [← HO.out]
  exact OutPost.err rfl (by omega) (by omega) HBB.out
set_option maxHeartbeats 2000000 in
set_option maxRecDepth 100000 in
theorem nroot_p0 (s1 : Bool) (N1' D1' : Nat) (n p : Int) (up : Bool) (h2 : 2 ≤ n) (h8 : n ≤ 8) (hn : p < 0) (w : World) (v1 : Value) (h1 : RawV w v1 s1 N1' D1') (hT : Tab w) (q : Rat) (hq : ratOf s1 N1' D1' = q) (hL : largeB s1 N1' D1' = false) :
    Calls Tryd.prog 79 #[v1, .int .i64 n, .int .i64 p, .bool up] w (OutPost w (Out.err 2)) := by
  have H1 := Lib.hid h1
  have HT := Lib.hid hT
  obtain ⟨A1, n1, c1, A1', n1', c1', rfl⟩ := h1.shape
  clear h1 hT
  obtain ⟨M, hM, k1, k3, bM⟩ := start1 w (.bool s1) (.slice A1 n1 c1) (.slice A1' n1' c1') (.bool false) (.slice none 0 0) (.slice none 0 0) 24 24
  have HX := Lib.hid k1
  have HR := Lib.hid (show Res M (w.heap.size + 1) 24 from ⟨_, _, _, NI.bool _, NI.slice _ _ _, NI.slice _ _ _, k3⟩)
  have BM := Lib.hid bM
  replace H1 := Lib.hid (H1.out.below bM)
  replace HT := Lib.hid (HT.out.below bM)
  have HQ := Lib.hid hq
  have HL := Lib.hid hL
  have hp1 : decide (n < 2) = false := decide_eq_false (by omega)
  have hp2 : decide (8 < n) = false := decide_eq_false (by omega)
  have hp3 : decide (p < 0) = true := decide_eq_true hn
  clear hn h2 h8
  obtain ⟨o, ho⟩ : ∃ o, Out.err 2 = o := ⟨_, rfl⟩
  have HO := Lib.hid ho
  rw [ho]
  clear hq hL k1 k3 bM ho
  go_enter Tryd.func79, Tryd.ntmps79
  go_upto_region 1 with (fail)
  rw [← hM]
  clear hM
  obtain ⟨x1, x2, x3, _, _, _⟩ := HX.out.cells
  go_wp2_with fail
  refine (readV _ s1 N1' D1' _ H1.out HT.out).mono ?_
  rw [HL.out, Bool.not_false]
  rintro e wa ⟨t1, B1, m1, d1, B1', m1', d1', rfl, f1, ba⟩
  have bb := below_step ba ba.size (below_alloc wa (.cells #[.bool t1, .slice B1 m1 d1, .slice B1' m1' d1'] 65))
  have hf1 := Box.new wa (.bool t1) (.slice B1 m1 d1) (.slice B1' m1' d1') 65
  have szw : w.heap.size + 1 < wa.heap.size := Nat.lt_of_lt_of_le (by obtain ⟨_, _, _, _, _, _, hh⟩ := HR.out; exact hh.lt) ba.size
  have TA : Hid (N1 w (wa.alloc (.cells #[.bool t1, .slice B1 m1 d1, .slice B1' m1' d1'] 65)) (w.heap.size + 1) wa.heap.size t1 B1 m1 d1 B1' m1' d1') :=
    Lib.hid ⟨HR.out.below bb, hf1, HT.out.below bb, below_step BM.out BM.out.size bb, by omega, by omega⟩
  have F1 : Hid (IsF (wa.alloc (.cells #[.bool t1, .slice B1 m1 d1, .slice B1' m1' d1'] 65)) (.agg #[.bool t1, .slice B1 m1 d1, .slice B1' m1' d1']) q) := Lib.hid (by rw [← HQ.out]; exact (f1.out rfl).below (below_alloc _ _))
  obtain ⟨w2, hw2⟩ : ∃ w2, wa.alloc (.cells #[.bool t1, .slice B1 m1 d1, .slice B1' m1' d1'] 65) = w2 := ⟨_, rfl⟩
  obtain ⟨gf, hgf⟩ : ∃ gf, wa.heap.size = gf := ⟨_, rfl⟩
  clear x1 x2 x3 ba bb f1 hf1 szw HR BM HX H1 HT
  go_upto_region 2 with (fail)
  rw [hw2] at TA F1
  try rw [hw2]
  rw [hgf] at TA
  try rw [hgf]
  clear hw2 hgf
  obtain ⟨y1, y2, y3, _⟩ := TA.out.box.cells
  obtain ⟨z1, z2, z3, hy1, hy2, hy3, f1, f2, f3⟩ := TA.out.res.cells
  obtain ⟨q0, q1, q2, hs, hb⟩ := OutIs.stored (o := .err 2) (k := 2) (s := false) (A1 := none) (A2 := none) (n1 := 0) (c1 := 0) (n2 := 0) (c2 := 0) ⟨rfl, rfl, by omega, by omega⟩ TA.out.res TA.out.bel TA.out.n3
  have Q := Lib.hid (And.intro q0 (And.intro q1 q2))
  have HBB := Lib.hid hb
  clear q0 q1 q2 hs hb
  go_wp2_with fail
  obtain ⟨q0, q1, q2⟩ := Q.out
  refine bodyPost_ret (v := .tuple #[noRat, .int .i64 2]) (by simp [results, Tryd.results79, go_sem, q0, q1, q2, noRat]) rfl ?_
  rw [← HO.out]
  exact OutPost.err rfl (by omega) (by omega) HBB.out
set_option maxHeartbeats 2000000 in
set_option maxRecDepth 100000 in
theorem nroot_p256 (s1 : Bool) (N1' D1' : Nat) (n p : Int) (up : Bool) (h2 : 2 ≤ n) (h8 : n ≤ 8) (hn : 256 < p) (w : World) (v1 : Value) (h1 : RawV w v1 s1 N1' D1') (hT : Tab w) (q : Rat) (hq : ratOf s1 N1' D1' = q) (hL : largeB s1 N1' D1' = false) :
    Calls Tryd.prog 79 #[v1, .int .i64 n, .int .i64 p, .bool up] w (OutPost w (Out.err 2)) := by
  have H1 := Lib.hid h1
  have HT := Lib.hid hT
  obtain ⟨A1, n1, c1, A1', n1', c1', rfl⟩ := h1.shape
  clear h1 hT
  obtain ⟨M, hM, k1, k3, bM⟩ := start1 w (.bool s1) (.slice A1 n1 c1) (.slice A1' n1' c1') (.bool false) (.slice none 0 0) (.slice none 0 0) 24 24
  have HX := Lib.hid k1
  have HR := Lib.hid (show Res M (w.heap.size + 1) 24 from ⟨_, _, _, NI.bool _, NI.slice _ _ _, NI.slice _ _ _, k3⟩)
  have BM := Lib.hid bM
  replace H1 := Lib.hid (H1.out.below bM)
  replace HT := Lib.hid (HT.out.below bM)
  have HQ := Lib.hid hq
  have HL := Lib.hid hL
  have hp1 : decide (n < 2) = false := decide_eq_false (by omega)
  have hp2 : decide (8 < n) = false := decide_eq_false (by omega)
  have hp3 : decide (p < 0) = false := decide_eq_false (by omega)
  have hp4 : decide (256 < p) = true := decide_eq_true hn
  clear hn h2 h8
  obtain ⟨o, ho⟩ : ∃ o, Out.err 2 = o := ⟨_, rfl⟩
  have HO := Lib.hid ho
  rw [ho]
  clear hq hL k1 k3 bM ho
  go_enter Tryd.func79, Tryd.ntmps79
  go_upto_region 1 with (fail)
  rw [← hM]
  clear hM
  obtain ⟨x1, x2, x3, _, _, _⟩ := HX.out.cells
  go_wp2_with fail
  refine (readV _ s1 N1' D1' _ H1.out HT.out).mono ?_
  rw [HL.out, Bool.not_false]
  rintro e wa ⟨t1, B1, m1, d1, B1', m1', d1', rfl, f1, ba⟩
  have bb := below_step ba ba.size (below_alloc wa (.cells #[.bool t1, .slice B1 m1 d1, .slice B1' m1' d1'] 65))
  have hf1 := Box.new wa (.bool t1) (.slice B1 m1 d1) (.slice B1' m1' d1') 65
  have szw : w.heap.size + 1 < wa.heap.size := Nat.lt_of_lt_of_le (by obtain ⟨_, _, _, _, _, _, hh⟩ := HR.out; exact hh.lt) ba.size
  have TA : Hid (N1 w (wa.alloc (.cells #[.bool t1, .slice B1 m1 d1, .slice B1' m1' d1'] 65)) (w.heap.size + 1) wa.heap.size t1 B1 m1 d1 B1' m1' d1') :=
    Lib.hid ⟨HR.out.below bb, hf1, HT.out.below bb, below_step BM.out BM.out.size bb, by omega, by omega⟩
  have F1 : Hid (IsF (wa.alloc (.cells #[.bool t1, .slice B1 m1 d1, .slice B1' m1' d1'] 65)) (.agg #[.bool t1, .slice B1 m1 d1, .slice B1' m1' d1']) q) := Lib.hid (by rw [← HQ.out]; exact (f1.out rfl).below (below_alloc _ _))
  obtain ⟨w2, hw2⟩ : ∃ w2, wa.alloc (.cells #[.bool t1, .slice B1 m1 d1, .slice B1' m1' d1'] 65) = w2 := ⟨_, rfl⟩
  obtain ⟨gf, hgf⟩ : ∃ gf, wa.heap.size = gf := ⟨_, rfl⟩
  clear x1 x2 x3 ba bb f1 hf1 szw HR BM HX H1 HT
  go_upto_region 2 with (fail)
  rw [hw2] at TA F1
  try rw [hw2]
  rw [hgf] at TA
  try rw [hgf]
  clear hw2 hgf
  obtain ⟨y1, y2, y3, _⟩ := TA.out.box.cells
  obtain ⟨z1, z2, z3, hy1, hy2, hy3, f1, f2, f3⟩ := TA.out.res.cells
  obtain ⟨q0, q1, q2, hs, hb⟩ := OutIs.stored (o := .err 2) (k := 2) (s := false) (A1 := none) (A2 := none) (n1 := 0) (c1 := 0) (n2 := 0) (c2 := 0) ⟨rfl, rfl, by omega, by omega⟩ TA.out.res TA.out.bel TA.out.n3
  have Q := Lib.hid (And.intro q0 (And.intro q1 q2))
  have HBB := Lib.hid hb
  clear q0 q1 q2 hs hb
  go_wp2_with fail
  obtain ⟨q0, q1, q2⟩ := Q.out
  refine bodyPost_ret (v := .tuple #[noRat, .int .i64 2]) (by simp [results, Tryd.results79, go_sem, q0, q1, q2, noRat]) rfl ?_
  rw [← HO.out]
  exact OutPost.err rfl (by omega) (by omega) HBB.out
set_option maxHeartbeats 2000000 in
set_option maxRecDepth 100000 in
theorem nroot_even (s1 : Bool) (N1' D1' : Nat) (k p : Nat) (h2 : 2 ≤ k) (h8 : k ≤ 8) (hp : p ≤ 256) (up : Bool) (hs : ng (ratOf s1 N1' D1') = true) (he : k % 2 = 0) (w : World) (v1 : Value) (h1 : RawV w v1 s1 N1' D1') (hT : Tab w) (q : Rat) (hq : ratOf s1 N1' D1' = q) (hL : largeB s1 N1' D1' = false) :
    Calls Tryd.prog 79 #[v1, .int .i64 (k : Int), .int .i64 (p : Int), .bool up] w (OutPost w (Out.err 5)) := by
  have H1 := Lib.hid h1
  have HT := Lib.hid hT
  obtain ⟨A1, n1, c1, A1', n1', c1', rfl⟩ := h1.shape
  clear h1 hT
  obtain ⟨M, hM, k1, k3, bM⟩ := start1 w (.bool s1) (.slice A1 n1 c1) (.slice A1' n1' c1') (.bool false) (.slice none 0 0) (.slice none 0 0) 24 24
  have HX := Lib.hid k1
  have HR := Lib.hid (show Res M (w.heap.size + 1) 24 from ⟨_, _, _, NI.bool _, NI.slice _ _ _, NI.slice _ _ _, k3⟩)
  have BM := Lib.hid bM
  replace H1 := Lib.hid (H1.out.below bM)
  replace HT := Lib.hid (HT.out.below bM)
  have HQ := Lib.hid hq
  have HL := Lib.hid hL
  have hp1 : decide ((k : Int) < 2) = false := decide_eq_false (by omega)
  have hp1' : decide (k < 2) = false := decide_eq_false (by omega)
  have hp2 : decide (8 < (k : Int)) = false := decide_eq_false (by omega)
  have hp2' : decide (8 < k) = false := decide_eq_false (by omega)
  have hp3 : decide ((p : Int) < 0) = false := decide_eq_false (by omega)
  have hp4 : decide (256 < (p : Int)) = false := decide_eq_false (by omega)
  have hp4' : decide (256 < p) = false := decide_eq_false (by omega)
  have hm := tmod_two k
  have hm2 : IntKind.i64.wrap ((k % 2 : Nat) : Int) = ((k % 2 : Nat) : Int) := wraps_i64 _ (by omega) (by omega)
  have HK2 := Lib.hid h2
  have HK8 := Lib.hid h8
  have HP := Lib.hid hp
  rw [hq] at hs
  have HNG := Lib.hid hs
  clear hs
  rw [he] at hm hm2
  clear he
  obtain ⟨o, ho⟩ : ∃ o, Out.err 5 = o := ⟨_, rfl⟩
  have HO := Lib.hid ho
  rw [ho]
  clear hq hL k1 k3 bM ho
  go_enter Tryd.func79, Tryd.ntmps79
  go_upto_region 1 with (fail)
  rw [← hM]
  clear hM
  obtain ⟨x1, x2, x3, _, _, _⟩ := HX.out.cells
  go_wp2_with fail
  refine (readV _ s1 N1' D1' _ H1.out HT.out).mono ?_
  rw [HL.out, Bool.not_false]
  rintro e wa ⟨t1, B1, m1, d1, B1', m1', d1', rfl, f1, ba⟩
  have bb := below_step ba ba.size (below_alloc wa (.cells #[.bool t1, .slice B1 m1 d1, .slice B1' m1' d1'] 65))
  have hf1 := Box.new wa (.bool t1) (.slice B1 m1 d1) (.slice B1' m1' d1') 65
  have szw : w.heap.size + 1 < wa.heap.size := Nat.lt_of_lt_of_le (by obtain ⟨_, _, _, _, _, _, hh⟩ := HR.out; exact hh.lt) ba.size
  have TA : Hid (N1 w (wa.alloc (.cells #[.bool t1, .slice B1 m1 d1, .slice B1' m1' d1'] 65)) (w.heap.size + 1) wa.heap.size t1 B1 m1 d1 B1' m1' d1') :=
    Lib.hid ⟨HR.out.below bb, hf1, HT.out.below bb, below_step BM.out BM.out.size bb, by omega, by omega⟩
  have F1 : Hid (IsF (wa.alloc (.cells #[.bool t1, .slice B1 m1 d1, .slice B1' m1' d1'] 65)) (.agg #[.bool t1, .slice B1 m1 d1, .slice B1' m1' d1']) q) := Lib.hid (by rw [← HQ.out]; exact (f1.out rfl).below (below_alloc _ _))
  obtain ⟨w2, hw2⟩ : ∃ w2, wa.alloc (.cells #[.bool t1, .slice B1 m1 d1, .slice B1' m1' d1'] 65) = w2 := ⟨_, rfl⟩
  obtain ⟨gf, hgf⟩ : ∃ gf, wa.heap.size = gf := ⟨_, rfl⟩
  clear x1 x2 x3 ba bb f1 hf1 szw HR BM HX H1 HT
  go_upto_region 2 with (fail)
  rw [hw2] at TA F1
  try rw [hw2]
  rw [hgf] at TA
  try rw [hgf]
  clear hw2 hgf
  obtain ⟨y1, y2, y3, _⟩ := TA.out.box.cells
  obtain ⟨ht, a1, a2⟩ := F1.out.at_
  obtain rfl : t1 = true := ht.trans HNG.out
  have NA := Lib.hid a1
  have NB := Lib.hid a2
  clear ht a1 a2
  obtain ⟨z1, z2, z3, hy1, hy2, hy3, f1, f2, f3⟩ := TA.out.res.cells
  obtain ⟨q0, q1, q2, hs, hb⟩ := OutIs.stored (o := .err 5) (k := 5) (s := false) (A1 := none) (A2 := none) (n1 := 0) (c1 := 0) (n2 := 0) (c2 := 0) ⟨rfl, rfl, by omega, by omega⟩ TA.out.res TA.out.bel TA.out.n3
  have Q := Lib.hid (And.intro q0 (And.intro q1 q2))
  have HBB := Lib.hid hb
  clear q0 q1 q2 hs hb
  go_wp2_with fail
  obtain ⟨q0, q1, q2⟩ := Q.out
  refine bodyPost_ret (v := .tuple #[noRat, .int .i64 5]) (by simp [results, Tryd.results79, go_sem, q0, q1, q2, noRat]) rfl ?_
  rw [← HO.out]
  exact OutPost.err rfl (by omega) (by omega) HBB.out
set_option maxHeartbeats 2000000 in
set_option maxRecDepth 100000 in
theorem nroot_false_false_same (s1 : Bool) (N1' D1' : Nat) (k p : Nat) (h2 : 2 ≤ k) (h8 : k ≤ 8) (hp : p ≤ 256) (hs : ng (ratOf s1 N1' D1') = false) (r : Rat) (hr : grtQ (ratOf s1 N1' D1') k p false = r) (w : World) (v1 : Value) (h1 : RawV w v1 s1 N1' D1') (hT : Tab w) (q : Rat) (hq : ratOf s1 N1' D1' = q) (hL : largeB s1 N1' D1' = false) :
    Calls Tryd.prog 79 #[v1, .int .i64 (k : Int), .int .i64 (p : Int), .bool false] w (OutPost w (give r)) := by
  have H1 := Lib.hid h1
  have HT := Lib.hid hT
  obtain ⟨A1, n1, c1, A1', n1', c1', rfl⟩ := h1.shape
  clear h1 hT
  obtain ⟨M, hM, k1, k3, bM⟩ := start1 w (.bool s1) (.slice A1 n1 c1) (.slice A1' n1' c1') (.bool false) (.slice none 0 0) (.slice none 0 0) 24 24
  have HX := Lib.hid k1
  have HR := Lib.hid (show Res M (w.heap.size + 1) 24 from ⟨_, _, _, NI.bool _, NI.slice _ _ _, NI.slice _ _ _, k3⟩)
  have BM := Lib.hid bM
  replace H1 := Lib.hid (H1.out.below bM)
  replace HT := Lib.hid (HT.out.below bM)
  have HQ := Lib.hid hq
  have HL := Lib.hid hL
  have hf := (largeB_false hL).2.2
  rw [hq] at hf
  have HF := Lib.hid hf
  clear hf
  have hp1 : decide ((k : Int) < 2) = false := decide_eq_false (by omega)
  have hp1' : decide (k < 2) = false := decide_eq_false (by omega)
  have hp2 : decide (8 < (k : Int)) = false := decide_eq_false (by omega)
  have hp2' : decide (8 < k) = false := decide_eq_false (by omega)
  have hp3 : decide ((p : Int) < 0) = false := decide_eq_false (by omega)
  have hp4 : decide (256 < (p : Int)) = false := decide_eq_false (by omega)
  have hp4' : decide (256 < p) = false := decide_eq_false (by omega)
  have hm := tmod_two k
  have hm2 : IntKind.i64.wrap ((k % 2 : Nat) : Int) = ((k % 2 : Nat) : Int) := wraps_i64 _ (by omega) (by omega)
  have HK2 := Lib.hid h2
  have HK8 := Lib.hid h8
  have HP := Lib.hid hp
  rw [hq] at hs
  have HNG := Lib.hid hs
  clear hs
  rw [hq] at hr
  have HR2 := Lib.hid hr
  obtain ⟨m, hmk⟩ : ∃ m, p * k = m := ⟨_, rfl⟩
  have hmi : (p : Int) * (k : Int) = (m : Int) := by rw [← hmk]; push_cast; rfl
  have hmb : m ≤ 2048 := by rw [← hmk]; exact Nat.mul_le_mul hp h8
  have HMK := Lib.hid hmk
  have u1 : IntKind.i64.wrap (m : Int) = (m : Int) := wrap_i64 _ (by omega) (by omega)
  have u2 : wrap64 (m : Int) = (m : Int) := by unfold wrap64; omega
  have u3 : IntKind.i64.wrap (p : Int) = (p : Int) := wrap_i64 _ (by omega) (by omega)
  have HXL := Lib.hid (show (W (q.num.natAbs * 2 ^ m)).length ≤ 200 by
    have e1 := W_mul_length q.num.natAbs (2 ^ m)
    have e2 := W_two_pow m
    have := HF.out.1
    omega)
  have HD := Lib.hid q.den_nz
  clear hr hmk
  obtain ⟨bx, hx⟩ : ∃ b, decide (irt k (q.num.natAbs * 2 ^ m / q.den) ^ k = q.num.natAbs * 2 ^ m / q.den) = b := ⟨_, rfl⟩
  have HEX := Lib.hid hx
  clear hx
  have HFIN := Lib.hid (show mkRat (sg false (irt k (q.num.natAbs * 2 ^ m / q.den))) (1 * 2 ^ p) = r by
    rw [← HR2.out]
    unfold grtQ rootN
    rw [HNG.out, HMK.out, Nat.one_mul]
    rw [if_neg (by simp)]
    rw [Nat.add_zero])
  obtain ⟨o, ho⟩ : ∃ o, give r = o := ⟨_, rfl⟩
  have HO := Lib.hid ho
  rw [ho]
  clear hq hL k1 k3 bM ho
  go_enter Tryd.func79, Tryd.ntmps79
  go_upto_region 1 with (fail)
  rw [← hM]
  clear hM
  obtain ⟨x1, x2, x3, _, _, _⟩ := HX.out.cells
  go_wp2_with fail
  refine (readV _ s1 N1' D1' _ H1.out HT.out).mono ?_
  rw [HL.out, Bool.not_false]
  rintro e wa ⟨t1, B1, m1, d1, B1', m1', d1', rfl, f1, ba⟩
  have bb := below_step ba ba.size (below_alloc wa (.cells #[.bool t1, .slice B1 m1 d1, .slice B1' m1' d1'] 65))
  have hf1 := Box.new wa (.bool t1) (.slice B1 m1 d1) (.slice B1' m1' d1') 65
  have szw : w.heap.size + 1 < wa.heap.size := Nat.lt_of_lt_of_le (by obtain ⟨_, _, _, _, _, _, hh⟩ := HR.out; exact hh.lt) ba.size
  have TA : Hid (N1 w (wa.alloc (.cells #[.bool t1, .slice B1 m1 d1, .slice B1' m1' d1'] 65)) (w.heap.size + 1) wa.heap.size t1 B1 m1 d1 B1' m1' d1') :=
    Lib.hid ⟨HR.out.below bb, hf1, HT.out.below bb, below_step BM.out BM.out.size bb, by omega, by omega⟩
  have F1 : Hid (IsF (wa.alloc (.cells #[.bool t1, .slice B1 m1 d1, .slice B1' m1' d1'] 65)) (.agg #[.bool t1, .slice B1 m1 d1, .slice B1' m1' d1']) q) := Lib.hid (by rw [← HQ.out]; exact (f1.out rfl).below (below_alloc _ _))
  obtain ⟨w2, hw2⟩ : ∃ w2, wa.alloc (.cells #[.bool t1, .slice B1 m1 d1, .slice B1' m1' d1'] 65) = w2 := ⟨_, rfl⟩
  obtain ⟨gf, hgf⟩ : ∃ gf, wa.heap.size = gf := ⟨_, rfl⟩
  clear x1 x2 x3 ba bb f1 hf1 szw HR BM HX H1 HT
  go_upto_region 2 with (fail)
  rw [hw2] at TA F1
  try rw [hw2]
  rw [hgf] at TA
  try rw [hgf]
  clear hw2 hgf
  obtain ⟨y1, y2, y3, _⟩ := TA.out.box.cells
  obtain ⟨ht, a1, a2⟩ := F1.out.at_
  obtain rfl : t1 = false := ht.trans HNG.out
  have NA := Lib.hid a1
  have NB := Lib.hid a2
  clear ht a1 a2
  have T0 := Lib.hid (show NF w w2 (w.heap.size + 1) gf false B1 m1 d1 B1' m1' d1' q B1 m1 d1 q.num.natAbs from ⟨TA.out, NA.out, NB.out, NA.out, by omega⟩)
  go_wp2_with fail
  go_region_held3 (fun W' => (World.cell? W' ⟨gf, 0, none⟩ = some (.bool false) ∧ World.cell? W' ⟨gf, 1, none⟩ = some (.slice B1 m1 d1) ∧ World.cell? W' ⟨gf, 2, none⟩ = some (.slice B1' m1' d1') ∧ Hid (NF w W' (w.heap.size + 1) gf false B1 m1 d1 B1' m1' d1' q B1 m1 d1 (q.num.natAbs))))
    (with_reducible (first | assumption | exact T0.out.drew.cells | exact NF.next (by assumption) (by assumption) | exact NF.nextS (by assumption)))
    (first
       | (go_at_call 108
          refine (aShl _ m _ _ _ _ (NF.of (by assumption)).a (Nat.le_trans HF.out.1 (by omega)) (by omega)).mono ?_
          rintro e wb ⟨C1, x1, z1, rfl, i1, b1⟩)
       | (go_at_call 109
          refine (aDiv _ _ _ _ _ _ _ _ _ i1.out (NF.of (by assumption)).b (Nat.le_trans HXL.out (by omega)) (Nat.pos_of_ne_zero HD.out)).mono ?_
          rintro e wc ⟨C2, x2, z2, C3, x3, z3, rfl, i2, i3, b2⟩
          have hh := Lib.hid ((NF.of (by assumption)).below b2)))
  replace TA := Lib.hid hh.out.v
  replace NA := Lib.hid hh.out.a
  replace NB := Lib.hid hh.out.b
  clear hh T0 y1 y2 y3
  obtain ⟨y1, y2, y3, _⟩ := TA.out.box.cells
  go_wp2_with fail
  refine (aRoot _ k _ _ _ _ i2.out (Nat.le_trans (dig_length_mono B32_two (Nat.div_le_self _ _)) (Nat.le_trans HXL.out (by omega))) HK2.out (Nat.le_trans HK8.out (by omega))).mono ?_
  rw [HEX.out]
  rintro e wb ⟨C4, x4, z4, rfl, i4, bb⟩
  replace TA := Lib.hid (TA.out.below bb)
  replace NA := Lib.hid (NA.out.below bb)
  replace NB := Lib.hid (NB.out.below bb)
  replace i3 := Lib.hid (i3.out.below bb)
  clear bb y1 y2 y3
  obtain ⟨y1, y2, y3, _⟩ := TA.out.box.cells
  have LR := Lib.hid (show (W (irt k (q.num.natAbs * 2 ^ m / q.den))).length ≤ 200 from Nat.le_trans (dig_length_mono B32_two (Nat.le_trans (irt_self (Nat.lt_of_lt_of_le (by omega) HK2.out) _) (Nat.div_le_self _ _))) HXL.out)
  have L1 := Lib.hid (show (W 1).length ≤ 1 from (dig_length_le B32_two _ _).2 (by unfold B32; omega))
  have LQ := Lib.hid (show (W (irt k (q.num.natAbs * 2 ^ m / q.den))).length ≤ 300 by
    have e1 := LR.out
    have e2 := L1.out
    skip
    omega)
  have LP := Lib.hid (show (W (1 * 2 ^ p)).length ≤ 300 by
    have e2 := W_two_pow p
    have := HP.out
    rw [Nat.one_mul]
    omega)
  obtain ⟨rn, hrn⟩ : ∃ x, irt k (q.num.natAbs * 2 ^ m / q.den) = x := ⟨_, rfl⟩
  rw [hrn] at i4 LQ HFIN
  have T0 := Lib.hid (show NF w _ (w.heap.size + 1) gf false B1 m1 d1 B1' m1' d1' q C4 x4 z4 rn from ⟨TA.out, NA.out, NB.out, i4.out, by omega⟩)
  go_wp2_with fail
  go_region_held3 (fun W' => (World.cell? W' ⟨gf, 0, none⟩ = some (.bool false) ∧ World.cell? W' ⟨gf, 1, none⟩ = some (.slice B1 m1 d1) ∧ World.cell? W' ⟨gf, 2, none⟩ = some (.slice B1' m1' d1') ∧ Hid (NF w W' (w.heap.size + 1) gf false B1 m1 d1 B1' m1' d1' q C4 x4 z4 rn)))
    (with_reducible (first | assumption | exact T0.out.drew.cells | exact NF.next (by assumption) (by assumption) | exact NF.nextS (by assumption)))
    (first
       | (go_at_call 94
          refine (aSmall1 _).mono ?_
          rintro e wb ⟨C7, x7, z7, rfl, i7, b7⟩)
       | (go_at_call 108
          refine (aShl _ p _ _ _ _ i7.out (Nat.le_trans L1.out (by omega)) (Nat.le_trans HP.out (by omega))).mono ?_
          rintro e wc ⟨C8, x8, z8, rfl, i8, b8⟩)
       | (go_at_call 92
          refine (aReduce false _ _ _ _ _ _ _ _ _ (NF.of (by assumption)).c i8.out (by rw [Nat.one_mul]; exact Nat.ne_of_gt (Nat.two_pow_pos p)) (Nat.le_trans LQ.out (by omega)) (Nat.le_trans LP.out (by omega)) (NF.of (by assumption)).v.tab r HFIN.out).mono ?_
          rintro e wd ⟨t9, B9, m9, d9, B9', m9', d9', rfl, i9, b9⟩)
       | (go_at_call 57
          refine (giveF _ _ _ i9.out).mono ?_
          rintro e we ⟨s9, A9, n9, c9, A9', n9', c9', k9, rfl, h9, b10⟩
          have hh := (NF.of (by assumption)).below b10
          obtain ⟨z1, z2, z3, hz1, hz2, hz3, k1, k2, k3⟩ := hh.v.res.cells))
  obtain ⟨q0, q1, q2, hs, hb⟩ := OutIs.stored h9 hh.v.res hh.v.bel hh.v.n3
  have Q := Lib.hid (And.intro q0 (And.intro q1 q2))
  have HS := Lib.hid hs
  have HBB := Lib.hid hb
  clear q0 q1 q2 hs hb h9
  go_wp2
  obtain ⟨q0, q1, q2⟩ := Q.out
  refine bodyPost_ret (v := .tuple #[.agg #[.bool s9, .slice A9 n9 c9, .slice A9' n9' c9'], .int .i64 k9]) (by simp [results, Tryd.results79, go_sem, q0, q1, q2]) rfl ?_
  rw [← HO.out]
  exact ⟨_, _, _, _, _, _, _, _, rfl, HS.out, HBB.out⟩
set_option maxHeartbeats 2000000 in
set_option maxRecDepth 100000 in
theorem nroot_false_true_exact (s1 : Bool) (N1' D1' : Nat) (k p : Nat) (h2 : 2 ≤ k) (h8 : k ≤ 8) (hp : p ≤ 256) (hs : ng (ratOf s1 N1' D1') = false) (x1 : decide (irt k ((ratOf s1 N1' D1').num.natAbs * 2 ^ (p * k) / (ratOf s1 N1' D1').den) ^ k = (ratOf s1 N1' D1').num.natAbs * 2 ^ (p * k) / (ratOf s1 N1' D1').den) = true) (x2 : decide ((ratOf s1 N1' D1').num.natAbs * 2 ^ (p * k) % (ratOf s1 N1' D1').den = 0) = true) (r : Rat) (hr : grtQ (ratOf s1 N1' D1') k p true = r) (w : World) (v1 : Value) (h1 : RawV w v1 s1 N1' D1') (hT : Tab w) (q : Rat) (hq : ratOf s1 N1' D1' = q) (hL : largeB s1 N1' D1' = false) :
    Calls Tryd.prog 79 #[v1, .int .i64 (k : Int), .int .i64 (p : Int), .bool true] w (OutPost w (give r)) := by
  have H1 := Lib.hid h1
  have HT := Lib.hid hT
  obtain ⟨A1, n1, c1, A1', n1', c1', rfl⟩ := h1.shape
  clear h1 hT
  obtain ⟨M, hM, k1, k3, bM⟩ := start1 w (.bool s1) (.slice A1 n1 c1) (.slice A1' n1' c1') (.bool false) (.slice none 0 0) (.slice none 0 0) 24 24
  have HX := Lib.hid k1
  have HR := Lib.hid (show Res M (w.heap.size + 1) 24 from ⟨_, _, _, NI.bool _, NI.slice _ _ _, NI.slice _ _ _, k3⟩)
  have BM := Lib.hid bM
  replace H1 := Lib.hid (H1.out.below bM)
  replace HT := Lib.hid (HT.out.below bM)
  have HQ := Lib.hid hq
  have HL := Lib.hid hL
  have hf := (largeB_false hL).2.2
  rw [hq] at hf
  have HF := Lib.hid hf
  clear hf
  have hp1 : decide ((k : Int) < 2) = false := decide_eq_false (by omega)
  have hp1' : decide (k < 2) = false := decide_eq_false (by omega)
  have hp2 : decide (8 < (k : Int)) = false := decide_eq_false (by omega)
  have hp2' : decide (8 < k) = false := decide_eq_false (by omega)
  have hp3 : decide ((p : Int) < 0) = false := decide_eq_false (by omega)
  have hp4 : decide (256 < (p : Int)) = false := decide_eq_false (by omega)
  have hp4' : decide (256 < p) = false := decide_eq_false (by omega)
  have hm := tmod_two k
  have hm2 : IntKind.i64.wrap ((k % 2 : Nat) : Int) = ((k % 2 : Nat) : Int) := wraps_i64 _ (by omega) (by omega)
  have HK2 := Lib.hid h2
  have HK8 := Lib.hid h8
  have HP := Lib.hid hp
  rw [hq] at hs
  have HNG := Lib.hid hs
  clear hs
  rw [hq] at hr
  have HR2 := Lib.hid hr
  obtain ⟨m, hmk⟩ : ∃ m, p * k = m := ⟨_, rfl⟩
  have hmi : (p : Int) * (k : Int) = (m : Int) := by rw [← hmk]; push_cast; rfl
  have hmb : m ≤ 2048 := by rw [← hmk]; exact Nat.mul_le_mul hp h8
  have HMK := Lib.hid hmk
  have u1 : IntKind.i64.wrap (m : Int) = (m : Int) := wrap_i64 _ (by omega) (by omega)
  have u2 : wrap64 (m : Int) = (m : Int) := by unfold wrap64; omega
  have u3 : IntKind.i64.wrap (p : Int) = (p : Int) := wrap_i64 _ (by omega) (by omega)
  have HXL := Lib.hid (show (W (q.num.natAbs * 2 ^ m)).length ≤ 200 by
    have e1 := W_mul_length q.num.natAbs (2 ^ m)
    have e2 := W_two_pow m
    have := HF.out.1
    omega)
  have HD := Lib.hid q.den_nz
  clear hr hmk
  rw [hq, HMK.out] at x1
  have HEX := Lib.hid x1
  clear x1
  rw [hq, HMK.out] at x2
  have HRE := Lib.hid x2
  clear x2
  have HFIN := Lib.hid (show mkRat (sg false (irt k (q.num.natAbs * 2 ^ m / q.den))) (1 * 2 ^ p) = r by
    rw [← HR2.out]
    unfold grtQ rootN
    rw [HNG.out, HMK.out, Nat.one_mul]
    have e1 := of_decide_eq_true HEX.out
    have e2 := of_decide_eq_true HRE.out
    rw [if_neg (by rw [e1, e2]; simp)]
    rw [Nat.add_zero])
  obtain ⟨o, ho⟩ : ∃ o, give r = o := ⟨_, rfl⟩
  have HO := Lib.hid ho
  rw [ho]
  clear hq hL k1 k3 bM ho
  go_enter Tryd.func79, Tryd.ntmps79
  go_upto_region 1 with (fail)
  rw [← hM]
  clear hM
  obtain ⟨x1, x2, x3, _, _, _⟩ := HX.out.cells
  go_wp2_with fail
  refine (readV _ s1 N1' D1' _ H1.out HT.out).mono ?_
  rw [HL.out, Bool.not_false]
  rintro e wa ⟨t1, B1, m1, d1, B1', m1', d1', rfl, f1, ba⟩
  have bb := below_step ba ba.size (below_alloc wa (.cells #[.bool t1, .slice B1 m1 d1, .slice B1' m1' d1'] 65))
  have hf1 := Box.new wa (.bool t1) (.slice B1 m1 d1) (.slice B1' m1' d1') 65
  have szw : w.heap.size + 1 < wa.heap.size := Nat.lt_of_lt_of_le (by obtain ⟨_, _, _, _, _, _, hh⟩ := HR.out; exact hh.lt) ba.size
  have TA : Hid (N1 w (wa.alloc (.cells #[.bool t1, .slice B1 m1 d1, .slice B1' m1' d1'] 65)) (w.heap.size + 1) wa.heap.size t1 B1 m1 d1 B1' m1' d1') :=
    Lib.hid ⟨HR.out.below bb, hf1, HT.out.below bb, below_step BM.out BM.out.size bb, by omega, by omega⟩
  have F1 : Hid (IsF (wa.alloc (.cells #[.bool t1, .slice B1 m1 d1, .slice B1' m1' d1'] 65)) (.agg #[.bool t1, .slice B1 m1 d1, .slice B1' m1' d1']) q) := Lib.hid (by rw [← HQ.out]; exact (f1.out rfl).below (below_alloc _ _))
  obtain ⟨w2, hw2⟩ : ∃ w2, wa.alloc (.cells #[.bool t1, .slice B1 m1 d1, .slice B1' m1' d1'] 65) = w2 := ⟨_, rfl⟩
  obtain ⟨gf, hgf⟩ : ∃ gf, wa.heap.size = gf := ⟨_, rfl⟩
  clear x1 x2 x3 ba bb f1 hf1 szw HR BM HX H1 HT
  go_upto_region 2 with (fail)
  rw [hw2] at TA F1
  try rw [hw2]
  rw [hgf] at TA
  try rw [hgf]
  clear hw2 hgf
  obtain ⟨y1, y2, y3, _⟩ := TA.out.box.cells
  obtain ⟨ht, a1, a2⟩ := F1.out.at_
  obtain rfl : t1 = false := ht.trans HNG.out
  have NA := Lib.hid a1
  have NB := Lib.hid a2
  clear ht a1 a2
  have T0 := Lib.hid (show NF w w2 (w.heap.size + 1) gf false B1 m1 d1 B1' m1' d1' q B1 m1 d1 q.num.natAbs from ⟨TA.out, NA.out, NB.out, NA.out, by omega⟩)
  go_wp2_with fail
  go_region_held3 (fun W' => (World.cell? W' ⟨gf, 0, none⟩ = some (.bool false) ∧ World.cell? W' ⟨gf, 1, none⟩ = some (.slice B1 m1 d1) ∧ World.cell? W' ⟨gf, 2, none⟩ = some (.slice B1' m1' d1') ∧ Hid (NF w W' (w.heap.size + 1) gf false B1 m1 d1 B1' m1' d1' q B1 m1 d1 (q.num.natAbs))))
    (with_reducible (first | assumption | exact T0.out.drew.cells | exact NF.next (by assumption) (by assumption) | exact NF.nextS (by assumption)))
    (first
       | (go_at_call 108
          refine (aShl _ m _ _ _ _ (NF.of (by assumption)).a (Nat.le_trans HF.out.1 (by omega)) (by omega)).mono ?_
          rintro e wb ⟨C1, x1, z1, rfl, i1, b1⟩)
       | (go_at_call 109
          refine (aDiv _ _ _ _ _ _ _ _ _ i1.out (NF.of (by assumption)).b (Nat.le_trans HXL.out (by omega)) (Nat.pos_of_ne_zero HD.out)).mono ?_
          rintro e wc ⟨C2, x2, z2, C3, x3, z3, rfl, i2, i3, b2⟩
          have hh := Lib.hid ((NF.of (by assumption)).below b2)))
  replace TA := Lib.hid hh.out.v
  replace NA := Lib.hid hh.out.a
  replace NB := Lib.hid hh.out.b
  clear hh T0 y1 y2 y3
  obtain ⟨y1, y2, y3, _⟩ := TA.out.box.cells
  go_wp2_with fail
  refine (aRoot _ k _ _ _ _ i2.out (Nat.le_trans (dig_length_mono B32_two (Nat.div_le_self _ _)) (Nat.le_trans HXL.out (by omega))) HK2.out (Nat.le_trans HK8.out (by omega))).mono ?_
  rw [HEX.out]
  rintro e wb ⟨C4, x4, z4, rfl, i4, bb⟩
  replace TA := Lib.hid (TA.out.below bb)
  replace NA := Lib.hid (NA.out.below bb)
  replace NB := Lib.hid (NB.out.below bb)
  replace i3 := Lib.hid (i3.out.below bb)
  clear bb y1 y2 y3
  obtain ⟨y1, y2, y3, _⟩ := TA.out.box.cells
  go_wp2_with fail
  refine (aZero _ _ _ _ _ i3.out).mono ?_
  rw [HRE.out]
  rintro e wb ⟨rfl, rfl⟩
  have LR := Lib.hid (show (W (irt k (q.num.natAbs * 2 ^ m / q.den))).length ≤ 200 from Nat.le_trans (dig_length_mono B32_two (Nat.le_trans (irt_self (Nat.lt_of_lt_of_le (by omega) HK2.out) _) (Nat.div_le_self _ _))) HXL.out)
  have L1 := Lib.hid (show (W 1).length ≤ 1 from (dig_length_le B32_two _ _).2 (by unfold B32; omega))
  have LQ := Lib.hid (show (W (irt k (q.num.natAbs * 2 ^ m / q.den))).length ≤ 300 by
    have e1 := LR.out
    have e2 := L1.out
    skip
    omega)
  have LP := Lib.hid (show (W (1 * 2 ^ p)).length ≤ 300 by
    have e2 := W_two_pow p
    have := HP.out
    rw [Nat.one_mul]
    omega)
  obtain ⟨rn, hrn⟩ : ∃ x, irt k (q.num.natAbs * 2 ^ m / q.den) = x := ⟨_, rfl⟩
  rw [hrn] at i4 LQ HFIN
  have T0 := Lib.hid (show NF w _ (w.heap.size + 1) gf false B1 m1 d1 B1' m1' d1' q C4 x4 z4 rn from ⟨TA.out, NA.out, NB.out, i4.out, by omega⟩)
  go_wp2_with fail
  go_region_held3 (fun W' => (World.cell? W' ⟨gf, 0, none⟩ = some (.bool false) ∧ World.cell? W' ⟨gf, 1, none⟩ = some (.slice B1 m1 d1) ∧ World.cell? W' ⟨gf, 2, none⟩ = some (.slice B1' m1' d1') ∧ Hid (NF w W' (w.heap.size + 1) gf false B1 m1 d1 B1' m1' d1' q C4 x4 z4 rn)))
    (with_reducible (first | assumption | exact T0.out.drew.cells | exact NF.next (by assumption) (by assumption) | exact NF.nextS (by assumption)))
    (first
       | (go_at_call 94
          refine (aSmall1 _).mono ?_
          rintro e wb ⟨C7, x7, z7, rfl, i7, b7⟩)
       | (go_at_call 108
          refine (aShl _ p _ _ _ _ i7.out (Nat.le_trans L1.out (by omega)) (Nat.le_trans HP.out (by omega))).mono ?_
          rintro e wc ⟨C8, x8, z8, rfl, i8, b8⟩)
       | (go_at_call 92
          refine (aReduce false _ _ _ _ _ _ _ _ _ (NF.of (by assumption)).c i8.out (by rw [Nat.one_mul]; exact Nat.ne_of_gt (Nat.two_pow_pos p)) (Nat.le_trans LQ.out (by omega)) (Nat.le_trans LP.out (by omega)) (NF.of (by assumption)).v.tab r HFIN.out).mono ?_
          rintro e wd ⟨t9, B9, m9, d9, B9', m9', d9', rfl, i9, b9⟩)
       | (go_at_call 57
          refine (giveF _ _ _ i9.out).mono ?_
          rintro e we ⟨s9, A9, n9, c9, A9', n9', c9', k9, rfl, h9, b10⟩
          have hh := (NF.of (by assumption)).below b10
          obtain ⟨z1, z2, z3, hz1, hz2, hz3, k1, k2, k3⟩ := hh.v.res.cells))
  obtain ⟨q0, q1, q2, hs, hb⟩ := OutIs.stored h9 hh.v.res hh.v.bel hh.v.n3
  have Q := Lib.hid (And.intro q0 (And.intro q1 q2))
  have HS := Lib.hid hs
  have HBB := Lib.hid hb
  clear q0 q1 q2 hs hb h9
  go_wp2
  obtain ⟨q0, q1, q2⟩ := Q.out
  refine bodyPost_ret (v := .tuple #[.agg #[.bool s9, .slice A9 n9 c9, .slice A9' n9' c9'], .int .i64 k9]) (by simp [results, Tryd.results79, go_sem, q0, q1, q2]) rfl ?_
  rw [← HO.out]
  exact ⟨_, _, _, _, _, _, _, _, rfl, HS.out, HBB.out⟩
set_option maxHeartbeats 2000000 in
set_option maxRecDepth 100000 in
theorem nroot_false_true_rest (s1 : Bool) (N1' D1' : Nat) (k p : Nat) (h2 : 2 ≤ k) (h8 : k ≤ 8) (hp : p ≤ 256) (hs : ng (ratOf s1 N1' D1') = false) (x1 : decide (irt k ((ratOf s1 N1' D1').num.natAbs * 2 ^ (p * k) / (ratOf s1 N1' D1').den) ^ k = (ratOf s1 N1' D1').num.natAbs * 2 ^ (p * k) / (ratOf s1 N1' D1').den) = true) (x2 : decide ((ratOf s1 N1' D1').num.natAbs * 2 ^ (p * k) % (ratOf s1 N1' D1').den = 0) = false) (r : Rat) (hr : grtQ (ratOf s1 N1' D1') k p true = r) (w : World) (v1 : Value) (h1 : RawV w v1 s1 N1' D1') (hT : Tab w) (q : Rat) (hq : ratOf s1 N1' D1' = q) (hL : largeB s1 N1' D1' = false) :
    Calls Tryd.prog 79 #[v1, .int .i64 (k : Int), .int .i64 (p : Int), .bool true] w (OutPost w (give r)) := by
  have H1 := Lib.hid h1
  have HT := Lib.hid hT
  obtain ⟨A1, n1, c1, A1', n1', c1', rfl⟩ := h1.shape
  clear h1 hT
  obtain ⟨M, hM, k1, k3, bM⟩ := start1 w (.bool s1) (.slice A1 n1 c1) (.slice A1' n1' c1') (.bool false) (.slice none 0 0) (.slice none 0 0) 24 24
  have HX := Lib.hid k1
  have HR := Lib.hid (show Res M (w.heap.size + 1) 24 from ⟨_, _, _, NI.bool _, NI.slice _ _ _, NI.slice _ _ _, k3⟩)
  have BM := Lib.hid bM
  replace H1 := Lib.hid (H1.out.below bM)
  replace HT := Lib.hid (HT.out.below bM)
  have HQ := Lib.hid hq
  have HL := Lib.hid hL
  have hf := (largeB_false hL).2.2
  rw [hq] at hf
  have HF := Lib.hid hf
  clear hf
  have hp1 : decide ((k : Int) < 2) = false := decide_eq_false (by omega)
  have hp1' : decide (k < 2) = false := decide_eq_false (by omega)
  have hp2 : decide (8 < (k : Int)) = false := decide_eq_false (by omega)
  have hp2' : decide (8 < k) = false := decide_eq_false (by omega)
  have hp3 : decide ((p : Int) < 0) = false := decide_eq_false (by omega)
  have hp4 : decide (256 < (p : Int)) = false := decide_eq_false (by omega)
  have hp4' : decide (256 < p) = false := decide_eq_false (by omega)
  have hm := tmod_two k
  have hm2 : IntKind.i64.wrap ((k % 2 : Nat) : Int) = ((k % 2 : Nat) : Int) := wraps_i64 _ (by omega) (by omega)
  have HK2 := Lib.hid h2
  have HK8 := Lib.hid h8
  have HP := Lib.hid hp
  rw [hq] at hs
  have HNG := Lib.hid hs
  clear hs
  rw [hq] at hr
  have HR2 := Lib.hid hr
  obtain ⟨m, hmk⟩ : ∃ m, p * k = m := ⟨_, rfl⟩
  have hmi : (p : Int) * (k : Int) = (m : Int) := by rw [← hmk]; push_cast; rfl
  have hmb : m ≤ 2048 := by rw [← hmk]; exact Nat.mul_le_mul hp h8
  have HMK := Lib.hid hmk
  have u1 : IntKind.i64.wrap (m : Int) = (m : Int) := wrap_i64 _ (by omega) (by omega)
  have u2 : wrap64 (m : Int) = (m : Int) := by unfold wrap64; omega
  have u3 : IntKind.i64.wrap (p : Int) = (p : Int) := wrap_i64 _ (by omega) (by omega)
  have HXL := Lib.hid (show (W (q.num.natAbs * 2 ^ m)).length ≤ 200 by
    have e1 := W_mul_length q.num.natAbs (2 ^ m)
    have e2 := W_two_pow m
    have := HF.out.1
    omega)
  have HD := Lib.hid q.den_nz
  clear hr hmk
  rw [hq, HMK.out] at x1
  have HEX := Lib.hid x1
  clear x1
  rw [hq, HMK.out] at x2
  have HRE := Lib.hid x2
  clear x2
  have HFIN := Lib.hid (show mkRat (sg false (irt k (q.num.natAbs * 2 ^ m / q.den) + 1)) (1 * 2 ^ p) = r by
    rw [← HR2.out]
    unfold grtQ rootN
    rw [HNG.out, HMK.out, Nat.one_mul]
    have e1 := of_decide_eq_true HEX.out
    have e2 := of_decide_eq_false HRE.out
    rw [if_pos ⟨rfl, by simp [e2]⟩])
  obtain ⟨o, ho⟩ : ∃ o, give r = o := ⟨_, rfl⟩
  have HO := Lib.hid ho
  rw [ho]
  clear hq hL k1 k3 bM ho
  go_enter Tryd.func79, Tryd.ntmps79
  go_upto_region 1 with (fail)
  rw [← hM]
  clear hM
  obtain ⟨x1, x2, x3, _, _, _⟩ := HX.out.cells
  go_wp2_with fail
  refine (readV _ s1 N1' D1' _ H1.out HT.out).mono ?_
  rw [HL.out, Bool.not_false]
  rintro e wa ⟨t1, B1, m1, d1, B1', m1', d1', rfl, f1, ba⟩
  have bb := below_step ba ba.size (below_alloc wa (.cells #[.bool t1, .slice B1 m1 d1, .slice B1' m1' d1'] 65))
  have hf1 := Box.new wa (.bool t1) (.slice B1 m1 d1) (.slice B1' m1' d1') 65
  have szw : w.heap.size + 1 < wa.heap.size := Nat.lt_of_lt_of_le (by obtain ⟨_, _, _, _, _, _, hh⟩ := HR.out; exact hh.lt) ba.size
  have TA : Hid (N1 w (wa.alloc (.cells #[.bool t1, .slice B1 m1 d1, .slice B1' m1' d1'] 65)) (w.heap.size + 1) wa.heap.size t1 B1 m1 d1 B1' m1' d1') :=
    Lib.hid ⟨HR.out.below bb, hf1, HT.out.below bb, below_step BM.out BM.out.size bb, by omega, by omega⟩
  have F1 : Hid (IsF (wa.alloc (.cells #[.bool t1, .slice B1 m1 d1, .slice B1' m1' d1'] 65)) (.agg #[.bool t1, .slice B1 m1 d1, .slice B1' m1' d1']) q) := Lib.hid (by rw [← HQ.out]; exact (f1.out rfl).below (below_alloc _ _))
  obtain ⟨w2, hw2⟩ : ∃ w2, wa.alloc (.cells #[.bool t1, .slice B1 m1 d1, .slice B1' m1' d1'] 65) = w2 := ⟨_, rfl⟩
  obtain ⟨gf, hgf⟩ : ∃ gf, wa.heap.size = gf := ⟨_, rfl⟩
  clear x1 x2 x3 ba bb f1 hf1 szw HR BM HX H1 HT
  go_upto_region 2 with (fail)
  rw [hw2] at TA F1
  try rw [hw2]
  rw [hgf] at TA
  try rw [hgf]
  clear hw2 hgf
  obtain ⟨y1, y2, y3, _⟩ := TA.out.box.cells
  obtain ⟨ht, a1, a2⟩ := F1.out.at_
  obtain rfl : t1 = false := ht.trans HNG.out
  have NA := Lib.hid a1
  have NB := Lib.hid a2
  clear ht a1 a2
  have T0 := Lib.hid (show NF w w2 (w.heap.size + 1) gf false B1 m1 d1 B1' m1' d1' q B1 m1 d1 q.num.natAbs from ⟨TA.out, NA.out, NB.out, NA.out, by omega⟩)
  go_wp2_with fail
  go_region_held3 (fun W' => (World.cell? W' ⟨gf, 0, none⟩ = some (.bool false) ∧ World.cell? W' ⟨gf, 1, none⟩ = some (.slice B1 m1 d1) ∧ World.cell? W' ⟨gf, 2, none⟩ = some (.slice B1' m1' d1') ∧ Hid (NF w W' (w.heap.size + 1) gf false B1 m1 d1 B1' m1' d1' q B1 m1 d1 (q.num.natAbs))))
    (with_reducible (first | assumption | exact T0.out.drew.cells | exact NF.next (by assumption) (by assumption) | exact NF.nextS (by assumption)))
    (first
       | (go_at_call 108
          refine (aShl _ m _ _ _ _ (NF.of (by assumption)).a (Nat.le_trans HF.out.1 (by omega)) (by omega)).mono ?_
          rintro e wb ⟨C1, x1, z1, rfl, i1, b1⟩)
       | (go_at_call 109
          refine (aDiv _ _ _ _ _ _ _ _ _ i1.out (NF.of (by assumption)).b (Nat.le_trans HXL.out (by omega)) (Nat.pos_of_ne_zero HD.out)).mono ?_
          rintro e wc ⟨C2, x2, z2, C3, x3, z3, rfl, i2, i3, b2⟩
          have hh := Lib.hid ((NF.of (by assumption)).below b2)))
  replace TA := Lib.hid hh.out.v
  replace NA := Lib.hid hh.out.a
  replace NB := Lib.hid hh.out.b
  clear hh T0 y1 y2 y3
  obtain ⟨y1, y2, y3, _⟩ := TA.out.box.cells
  go_wp2_with fail
  refine (aRoot _ k _ _ _ _ i2.out (Nat.le_trans (dig_length_mono B32_two (Nat.div_le_self _ _)) (Nat.le_trans HXL.out (by omega))) HK2.out (Nat.le_trans HK8.out (by omega))).mono ?_
  rw [HEX.out]
  rintro e wb ⟨C4, x4, z4, rfl, i4, bb⟩
  replace TA := Lib.hid (TA.out.below bb)
  replace NA := Lib.hid (NA.out.below bb)
  replace NB := Lib.hid (NB.out.below bb)
  replace i3 := Lib.hid (i3.out.below bb)
  clear bb y1 y2 y3
  obtain ⟨y1, y2, y3, _⟩ := TA.out.box.cells
  go_wp2_with fail
  refine (aZero _ _ _ _ _ i3.out).mono ?_
  rw [HRE.out]
  rintro e wb ⟨rfl, rfl⟩
  have LR := Lib.hid (show (W (irt k (q.num.natAbs * 2 ^ m / q.den))).length ≤ 200 from Nat.le_trans (dig_length_mono B32_two (Nat.le_trans (irt_self (Nat.lt_of_lt_of_le (by omega) HK2.out) _) (Nat.div_le_self _ _))) HXL.out)
  have L1 := Lib.hid (show (W 1).length ≤ 1 from (dig_length_le B32_two _ _).2 (by unfold B32; omega))
  go_wp2_with fail
  refine (aSmall1 _).mono ?_
  rintro e wb ⟨C5, x5, z5, rfl, i5, bb⟩
  replace TA := Lib.hid (TA.out.below bb)
  replace NA := Lib.hid (NA.out.below bb)
  replace NB := Lib.hid (NB.out.below bb)
  replace i4 := Lib.hid (i4.out.below bb)
  clear bb y1 y2 y3
  obtain ⟨y1, y2, y3, _⟩ := TA.out.box.cells
  go_wp2_with fail
  refine (aAdd _ _ _ _ _ _ _ _ _ i4.out i5.out (Nat.le_trans LR.out (by omega)) (Nat.le_trans L1.out (by omega))).mono ?_
  rintro e wb ⟨C6, x6, z6, rfl, i6, bb⟩
  replace TA := Lib.hid (TA.out.below bb)
  replace NA := Lib.hid (NA.out.below bb)
  replace NB := Lib.hid (NB.out.below bb)
  clear bb y1 y2 y3
  obtain ⟨y1, y2, y3, _⟩ := TA.out.box.cells
  have LQ := Lib.hid (show (W (irt k (q.num.natAbs * 2 ^ m / q.den) + 1)).length ≤ 300 by
    have e1 := LR.out
    have e2 := L1.out
    have e3 := W_add_length (irt k (q.num.natAbs * 2 ^ m / q.den)) 1
    omega)
  have LP := Lib.hid (show (W (1 * 2 ^ p)).length ≤ 300 by
    have e2 := W_two_pow p
    have := HP.out
    rw [Nat.one_mul]
    omega)
  obtain ⟨rn, hrn⟩ : ∃ x, irt k (q.num.natAbs * 2 ^ m / q.den) + 1 = x := ⟨_, rfl⟩
  rw [hrn] at i6 LQ HFIN
  have T0 := Lib.hid (show NF w _ (w.heap.size + 1) gf false B1 m1 d1 B1' m1' d1' q C6 x6 z6 rn from ⟨TA.out, NA.out, NB.out, i6.out, by omega⟩)
  go_wp2_with fail
  go_region_held3 (fun W' => (World.cell? W' ⟨gf, 0, none⟩ = some (.bool false) ∧ World.cell? W' ⟨gf, 1, none⟩ = some (.slice B1 m1 d1) ∧ World.cell? W' ⟨gf, 2, none⟩ = some (.slice B1' m1' d1') ∧ Hid (NF w W' (w.heap.size + 1) gf false B1 m1 d1 B1' m1' d1' q C6 x6 z6 rn)))
    (with_reducible (first | assumption | exact T0.out.drew.cells | exact NF.next (by assumption) (by assumption) | exact NF.nextS (by assumption)))
    (first
       | (go_at_call 94
          refine (aSmall1 _).mono ?_
          rintro e wb ⟨C7, x7, z7, rfl, i7, b7⟩)
       | (go_at_call 108
          refine (aShl _ p _ _ _ _ i7.out (Nat.le_trans L1.out (by omega)) (Nat.le_trans HP.out (by omega))).mono ?_
          rintro e wc ⟨C8, x8, z8, rfl, i8, b8⟩)
       | (go_at_call 92
          refine (aReduce false _ _ _ _ _ _ _ _ _ (NF.of (by assumption)).c i8.out (by rw [Nat.one_mul]; exact Nat.ne_of_gt (Nat.two_pow_pos p)) (Nat.le_trans LQ.out (by omega)) (Nat.le_trans LP.out (by omega)) (NF.of (by assumption)).v.tab r HFIN.out).mono ?_
          rintro e wd ⟨t9, B9, m9, d9, B9', m9', d9', rfl, i9, b9⟩)
       | (go_at_call 57
          refine (giveF _ _ _ i9.out).mono ?_
          rintro e we ⟨s9, A9, n9, c9, A9', n9', c9', k9, rfl, h9, b10⟩
          have hh := (NF.of (by assumption)).below b10
          obtain ⟨z1, z2, z3, hz1, hz2, hz3, k1, k2, k3⟩ := hh.v.res.cells))
  obtain ⟨q0, q1, q2, hs, hb⟩ := OutIs.stored h9 hh.v.res hh.v.bel hh.v.n3
  have Q := Lib.hid (And.intro q0 (And.intro q1 q2))
  have HS := Lib.hid hs
  have HBB := Lib.hid hb
  clear q0 q1 q2 hs hb h9
  go_wp2
  obtain ⟨q0, q1, q2⟩ := Q.out
  refine bodyPost_ret (v := .tuple #[.agg #[.bool s9, .slice A9 n9 c9, .slice A9' n9' c9'], .int .i64 k9]) (by simp [results, Tryd.results79, go_sem, q0, q1, q2]) rfl ?_
  rw [← HO.out]
  exact ⟨_, _, _, _, _, _, _, _, rfl, HS.out, HBB.out⟩
set_option maxHeartbeats 2000000 in
set_option maxRecDepth 100000 in
theorem nroot_false_true_inexact (s1 : Bool) (N1' D1' : Nat) (k p : Nat) (h2 : 2 ≤ k) (h8 : k ≤ 8) (hp : p ≤ 256) (hs : ng (ratOf s1 N1' D1') = false) (x1 : decide (irt k ((ratOf s1 N1' D1').num.natAbs * 2 ^ (p * k) / (ratOf s1 N1' D1').den) ^ k = (ratOf s1 N1' D1').num.natAbs * 2 ^ (p * k) / (ratOf s1 N1' D1').den) = false) (r : Rat) (hr : grtQ (ratOf s1 N1' D1') k p true = r) (w : World) (v1 : Value) (h1 : RawV w v1 s1 N1' D1') (hT : Tab w) (q : Rat) (hq : ratOf s1 N1' D1' = q) (hL : largeB s1 N1' D1' = false) :
    Calls Tryd.prog 79 #[v1, .int .i64 (k : Int), .int .i64 (p : Int), .bool true] w (OutPost w (give r)) := by
  have H1 := Lib.hid h1
  have HT := Lib.hid hT
  obtain ⟨A1, n1, c1, A1', n1', c1', rfl⟩ := h1.shape
  clear h1 hT
  obtain ⟨M, hM, k1, k3, bM⟩ := start1 w (.bool s1) (.slice A1 n1 c1) (.slice A1' n1' c1') (.bool false) (.slice none 0 0) (.slice none 0 0) 24 24
  have HX := Lib.hid k1
  have HR := Lib.hid (show Res M (w.heap.size + 1) 24 from ⟨_, _, _, NI.bool _, NI.slice _ _ _, NI.slice _ _ _, k3⟩)
  have BM := Lib.hid bM
  replace H1 := Lib.hid (H1.out.below bM)
  replace HT := Lib.hid (HT.out.below bM)
  have HQ := Lib.hid hq
  have HL := Lib.hid hL
  have hf := (largeB_false hL).2.2
  rw [hq] at hf
  have HF := Lib.hid hf
  clear hf
  have hp1 : decide ((k : Int) < 2) = false := decide_eq_false (by omega)
  have hp1' : decide (k < 2) = false := decide_eq_false (by omega)
  have hp2 : decide (8 < (k : Int)) = false := decide_eq_false (by omega)
  have hp2' : decide (8 < k) = false := decide_eq_false (by omega)
  have hp3 : decide ((p : Int) < 0) = false := decide_eq_false (by omega)
  have hp4 : decide (256 < (p : Int)) = false := decide_eq_false (by omega)
  have hp4' : decide (256 < p) = false := decide_eq_false (by omega)
  have hm := tmod_two k
  have hm2 : IntKind.i64.wrap ((k % 2 : Nat) : Int) = ((k % 2 : Nat) : Int) := wraps_i64 _ (by omega) (by omega)
  have HK2 := Lib.hid h2
  have HK8 := Lib.hid h8
  have HP := Lib.hid hp
  rw [hq] at hs
  have HNG := Lib.hid hs
  clear hs
  rw [hq] at hr
  have HR2 := Lib.hid hr
  obtain ⟨m, hmk⟩ : ∃ m, p * k = m := ⟨_, rfl⟩
  have hmi : (p : Int) * (k : Int) = (m : Int) := by rw [← hmk]; push_cast; rfl
  have hmb : m ≤ 2048 := by rw [← hmk]; exact Nat.mul_le_mul hp h8
  have HMK := Lib.hid hmk
  have u1 : IntKind.i64.wrap (m : Int) = (m : Int) := wrap_i64 _ (by omega) (by omega)
  have u2 : wrap64 (m : Int) = (m : Int) := by unfold wrap64; omega
  have u3 : IntKind.i64.wrap (p : Int) = (p : Int) := wrap_i64 _ (by omega) (by omega)
  have HXL := Lib.hid (show (W (q.num.natAbs * 2 ^ m)).length ≤ 200 by
    have e1 := W_mul_length q.num.natAbs (2 ^ m)
    have e2 := W_two_pow m
    have := HF.out.1
    omega)
  have HD := Lib.hid q.den_nz
  clear hr hmk
  rw [hq, HMK.out] at x1
  have HEX := Lib.hid x1
  clear x1
  have HFIN := Lib.hid (show mkRat (sg false (irt k (q.num.natAbs * 2 ^ m / q.den) + 1)) (1 * 2 ^ p) = r by
    rw [← HR2.out]
    unfold grtQ rootN
    rw [HNG.out, HMK.out, Nat.one_mul]
    have e1 := of_decide_eq_false HEX.out
    rw [if_pos ⟨rfl, by simp [e1]⟩])
  obtain ⟨o, ho⟩ : ∃ o, give r = o := ⟨_, rfl⟩
  have HO := Lib.hid ho
  rw [ho]
  clear hq hL k1 k3 bM ho
  go_enter Tryd.func79, Tryd.ntmps79
  go_upto_region 1 with (fail)
  rw [← hM]
  clear hM
  obtain ⟨x1, x2, x3, _, _, _⟩ := HX.out.cells
  go_wp2_with fail
  refine (readV _ s1 N1' D1' _ H1.out HT.out).mono ?_
  rw [HL.out, Bool.not_false]
  rintro e wa ⟨t1, B1, m1, d1, B1', m1', d1', rfl, f1, ba⟩
  have bb := below_step ba ba.size (below_alloc wa (.cells #[.bool t1, .slice B1 m1 d1, .slice B1' m1' d1'] 65))
  have hf1 := Box.new wa (.bool t1) (.slice B1 m1 d1) (.slice B1' m1' d1') 65
  have szw : w.heap.size + 1 < wa.heap.size := Nat.lt_of_lt_of_le (by obtain ⟨_, _, _, _, _, _, hh⟩ := HR.out; exact hh.lt) ba.size
  have TA : Hid (N1 w (wa.alloc (.cells #[.bool t1, .slice B1 m1 d1, .slice B1' m1' d1'] 65)) (w.heap.size + 1) wa.heap.size t1 B1 m1 d1 B1' m1' d1') :=
    Lib.hid ⟨HR.out.below bb, hf1, HT.out.below bb, below_step BM.out BM.out.size bb, by omega, by omega⟩
  have F1 : Hid (IsF (wa.alloc (.cells #[.bool t1, .slice B1 m1 d1, .slice B1' m1' d1'] 65)) (.agg #[.bool t1, .slice B1 m1 d1, .slice B1' m1' d1']) q) := Lib.hid (by rw [← HQ.out]; exact (f1.out rfl).below (below_alloc _ _))
  obtain ⟨w2, hw2⟩ : ∃ w2, wa.alloc (.cells #[.bool t1, .slice B1 m1 d1, .slice B1' m1' d1'] 65) = w2 := ⟨_, rfl⟩
  obtain ⟨gf, hgf⟩ : ∃ gf, wa.heap.size = gf := ⟨_, rfl⟩
  clear x1 x2 x3 ba bb f1 hf1 szw HR BM HX H1 HT
  go_upto_region 2 with (fail)
  rw [hw2] at TA F1
  try rw [hw2]
  rw [hgf] at TA
  try rw [hgf]
  clear hw2 hgf
  obtain ⟨y1, y2, y3, _⟩ := TA.out.box.cells
  obtain ⟨ht, a1, a2⟩ := F1.out.at_
  obtain rfl : t1 = false := ht.trans HNG.out
  have NA := Lib.hid a1
  have NB := Lib.hid a2
  clear ht a1 a2
  have T0 := Lib.hid (show NF w w2 (w.heap.size + 1) gf false B1 m1 d1 B1' m1' d1' q B1 m1 d1 q.num.natAbs from ⟨TA.out, NA.out, NB.out, NA.out, by omega⟩)
  go_wp2_with fail
  go_region_held3 (fun W' => (World.cell? W' ⟨gf, 0, none⟩ = some (.bool false) ∧ World.cell? W' ⟨gf, 1, none⟩ = some (.slice B1 m1 d1) ∧ World.cell? W' ⟨gf, 2, none⟩ = some (.slice B1' m1' d1') ∧ Hid (NF w W' (w.heap.size + 1) gf false B1 m1 d1 B1' m1' d1' q B1 m1 d1 (q.num.natAbs))))
    (with_reducible (first | assumption | exact T0.out.drew.cells | exact NF.next (by assumption) (by assumption) | exact NF.nextS (by assumption)))
    (first
       | (go_at_call 108
          refine (aShl _ m _ _ _ _ (NF.of (by assumption)).a (Nat.le_trans HF.out.1 (by omega)) (by omega)).mono ?_
          rintro e wb ⟨C1, x1, z1, rfl, i1, b1⟩)
       | (go_at_call 109
          refine (aDiv _ _ _ _ _ _ _ _ _ i1.out (NF.of (by assumption)).b (Nat.le_trans HXL.out (by omega)) (Nat.pos_of_ne_zero HD.out)).mono ?_
          rintro e wc ⟨C2, x2, z2, C3, x3, z3, rfl, i2, i3, b2⟩
          have hh := Lib.hid ((NF.of (by assumption)).below b2)))
  replace TA := Lib.hid hh.out.v
  replace NA := Lib.hid hh.out.a
  replace NB := Lib.hid hh.out.b
  clear hh T0 y1 y2 y3
  obtain ⟨y1, y2, y3, _⟩ := TA.out.box.cells
  go_wp2_with fail
  refine (aRoot _ k _ _ _ _ i2.out (Nat.le_trans (dig_length_mono B32_two (Nat.div_le_self _ _)) (Nat.le_trans HXL.out (by omega))) HK2.out (Nat.le_trans HK8.out (by omega))).mono ?_
  rw [HEX.out]
  rintro e wb ⟨C4, x4, z4, rfl, i4, bb⟩
  replace TA := Lib.hid (TA.out.below bb)
  replace NA := Lib.hid (NA.out.below bb)
  replace NB := Lib.hid (NB.out.below bb)
  replace i3 := Lib.hid (i3.out.below bb)
  clear bb y1 y2 y3
  obtain ⟨y1, y2, y3, _⟩ := TA.out.box.cells
  have LR := Lib.hid (show (W (irt k (q.num.natAbs * 2 ^ m / q.den))).length ≤ 200 from Nat.le_trans (dig_length_mono B32_two (Nat.le_trans (irt_self (Nat.lt_of_lt_of_le (by omega) HK2.out) _) (Nat.div_le_self _ _))) HXL.out)
  have L1 := Lib.hid (show (W 1).length ≤ 1 from (dig_length_le B32_two _ _).2 (by unfold B32; omega))
  go_wp2_with fail
  refine (aSmall1 _).mono ?_
  rintro e wb ⟨C5, x5, z5, rfl, i5, bb⟩
  replace TA := Lib.hid (TA.out.below bb)
  replace NA := Lib.hid (NA.out.below bb)
  replace NB := Lib.hid (NB.out.below bb)
  replace i4 := Lib.hid (i4.out.below bb)
  clear bb y1 y2 y3
  obtain ⟨y1, y2, y3, _⟩ := TA.out.box.cells
  go_wp2_with fail
  refine (aAdd _ _ _ _ _ _ _ _ _ i4.out i5.out (Nat.le_trans LR.out (by omega)) (Nat.le_trans L1.out (by omega))).mono ?_
  rintro e wb ⟨C6, x6, z6, rfl, i6, bb⟩
  replace TA := Lib.hid (TA.out.below bb)
  replace NA := Lib.hid (NA.out.below bb)
  replace NB := Lib.hid (NB.out.below bb)
  clear bb y1 y2 y3
  obtain ⟨y1, y2, y3, _⟩ := TA.out.box.cells
  have LQ := Lib.hid (show (W (irt k (q.num.natAbs * 2 ^ m / q.den) + 1)).length ≤ 300 by
    have e1 := LR.out
    have e2 := L1.out
    have e3 := W_add_length (irt k (q.num.natAbs * 2 ^ m / q.den)) 1
    omega)
  have LP := Lib.hid (show (W (1 * 2 ^ p)).length ≤ 300 by
    have e2 := W_two_pow p
    have := HP.out
    rw [Nat.one_mul]
    omega)
  obtain ⟨rn, hrn⟩ : ∃ x, irt k (q.num.natAbs * 2 ^ m / q.den) + 1 = x := ⟨_, rfl⟩
  rw [hrn] at i6 LQ HFIN
  have T0 := Lib.hid (show NF w _ (w.heap.size + 1) gf false B1 m1 d1 B1' m1' d1' q C6 x6 z6 rn from ⟨TA.out, NA.out, NB.out, i6.out, by omega⟩)
  go_wp2_with fail
  go_region_held3 (fun W' => (World.cell? W' ⟨gf, 0, none⟩ = some (.bool false) ∧ World.cell? W' ⟨gf, 1, none⟩ = some (.slice B1 m1 d1) ∧ World.cell? W' ⟨gf, 2, none⟩ = some (.slice B1' m1' d1') ∧ Hid (NF w W' (w.heap.size + 1) gf false B1 m1 d1 B1' m1' d1' q C6 x6 z6 rn)))
    (with_reducible (first | assumption | exact T0.out.drew.cells | exact NF.next (by assumption) (by assumption) | exact NF.nextS (by assumption)))
    (first
       | (go_at_call 94
          refine (aSmall1 _).mono ?_
          rintro e wb ⟨C7, x7, z7, rfl, i7, b7⟩)
       | (go_at_call 108
          refine (aShl _ p _ _ _ _ i7.out (Nat.le_trans L1.out (by omega)) (Nat.le_trans HP.out (by omega))).mono ?_
          rintro e wc ⟨C8, x8, z8, rfl, i8, b8⟩)
       | (go_at_call 92
          refine (aReduce false _ _ _ _ _ _ _ _ _ (NF.of (by assumption)).c i8.out (by rw [Nat.one_mul]; exact Nat.ne_of_gt (Nat.two_pow_pos p)) (Nat.le_trans LQ.out (by omega)) (Nat.le_trans LP.out (by omega)) (NF.of (by assumption)).v.tab r HFIN.out).mono ?_
          rintro e wd ⟨t9, B9, m9, d9, B9', m9', d9', rfl, i9, b9⟩)
       | (go_at_call 57
          refine (giveF _ _ _ i9.out).mono ?_
          rintro e we ⟨s9, A9, n9, c9, A9', n9', c9', k9, rfl, h9, b10⟩
          have hh := (NF.of (by assumption)).below b10
          obtain ⟨z1, z2, z3, hz1, hz2, hz3, k1, k2, k3⟩ := hh.v.res.cells))
  obtain ⟨q0, q1, q2, hs, hb⟩ := OutIs.stored h9 hh.v.res hh.v.bel hh.v.n3
  have Q := Lib.hid (And.intro q0 (And.intro q1 q2))
  have HS := Lib.hid hs
  have HBB := Lib.hid hb
  clear q0 q1 q2 hs hb h9
  go_wp2
  obtain ⟨q0, q1, q2⟩ := Q.out
  refine bodyPost_ret (v := .tuple #[.agg #[.bool s9, .slice A9 n9 c9, .slice A9' n9' c9'], .int .i64 k9]) (by simp [results, Tryd.results79, go_sem, q0, q1, q2]) rfl ?_
  rw [← HO.out]
  exact ⟨_, _, _, _, _, _, _, _, rfl, HS.out, HBB.out⟩
set_option maxHeartbeats 2000000 in
set_option maxRecDepth 100000 in
theorem nroot_true_false_exact (s1 : Bool) (N1' D1' : Nat) (k p : Nat) (h2 : 2 ≤ k) (h8 : k ≤ 8) (hp : p ≤ 256) (hs : ng (ratOf s1 N1' D1') = true) (ho : k % 2 = 1) (x1 : decide (irt k ((ratOf s1 N1' D1').num.natAbs * 2 ^ (p * k) / (ratOf s1 N1' D1').den) ^ k = (ratOf s1 N1' D1').num.natAbs * 2 ^ (p * k) / (ratOf s1 N1' D1').den) = true) (x2 : decide ((ratOf s1 N1' D1').num.natAbs * 2 ^ (p * k) % (ratOf s1 N1' D1').den = 0) = true) (r : Rat) (hr : grtQ (ratOf s1 N1' D1') k p false = r) (w : World) (v1 : Value) (h1 : RawV w v1 s1 N1' D1') (hT : Tab w) (q : Rat) (hq : ratOf s1 N1' D1' = q) (hL : largeB s1 N1' D1' = false) :
    Calls Tryd.prog 79 #[v1, .int .i64 (k : Int), .int .i64 (p : Int), .bool false] w (OutPost w (give r)) := by
  have H1 := Lib.hid h1
  have HT := Lib.hid hT
  obtain ⟨A1, n1, c1, A1', n1', c1', rfl⟩ := h1.shape
  clear h1 hT
  obtain ⟨M, hM, k1, k3, bM⟩ := start1 w (.bool s1) (.slice A1 n1 c1) (.slice A1' n1' c1') (.bool false) (.slice none 0 0) (.slice none 0 0) 24 24
  have HX := Lib.hid k1
  have HR := Lib.hid (show Res M (w.heap.size + 1) 24 from ⟨_, _, _, NI.bool _, NI.slice _ _ _, NI.slice _ _ _, k3⟩)
  have BM := Lib.hid bM
  replace H1 := Lib.hid (H1.out.below bM)
  replace HT := Lib.hid (HT.out.below bM)
  have HQ := Lib.hid hq
  have HL := Lib.hid hL
  have hf := (largeB_false hL).2.2
  rw [hq] at hf
  have HF := Lib.hid hf
  clear hf
  have hp1 : decide ((k : Int) < 2) = false := decide_eq_false (by omega)
  have hp1' : decide (k < 2) = false := decide_eq_false (by omega)
  have hp2 : decide (8 < (k : Int)) = false := decide_eq_false (by omega)
  have hp2' : decide (8 < k) = false := decide_eq_false (by omega)
  have hp3 : decide ((p : Int) < 0) = false := decide_eq_false (by omega)
  have hp4 : decide (256 < (p : Int)) = false := decide_eq_false (by omega)
  have hp4' : decide (256 < p) = false := decide_eq_false (by omega)
  have hm := tmod_two k
  have hm2 : IntKind.i64.wrap ((k % 2 : Nat) : Int) = ((k % 2 : Nat) : Int) := wraps_i64 _ (by omega) (by omega)
  have HK2 := Lib.hid h2
  have HK8 := Lib.hid h8
  have HP := Lib.hid hp
  rw [hq] at hs
  have HNG := Lib.hid hs
  clear hs
  rw [ho] at hm hm2
  clear ho
  rw [hq] at hr
  have HR2 := Lib.hid hr
  obtain ⟨m, hmk⟩ : ∃ m, p * k = m := ⟨_, rfl⟩
  have hmi : (p : Int) * (k : Int) = (m : Int) := by rw [← hmk]; push_cast; rfl
  have hmb : m ≤ 2048 := by rw [← hmk]; exact Nat.mul_le_mul hp h8
  have HMK := Lib.hid hmk
  have u1 : IntKind.i64.wrap (m : Int) = (m : Int) := wrap_i64 _ (by omega) (by omega)
  have u2 : wrap64 (m : Int) = (m : Int) := by unfold wrap64; omega
  have u3 : IntKind.i64.wrap (p : Int) = (p : Int) := wrap_i64 _ (by omega) (by omega)
  have HXL := Lib.hid (show (W (q.num.natAbs * 2 ^ m)).length ≤ 200 by
    have e1 := W_mul_length q.num.natAbs (2 ^ m)
    have e2 := W_two_pow m
    have := HF.out.1
    omega)
  have HD := Lib.hid q.den_nz
  clear hr hmk
  rw [hq, HMK.out] at x1
  have HEX := Lib.hid x1
  clear x1
  rw [hq, HMK.out] at x2
  have HRE := Lib.hid x2
  clear x2
  have HFIN := Lib.hid (show mkRat (sg true (irt k (q.num.natAbs * 2 ^ m / q.den))) (1 * 2 ^ p) = r by
    rw [← HR2.out]
    unfold grtQ rootN
    rw [HNG.out, HMK.out, Nat.one_mul]
    have e1 := of_decide_eq_true HEX.out
    have e2 := of_decide_eq_true HRE.out
    rw [if_neg (by rw [e1, e2]; simp)]
    rw [Nat.add_zero])
  obtain ⟨o, ho⟩ : ∃ o, give r = o := ⟨_, rfl⟩
  have HO := Lib.hid ho
  rw [ho]
  clear hq hL k1 k3 bM ho
  go_enter Tryd.func79, Tryd.ntmps79
  go_upto_region 1 with (fail)
  rw [← hM]
  clear hM
  obtain ⟨x1, x2, x3, _, _, _⟩ := HX.out.cells
  go_wp2_with fail
  refine (readV _ s1 N1' D1' _ H1.out HT.out).mono ?_
  rw [HL.out, Bool.not_false]
  rintro e wa ⟨t1, B1, m1, d1, B1', m1', d1', rfl, f1, ba⟩
  have bb := below_step ba ba.size (below_alloc wa (.cells #[.bool t1, .slice B1 m1 d1, .slice B1' m1' d1'] 65))
  have hf1 := Box.new wa (.bool t1) (.slice B1 m1 d1) (.slice B1' m1' d1') 65
  have szw : w.heap.size + 1 < wa.heap.size := Nat.lt_of_lt_of_le (by obtain ⟨_, _, _, _, _, _, hh⟩ := HR.out; exact hh.lt) ba.size
  have TA : Hid (N1 w (wa.alloc (.cells #[.bool t1, .slice B1 m1 d1, .slice B1' m1' d1'] 65)) (w.heap.size + 1) wa.heap.size t1 B1 m1 d1 B1' m1' d1') :=
    Lib.hid ⟨HR.out.below bb, hf1, HT.out.below bb, below_step BM.out BM.out.size bb, by omega, by omega⟩
  have F1 : Hid (IsF (wa.alloc (.cells #[.bool t1, .slice B1 m1 d1, .slice B1' m1' d1'] 65)) (.agg #[.bool t1, .slice B1 m1 d1, .slice B1' m1' d1']) q) := Lib.hid (by rw [← HQ.out]; exact (f1.out rfl).below (below_alloc _ _))
  obtain ⟨w2, hw2⟩ : ∃ w2, wa.alloc (.cells #[.bool t1, .slice B1 m1 d1, .slice B1' m1' d1'] 65) = w2 := ⟨_, rfl⟩
  obtain ⟨gf, hgf⟩ : ∃ gf, wa.heap.size = gf := ⟨_, rfl⟩
  clear x1 x2 x3 ba bb f1 hf1 szw HR BM HX H1 HT
  go_upto_region 2 with (fail)
  rw [hw2] at TA F1
  try rw [hw2]
  rw [hgf] at TA
  try rw [hgf]
  clear hw2 hgf
  obtain ⟨y1, y2, y3, _⟩ := TA.out.box.cells
  obtain ⟨ht, a1, a2⟩ := F1.out.at_
  obtain rfl : t1 = true := ht.trans HNG.out
  have NA := Lib.hid a1
  have NB := Lib.hid a2
  clear ht a1 a2
  have T0 := Lib.hid (show NF w w2 (w.heap.size + 1) gf true B1 m1 d1 B1' m1' d1' q B1 m1 d1 q.num.natAbs from ⟨TA.out, NA.out, NB.out, NA.out, by omega⟩)
  go_wp2_with fail
  go_region_held3 (fun W' => (World.cell? W' ⟨gf, 0, none⟩ = some (.bool true) ∧ World.cell? W' ⟨gf, 1, none⟩ = some (.slice B1 m1 d1) ∧ World.cell? W' ⟨gf, 2, none⟩ = some (.slice B1' m1' d1') ∧ Hid (NF w W' (w.heap.size + 1) gf true B1 m1 d1 B1' m1' d1' q B1 m1 d1 (q.num.natAbs))))
    (with_reducible (first | assumption | exact T0.out.drew.cells | exact NF.next (by assumption) (by assumption) | exact NF.nextS (by assumption)))
    (first
       | (go_at_call 108
          refine (aShl _ m _ _ _ _ (NF.of (by assumption)).a (Nat.le_trans HF.out.1 (by omega)) (by omega)).mono ?_
          rintro e wb ⟨C1, x1, z1, rfl, i1, b1⟩)
       | (go_at_call 109
          refine (aDiv _ _ _ _ _ _ _ _ _ i1.out (NF.of (by assumption)).b (Nat.le_trans HXL.out (by omega)) (Nat.pos_of_ne_zero HD.out)).mono ?_
          rintro e wc ⟨C2, x2, z2, C3, x3, z3, rfl, i2, i3, b2⟩
          have hh := Lib.hid ((NF.of (by assumption)).below b2)))
  replace TA := Lib.hid hh.out.v
  replace NA := Lib.hid hh.out.a
  replace NB := Lib.hid hh.out.b
  clear hh T0 y1 y2 y3
  obtain ⟨y1, y2, y3, _⟩ := TA.out.box.cells
  go_wp2_with fail
  refine (aRoot _ k _ _ _ _ i2.out (Nat.le_trans (dig_length_mono B32_two (Nat.div_le_self _ _)) (Nat.le_trans HXL.out (by omega))) HK2.out (Nat.le_trans HK8.out (by omega))).mono ?_
  rw [HEX.out]
  rintro e wb ⟨C4, x4, z4, rfl, i4, bb⟩
  replace TA := Lib.hid (TA.out.below bb)
  replace NA := Lib.hid (NA.out.below bb)
  replace NB := Lib.hid (NB.out.below bb)
  replace i3 := Lib.hid (i3.out.below bb)
  clear bb y1 y2 y3
  obtain ⟨y1, y2, y3, _⟩ := TA.out.box.cells
  go_wp2_with fail
  refine (aZero _ _ _ _ _ i3.out).mono ?_
  rw [HRE.out]
  rintro e wb ⟨rfl, rfl⟩
  have LR := Lib.hid (show (W (irt k (q.num.natAbs * 2 ^ m / q.den))).length ≤ 200 from Nat.le_trans (dig_length_mono B32_two (Nat.le_trans (irt_self (Nat.lt_of_lt_of_le (by omega) HK2.out) _) (Nat.div_le_self _ _))) HXL.out)
  have L1 := Lib.hid (show (W 1).length ≤ 1 from (dig_length_le B32_two _ _).2 (by unfold B32; omega))
  have LQ := Lib.hid (show (W (irt k (q.num.natAbs * 2 ^ m / q.den))).length ≤ 300 by
    have e1 := LR.out
    have e2 := L1.out
    skip
    omega)
  have LP := Lib.hid (show (W (1 * 2 ^ p)).length ≤ 300 by
    have e2 := W_two_pow p
    have := HP.out
    rw [Nat.one_mul]
    omega)
  obtain ⟨rn, hrn⟩ : ∃ x, irt k (q.num.natAbs * 2 ^ m / q.den) = x := ⟨_, rfl⟩
  rw [hrn] at i4 LQ HFIN
  have T0 := Lib.hid (show NF w _ (w.heap.size + 1) gf true B1 m1 d1 B1' m1' d1' q C4 x4 z4 rn from ⟨TA.out, NA.out, NB.out, i4.out, by omega⟩)
  go_wp2_with fail
  go_region_held3 (fun W' => (World.cell? W' ⟨gf, 0, none⟩ = some (.bool true) ∧ World.cell? W' ⟨gf, 1, none⟩ = some (.slice B1 m1 d1) ∧ World.cell? W' ⟨gf, 2, none⟩ = some (.slice B1' m1' d1') ∧ Hid (NF w W' (w.heap.size + 1) gf true B1 m1 d1 B1' m1' d1' q C4 x4 z4 rn)))
    (with_reducible (first | assumption | exact T0.out.drew.cells | exact NF.next (by assumption) (by assumption) | exact NF.nextS (by assumption)))
    (first
       | (go_at_call 94
          refine (aSmall1 _).mono ?_
          rintro e wb ⟨C7, x7, z7, rfl, i7, b7⟩)
       | (go_at_call 108
          refine (aShl _ p _ _ _ _ i7.out (Nat.le_trans L1.out (by omega)) (Nat.le_trans HP.out (by omega))).mono ?_
          rintro e wc ⟨C8, x8, z8, rfl, i8, b8⟩)
       | (go_at_call 92
          refine (aReduce true _ _ _ _ _ _ _ _ _ (NF.of (by assumption)).c i8.out (by rw [Nat.one_mul]; exact Nat.ne_of_gt (Nat.two_pow_pos p)) (Nat.le_trans LQ.out (by omega)) (Nat.le_trans LP.out (by omega)) (NF.of (by assumption)).v.tab r HFIN.out).mono ?_
          rintro e wd ⟨t9, B9, m9, d9, B9', m9', d9', rfl, i9, b9⟩)
       | (go_at_call 57
          refine (giveF _ _ _ i9.out).mono ?_
          rintro e we ⟨s9, A9, n9, c9, A9', n9', c9', k9, rfl, h9, b10⟩
          have hh := (NF.of (by assumption)).below b10
          obtain ⟨z1, z2, z3, hz1, hz2, hz3, k1, k2, k3⟩ := hh.v.res.cells))
  obtain ⟨q0, q1, q2, hs, hb⟩ := OutIs.stored h9 hh.v.res hh.v.bel hh.v.n3
  have Q := Lib.hid (And.intro q0 (And.intro q1 q2))
  have HS := Lib.hid hs
  have HBB := Lib.hid hb
  clear q0 q1 q2 hs hb h9
  go_wp2
  obtain ⟨q0, q1, q2⟩ := Q.out
  refine bodyPost_ret (v := .tuple #[.agg #[.bool s9, .slice A9 n9 c9, .slice A9' n9' c9'], .int .i64 k9]) (by simp [results, Tryd.results79, go_sem, q0, q1, q2]) rfl ?_
  rw [← HO.out]
  exact ⟨_, _, _, _, _, _, _, _, rfl, HS.out, HBB.out⟩
set_option maxHeartbeats 2000000 in
set_option maxRecDepth 100000 in
theorem nroot_true_false_rest (s1 : Bool) (N1' D1' : Nat) (k p : Nat) (h2 : 2 ≤ k) (h8 : k ≤ 8) (hp : p ≤ 256) (hs : ng (ratOf s1 N1' D1') = true) (ho : k % 2 = 1) (x1 : decide (irt k ((ratOf s1 N1' D1').num.natAbs * 2 ^ (p * k) / (ratOf s1 N1' D1').den) ^ k = (ratOf s1 N1' D1').num.natAbs * 2 ^ (p * k) / (ratOf s1 N1' D1').den) = true) (x2 : decide ((ratOf s1 N1' D1').num.natAbs * 2 ^ (p * k) % (ratOf s1 N1' D1').den = 0) = false) (r : Rat) (hr : grtQ (ratOf s1 N1' D1') k p false = r) (w : World) (v1 : Value) (h1 : RawV w v1 s1 N1' D1') (hT : Tab w) (q : Rat) (hq : ratOf s1 N1' D1' = q) (hL : largeB s1 N1' D1' = false) :
    Calls Tryd.prog 79 #[v1, .int .i64 (k : Int), .int .i64 (p : Int), .bool false] w (OutPost w (give r)) := by
  have H1 := Lib.hid h1
  have HT := Lib.hid hT
  obtain ⟨A1, n1, c1, A1', n1', c1', rfl⟩ := h1.shape
  clear h1 hT
  obtain ⟨M, hM, k1, k3, bM⟩ := start1 w (.bool s1) (.slice A1 n1 c1) (.slice A1' n1' c1') (.bool false) (.slice none 0 0) (.slice none 0 0) 24 24
  have HX := Lib.hid k1
  have HR := Lib.hid (show Res M (w.heap.size + 1) 24 from ⟨_, _, _, NI.bool _, NI.slice _ _ _, NI.slice _ _ _, k3⟩)
  have BM := Lib.hid bM
  replace H1 := Lib.hid (H1.out.below bM)
  replace HT := Lib.hid (HT.out.below bM)
  have HQ := Lib.hid hq
  have HL := Lib.hid hL
  have hf := (largeB_false hL).2.2
  rw [hq] at hf
  have HF := Lib.hid hf
  clear hf
  have hp1 : decide ((k : Int) < 2) = false := decide_eq_false (by omega)
  have hp1' : decide (k < 2) = false := decide_eq_false (by omega)
  have hp2 : decide (8 < (k : Int)) = false := decide_eq_false (by omega)
  have hp2' : decide (8 < k) = false := decide_eq_false (by omega)
  have hp3 : decide ((p : Int) < 0) = false := decide_eq_false (by omega)
  have hp4 : decide (256 < (p : Int)) = false := decide_eq_false (by omega)
  have hp4' : decide (256 < p) = false := decide_eq_false (by omega)
  have hm := tmod_two k
  have hm2 : IntKind.i64.wrap ((k % 2 : Nat) : Int) = ((k % 2 : Nat) : Int) := wraps_i64 _ (by omega) (by omega)
  have HK2 := Lib.hid h2
  have HK8 := Lib.hid h8
  have HP := Lib.hid hp
  rw [hq] at hs
  have HNG := Lib.hid hs
  clear hs
  rw [ho] at hm hm2
  clear ho
  rw [hq] at hr
  have HR2 := Lib.hid hr
  obtain ⟨m, hmk⟩ : ∃ m, p * k = m := ⟨_, rfl⟩
  have hmi : (p : Int) * (k : Int) = (m : Int) := by rw [← hmk]; push_cast; rfl
  have hmb : m ≤ 2048 := by rw [← hmk]; exact Nat.mul_le_mul hp h8
  have HMK := Lib.hid hmk
  have u1 : IntKind.i64.wrap (m : Int) = (m : Int) := wrap_i64 _ (by omega) (by omega)
  have u2 : wrap64 (m : Int) = (m : Int) := by unfold wrap64; omega
  have u3 : IntKind.i64.wrap (p : Int) = (p : Int) := wrap_i64 _ (by omega) (by omega)
  have HXL := Lib.hid (show (W (q.num.natAbs * 2 ^ m)).length ≤ 200 by
    have e1 := W_mul_length q.num.natAbs (2 ^ m)
    have e2 := W_two_pow m
    have := HF.out.1
    omega)
  have HD := Lib.hid q.den_nz
  clear hr hmk
  rw [hq, HMK.out] at x1
  have HEX := Lib.hid x1
  clear x1
  rw [hq, HMK.out] at x2
  have HRE := Lib.hid x2
  clear x2
  have HFIN := Lib.hid (show mkRat (sg true (irt k (q.num.natAbs * 2 ^ m / q.den) + 1)) (1 * 2 ^ p) = r by
    rw [← HR2.out]
    unfold grtQ rootN
    rw [HNG.out, HMK.out, Nat.one_mul]
    have e1 := of_decide_eq_true HEX.out
    have e2 := of_decide_eq_false HRE.out
    rw [if_pos ⟨rfl, by simp [e2]⟩])
  obtain ⟨o, ho⟩ : ∃ o, give r = o := ⟨_, rfl⟩
  have HO := Lib.hid ho
  rw [ho]
  clear hq hL k1 k3 bM ho
  go_enter Tryd.func79, Tryd.ntmps79
  go_upto_region 1 with (fail)
  rw [← hM]
  clear hM
  obtain ⟨x1, x2, x3, _, _, _⟩ := HX.out.cells
  go_wp2_with fail
  refine (readV _ s1 N1' D1' _ H1.out HT.out).mono ?_
  rw [HL.out, Bool.not_false]
  rintro e wa ⟨t1, B1, m1, d1, B1', m1', d1', rfl, f1, ba⟩
  have bb := below_step ba ba.size (below_alloc wa (.cells #[.bool t1, .slice B1 m1 d1, .slice B1' m1' d1'] 65))
  have hf1 := Box.new wa (.bool t1) (.slice B1 m1 d1) (.slice B1' m1' d1') 65
  have szw : w.heap.size + 1 < wa.heap.size := Nat.lt_of_lt_of_le (by obtain ⟨_, _, _, _, _, _, hh⟩ := HR.out; exact hh.lt) ba.size
  have TA : Hid (N1 w (wa.alloc (.cells #[.bool t1, .slice B1 m1 d1, .slice B1' m1' d1'] 65)) (w.heap.size + 1) wa.heap.size t1 B1 m1 d1 B1' m1' d1') :=
    Lib.hid ⟨HR.out.below bb, hf1, HT.out.below bb, below_step BM.out BM.out.size bb, by omega, by omega⟩
  have F1 : Hid (IsF (wa.alloc (.cells #[.bool t1, .slice B1 m1 d1, .slice B1' m1' d1'] 65)) (.agg #[.bool t1, .slice B1 m1 d1, .slice B1' m1' d1']) q) := Lib.hid (by rw [← HQ.out]; exact (f1.out rfl).below (below_alloc _ _))
  obtain ⟨w2, hw2⟩ : ∃ w2, wa.alloc (.cells #[.bool t1, .slice B1 m1 d1, .slice B1' m1' d1'] 65) = w2 := ⟨_, rfl⟩
  obtain ⟨gf, hgf⟩ : ∃ gf, wa.heap.size = gf := ⟨_, rfl⟩
  clear x1 x2 x3 ba bb f1 hf1 szw HR BM HX H1 HT
  go_upto_region 2 with (fail)
  rw [hw2] at TA F1
  try rw [hw2]
  rw [hgf] at TA
  try rw [hgf]
  clear hw2 hgf
  obtain ⟨y1, y2, y3, _⟩ := TA.out.box.cells
  obtain ⟨ht, a1, a2⟩ := F1.out.at_
  obtain rfl : t1 = true := ht.trans HNG.out
  have NA := Lib.hid a1
  have NB := Lib.hid a2
  clear ht a1 a2
  have T0 := Lib.hid (show NF w w2 (w.heap.size + 1) gf true B1 m1 d1 B1' m1' d1' q B1 m1 d1 q.num.natAbs from ⟨TA.out, NA.out, NB.out, NA.out, by omega⟩)
  go_wp2_with fail
  go_region_held3 (fun W' => (World.cell? W' ⟨gf, 0, none⟩ = some (.bool true) ∧ World.cell? W' ⟨gf, 1, none⟩ = some (.slice B1 m1 d1) ∧ World.cell? W' ⟨gf, 2, none⟩ = some (.slice B1' m1' d1') ∧ Hid (NF w W' (w.heap.size + 1) gf true B1 m1 d1 B1' m1' d1' q B1 m1 d1 (q.num.natAbs))))
    (with_reducible (first | assumption | exact T0.out.drew.cells | exact NF.next (by assumption) (by assumption) | exact NF.nextS (by assumption)))
    (first
       | (go_at_call 108
          refine (aShl _ m _ _ _ _ (NF.of (by assumption)).a (Nat.le_trans HF.out.1 (by omega)) (by omega)).mono ?_
          rintro e wb ⟨C1, x1, z1, rfl, i1, b1⟩)
       | (go_at_call 109
          refine (aDiv _ _ _ _ _ _ _ _ _ i1.out (NF.of (by assumption)).b (Nat.le_trans HXL.out (by omega)) (Nat.pos_of_ne_zero HD.out)).mono ?_
          rintro e wc ⟨C2, x2, z2, C3, x3, z3, rfl, i2, i3, b2⟩
          have hh := Lib.hid ((NF.of (by assumption)).below b2)))
  replace TA := Lib.hid hh.out.v
  replace NA := Lib.hid hh.out.a
  replace NB := Lib.hid hh.out.b
  clear hh T0 y1 y2 y3
  obtain ⟨y1, y2, y3, _⟩ := TA.out.box.cells
  go_wp2_with fail
  refine (aRoot _ k _ _ _ _ i2.out (Nat.le_trans (dig_length_mono B32_two (Nat.div_le_self _ _)) (Nat.le_trans HXL.out (by omega))) HK2.out (Nat.le_trans HK8.out (by omega))).mono ?_
  rw [HEX.out]
  rintro e wb ⟨C4, x4, z4, rfl, i4, bb⟩
  replace TA := Lib.hid (TA.out.below bb)
  replace NA := Lib.hid (NA.out.below bb)
  replace NB := Lib.hid (NB.out.below bb)
  replace i3 := Lib.hid (i3.out.below bb)
  clear bb y1 y2 y3
  obtain ⟨y1, y2, y3, _⟩ := TA.out.box.cells
  go_wp2_with fail
  refine (aZero _ _ _ _ _ i3.out).mono ?_
  rw [HRE.out]
  rintro e wb ⟨rfl, rfl⟩
  have LR := Lib.hid (show (W (irt k (q.num.natAbs * 2 ^ m / q.den))).length ≤ 200 from Nat.le_trans (dig_length_mono B32_two (Nat.le_trans (irt_self (Nat.lt_of_lt_of_le (by omega) HK2.out) _) (Nat.div_le_self _ _))) HXL.out)
  have L1 := Lib.hid (show (W 1).length ≤ 1 from (dig_length_le B32_two _ _).2 (by unfold B32; omega))
  go_wp2_with fail
  refine (aSmall1 _).mono ?_
  rintro e wb ⟨C5, x5, z5, rfl, i5, bb⟩
  replace TA := Lib.hid (TA.out.below bb)
  replace NA := Lib.hid (NA.out.below bb)
  replace NB := Lib.hid (NB.out.below bb)
  replace i4 := Lib.hid (i4.out.below bb)
  clear bb y1 y2 y3
  obtain ⟨y1, y2, y3, _⟩ := TA.out.box.cells
  go_wp2_with fail
  refine (aAdd _ _ _ _ _ _ _ _ _ i4.out i5.out (Nat.le_trans LR.out (by omega)) (Nat.le_trans L1.out (by omega))).mono ?_
  rintro e wb ⟨C6, x6, z6, rfl, i6, bb⟩
  replace TA := Lib.hid (TA.out.below bb)
  replace NA := Lib.hid (NA.out.below bb)
  replace NB := Lib.hid (NB.out.below bb)
  clear bb y1 y2 y3
  obtain ⟨y1, y2, y3, _⟩ := TA.out.box.cells
  have LQ := Lib.hid (show (W (irt k (q.num.natAbs * 2 ^ m / q.den) + 1)).length ≤ 300 by
    have e1 := LR.out
    have e2 := L1.out
    have e3 := W_add_length (irt k (q.num.natAbs * 2 ^ m / q.den)) 1
    omega)
  have LP := Lib.hid (show (W (1 * 2 ^ p)).length ≤ 300 by
    have e2 := W_two_pow p
    have := HP.out
    rw [Nat.one_mul]
    omega)
  obtain ⟨rn, hrn⟩ : ∃ x, irt k (q.num.natAbs * 2 ^ m / q.den) + 1 = x := ⟨_, rfl⟩
  rw [hrn] at i6 LQ HFIN
  have T0 := Lib.hid (show NF w _ (w.heap.size + 1) gf true B1 m1 d1 B1' m1' d1' q C6 x6 z6 rn from ⟨TA.out, NA.out, NB.out, i6.out, by omega⟩)
  go_wp2_with fail
  go_region_held3 (fun W' => (World.cell? W' ⟨gf, 0, none⟩ = some (.bool true) ∧ World.cell? W' ⟨gf, 1, none⟩ = some (.slice B1 m1 d1) ∧ World.cell? W' ⟨gf, 2, none⟩ = some (.slice B1' m1' d1') ∧ Hid (NF w W' (w.heap.size + 1) gf true B1 m1 d1 B1' m1' d1' q C6 x6 z6 rn)))
    (with_reducible (first | assumption | exact T0.out.drew.cells | exact NF.next (by assumption) (by assumption) | exact NF.nextS (by assumption)))
    (first
       | (go_at_call 94
          refine (aSmall1 _).mono ?_
          rintro e wb ⟨C7, x7, z7, rfl, i7, b7⟩)
       | (go_at_call 108
          refine (aShl _ p _ _ _ _ i7.out (Nat.le_trans L1.out (by omega)) (Nat.le_trans HP.out (by omega))).mono ?_
          rintro e wc ⟨C8, x8, z8, rfl, i8, b8⟩)
       | (go_at_call 92
          refine (aReduce true _ _ _ _ _ _ _ _ _ (NF.of (by assumption)).c i8.out (by rw [Nat.one_mul]; exact Nat.ne_of_gt (Nat.two_pow_pos p)) (Nat.le_trans LQ.out (by omega)) (Nat.le_trans LP.out (by omega)) (NF.of (by assumption)).v.tab r HFIN.out).mono ?_
          rintro e wd ⟨t9, B9, m9, d9, B9', m9', d9', rfl, i9, b9⟩)
       | (go_at_call 57
          refine (giveF _ _ _ i9.out).mono ?_
          rintro e we ⟨s9, A9, n9, c9, A9', n9', c9', k9, rfl, h9, b10⟩
          have hh := (NF.of (by assumption)).below b10
          obtain ⟨z1, z2, z3, hz1, hz2, hz3, k1, k2, k3⟩ := hh.v.res.cells))
  obtain ⟨q0, q1, q2, hs, hb⟩ := OutIs.stored h9 hh.v.res hh.v.bel hh.v.n3
  have Q := Lib.hid (And.intro q0 (And.intro q1 q2))
  have HS := Lib.hid hs
  have HBB := Lib.hid hb
  clear q0 q1 q2 hs hb h9
  go_wp2
  obtain ⟨q0, q1, q2⟩ := Q.out
  refine bodyPost_ret (v := .tuple #[.agg #[.bool s9, .slice A9 n9 c9, .slice A9' n9' c9'], .int .i64 k9]) (by simp [results, Tryd.results79, go_sem, q0, q1, q2]) rfl ?_
  rw [← HO.out]
  exact ⟨_, _, _, _, _, _, _, _, rfl, HS.out, HBB.out⟩
set_option maxHeartbeats 2000000 in
set_option maxRecDepth 100000 in
theorem nroot_true_false_inexact (s1 : Bool) (N1' D1' : Nat) (k p : Nat) (h2 : 2 ≤ k) (h8 : k ≤ 8) (hp : p ≤ 256) (hs : ng (ratOf s1 N1' D1') = true) (ho : k % 2 = 1) (x1 : decide (irt k ((ratOf s1 N1' D1').num.natAbs * 2 ^ (p * k) / (ratOf s1 N1' D1').den) ^ k = (ratOf s1 N1' D1').num.natAbs * 2 ^ (p * k) / (ratOf s1 N1' D1').den) = false) (r : Rat) (hr : grtQ (ratOf s1 N1' D1') k p false = r) (w : World) (v1 : Value) (h1 : RawV w v1 s1 N1' D1') (hT : Tab w) (q : Rat) (hq : ratOf s1 N1' D1' = q) (hL : largeB s1 N1' D1' = false) :
    Calls Tryd.prog 79 #[v1, .int .i64 (k : Int), .int .i64 (p : Int), .bool false] w (OutPost w (give r)) := by
  have H1 := Lib.hid h1
  have HT := Lib.hid hT
  obtain ⟨A1, n1, c1, A1', n1', c1', rfl⟩ := h1.shape
  clear h1 hT
  obtain ⟨M, hM, k1, k3, bM⟩ := start1 w (.bool s1) (.slice A1 n1 c1) (.slice A1' n1' c1') (.bool false) (.slice none 0 0) (.slice none 0 0) 24 24
  have HX := Lib.hid k1
  have HR := Lib.hid (show Res M (w.heap.size + 1) 24 from ⟨_, _, _, NI.bool _, NI.slice _ _ _, NI.slice _ _ _, k3⟩)
  have BM := Lib.hid bM
  replace H1 := Lib.hid (H1.out.below bM)
  replace HT := Lib.hid (HT.out.below bM)
  have HQ := Lib.hid hq
  have HL := Lib.hid hL
  have hf := (largeB_false hL).2.2
  rw [hq] at hf
  have HF := Lib.hid hf
  clear hf
  have hp1 : decide ((k : Int) < 2) = false := decide_eq_false (by omega)
  have hp1' : decide (k < 2) = false := decide_eq_false (by omega)
  have hp2 : decide (8 < (k : Int)) = false := decide_eq_false (by omega)
  have hp2' : decide (8 < k) = false := decide_eq_false (by omega)
  have hp3 : decide ((p : Int) < 0) = false := decide_eq_false (by omega)
  have hp4 : decide (256 < (p : Int)) = false := decide_eq_false (by omega)
  have hp4' : decide (256 < p) = false := decide_eq_false (by omega)
  have hm := tmod_two k
  have hm2 : IntKind.i64.wrap ((k % 2 : Nat) : Int) = ((k % 2 : Nat) : Int) := wraps_i64 _ (by omega) (by omega)
  have HK2 := Lib.hid h2
  have HK8 := Lib.hid h8
  have HP := Lib.hid hp
  rw [hq] at hs
  have HNG := Lib.hid hs
  clear hs
  rw [ho] at hm hm2
  clear ho
  rw [hq] at hr
  have HR2 := Lib.hid hr
  obtain ⟨m, hmk⟩ : ∃ m, p * k = m := ⟨_, rfl⟩
  have hmi : (p : Int) * (k : Int) = (m : Int) := by rw [← hmk]; push_cast; rfl
  have hmb : m ≤ 2048 := by rw [← hmk]; exact Nat.mul_le_mul hp h8
  have HMK := Lib.hid hmk
  have u1 : IntKind.i64.wrap (m : Int) = (m : Int) := wrap_i64 _ (by omega) (by omega)
  have u2 : wrap64 (m : Int) = (m : Int) := by unfold wrap64; omega
  have u3 : IntKind.i64.wrap (p : Int) = (p : Int) := wrap_i64 _ (by omega) (by omega)
  have HXL := Lib.hid (show (W (q.num.natAbs * 2 ^ m)).length ≤ 200 by
    have e1 := W_mul_length q.num.natAbs (2 ^ m)
    have e2 := W_two_pow m
    have := HF.out.1
    omega)
  have HD := Lib.hid q.den_nz
  clear hr hmk
  rw [hq, HMK.out] at x1
  have HEX := Lib.hid x1
  clear x1
  have HFIN := Lib.hid (show mkRat (sg true (irt k (q.num.natAbs * 2 ^ m / q.den) + 1)) (1 * 2 ^ p) = r by
    rw [← HR2.out]
    unfold grtQ rootN
    rw [HNG.out, HMK.out, Nat.one_mul]
    have e1 := of_decide_eq_false HEX.out
    rw [if_pos ⟨rfl, by simp [e1]⟩])
  obtain ⟨o, ho⟩ : ∃ o, give r = o := ⟨_, rfl⟩
  have HO := Lib.hid ho
  rw [ho]
  clear hq hL k1 k3 bM ho
  go_enter Tryd.func79, Tryd.ntmps79
  go_upto_region 1 with (fail)
  rw [← hM]
  clear hM
  obtain ⟨x1, x2, x3, _, _, _⟩ := HX.out.cells
  go_wp2_with fail
  refine (readV _ s1 N1' D1' _ H1.out HT.out).mono ?_
  rw [HL.out, Bool.not_false]
  rintro e wa ⟨t1, B1, m1, d1, B1', m1', d1', rfl, f1, ba⟩
  have bb := below_step ba ba.size (below_alloc wa (.cells #[.bool t1, .slice B1 m1 d1, .slice B1' m1' d1'] 65))
  have hf1 := Box.new wa (.bool t1) (.slice B1 m1 d1) (.slice B1' m1' d1') 65
  have szw : w.heap.size + 1 < wa.heap.size := Nat.lt_of_lt_of_le (by obtain ⟨_, _, _, _, _, _, hh⟩ := HR.out; exact hh.lt) ba.size
  have TA : Hid (N1 w (wa.alloc (.cells #[.bool t1, .slice B1 m1 d1, .slice B1' m1' d1'] 65)) (w.heap.size + 1) wa.heap.size t1 B1 m1 d1 B1' m1' d1') :=
    Lib.hid ⟨HR.out.below bb, hf1, HT.out.below bb, below_step BM.out BM.out.size bb, by omega, by omega⟩
  have F1 : Hid (IsF (wa.alloc (.cells #[.bool t1, .slice B1 m1 d1, .slice B1' m1' d1'] 65)) (.agg #[.bool t1, .slice B1 m1 d1, .slice B1' m1' d1']) q) := Lib.hid (by rw [← HQ.out]; exact (f1.out rfl).below (below_alloc _ _))
  obtain ⟨w2, hw2⟩ : ∃ w2, wa.alloc (.cells #[.bool t1, .slice B1 m1 d1, .slice B1' m1' d1'] 65) = w2 := ⟨_, rfl⟩
  obtain ⟨gf, hgf⟩ : ∃ gf, wa.heap.size = gf := ⟨_, rfl⟩
  clear x1 x2 x3 ba bb f1 hf1 szw HR BM HX H1 HT
  go_upto_region 2 with (fail)
  rw [hw2] at TA F1
  try rw [hw2]
  rw [hgf] at TA
  try rw [hgf]
  clear hw2 hgf
  obtain ⟨y1, y2, y3, _⟩ := TA.out.box.cells
  obtain ⟨ht, a1, a2⟩ := F1.out.at_
  obtain rfl : t1 = true := ht.trans HNG.out
  have NA := Lib.hid a1
  have NB := Lib.hid a2
  clear ht a1 a2
  have T0 := Lib.hid (show NF w w2 (w.heap.size + 1) gf true B1 m1 d1 B1' m1' d1' q B1 m1 d1 q.num.natAbs from ⟨TA.out, NA.out, NB.out, NA.out, by omega⟩)
  go_wp2_with fail
  go_region_held3 (fun W' => (World.cell? W' ⟨gf, 0, none⟩ = some (.bool true) ∧ World.cell? W' ⟨gf, 1, none⟩ = some (.slice B1 m1 d1) ∧ World.cell? W' ⟨gf, 2, none⟩ = some (.slice B1' m1' d1') ∧ Hid (NF w W' (w.heap.size + 1) gf true B1 m1 d1 B1' m1' d1' q B1 m1 d1 (q.num.natAbs))))
    (with_reducible (first | assumption | exact T0.out.drew.cells | exact NF.next (by assumption) (by assumption) | exact NF.nextS (by assumption)))
    (first
       | (go_at_call 108
          refine (aShl _ m _ _ _ _ (NF.of (by assumption)).a (Nat.le_trans HF.out.1 (by omega)) (by omega)).mono ?_
          rintro e wb ⟨C1, x1, z1, rfl, i1, b1⟩)
       | (go_at_call 109
          refine (aDiv _ _ _ _ _ _ _ _ _ i1.out (NF.of (by assumption)).b (Nat.le_trans HXL.out (by omega)) (Nat.pos_of_ne_zero HD.out)).mono ?_
          rintro e wc ⟨C2, x2, z2, C3, x3, z3, rfl, i2, i3, b2⟩
          have hh := Lib.hid ((NF.of (by assumption)).below b2)))
  replace TA := Lib.hid hh.out.v
  replace NA := Lib.hid hh.out.a
  replace NB := Lib.hid hh.out.b
  clear hh T0 y1 y2 y3
  obtain ⟨y1, y2, y3, _⟩ := TA.out.box.cells
  go_wp2_with fail
  refine (aRoot _ k _ _ _ _ i2.out (Nat.le_trans (dig_length_mono B32_two (Nat.div_le_self _ _)) (Nat.le_trans HXL.out (by omega))) HK2.out (Nat.le_trans HK8.out (by omega))).mono ?_
  rw [HEX.out]
  rintro e wb ⟨C4, x4, z4, rfl, i4, bb⟩
  replace TA := Lib.hid (TA.out.below bb)
  replace NA := Lib.hid (NA.out.below bb)
  replace NB := Lib.hid (NB.out.below bb)
  replace i3 := Lib.hid (i3.out.below bb)
  clear bb y1 y2 y3
  obtain ⟨y1, y2, y3, _⟩ := TA.out.box.cells
  have LR := Lib.hid (show (W (irt k (q.num.natAbs * 2 ^ m / q.den))).length ≤ 200 from Nat.le_trans (dig_length_mono B32_two (Nat.le_trans (irt_self (Nat.lt_of_lt_of_le (by omega) HK2.out) _) (Nat.div_le_self _ _))) HXL.out)
  have L1 := Lib.hid (show (W 1).length ≤ 1 from (dig_length_le B32_two _ _).2 (by unfold B32; omega))
  go_wp2_with fail
  refine (aSmall1 _).mono ?_
  rintro e wb ⟨C5, x5, z5, rfl, i5, bb⟩
  replace TA := Lib.hid (TA.out.below bb)
  replace NA := Lib.hid (NA.out.below bb)
  replace NB := Lib.hid (NB.out.below bb)
  replace i4 := Lib.hid (i4.out.below bb)
  clear bb y1 y2 y3
  obtain ⟨y1, y2, y3, _⟩ := TA.out.box.cells
  go_wp2_with fail
  refine (aAdd _ _ _ _ _ _ _ _ _ i4.out i5.out (Nat.le_trans LR.out (by omega)) (Nat.le_trans L1.out (by omega))).mono ?_
  rintro e wb ⟨C6, x6, z6, rfl, i6, bb⟩
  replace TA := Lib.hid (TA.out.below bb)
  replace NA := Lib.hid (NA.out.below bb)
  replace NB := Lib.hid (NB.out.below bb)
  clear bb y1 y2 y3
  obtain ⟨y1, y2, y3, _⟩ := TA.out.box.cells
  have LQ := Lib.hid (show (W (irt k (q.num.natAbs * 2 ^ m / q.den) + 1)).length ≤ 300 by
    have e1 := LR.out
    have e2 := L1.out
    have e3 := W_add_length (irt k (q.num.natAbs * 2 ^ m / q.den)) 1
    omega)
  have LP := Lib.hid (show (W (1 * 2 ^ p)).length ≤ 300 by
    have e2 := W_two_pow p
    have := HP.out
    rw [Nat.one_mul]
    omega)
  obtain ⟨rn, hrn⟩ : ∃ x, irt k (q.num.natAbs * 2 ^ m / q.den) + 1 = x := ⟨_, rfl⟩
  rw [hrn] at i6 LQ HFIN
  have T0 := Lib.hid (show NF w _ (w.heap.size + 1) gf true B1 m1 d1 B1' m1' d1' q C6 x6 z6 rn from ⟨TA.out, NA.out, NB.out, i6.out, by omega⟩)
  go_wp2_with fail
  go_region_held3 (fun W' => (World.cell? W' ⟨gf, 0, none⟩ = some (.bool true) ∧ World.cell? W' ⟨gf, 1, none⟩ = some (.slice B1 m1 d1) ∧ World.cell? W' ⟨gf, 2, none⟩ = some (.slice B1' m1' d1') ∧ Hid (NF w W' (w.heap.size + 1) gf true B1 m1 d1 B1' m1' d1' q C6 x6 z6 rn)))
    (with_reducible (first | assumption | exact T0.out.drew.cells | exact NF.next (by assumption) (by assumption) | exact NF.nextS (by assumption)))
    (first
       | (go_at_call 94
          refine (aSmall1 _).mono ?_
          rintro e wb ⟨C7, x7, z7, rfl, i7, b7⟩)
       | (go_at_call 108
          refine (aShl _ p _ _ _ _ i7.out (Nat.le_trans L1.out (by omega)) (Nat.le_trans HP.out (by omega))).mono ?_
          rintro e wc ⟨C8, x8, z8, rfl, i8, b8⟩)
       | (go_at_call 92
          refine (aReduce true _ _ _ _ _ _ _ _ _ (NF.of (by assumption)).c i8.out (by rw [Nat.one_mul]; exact Nat.ne_of_gt (Nat.two_pow_pos p)) (Nat.le_trans LQ.out (by omega)) (Nat.le_trans LP.out (by omega)) (NF.of (by assumption)).v.tab r HFIN.out).mono ?_
          rintro e wd ⟨t9, B9, m9, d9, B9', m9', d9', rfl, i9, b9⟩)
       | (go_at_call 57
          refine (giveF _ _ _ i9.out).mono ?_
          rintro e we ⟨s9, A9, n9, c9, A9', n9', c9', k9, rfl, h9, b10⟩
          have hh := (NF.of (by assumption)).below b10
          obtain ⟨z1, z2, z3, hz1, hz2, hz3, k1, k2, k3⟩ := hh.v.res.cells))
  obtain ⟨q0, q1, q2, hs, hb⟩ := OutIs.stored h9 hh.v.res hh.v.bel hh.v.n3
  have Q := Lib.hid (And.intro q0 (And.intro q1 q2))
  have HS := Lib.hid hs
  have HBB := Lib.hid hb
  clear q0 q1 q2 hs hb h9
  go_wp2
  obtain ⟨q0, q1, q2⟩ := Q.out
  refine bodyPost_ret (v := .tuple #[.agg #[.bool s9, .slice A9 n9 c9, .slice A9' n9' c9'], .int .i64 k9]) (by simp [results, Tryd.results79, go_sem, q0, q1, q2]) rfl ?_
  rw [← HO.out]
  exact ⟨_, _, _, _, _, _, _, _, rfl, HS.out, HBB.out⟩
set_option maxHeartbeats 2000000 in
set_option maxRecDepth 100000 in
theorem nroot_true_true_same (s1 : Bool) (N1' D1' : Nat) (k p : Nat) (h2 : 2 ≤ k) (h8 : k ≤ 8) (hp : p ≤ 256) (hs : ng (ratOf s1 N1' D1') = true) (ho : k % 2 = 1) (r : Rat) (hr : grtQ (ratOf s1 N1' D1') k p true = r) (w : World) (v1 : Value) (h1 : RawV w v1 s1 N1' D1') (hT : Tab w) (q : Rat) (hq : ratOf s1 N1' D1' = q) (hL : largeB s1 N1' D1' = false) :
    Calls Tryd.prog 79 #[v1, .int .i64 (k : Int), .int .i64 (p : Int), .bool true] w (OutPost w (give r)) := by
  have H1 := Lib.hid h1
  have HT := Lib.hid hT
  obtain ⟨A1, n1, c1, A1', n1', c1', rfl⟩ := h1.shape
  clear h1 hT
  obtain ⟨M, hM, k1, k3, bM⟩ := start1 w (.bool s1) (.slice A1 n1 c1) (.slice A1' n1' c1') (.bool false) (.slice none 0 0) (.slice none 0 0) 24 24
  have HX := Lib.hid k1
  have HR := Lib.hid (show Res M (w.heap.size + 1) 24 from ⟨_, _, _, NI.bool _, NI.slice _ _ _, NI.slice _ _ _, k3⟩)
  have BM := Lib.hid bM
  replace H1 := Lib.hid (H1.out.below bM)
  replace HT := Lib.hid (HT.out.below bM)
  have HQ := Lib.hid hq
  have HL := Lib.hid hL
  have hf := (largeB_false hL).2.2
  rw [hq] at hf
  have HF := Lib.hid hf
  clear hf
  have hp1 : decide ((k : Int) < 2) = false := decide_eq_false (by omega)
  have hp1' : decide (k < 2) = false := decide_eq_false (by omega)
  have hp2 : decide (8 < (k : Int)) = false := decide_eq_false (by omega)
  have hp2' : decide (8 < k) = false := decide_eq_false (by omega)
  have hp3 : decide ((p : Int) < 0) = false := decide_eq_false (by omega)
  have hp4 : decide (256 < (p : Int)) = false := decide_eq_false (by omega)
  have hp4' : decide (256 < p) = false := decide_eq_false (by omega)
  have hm := tmod_two k
  have hm2 : IntKind.i64.wrap ((k % 2 : Nat) : Int) = ((k % 2 : Nat) : Int) := wraps_i64 _ (by omega) (by omega)
  have HK2 := Lib.hid h2
  have HK8 := Lib.hid h8
  have HP := Lib.hid hp
  rw [hq] at hs
  have HNG := Lib.hid hs
  clear hs
  rw [ho] at hm hm2
  clear ho
  rw [hq] at hr
  have HR2 := Lib.hid hr
  obtain ⟨m, hmk⟩ : ∃ m, p * k = m := ⟨_, rfl⟩
  have hmi : (p : Int) * (k : Int) = (m : Int) := by rw [← hmk]; push_cast; rfl
  have hmb : m ≤ 2048 := by rw [← hmk]; exact Nat.mul_le_mul hp h8
  have HMK := Lib.hid hmk
  have u1 : IntKind.i64.wrap (m : Int) = (m : Int) := wrap_i64 _ (by omega) (by omega)
  have u2 : wrap64 (m : Int) = (m : Int) := by unfold wrap64; omega
  have u3 : IntKind.i64.wrap (p : Int) = (p : Int) := wrap_i64 _ (by omega) (by omega)
  have HXL := Lib.hid (show (W (q.num.natAbs * 2 ^ m)).length ≤ 200 by
    have e1 := W_mul_length q.num.natAbs (2 ^ m)
    have e2 := W_two_pow m
    have := HF.out.1
    omega)
  have HD := Lib.hid q.den_nz
  clear hr hmk
  obtain ⟨bx, hx⟩ : ∃ b, decide (irt k (q.num.natAbs * 2 ^ m / q.den) ^ k = q.num.natAbs * 2 ^ m / q.den) = b := ⟨_, rfl⟩
  have HEX := Lib.hid hx
  clear hx
  have HFIN := Lib.hid (show mkRat (sg true (irt k (q.num.natAbs * 2 ^ m / q.den))) (1 * 2 ^ p) = r by
    rw [← HR2.out]
    unfold grtQ rootN
    rw [HNG.out, HMK.out, Nat.one_mul]
    rw [if_neg (by simp)]
    rw [Nat.add_zero])
  obtain ⟨o, ho⟩ : ∃ o, give r = o := ⟨_, rfl⟩
  have HO := Lib.hid ho
  rw [ho]
  clear hq hL k1 k3 bM ho
  go_enter Tryd.func79, Tryd.ntmps79
  go_upto_region 1 with (fail)
  rw [← hM]
  clear hM
  obtain ⟨x1, x2, x3, _, _, _⟩ := HX.out.cells
  go_wp2_with fail
  refine (readV _ s1 N1' D1' _ H1.out HT.out).mono ?_
  rw [HL.out, Bool.not_false]
  rintro e wa ⟨t1, B1, m1, d1, B1', m1', d1', rfl, f1, ba⟩
  have bb := below_step ba ba.size (below_alloc wa (.cells #[.bool t1, .slice B1 m1 d1, .slice B1' m1' d1'] 65))
  have hf1 := Box.new wa (.bool t1) (.slice B1 m1 d1) (.slice B1' m1' d1') 65
  have szw : w.heap.size + 1 < wa.heap.size := Nat.lt_of_lt_of_le (by obtain ⟨_, _, _, _, _, _, hh⟩ := HR.out; exact hh.lt) ba.size
  have TA : Hid (N1 w (wa.alloc (.cells #[.bool t1, .slice B1 m1 d1, .slice B1' m1' d1'] 65)) (w.heap.size + 1) wa.heap.size t1 B1 m1 d1 B1' m1' d1') :=
    Lib.hid ⟨HR.out.below bb, hf1, HT.out.below bb, below_step BM.out BM.out.size bb, by omega, by omega⟩
  have F1 : Hid (IsF (wa.alloc (.cells #[.bool t1, .slice B1 m1 d1, .slice B1' m1' d1'] 65)) (.agg #[.bool t1, .slice B1 m1 d1, .slice B1' m1' d1']) q) := Lib.hid (by rw [← HQ.out]; exact (f1.out rfl).below (below_alloc _ _))
  obtain ⟨w2, hw2⟩ : ∃ w2, wa.alloc (.cells #[.bool t1, .slice B1 m1 d1, .slice B1' m1' d1'] 65) = w2 := ⟨_, rfl⟩
  obtain ⟨gf, hgf⟩ : ∃ gf, wa.heap.size = gf := ⟨_, rfl⟩
  clear x1 x2 x3 ba bb f1 hf1 szw HR BM HX H1 HT
  go_upto_region 2 with (fail)
  rw [hw2] at TA F1
  try rw [hw2]
  rw [hgf] at TA
  try rw [hgf]
  clear hw2 hgf
  obtain ⟨y1, y2, y3, _⟩ := TA.out.box.cells
  obtain ⟨ht, a1, a2⟩ := F1.out.at_
  obtain rfl : t1 = true := ht.trans HNG.out
  have NA := Lib.hid a1
  have NB := Lib.hid a2
  clear ht a1 a2
  have T0 := Lib.hid (show NF w w2 (w.heap.size + 1) gf true B1 m1 d1 B1' m1' d1' q B1 m1 d1 q.num.natAbs from ⟨TA.out, NA.out, NB.out, NA.out, by omega⟩)
  go_wp2_with fail
  go_region_held3 (fun W' => (World.cell? W' ⟨gf, 0, none⟩ = some (.bool true) ∧ World.cell? W' ⟨gf, 1, none⟩ = some (.slice B1 m1 d1) ∧ World.cell? W' ⟨gf, 2, none⟩ = some (.slice B1' m1' d1') ∧ Hid (NF w W' (w.heap.size + 1) gf true B1 m1 d1 B1' m1' d1' q B1 m1 d1 (q.num.natAbs))))
    (with_reducible (first | assumption | exact T0.out.drew.cells | exact NF.next (by assumption) (by assumption) | exact NF.nextS (by assumption)))
    (first
       | (go_at_call 108
          refine (aShl _ m _ _ _ _ (NF.of (by assumption)).a (Nat.le_trans HF.out.1 (by omega)) (by omega)).mono ?_
          rintro e wb ⟨C1, x1, z1, rfl, i1, b1⟩)
       | (go_at_call 109
          refine (aDiv _ _ _ _ _ _ _ _ _ i1.out (NF.of (by assumption)).b (Nat.le_trans HXL.out (by omega)) (Nat.pos_of_ne_zero HD.out)).mono ?_
          rintro e wc ⟨C2, x2, z2, C3, x3, z3, rfl, i2, i3, b2⟩
          have hh := Lib.hid ((NF.of (by assumption)).below b2)))
  replace TA := Lib.hid hh.out.v
  replace NA := Lib.hid hh.out.a
  replace NB := Lib.hid hh.out.b
  clear hh T0 y1 y2 y3
  obtain ⟨y1, y2, y3, _⟩ := TA.out.box.cells
  go_wp2_with fail
  refine (aRoot _ k _ _ _ _ i2.out (Nat.le_trans (dig_length_mono B32_two (Nat.div_le_self _ _)) (Nat.le_trans HXL.out (by omega))) HK2.out (Nat.le_trans HK8.out (by omega))).mono ?_
  rw [HEX.out]
  rintro e wb ⟨C4, x4, z4, rfl, i4, bb⟩
  replace TA := Lib.hid (TA.out.below bb)
  replace NA := Lib.hid (NA.out.below bb)
  replace NB := Lib.hid (NB.out.below bb)
  replace i3 := Lib.hid (i3.out.below bb)
  clear bb y1 y2 y3
  obtain ⟨y1, y2, y3, _⟩ := TA.out.box.cells
  have LR := Lib.hid (show (W (irt k (q.num.natAbs * 2 ^ m / q.den))).length ≤ 200 from Nat.le_trans (dig_length_mono B32_two (Nat.le_trans (irt_self (Nat.lt_of_lt_of_le (by omega) HK2.out) _) (Nat.div_le_self _ _))) HXL.out)
  have L1 := Lib.hid (show (W 1).length ≤ 1 from (dig_length_le B32_two _ _).2 (by unfold B32; omega))
  have LQ := Lib.hid (show (W (irt k (q.num.natAbs * 2 ^ m / q.den))).length ≤ 300 by
    have e1 := LR.out
    have e2 := L1.out
    skip
    omega)
  have LP := Lib.hid (show (W (1 * 2 ^ p)).length ≤ 300 by
    have e2 := W_two_pow p
    have := HP.out
    rw [Nat.one_mul]
    omega)
  obtain ⟨rn, hrn⟩ : ∃ x, irt k (q.num.natAbs * 2 ^ m / q.den) = x := ⟨_, rfl⟩
  rw [hrn] at i4 LQ HFIN
  have T0 := Lib.hid (show NF w _ (w.heap.size + 1) gf true B1 m1 d1 B1' m1' d1' q C4 x4 z4 rn from ⟨TA.out, NA.out, NB.out, i4.out, by omega⟩)
  go_wp2_with fail
  go_region_held3 (fun W' => (World.cell? W' ⟨gf, 0, none⟩ = some (.bool true) ∧ World.cell? W' ⟨gf, 1, none⟩ = some (.slice B1 m1 d1) ∧ World.cell? W' ⟨gf, 2, none⟩ = some (.slice B1' m1' d1') ∧ Hid (NF w W' (w.heap.size + 1) gf true B1 m1 d1 B1' m1' d1' q C4 x4 z4 rn)))
    (with_reducible (first | assumption | exact T0.out.drew.cells | exact NF.next (by assumption) (by assumption) | exact NF.nextS (by assumption)))
    (first
       | (go_at_call 94
          refine (aSmall1 _).mono ?_
          rintro e wb ⟨C7, x7, z7, rfl, i7, b7⟩)
       | (go_at_call 108
          refine (aShl _ p _ _ _ _ i7.out (Nat.le_trans L1.out (by omega)) (Nat.le_trans HP.out (by omega))).mono ?_
          rintro e wc ⟨C8, x8, z8, rfl, i8, b8⟩)
       | (go_at_call 92
          refine (aReduce true _ _ _ _ _ _ _ _ _ (NF.of (by assumption)).c i8.out (by rw [Nat.one_mul]; exact Nat.ne_of_gt (Nat.two_pow_pos p)) (Nat.le_trans LQ.out (by omega)) (Nat.le_trans LP.out (by omega)) (NF.of (by assumption)).v.tab r HFIN.out).mono ?_
          rintro e wd ⟨t9, B9, m9, d9, B9', m9', d9', rfl, i9, b9⟩)
       | (go_at_call 57
          refine (giveF _ _ _ i9.out).mono ?_
          rintro e we ⟨s9, A9, n9, c9, A9', n9', c9', k9, rfl, h9, b10⟩
          have hh := (NF.of (by assumption)).below b10
          obtain ⟨z1, z2, z3, hz1, hz2, hz3, k1, k2, k3⟩ := hh.v.res.cells))
  obtain ⟨q0, q1, q2, hs, hb⟩ := OutIs.stored h9 hh.v.res hh.v.bel hh.v.n3
  have Q := Lib.hid (And.intro q0 (And.intro q1 q2))
  have HS := Lib.hid hs
  have HBB := Lib.hid hb
  clear q0 q1 q2 hs hb h9
  go_wp2
  obtain ⟨q0, q1, q2⟩ := Q.out
  refine bodyPost_ret (v := .tuple #[.agg #[.bool s9, .slice A9 n9 c9, .slice A9' n9' c9'], .int .i64 k9]) (by simp [results, Tryd.results79, go_sem, q0, q1, q2]) rfl ?_
  rw [← HO.out]
  exact ⟨_, _, _, _, _, _, _, _, rfl, HS.out, HBB.out⟩
theorem nroot (s1 : Bool) (N1' D1' : Nat) (n p : Int) (up : Bool) (w : World) (v1 : Value) (h1 : RawV w v1 s1 N1' D1') (hT : Tab w) :
    Calls Tryd.prog 79 #[v1, .int .i64 n, .int .i64 p, .bool up] w (OutPost w (grootOut (largeB s1 N1' D1') n p up (ratOf s1 N1' D1'))) := by
  unfold grootOut
  by_cases h : largeB s1 N1' D1' = true
  · rw [if_pos h]; exact nroot_large s1 N1' D1' n p up w v1 h1 hT _ rfl h
  · rw [if_neg h]
    have h' : largeB s1 N1' D1' = false := by simpa using h
    by_cases c1 : n < 2
    · rw [if_pos (Or.inl c1)]; exact nroot_n2 s1 N1' D1' n p up c1 w v1 h1 hT _ rfl h'
    · by_cases c2 : 8 < n
      · rw [if_pos (Or.inr (Or.inl c2))]; exact nroot_n8 s1 N1' D1' n p up c2 w v1 h1 hT _ rfl h'
      · by_cases c3 : p < 0
        · rw [if_pos (Or.inr (Or.inr (Or.inl c3)))]; exact nroot_p0 s1 N1' D1' n p up (by omega) (by omega) c3 w v1 h1 hT _ rfl h'
        · by_cases c4 : 256 < p
          · rw [if_pos (Or.inr (Or.inr (Or.inr c4)))]; exact nroot_p256 s1 N1' D1' n p up (by omega) (by omega) c4 w v1 h1 hT _ rfl h'
          · rw [if_neg (by omega)]
            obtain ⟨k, rfl⟩ : ∃ k : Nat, n = (k : Int) := ⟨n.toNat, by omega⟩
            obtain ⟨j, rfl⟩ : ∃ j : Nat, p = (j : Int) := ⟨p.toNat, by omega⟩
            rw [Int.toNat_natCast, Int.toNat_natCast]
            have h2 : 2 ≤ k := by omega
            have h8 : k ≤ 8 := by omega
            have hj : j ≤ 256 := by omega
            by_cases he : ng (ratOf s1 N1' D1') = true ∧ k % 2 = 0
            · rw [if_pos he]; exact nroot_even s1 N1' D1' k j h2 h8 hj up he.1 he.2 w v1 h1 hT _ rfl h'
            · rw [if_neg he]
              cases hs : ng (ratOf s1 N1' D1')
              · cases up
                · exact nroot_false_false_same s1 N1' D1' k j h2 h8 hj hs _ rfl w v1 h1 hT _ rfl h'
                · cases x1 : decide (irt k ((ratOf s1 N1' D1').num.natAbs * 2 ^ (j * k) / (ratOf s1 N1' D1').den) ^ k = (ratOf s1 N1' D1').num.natAbs * 2 ^ (j * k) / (ratOf s1 N1' D1').den)
                  · exact nroot_false_true_inexact s1 N1' D1' k j h2 h8 hj hs x1 _ rfl w v1 h1 hT _ rfl h'
                  · cases x2 : decide ((ratOf s1 N1' D1').num.natAbs * 2 ^ (j * k) % (ratOf s1 N1' D1').den = 0)
                    · exact nroot_false_true_rest s1 N1' D1' k j h2 h8 hj hs x1 x2 _ rfl w v1 h1 hT _ rfl h'
                    · exact nroot_false_true_exact s1 N1' D1' k j h2 h8 hj hs x1 x2 _ rfl w v1 h1 hT _ rfl h'
              · have ho : k % 2 = 1 := by
                  have : ¬ k % 2 = 0 := fun h0 => he ⟨hs, h0⟩
                  omega
                cases up
                · cases x1 : decide (irt k ((ratOf s1 N1' D1').num.natAbs * 2 ^ (j * k) / (ratOf s1 N1' D1').den) ^ k = (ratOf s1 N1' D1').num.natAbs * 2 ^ (j * k) / (ratOf s1 N1' D1').den)
                  · exact nroot_true_false_inexact s1 N1' D1' k j h2 h8 hj hs ho x1 _ rfl w v1 h1 hT _ rfl h'
                  · cases x2 : decide ((ratOf s1 N1' D1').num.natAbs * 2 ^ (j * k) % (ratOf s1 N1' D1').den = 0)
                    · exact nroot_true_false_rest s1 N1' D1' k j h2 h8 hj hs ho x1 x2 _ rfl w v1 h1 hT _ rfl h'
                    · exact nroot_true_false_exact s1 N1' D1' k j h2 h8 hj hs ho x1 x2 _ rfl w v1 h1 hT _ rfl h'
                · exact nroot_true_true_same s1 N1' D1' k j h2 h8 hj hs ho _ rfl w v1 h1 hT _ rfl h'
set_option maxHeartbeats 1000000 in
set_option maxRecDepth 100000 in
theorem nRootDown (s1 : Bool) (N1 D1 : Nat) (n p : Int) (w : World) (v1 : Value) (h1 : RawV w v1 s1 N1 D1) (hT : Tab w) :
    Calls Tryd.prog 35 #[v1, .int .i64 n, .int .i64 p] w (OutPost w (grootOut (largeB s1 N1 D1) n p false (ratOf s1 N1 D1))) := by
  have H1 := Lib.hid h1
  have HT := Lib.hid hT
  obtain ⟨A1, n1, c1, A1', n1', c1', rfl⟩ := h1.shape
  clear h1 hT
  obtain ⟨M, hM, k1, k3, bM⟩ := start1 w (.bool s1) (.slice A1 n1 c1) (.slice A1' n1' c1') (.bool false) (.slice none 0 0) (.slice none 0 0) 24 24
  have HX := Lib.hid k1
  have HR := Lib.hid (show Res M (w.heap.size + 1) 24 from ⟨_, _, _, NI.bool _, NI.slice _ _ _, NI.slice _ _ _, k3⟩)
  have BM := Lib.hid bM
  replace H1 := Lib.hid (H1.out.below bM)
  replace HT := Lib.hid (HT.out.below bM)
  have C := Lib.hid (nroot s1 N1 D1 n p false M _ H1.out HT.out)
  obtain ⟨o, ho⟩ : ∃ o, grootOut (largeB s1 N1 D1) n p false (ratOf s1 N1 D1) = o := ⟨_, rfl⟩
  rw [ho] at C
  rw [ho]
  clear k1 k3 bM ho
  go_enter Tryd.func35, Tryd.ntmps35
  go_upto_region 1 with (fail)
  rw [← hM]
  clear hM
  obtain ⟨x1, x2, x3, _, _, _⟩ := HX.out.cells
  go_wp2_with fail
  refine C.out.mono ?_
  rintro e we ⟨s9, A9, n9, c9, A9', n9', c9', k9, rfl, h9, b9⟩
  replace HR := Lib.hid (HR.out.below b9)
  have BE := Lib.hid (below_step BM.out BM.out.size b9)
  obtain ⟨q0, q1, q2, hs, hb⟩ := OutIs.stored h9 HR.out BE.out (by omega)
  have Q := Lib.hid (And.intro q0 (And.intro q1 q2))
  have HS := Lib.hid hs
  have HB := Lib.hid hb
  clear b9 h9 q0 q1 q2 hs hb x1 x2 x3
  obtain ⟨r1, r2, r3, hr1, hr2, hr3, _, _, _⟩ := HR.out.cells
  go_wp2_with fail
  obtain ⟨q0, q1, q2⟩ := Q.out
  refine bodyPost_ret (v := .tuple #[.agg #[.bool s9, .slice A9 n9 c9, .slice A9' n9' c9'], .int .i64 k9]) (by simp [results, Tryd.results35, go_sem, q0, q1, q2]) rfl ?_
  exact ⟨_, _, _, _, _, _, _, _, rfl, HS.out, HB.out⟩
set_option maxHeartbeats 1000000 in
set_option maxRecDepth 100000 in
theorem nRootUp (s1 : Bool) (N1 D1 : Nat) (n p : Int) (w : World) (v1 : Value) (h1 : RawV w v1 s1 N1 D1) (hT : Tab w) :
    Calls Tryd.prog 36 #[v1, .int .i64 n, .int .i64 p] w (OutPost w (grootOut (largeB s1 N1 D1) n p true (ratOf s1 N1 D1))) := by
  have H1 := Lib.hid h1
  have HT := Lib.hid hT
  obtain ⟨A1, n1, c1, A1', n1', c1', rfl⟩ := h1.shape
  clear h1 hT
  obtain ⟨M, hM, k1, k3, bM⟩ := start1 w (.bool s1) (.slice A1 n1 c1) (.slice A1' n1' c1') (.bool false) (.slice none 0 0) (.slice none 0 0) 24 24
  have HX := Lib.hid k1
  have HR := Lib.hid (show Res M (w.heap.size + 1) 24 from ⟨_, _, _, NI.bool _, NI.slice _ _ _, NI.slice _ _ _, k3⟩)
  have BM := Lib.hid bM
  replace H1 := Lib.hid (H1.out.below bM)
  replace HT := Lib.hid (HT.out.below bM)
  have C := Lib.hid (nroot s1 N1 D1 n p true M _ H1.out HT.out)
  obtain ⟨o, ho⟩ : ∃ o, grootOut (largeB s1 N1 D1) n p true (ratOf s1 N1 D1) = o := ⟨_, rfl⟩
  rw [ho] at C
  rw [ho]
  clear k1 k3 bM ho
  go_enter Tryd.func36, Tryd.ntmps36
  go_upto_region 1 with (fail)
  rw [← hM]
  clear hM
  obtain ⟨x1, x2, x3, _, _, _⟩ := HX.out.cells
  go_wp2_with fail
  refine C.out.mono ?_
  rintro e we ⟨s9, A9, n9, c9, A9', n9', c9', k9, rfl, h9, b9⟩
  replace HR := Lib.hid (HR.out.below b9)
  have BE := Lib.hid (below_step BM.out BM.out.size b9)
  obtain ⟨q0, q1, q2, hs, hb⟩ := OutIs.stored h9 HR.out BE.out (by omega)
  have Q := Lib.hid (And.intro q0 (And.intro q1 q2))
  have HS := Lib.hid hs
  have HB := Lib.hid hb
  clear b9 h9 q0 q1 q2 hs hb x1 x2 x3
  obtain ⟨r1, r2, r3, hr1, hr2, hr3, _, _, _⟩ := HR.out.cells
  go_wp2_with fail
  obtain ⟨q0, q1, q2⟩ := Q.out
  refine bodyPost_ret (v := .tuple #[.agg #[.bool s9, .slice A9 n9 c9, .slice A9' n9' c9'], .int .i64 k9]) (by simp [results, Tryd.results36, go_sem, q0, q1, q2]) rfl ?_
  exact ⟨_, _, _, _, _, _, _, _, rfl, HS.out, HB.out⟩
end Go.Proofs.YtfmhplcpejmkhabDoor

namespace Go.Proofs.YtfmhplcpejmkhabDoor
open Go.RowKit Dig
set_option linter.unusedVariables false
set_option linter.unusedSimpArgs false
/-- Newton's start of the reference is above the root -/
theorem root_startR {a n : Nat} (hn : 0 < n) : irt n a ≤ 2 ^ ((bl a + n - 1) / n) := by
  have h1 := irt_le (a := a) hn
  have h2 := lt_bl a
  have h3 : irt n a ^ n < (2 ^ ((bl a + n - 1) / n)) ^ n := by
    refine Nat.lt_of_le_of_lt h1 (Nat.lt_of_lt_of_le h2 ?_)
    rw [← Nat.pow_mul]
    apply Nat.pow_le_pow_right (by omega)
    have h4 := Nat.div_add_mod (bl a + n - 1) n
    have h5 := Nat.mod_lt (bl a + n - 1) hn
    rw [Nat.mul_comm]
    omega
  rcases Nat.lt_or_ge (2 ^ ((bl a + n - 1) / n)) (irt n a) with h | h
  · have := Nat.pow_le_pow_left (Nat.le_of_lt h) n
    omega
  · exact h
theorem bl_lengthR (a : Nat) : bl a ≤ 16 * (R a).length := by
  refine bl_le_of_lt ?_
  have : a < B16 ^ (R a).length := (dig_length_le B16_two a (R a).length).1 (Nat.le_refl _)
  rw [show B16 = 2 ^ 16 from rfl, ← Nat.pow_mul] at this
  exact this
theorem R_two_pow16 (k : Nat) : (R (2 ^ k)).length ≤ k / 16 + 1 := by
  refine (dig_length_le B16_two _ _).2 ?_
  rw [show B16 = 2 ^ 16 from rfl, ← Nat.pow_mul]
  exact Nat.pow_lt_pow_right (by omega) (by omega)
set_option maxHeartbeats 2000000 in
theorem rRoot_pos (a m : Nat) (w : World) (A : Option Addr) (c : Nat) (h : Rd w A c (R a)) (hs : (R a).length ≤ 4000) (hm : m ≤ 10) (ha : a ≠ 0) :
    Calls Tryd.prog 113 #[.slice A (R a).length c, .int .i64 (((m + 2 : Nat)) : Int)] w fun e w' => ∃ A c, e = .returned (.slice A (R (irt (m + 2) a)).length c) ∧ Rd w' A c (R (irt (m + 2) a)) ∧ Below w.heap.size w w' := by
  have H0 := Lib.hid h
  have hl : (((R a).length : Int) == 0) = false := by
    rw [beq_eq_false_iff_ne]
    intro e
    exact ha (R_length_zero (a := a) (by omega))
  have HA := Lib.hid ha
  have hn1 : decide ((m : Int) + 2 < 1) = false := decide_eq_false (by omega)
  have hn2 : decide (((m + 2 : Nat) : Int) < 1) = false := decide_eq_false (by omega)
  clear h ha
  have hbl := bl_lengthR a
  obtain ⟨k, hk⟩ : ∃ k, (bl a + (m + 2) - 1) / (m + 2) = k := ⟨_, rfl⟩
  have hk2 : ((bl a : Int) + ((m : Int) + 2) - 1) / ((m : Int) + 2) = (k : Int) := by
    rw [← hk, Int.natCast_ediv, show ((bl a + (m + 2) - 1 : Nat) : Int) = (bl a : Int) + ((m : Int) + 2) - 1 from by omega]; rfl
  have hkb : k ≤ 16 * (R a).length + 12 := by rw [← hk]; exact Nat.le_trans (Nat.div_le_self _ _) (by omega)
  have hst := root_startR (a := a) (n := m + 2) (by omega)
  rw [hk] at hst
  have HST := Lib.hid hst
  clear hk hst
  go_enter Tryd.func113, Tryd.ntmps113
  go_wp2_with fail
  refine (rNatOf1 _).mono ?_
  rintro e w1 ⟨A1, c1, rfl, hr1, hb1⟩
  have R1 := Lib.hid hr1
  have HB1 := Lib.hid hb1
  have R0 := Lib.hid (H0.out.below hb1)
  clear hr1 hb1
  go_wp2_with fail
  refine (rBits a _ _ _ R0.out (by omega)).mono ?_
  rintro e w2 ⟨rfl, rfl⟩
  go_wp2_with fail
  have l1 : (R 1).length ≤ 1 := (dig_length_le B16_two _ _).2 (by unfold B16; omega)
  refine (rShl 1 k _ _ _ R1.out (by omega) (by omega)).mono ?_
  rintro e w3 ⟨A3, c3, rfl, hr3, hb3⟩
  rw [Nat.one_mul] at hr3
  rw [Nat.one_mul]
  have R3 := Lib.hid hr3
  have R0' := Lib.hid (R0.out.below hb3)
  have HB3 := Lib.hid (below_step HB1.out HB1.out.size hb3)
  have hl3 := R_two_pow16 k
  clear hr3 hb3 hk2
  go_wp2_with fail
  go_loopg [5] (2 ^ k) (fun kk v6 wr => ∃ (x : Nat) (A6 : Option Addr) (c6 : Nat), v6 = .slice A6 (R x).length c6 ∧ Hid (x ≤ kk) ∧ Hid (irt (m + 2) a ≤ x) ∧ Hid (0 < x) ∧ (R x).length ≤ 2 * (R a).length + 50 ∧ Hid (Rd wr A6 c6 (R x)) ∧ Hid (Below w.heap.size w wr))
  case atStart => exact ⟨_, _, _, rfl, Lib.hid (Nat.le_refl _), HST, Lib.hid (Nat.two_pow_pos _), by omega, R3, HB3⟩
  case round =>
    obtain ⟨x, A6, c6, rfl, hx, hr, hx0, hl6, R6, hb⟩ := hrel
    have R0r := Lib.hid (H0.out.below hb.out)
    have hm1 : (R x).length * (m + 1) ≤ 95000 := by
      have := Nat.mul_le_mul hl6 (show m + 1 ≤ 11 by omega)
      omega
    go_wp2_with fail
    rw [show (m : Int) + 2 - 1 = ((m + 1 : Nat) : Int) from by omega]
    refine (rNatPow x (m + 1) _ _ _ R6.out (by omega) (by omega) (by omega)).mono ?_
    rintro e w4 ⟨A4, c4, rfl, hr4, hb4⟩
    have R4 := Lib.hid hr4
    have R0a := Lib.hid (R0r.out.below hb4)
    have R6a := Lib.hid (R6.out.below hb4)
    have HB4 := Lib.hid (below_step hb.out hb.out.size hb4)
    have hp0 := Lib.hid (Nat.pow_pos (n := m + 1) hx0.out)
    clear hr4 hb4
    go_wp2_with fail
    refine (rDiv a (x ^ (m + 1)) _ _ _ _ _ R0a.out R4.out (by omega) hp0.out).mono ?_
    rintro e w5 ⟨A5, c5, A5', c5', rfl, hr5, _, hb5⟩
    have R5 := Lib.hid hr5
    have R6b := Lib.hid (R6a.out.below hb5)
    have R0b := Lib.hid (R0a.out.below hb5)
    have HB5 := Lib.hid (below_step HB4.out HB4.out.size hb5)
    have l5 : (R (a / x ^ (m + 1))).length ≤ (R a).length := dig_length_mono B16_two (Nat.div_le_self _ _)
    clear hr5 hb5
    go_wp2_with fail
    rw [show (m : Int) + 2 - 1 = ((m + 1 : Nat) : Int) from by omega]
    refine (rNatOf _ _ (by omega)).mono ?_
    rintro e w6 ⟨A7, c7, rfl, hr7, hb7⟩
    have R7 := Lib.hid hr7
    have R6c := Lib.hid (R6b.out.below hb7)
    have R0c := Lib.hid (R0b.out.below hb7)
    have R5c := Lib.hid (R5.out.below hb7)
    have HB7 := Lib.hid (below_step HB5.out HB5.out.size hb7)
    have l7 : (R (m + 1)).length ≤ 1 := (dig_length_le B16_two _ _).2 (by unfold B16; omega)
    clear hr7 hb7
    go_wp2_with fail
    refine (rMul x (m + 1) _ _ _ _ _ R6c.out R7.out (by omega) (by omega)).mono ?_
    rintro e w8 ⟨A8, c8, rfl, hr8, hb8⟩
    have R8 := Lib.hid hr8
    have R6d := Lib.hid (R6c.out.below hb8)
    have R0d := Lib.hid (R0c.out.below hb8)
    have R5d := Lib.hid (R5c.out.below hb8)
    have HB8 := Lib.hid (below_step HB7.out HB7.out.size hb8)
    have l8 := R_mul_length x (m + 1)
    clear hr8 hb8
    go_wp2_with fail
    refine (rAdd (x * (m + 1)) (a / x ^ (m + 1)) _ _ _ _ _ R8.out R5d.out (by omega) (by omega)).mono ?_
    rintro e w9 ⟨A9, c9, rfl, hr9, hb9⟩
    have R9 := Lib.hid hr9
    have R6e := Lib.hid (R6d.out.below hb9)
    have R0e := Lib.hid (R0d.out.below hb9)
    have HB9 := Lib.hid (below_step HB8.out HB8.out.size hb9)
    have l9 := R_add_length (x * (m + 1)) (a / x ^ (m + 1))
    clear hr9 hb9
    go_wp2_with fail
    rw [show (m : Int) + 2 = ((m + 2 : Nat) : Int) from rfl]
    refine (rNatOf _ _ (by omega)).mono ?_
    rintro e w9 ⟨A7, c7, rfl, hr7, hb7⟩
    have R7 := Lib.hid hr7
    have R9 := Lib.hid (R9.out.below hb7)
    have R6e := Lib.hid (R6e.out.below hb7)
    have R0e := Lib.hid (R0e.out.below hb7)
    have HB9 := Lib.hid (below_step HB9.out HB9.out.size hb7)
    clear hr7 hb7
    go_wp2_with fail
    refine (rDiv (x * (m + 1) + a / x ^ (m + 1)) (m + 2) _ _ _ _ _ R9.out R7.out (by omega) (by omega)).mono ?_
    rintro e w10 ⟨A10, c10, A10', c10', rfl, hr10, _, hb10⟩
    obtain ⟨y, hy⟩ : ∃ y, (x * (m + 1) + a / x ^ (m + 1)) / (m + 2) = y := ⟨_, rfl⟩
    rw [hy] at hr10
    rw [hy]
    have R10 := Lib.hid hr10
    have R6f := Lib.hid (R6e.out.below hb10)
    have R0f := Lib.hid (R0e.out.below hb10)
    have HB10 := Lib.hid (below_step HB9.out HB9.out.size hb10)
    have hge := newton_ge (n := m + 1) (a := a) hx0.out
    rw [hy] at hge
    have HGE := Lib.hid hge
    have hstop := newton_stop (n := m + 1) (a := a) hx0.out hr.out
    rw [hy] at hstop
    have HSTOP := Lib.hid hstop
    clear hr10 hb10 hy hge hstop
    go_wp2_with fail
    refine (rCmp y x _ _ _ _ _ R10.out R6f.out).mono ?_
    rintro e w11 ⟨rfl, hb11⟩
    have R10g := Lib.hid (R10.out.below hb11)
    have R6g := Lib.hid (R6f.out.below hb11)
    have R0g := Lib.hid (R0f.out.below hb11)
    have HB11 := Lib.hid (below_step HB10.out HB10.out.size hb11)
    clear hb11
    by_cases hyx : x ≤ y
    · have hc : 0 ≤ cmpI y x := by unfold cmpI; rw [if_neg (by omega)]; split <;> omega
      have e := HSTOP.out hyx
      have E := Lib.hid e
      clear e
      go_wp2
      go_ret
      rw [E.out]
      exact ⟨_, _, rfl, R6g.out, HB11.out⟩
    · have hc : cmpI y x < 0 := by rw [cmpI_lt (by omega)]; omega
      have hyp : 0 < y := by
        have := HGE.out
        have h1 : 1 ≤ irt (m + 1 + 1) a := le_irt (by omega) (by have := HA.out; simp; omega)
        omega
      have HYP := Lib.hid hyp
      have HLT := Lib.hid (show y < x by omega)
      have ly : (R y).length ≤ (R x).length := dig_length_mono B16_two (by omega)
      clear hyp hyx
      go_wp2
      go_roundg y
      case measure => have := HLT.out; have := hx.out; omega
      case rel => exact ⟨y, _, _, rfl, Lib.hid (Nat.le_refl _), HGE, HYP, by omega, R10g, HB11⟩
theorem rRoot (a m : Nat) (w : World) (A : Option Addr) (c : Nat) (h : Rd w A c (R a)) (hs : (R a).length ≤ 4000) (hm : m ≤ 10) :
    Calls Tryd.prog 113 #[.slice A (R a).length c, .int .i64 (((m + 2 : Nat)) : Int)] w fun e w' => ∃ A c, e = .returned (.slice A (R (irt (m + 2) a)).length c) ∧ Rd w' A c (R (irt (m + 2) a)) ∧ Below w.heap.size w w' := by
  by_cases ha : a = 0
  · subst ha
    have hl : (((R 0).length : Int) == 0) = true := by simp [R_zero]
    have hi := Lib.hid (irt_zero (n := m + 2) (by omega))
    clear h
    go_enter Tryd.func113, Tryd.ntmps113
    go_wp2
    go_ret
    rw [hi.out, R_zero]
    exact ⟨none, 0, rfl, Rd.nil _ _ _ (by omega), Below.refl _ _⟩
  · exact rRoot_pos a m w A c h hs hm ha
end Go.Proofs.YtfmhplcpejmkhabDoor
