/-
  Contracts of number.round, Down, Up. Under the premise that the table of math/bits lies as its initialiser lays it.
  Contracts of two values that have been read.
  How rational numbers compare: plain laws.
  Contracts of number.Compare. Under the premise that the table of math/bits lies as its initialiser lays it.
  Results of operations as values: an error's value is the zero value.
  The grid's neighbours: plain laws.
  Words for the statements' walks: values in variables that stay.
  Contract of the statements' own awake.
  The walk of the statement NumberCompares. Under the premise that the table of math/bits lies as its initialiser lays it.
  The walk of the statement NumberSteps. Under the premise that the table of math/bits lies as its initialiser lays it.
  From a row's reading to the walks' premises: a number as it comes in, the table of math/bits, and what an answer 'true' over untouched arguments gives.
  The statement NumberStepsUptoCardSaid: the row, and the card over it. Conditions: the walks' none but what the row's reading and its listed table give.
-/
import Derived.Test.YtfmhplcpejmkhabDoorCards
import Derived.Test.YtfmhplcpejmkhabDoorTie
import Derived.WalkKit
import Derived.ProofKit
import Derived.OpenShut
import Derived.Carry
import Derived.Deep.DeepHandedRow
import Derived.Lib.LaidTab
import Derived.Lib.SmallJoins
import Derived.ChangeSlices
import Derived.Test.YtfmhplcpejmkhabDoorPStepsC
namespace Go.Proofs.YtfmhplcpejmkhabDoor
open Go.RowKit Dig
set_option linter.unusedVariables false
set_option linter.unusedSimpArgs false
/-- a value that has been read, and a variable for a result -/
structure N1 (w M : World) (g3 g : Nat) (s : Bool) (A1 : Option Addr) (n1 c1 : Nat) (B1 : Option Addr) (m1 d1 : Nat) : Prop where
  res : Res M g3 24
  box : Box M g (.bool s) (.slice A1 n1 c1) (.slice B1 m1 d1) 65
  tab : Tab M
  bel : Below w.heap.size w M
  n3 : w.heap.size ≤ g3
  ne : g ≠ g3
theorem N1.below {w M M' : World} {g3 g : Nat} {s : Bool} {A1 : Option Addr} {n1 c1 : Nat} {B1 : Option Addr} {m1 d1 : Nat} (h : N1 w M g3 g s A1 n1 c1 B1 m1 d1) (hb : Below M.heap.size M M') : N1 w M' g3 g s A1 n1 c1 B1 m1 d1 :=
  ⟨h.res.below hb, h.box.below hb, h.tab.below hb, below_step h.bel h.bel.size hb, h.n3, h.ne⟩
theorem Calls.partsF {f : Nat} {args : Array Value} {w : World} {q : Rat} (h : Calls Tryd.prog f args w fun e w' => ∃ u, e = .returned u ∧ IsF w' u q ∧ Below w.heap.size w w') :
    Calls Tryd.prog f args w fun e w' => ∃ t B1 m1 e1 B2 m2 e2, e = .returned (.agg #[.bool t, .slice B1 m1 e1, .slice B2 m2 e2]) ∧ Hid (IsF w' (.agg #[.bool t, .slice B1 m1 e1, .slice B2 m2 e2]) q) ∧ Below w.heap.size w w' := by
  refine h.mono ?_
  rintro e w' ⟨u, rfl, hq, hb⟩
  have hq2 := hq
  obtain ⟨A1, c1, A2, c2, rfl, r1, r2⟩ := hq
  exact ⟨_, _, _, _, _, _, _, rfl, hq2, hb⟩
def gridOut (L : Bool) (p : Int) (up : Bool) (q : Rat) : Out := if L = true then .err 1 else if p < 0 ∨ 256 < p then .err 2 else give (gridQ q p.toNat up)
theorem fGrid (a : Rat) (p : Nat) (up : Bool) (lp : p ≤ 100000) (w : World) (v1 : Value) (h1 : IsF w v1 a) (k : Wq 200000 a) (hT : Tab w) : Calls Tryd.prog 116 #[v1, .int .i64 p, .bool up] w fun e w' => ∃ u, e = .returned u ∧ IsF w' u (gridQ a p up) ∧ Below w.heap.size w w' := by
  obtain ⟨A1, c1, A2, c2, rfl, r1, r2⟩ := h1
  exact fracGrid _ _ _ p up w _ _ _ _ r1 r2 k.1 k.2 lp a.den_nz hT
set_option maxHeartbeats 2000000 in
set_option maxRecDepth 100000 in
theorem nround_large (s1 : Bool) (N1' D1' : Nat) (p : Int) (up : Bool) (w : World) (v1 : Value) (h1 : RawV w v1 s1 N1' D1') (hT : Tab w) (q : Rat) (hq : ratOf s1 N1' D1' = q) (hL : largeB s1 N1' D1' = true) :
    Calls Tryd.prog 82 #[v1, .int .i64 p, .bool up] w (OutPost w (Out.err 1)) := by
  have H1 := Lib.hid h1
  have HT := Lib.hid hT
  obtain ⟨A1, n1, c1, A1', n1', c1', rfl⟩ := h1.shape
  clear h1 hT
  obtain ⟨M, hM, k1, k3, bM⟩ := start1 w (.bool s1) (.slice A1 n1 c1) (.slice A1' n1' c1') (.bool false) (.slice none 0 0) (.slice none 0 0) 24 24
  have HX := Lib.hid k1
  have HR := Lib.hid (show Res M (w.heap.size + 1) 24 from ⟨_, _, _, NI.bool _, NI.slice _ _ _, NI.slice _ _ _, k3⟩)
  have BM := Lib.hid bM
  replace H1 := Lib.hid (H1.out.below bM)
  replace HT := Lib.hid (HT.out.below bM)
  have HQ := Lib.hid hq
  have HL := Lib.hid hL
  obtain ⟨o, ho⟩ : ∃ o, Out.err 1 = o := ⟨_, rfl⟩
  have HO := Lib.hid ho
  rw [ho]
  clear hq hL k1 k3 bM ho
  go_enter Tryd.func82, Tryd.ntmps82
  go_upto_region 1 with (fail)
  rw [← hM]
  clear hM
  obtain ⟨x1, x2, x3, _, _, _⟩ := HX.out.cells
  go_wp2_with fail
  refine (readV _ s1 N1' D1' _ H1.out HT.out).mono ?_
  rw [HL.out, Bool.not_true]
  rintro e wa ⟨t1, B1, m1, d1, B1', m1', d1', rfl, f1, ba⟩
  have bb := below_step ba ba.size (below_alloc wa (.cells #[.bool t1, .slice B1 m1 d1, .slice B1' m1' d1'] 65))
  have hf1 := Box.new wa (.bool t1) (.slice B1 m1 d1) (.slice B1' m1' d1') 65
  have szw : w.heap.size + 1 < wa.heap.size := Nat.lt_of_lt_of_le (by obtain ⟨_, _, _, _, _, _, hh⟩ := HR.out; exact hh.lt) ba.size
  have TA : Hid (N1 w (wa.alloc (.cells #[.bool t1, .slice B1 m1 d1, .slice B1' m1' d1'] 65)) (w.heap.size + 1) wa.heap.size t1 B1 m1 d1 B1' m1' d1') :=
    Lib.hid ⟨HR.out.below bb, hf1, HT.out.below bb, below_step BM.out BM.out.size bb, by omega, by omega⟩
  obtain ⟨w2, hw2⟩ : ∃ w2, wa.alloc (.cells #[.bool t1, .slice B1 m1 d1, .slice B1' m1' d1'] 65) = w2 := ⟨_, rfl⟩
  obtain ⟨gf, hgf⟩ : ∃ gf, wa.heap.size = gf := ⟨_, rfl⟩
  clear x1 x2 x3 ba bb f1 hf1 szw HR BM HX H1 HT
  go_upto_region 2 with (fail)
  rw [hw2] at TA
  try rw [hw2]
  rw [hgf] at TA
  try rw [hgf]
  clear hw2 hgf
  obtain ⟨y1, y2, y3, _⟩ := TA.out.box.cells
  obtain ⟨z1, z2, z3, hy1, hy2, hy3, f1, f2, f3⟩ := TA.out.res.cells
  obtain ⟨q0, q1, q2, hs, hb⟩ := OutIs.stored (o := .err 1) (k := 1) (s := false) (A1 := none) (A2 := none) (n1 := 0) (c1 := 0) (n2 := 0) (c2 := 0) ⟨rfl, rfl, by omega, by omega⟩ TA.out.res TA.out.bel TA.out.n3
  have Q := Lib.hid (And.intro q0 (And.intro q1 q2))
  have HBB := Lib.hid hb
  clear q0 q1 q2 hs hb
  go_wp2_with fail
  obtain ⟨q0, q1, q2⟩ := Q.out
  refine bodyPost_ret (v := .tuple #[noRat, .int .i64 1]) (by simp [results, Tryd.results82, go_sem, q0, q1, q2, noRat]) rfl ?_
  rw [← HO.out]
  exact OutPost.err rfl (by omega) (by omega) HBB.out
set_option maxHeartbeats 2000000 in
set_option maxRecDepth 100000 in
theorem nround_neg (s1 : Bool) (N1' D1' : Nat) (p : Int) (hp : p < 0) (up : Bool) (w : World) (v1 : Value) (h1 : RawV w v1 s1 N1' D1') (hT : Tab w) (q : Rat) (hq : ratOf s1 N1' D1' = q) (hL : largeB s1 N1' D1' = false) :
    Calls Tryd.prog 82 #[v1, .int .i64 p, .bool up] w (OutPost w (Out.err 2)) := by
  have H1 := Lib.hid h1
  have HT := Lib.hid hT
  obtain ⟨A1, n1, c1, A1', n1', c1', rfl⟩ := h1.shape
  clear h1 hT
  obtain ⟨M, hM, k1, k3, bM⟩ := start1 w (.bool s1) (.slice A1 n1 c1) (.slice A1' n1' c1') (.bool false) (.slice none 0 0) (.slice none 0 0) 24 24
  have HX := Lib.hid k1
  have HR := Lib.hid (show Res M (w.heap.size + 1) 24 from ⟨_, _, _, NI.bool _, NI.slice _ _ _, NI.slice _ _ _, k3⟩)
  have BM := Lib.hid bM
  replace H1 := Lib.hid (H1.out.below bM)
  replace HT := Lib.hid (HT.out.below bM)
  have HQ := Lib.hid hq
  have HL := Lib.hid hL
  have hp1 : decide (p < 0) = true := decide_eq_true hp
  clear hp
  obtain ⟨o, ho⟩ : ∃ o, Out.err 2 = o := ⟨_, rfl⟩
  have HO := Lib.hid ho
  rw [ho]
  clear hq hL k1 k3 bM ho
  go_enter Tryd.func82, Tryd.ntmps82
  go_upto_region 1 with (fail)
  rw [← hM]
  clear hM
  obtain ⟨x1, x2, x3, _, _, _⟩ := HX.out.cells
  go_wp2_with fail
  refine (readV _ s1 N1' D1' _ H1.out HT.out).mono ?_
  rw [HL.out, Bool.not_false]
  rintro e wa ⟨t1, B1, m1, d1, B1', m1', d1', rfl, f1, ba⟩
  have bb := below_step ba ba.size (below_alloc wa (.cells #[.bool t1, .slice B1 m1 d1, .slice B1' m1' d1'] 65))
  have hf1 := Box.new wa (.bool t1) (.slice B1 m1 d1) (.slice B1' m1' d1') 65
  have szw : w.heap.size + 1 < wa.heap.size := Nat.lt_of_lt_of_le (by obtain ⟨_, _, _, _, _, _, hh⟩ := HR.out; exact hh.lt) ba.size
  have TA : Hid (N1 w (wa.alloc (.cells #[.bool t1, .slice B1 m1 d1, .slice B1' m1' d1'] 65)) (w.heap.size + 1) wa.heap.size t1 B1 m1 d1 B1' m1' d1') :=
    Lib.hid ⟨HR.out.below bb, hf1, HT.out.below bb, below_step BM.out BM.out.size bb, by omega, by omega⟩
  have F1 : Hid (IsF (wa.alloc (.cells #[.bool t1, .slice B1 m1 d1, .slice B1' m1' d1'] 65)) (.agg #[.bool t1, .slice B1 m1 d1, .slice B1' m1' d1']) q) := Lib.hid (by rw [← HQ.out]; exact (f1.out rfl).below (below_alloc _ _))
  obtain ⟨w2, hw2⟩ : ∃ w2, wa.alloc (.cells #[.bool t1, .slice B1 m1 d1, .slice B1' m1' d1'] 65) = w2 := ⟨_, rfl⟩
  obtain ⟨gf, hgf⟩ : ∃ gf, wa.heap.size = gf := ⟨_, rfl⟩
  clear x1 x2 x3 ba bb f1 hf1 szw HR BM HX H1 HT
  go_upto_region 2 with (fail)
  rw [hw2] at TA F1
  try rw [hw2]
  rw [hgf] at TA
  try rw [hgf]
  clear hw2 hgf
  obtain ⟨y1, y2, y3, _⟩ := TA.out.box.cells
  obtain ⟨z1, z2, z3, hy1, hy2, hy3, f1, f2, f3⟩ := TA.out.res.cells
  obtain ⟨q0, q1, q2, hs, hb⟩ := OutIs.stored (o := .err 2) (k := 2) (s := false) (A1 := none) (A2 := none) (n1 := 0) (c1 := 0) (n2 := 0) (c2 := 0) ⟨rfl, rfl, by omega, by omega⟩ TA.out.res TA.out.bel TA.out.n3
  have Q := Lib.hid (And.intro q0 (And.intro q1 q2))
  have HBB := Lib.hid hb
  clear q0 q1 q2 hs hb
  go_wp2_with fail
  obtain ⟨q0, q1, q2⟩ := Q.out
  refine bodyPost_ret (v := .tuple #[noRat, .int .i64 2]) (by simp [results, Tryd.results82, go_sem, q0, q1, q2, noRat]) rfl ?_
  rw [← HO.out]
  exact OutPost.err rfl (by omega) (by omega) HBB.out
set_option maxHeartbeats 2000000 in
set_option maxRecDepth 100000 in
theorem nround_big (s1 : Bool) (N1' D1' : Nat) (p : Int) (hp : 256 < p) (up : Bool) (w : World) (v1 : Value) (h1 : RawV w v1 s1 N1' D1') (hT : Tab w) (q : Rat) (hq : ratOf s1 N1' D1' = q) (hL : largeB s1 N1' D1' = false) :
    Calls Tryd.prog 82 #[v1, .int .i64 p, .bool up] w (OutPost w (Out.err 2)) := by
  have H1 := Lib.hid h1
  have HT := Lib.hid hT
  obtain ⟨A1, n1, c1, A1', n1', c1', rfl⟩ := h1.shape
  clear h1 hT
  obtain ⟨M, hM, k1, k3, bM⟩ := start1 w (.bool s1) (.slice A1 n1 c1) (.slice A1' n1' c1') (.bool false) (.slice none 0 0) (.slice none 0 0) 24 24
  have HX := Lib.hid k1
  have HR := Lib.hid (show Res M (w.heap.size + 1) 24 from ⟨_, _, _, NI.bool _, NI.slice _ _ _, NI.slice _ _ _, k3⟩)
  have BM := Lib.hid bM
  replace H1 := Lib.hid (H1.out.below bM)
  replace HT := Lib.hid (HT.out.below bM)
  have HQ := Lib.hid hq
  have HL := Lib.hid hL
  have hp1 : decide (p < 0) = false := decide_eq_false (by omega)
  have hp2 : decide (256 < p) = true := decide_eq_true hp
  clear hp
  obtain ⟨o, ho⟩ : ∃ o, Out.err 2 = o := ⟨_, rfl⟩
  have HO := Lib.hid ho
  rw [ho]
  clear hq hL k1 k3 bM ho
  go_enter Tryd.func82, Tryd.ntmps82
  go_upto_region 1 with (fail)
  rw [← hM]
  clear hM
  obtain ⟨x1, x2, x3, _, _, _⟩ := HX.out.cells
  go_wp2_with fail
  refine (readV _ s1 N1' D1' _ H1.out HT.out).mono ?_
  rw [HL.out, Bool.not_false]
  rintro e wa ⟨t1, B1, m1, d1, B1', m1', d1', rfl, f1, ba⟩
  have bb := below_step ba ba.size (below_alloc wa (.cells #[.bool t1, .slice B1 m1 d1, .slice B1' m1' d1'] 65))
  have hf1 := Box.new wa (.bool t1) (.slice B1 m1 d1) (.slice B1' m1' d1') 65
  have szw : w.heap.size + 1 < wa.heap.size := Nat.lt_of_lt_of_le (by obtain ⟨_, _, _, _, _, _, hh⟩ := HR.out; exact hh.lt) ba.size
  have TA : Hid (N1 w (wa.alloc (.cells #[.bool t1, .slice B1 m1 d1, .slice B1' m1' d1'] 65)) (w.heap.size + 1) wa.heap.size t1 B1 m1 d1 B1' m1' d1') :=
    Lib.hid ⟨HR.out.below bb, hf1, HT.out.below bb, below_step BM.out BM.out.size bb, by omega, by omega⟩
  have F1 : Hid (IsF (wa.alloc (.cells #[.bool t1, .slice B1 m1 d1, .slice B1' m1' d1'] 65)) (.agg #[.bool t1, .slice B1 m1 d1, .slice B1' m1' d1']) q) := Lib.hid (by rw [← HQ.out]; exact (f1.out rfl).below (below_alloc _ _))
  obtain ⟨w2, hw2⟩ : ∃ w2, wa.alloc (.cells #[.bool t1, .slice B1 m1 d1, .slice B1' m1' d1'] 65) = w2 := ⟨_, rfl⟩
  obtain ⟨gf, hgf⟩ : ∃ gf, wa.heap.size = gf := ⟨_, rfl⟩
  clear x1 x2 x3 ba bb f1 hf1 szw HR BM HX H1 HT
  go_upto_region 2 with (fail)
  rw [hw2] at TA F1
  try rw [hw2]
  rw [hgf] at TA
  try rw [hgf]
  clear hw2 hgf
  obtain ⟨y1, y2, y3, _⟩ := TA.out.box.cells
  obtain ⟨z1, z2, z3, hy1, hy2, hy3, f1, f2, f3⟩ := TA.out.res.cells
  obtain ⟨q0, q1, q2, hs, hb⟩ := OutIs.stored (o := .err 2) (k := 2) (s := false) (A1 := none) (A2 := none) (n1 := 0) (c1 := 0) (n2 := 0) (c2 := 0) ⟨rfl, rfl, by omega, by omega⟩ TA.out.res TA.out.bel TA.out.n3
  have Q := Lib.hid (And.intro q0 (And.intro q1 q2))
  have HBB := Lib.hid hb
  clear q0 q1 q2 hs hb
  go_wp2_with fail
  obtain ⟨q0, q1, q2⟩ := Q.out
  refine bodyPost_ret (v := .tuple #[noRat, .int .i64 2]) (by simp [results, Tryd.results82, go_sem, q0, q1, q2, noRat]) rfl ?_
  rw [← HO.out]
  exact OutPost.err rfl (by omega) (by omega) HBB.out
set_option maxHeartbeats 2000000 in
set_option maxRecDepth 100000 in
theorem nround_ok (s1 : Bool) (N1' D1' : Nat) (p : Nat) (hp : p ≤ 256) (up : Bool) (r : Rat) (hr : gridQ (ratOf s1 N1' D1') p up = r) (w : World) (v1 : Value) (h1 : RawV w v1 s1 N1' D1') (hT : Tab w) (q : Rat) (hq : ratOf s1 N1' D1' = q) (hL : largeB s1 N1' D1' = false) :
    Calls Tryd.prog 82 #[v1, .int .i64 p, .bool up] w (OutPost w (give r)) := by
  have H1 := Lib.hid h1
  have HT := Lib.hid hT
  obtain ⟨A1, n1, c1, A1', n1', c1', rfl⟩ := h1.shape
  clear h1 hT
  obtain ⟨M, hM, k1, k3, bM⟩ := start1 w (.bool s1) (.slice A1 n1 c1) (.slice A1' n1' c1') (.bool false) (.slice none 0 0) (.slice none 0 0) 24 24
  have HX := Lib.hid k1
  have HR := Lib.hid (show Res M (w.heap.size + 1) 24 from ⟨_, _, _, NI.bool _, NI.slice _ _ _, NI.slice _ _ _, k3⟩)
  have BM := Lib.hid bM
  replace H1 := Lib.hid (H1.out.below bM)
  replace HT := Lib.hid (HT.out.below bM)
  have HQ := Lib.hid hq
  have HL := Lib.hid hL
  have hf := (largeB_false hL).2.2
  rw [hq] at hf
  have HF := Lib.hid hf
  clear hf
  rw [hq] at hr
  have HR2 := Lib.hid hr
  have HP := Lib.hid hp
  have hp1 : decide ((p : Int) < 0) = false := decide_eq_false (by omega)
  have hp2 : decide (256 < (p : Int)) = false := decide_eq_false (by omega)
  have hp3 : decide (256 < p) = false := decide_eq_false (by omega)
  clear hr hp
  obtain ⟨o, ho⟩ : ∃ o, give r = o := ⟨_, rfl⟩
  have HO := Lib.hid ho
  rw [ho]
  clear hq hL k1 k3 bM ho
  go_enter Tryd.func82, Tryd.ntmps82
  go_upto_region 1 with (fail)
  rw [← hM]
  clear hM
  obtain ⟨x1, x2, x3, _, _, _⟩ := HX.out.cells
  go_wp2_with fail
  refine (readV _ s1 N1' D1' _ H1.out HT.out).mono ?_
  rw [HL.out, Bool.not_false]
  rintro e wa ⟨t1, B1, m1, d1, B1', m1', d1', rfl, f1, ba⟩
  have bb := below_step ba ba.size (below_alloc wa (.cells #[.bool t1, .slice B1 m1 d1, .slice B1' m1' d1'] 65))
  have hf1 := Box.new wa (.bool t1) (.slice B1 m1 d1) (.slice B1' m1' d1') 65
  have szw : w.heap.size + 1 < wa.heap.size := Nat.lt_of_lt_of_le (by obtain ⟨_, _, _, _, _, _, hh⟩ := HR.out; exact hh.lt) ba.size
  have TA : Hid (N1 w (wa.alloc (.cells #[.bool t1, .slice B1 m1 d1, .slice B1' m1' d1'] 65)) (w.heap.size + 1) wa.heap.size t1 B1 m1 d1 B1' m1' d1') :=
    Lib.hid ⟨HR.out.below bb, hf1, HT.out.below bb, below_step BM.out BM.out.size bb, by omega, by omega⟩
  have F1 : Hid (IsF (wa.alloc (.cells #[.bool t1, .slice B1 m1 d1, .slice B1' m1' d1'] 65)) (.agg #[.bool t1, .slice B1 m1 d1, .slice B1' m1' d1']) q) := Lib.hid (by rw [← HQ.out]; exact (f1.out rfl).below (below_alloc _ _))
  obtain ⟨w2, hw2⟩ : ∃ w2, wa.alloc (.cells #[.bool t1, .slice B1 m1 d1, .slice B1' m1' d1'] 65) = w2 := ⟨_, rfl⟩
  obtain ⟨gf, hgf⟩ : ∃ gf, wa.heap.size = gf := ⟨_, rfl⟩
  clear x1 x2 x3 ba bb f1 hf1 szw HR BM HX H1 HT
  go_upto_region 2 with (fail)
  rw [hw2] at TA F1
  try rw [hw2]
  rw [hgf] at TA
  try rw [hgf]
  clear hw2 hgf
  obtain ⟨y1, y2, y3, _⟩ := TA.out.box.cells
  go_wp2_with fail
  refine (Calls.partsF (fGrid q p up (Nat.le_trans HP.out (by omega)) _ _ F1.out (fit_Wq HF.out (by omega)) TA.out.tab)).mono ?_
  rw [HR2.out]
  rintro e wb ⟨t2, B2, m2, d2, B2', m2', d2', rfl, i1, bb⟩
  replace TA := Lib.hid (TA.out.below bb)
  clear bb
  go_wp2_with fail
  refine (giveF _ _ _ i1.out).mono ?_
  rintro e we ⟨s9, A9, n9, c9, A9', n9', c9', k9, rfl, h9, b9⟩
  replace TA := Lib.hid (TA.out.below b9)
  obtain ⟨z1, z2, z3, hz1, hz2, hz3, k1, k2, k3⟩ := TA.out.res.cells
  obtain ⟨q0, q1, q2, hs, hb⟩ := OutIs.stored h9 TA.out.res TA.out.bel TA.out.n3
  have Q := Lib.hid (And.intro q0 (And.intro q1 q2))
  have HS := Lib.hid hs
  have HBB := Lib.hid hb
  clear q0 q1 q2 hs hb h9 b9
  go_wp2
  obtain ⟨q0, q1, q2⟩ := Q.out
  refine bodyPost_ret (v := .tuple #[.agg #[.bool s9, .slice A9 n9 c9, .slice A9' n9' c9'], .int .i64 k9]) (by simp [results, Tryd.results82, go_sem, q0, q1, q2]) rfl ?_
  rw [← HO.out]
  exact ⟨_, _, _, _, _, _, _, _, rfl, HS.out, HBB.out⟩
theorem nround (s1 : Bool) (N1' D1' : Nat) (p : Int) (up : Bool) (w : World) (v1 : Value) (h1 : RawV w v1 s1 N1' D1') (hT : Tab w) :
    Calls Tryd.prog 82 #[v1, .int .i64 p, .bool up] w (OutPost w (gridOut (largeB s1 N1' D1') p up (ratOf s1 N1' D1'))) := by
  unfold gridOut
  by_cases h : largeB s1 N1' D1' = true
  · rw [if_pos h]; exact nround_large s1 N1' D1' p up w v1 h1 hT _ rfl h
  · rw [if_neg h]
    have h' : largeB s1 N1' D1' = false := by simpa using h
    by_cases hn : p < 0
    · rw [if_pos (Or.inl hn)]; exact nround_neg s1 N1' D1' p hn up w v1 h1 hT _ rfl h'
    · by_cases hb : 256 < p
      · rw [if_pos (Or.inr hb)]; exact nround_big s1 N1' D1' p hb up w v1 h1 hT _ rfl h'
      · rw [if_neg (by omega)]
        obtain ⟨k, rfl⟩ : ∃ k : Nat, p = (k : Int) := ⟨p.toNat, by omega⟩
        rw [Int.toNat_natCast]
        exact nround_ok s1 N1' D1' k (by omega) up _ rfl w v1 h1 hT _ rfl h'
set_option maxHeartbeats 1000000 in
set_option maxRecDepth 100000 in
theorem nDown (s1 : Bool) (N1 D1 : Nat) (p : Int) (w : World) (v1 : Value) (h1 : RawV w v1 s1 N1 D1) (hT : Tab w) :
    Calls Tryd.prog 38 #[v1, .int .i64 p] w (OutPost w (gridOut (largeB s1 N1 D1) p false (ratOf s1 N1 D1))) := by
  have H1 := Lib.hid h1
  have HT := Lib.hid hT
  obtain ⟨A1, n1, c1, A1', n1', c1', rfl⟩ := h1.shape
  clear h1 hT
  obtain ⟨M, hM, k1, k3, bM⟩ := start1 w (.bool s1) (.slice A1 n1 c1) (.slice A1' n1' c1') (.bool false) (.slice none 0 0) (.slice none 0 0) 24 24
  have HX := Lib.hid k1
  have HR := Lib.hid (show Res M (w.heap.size + 1) 24 from ⟨_, _, _, NI.bool _, NI.slice _ _ _, NI.slice _ _ _, k3⟩)
  have BM := Lib.hid bM
  replace H1 := Lib.hid (H1.out.below bM)
  replace HT := Lib.hid (HT.out.below bM)
  have C := Lib.hid (nround s1 N1 D1 p false M _ H1.out HT.out)
  obtain ⟨o, ho⟩ : ∃ o, gridOut (largeB s1 N1 D1) p false (ratOf s1 N1 D1) = o := ⟨_, rfl⟩
  rw [ho] at C
  rw [ho]
  clear k1 k3 bM ho
  go_enter Tryd.func38, Tryd.ntmps38
  go_upto_region 1 with (fail)
  rw [← hM]
  clear hM
  obtain ⟨x1, x2, x3, _, _, _⟩ := HX.out.cells
  go_wp2_with fail
  refine C.out.mono ?_
  rintro e we ⟨s9, A9, n9, c9, A9', n9', c9', k9, rfl, h9, b9⟩
  replace HR := Lib.hid (HR.out.below b9)
  have BE := Lib.hid (below_step BM.out BM.out.size b9)
  obtain ⟨q0, q1, q2, hs, hb⟩ := OutIs.stored h9 HR.out BE.out (by omega)
  have Q := Lib.hid (And.intro q0 (And.intro q1 q2))
  have HS := Lib.hid hs
  have HB := Lib.hid hb
  clear b9 h9 q0 q1 q2 hs hb x1 x2 x3
  obtain ⟨r1, r2, r3, hr1, hr2, hr3, _, _, _⟩ := HR.out.cells
  go_wp2_with fail
  obtain ⟨q0, q1, q2⟩ := Q.out
  refine bodyPost_ret (v := .tuple #[.agg #[.bool s9, .slice A9 n9 c9, .slice A9' n9' c9'], .int .i64 k9]) (by simp [results, Tryd.results38, go_sem, q0, q1, q2]) rfl ?_
  exact ⟨_, _, _, _, _, _, _, _, rfl, HS.out, HB.out⟩
set_option maxHeartbeats 1000000 in
set_option maxRecDepth 100000 in
theorem nUp (s1 : Bool) (N1 D1 : Nat) (p : Int) (w : World) (v1 : Value) (h1 : RawV w v1 s1 N1 D1) (hT : Tab w) :
    Calls Tryd.prog 39 #[v1, .int .i64 p] w (OutPost w (gridOut (largeB s1 N1 D1) p true (ratOf s1 N1 D1))) := by
  have H1 := Lib.hid h1
  have HT := Lib.hid hT
  obtain ⟨A1, n1, c1, A1', n1', c1', rfl⟩ := h1.shape
  clear h1 hT
  obtain ⟨M, hM, k1, k3, bM⟩ := start1 w (.bool s1) (.slice A1 n1 c1) (.slice A1' n1' c1') (.bool false) (.slice none 0 0) (.slice none 0 0) 24 24
  have HX := Lib.hid k1
  have HR := Lib.hid (show Res M (w.heap.size + 1) 24 from ⟨_, _, _, NI.bool _, NI.slice _ _ _, NI.slice _ _ _, k3⟩)
  have BM := Lib.hid bM
  replace H1 := Lib.hid (H1.out.below bM)
  replace HT := Lib.hid (HT.out.below bM)
  have C := Lib.hid (nround s1 N1 D1 p true M _ H1.out HT.out)
  obtain ⟨o, ho⟩ : ∃ o, gridOut (largeB s1 N1 D1) p true (ratOf s1 N1 D1) = o := ⟨_, rfl⟩
  rw [ho] at C
  rw [ho]
  clear k1 k3 bM ho
  go_enter Tryd.func39, Tryd.ntmps39
  go_upto_region 1 with (fail)
  rw [← hM]
  clear hM
  obtain ⟨x1, x2, x3, _, _, _⟩ := HX.out.cells
  go_wp2_with fail
  refine C.out.mono ?_
  rintro e we ⟨s9, A9, n9, c9, A9', n9', c9', k9, rfl, h9, b9⟩
  replace HR := Lib.hid (HR.out.below b9)
  have BE := Lib.hid (below_step BM.out BM.out.size b9)
  obtain ⟨q0, q1, q2, hs, hb⟩ := OutIs.stored h9 HR.out BE.out (by omega)
  have Q := Lib.hid (And.intro q0 (And.intro q1 q2))
  have HS := Lib.hid hs
  have HB := Lib.hid hb
  clear b9 h9 q0 q1 q2 hs hb x1 x2 x3
  obtain ⟨r1, r2, r3, hr1, hr2, hr3, _, _, _⟩ := HR.out.cells
  go_wp2_with fail
  obtain ⟨q0, q1, q2⟩ := Q.out
  refine bodyPost_ret (v := .tuple #[.agg #[.bool s9, .slice A9 n9 c9, .slice A9' n9' c9'], .int .i64 k9]) (by simp [results, Tryd.results39, go_sem, q0, q1, q2]) rfl ?_
  exact ⟨_, _, _, _, _, _, _, _, rfl, HS.out, HB.out⟩
end Go.Proofs.YtfmhplcpejmkhabDoor

namespace Go.Proofs.YtfmhplcpejmkhabDoor
open Go.RowKit Dig
set_option linter.unusedVariables false
set_option linter.unusedSimpArgs false
/-- two values that have been read, and a variable for a result -/
structure N2 (w M : World) (g3 gf gg : Nat) (s1 : Bool) (A1 : Option Addr) (n1 c1 : Nat) (B1 : Option Addr) (m1 d1 : Nat) (a : Rat) (s2 : Bool) (A2 : Option Addr) (n2 c2 : Nat) (B2 : Option Addr) (m2 d2 : Nat) (b : Rat) : Prop where
  res : Res M g3 24
  f : Box M gf (.bool s1) (.slice A1 n1 c1) (.slice B1 m1 d1) 65
  g : Box M gg (.bool s2) (.slice A2 n2 c2) (.slice B2 m2 d2) 65
  fa : IsF M (.agg #[.bool s1, .slice A1 n1 c1, .slice B1 m1 d1]) a
  fb : IsF M (.agg #[.bool s2, .slice A2 n2 c2, .slice B2 m2 d2]) b
  tab : Tab M
  bel : Below w.heap.size w M
  n3 : w.heap.size ≤ g3
  n1 : gf ≠ g3
  n2 : gg ≠ g3
  n4 : g3 ≠ 0
theorem IsF.grown {w w' : World} {v : Value} {q : Rat} {g : Nat} {x y z : Value} {t : TypeId} (h : IsF w v q) (hb : Box w g x y z t) (hx : NI x) (hy : NI y) (hz : NI z) (hg : w.grownBy w' (some g)) : IsF w' v q := by
  obtain ⟨A1, c1, A2, c2, e, r1, r2⟩ := h
  exact ⟨A1, c1, A2, c2, e, r1.grown_box hb hx hy hz hg, r2.grown_box hb hx hy hz hg⟩
section
variable {w M M' : World} {g3 gf gg : Nat} {s1 : Bool} {A1 : Option Addr} {n1 c1 : Nat} {B1 : Option Addr} {m1 d1 : Nat} {a : Rat} {s2 : Bool} {A2 : Option Addr} {n2 c2 : Nat} {B2 : Option Addr} {m2 d2 : Nat} {b : Rat}
theorem N2.below (h : N2 w M g3 gf gg s1 A1 n1 c1 B1 m1 d1 a s2 A2 n2 c2 B2 m2 d2 b) (hb : Below M.heap.size M M') : N2 w M' g3 gf gg s1 A1 n1 c1 B1 m1 d1 a s2 A2 n2 c2 B2 m2 d2 b :=
  ⟨h.res.below hb, h.f.below hb, h.g.below hb, h.fa.below hb, h.fb.below hb, h.tab.below hb, below_step h.bel h.bel.size hb, h.n3, h.n1, h.n2, h.n4⟩
theorem N2.drew (h : N2 w M g3 gf gg s1 A1 n1 c1 B1 m1 d1 a s2 A2 n2 c2 B2 m2 d2 b) : N2 w M.drew g3 gf gg s1 A1 n1 c1 B1 m1 d1 a s2 A2 n2 c2 B2 m2 d2 b := h.below (Below.refl _ _).drew
theorem N2.grown (h : N2 w M g3 gf gg s1 A1 n1 c1 B1 m1 d1 a s2 A2 n2 c2 B2 m2 d2 b) {x y z : Value} (hx : NI x) (hy : NI y) (hz : NI z) : N2 w (((M.setCell ⟨g3, 0, none⟩ x).setCell ⟨g3, 1, none⟩ y).setCell ⟨g3, 2, none⟩ z) g3 gf gg s1 A1 n1 c1 B1 m1 d1 a s2 A2 n2 c2 B2 m2 d2 b := by
  have hg := grown_set3 M g3 x y z
  obtain ⟨x', y', z', hx', hy', hz', h4⟩ := h.res
  exact ⟨h.res.set3 hx hy hz, (hg.block gf h.f.lt (fun e => h.n1 (Option.some.inj e))).trans h.f, (hg.block gg h.g.lt (fun e => h.n2 (Option.some.inj e))).trans h.g, h.fa.grown h4 hx' hy' hz' hg, h.fb.grown h4 hx' hy' hz' hg, h.tab.grown hg h.n4, below_set3 h.bel h.n3 _ _ _, h.n3, h.n1, h.n2, h.n4⟩
theorem N2.cells (h : N2 w M g3 gf gg s1 A1 n1 c1 B1 m1 d1 a s2 A2 n2 c2 B2 m2 d2 b) : (World.cell? M ⟨gf, 0, none⟩ = some (.bool s1) ∧ World.cell? M ⟨gf, 1, none⟩ = some (.slice A1 n1 c1) ∧ World.cell? M ⟨gf, 2, none⟩ = some (.slice B1 m1 d1) ∧ World.cell? M ⟨gg, 0, none⟩ = some (.bool s2) ∧ World.cell? M ⟨gg, 1, none⟩ = some (.slice A2 n2 c2) ∧ World.cell? M ⟨gg, 2, none⟩ = some (.slice B2 m2 d2) ∧ Hid (N2 w M g3 gf gg s1 A1 n1 c1 B1 m1 d1 a s2 A2 n2 c2 B2 m2 d2 b)) := by
  obtain ⟨a1, a2, a3, _, _, _⟩ := h.f.cells
  obtain ⟨b1, b2, b3, _, _, _⟩ := h.g.cells
  exact ⟨a1, a2, a3, b1, b2, b3, h⟩
theorem N2.of (h : (World.cell? M ⟨gf, 0, none⟩ = some (.bool s1) ∧ World.cell? M ⟨gf, 1, none⟩ = some (.slice A1 n1 c1) ∧ World.cell? M ⟨gf, 2, none⟩ = some (.slice B1 m1 d1) ∧ World.cell? M ⟨gg, 0, none⟩ = some (.bool s2) ∧ World.cell? M ⟨gg, 1, none⟩ = some (.slice A2 n2 c2) ∧ World.cell? M ⟨gg, 2, none⟩ = some (.slice B2 m2 d2) ∧ Hid (N2 w M g3 gf gg s1 A1 n1 c1 B1 m1 d1 a s2 A2 n2 c2 B2 m2 d2 b))) : N2 w M g3 gf gg s1 A1 n1 c1 B1 m1 d1 a s2 A2 n2 c2 B2 m2 d2 b := h.2.2.2.2.2.2.out
theorem N2.next (h : (World.cell? M ⟨gf, 0, none⟩ = some (.bool s1) ∧ World.cell? M ⟨gf, 1, none⟩ = some (.slice A1 n1 c1) ∧ World.cell? M ⟨gf, 2, none⟩ = some (.slice B1 m1 d1) ∧ World.cell? M ⟨gg, 0, none⟩ = some (.bool s2) ∧ World.cell? M ⟨gg, 1, none⟩ = some (.slice A2 n2 c2) ∧ World.cell? M ⟨gg, 2, none⟩ = some (.slice B2 m2 d2) ∧ Hid (N2 w M g3 gf gg s1 A1 n1 c1 B1 m1 d1 a s2 A2 n2 c2 B2 m2 d2 b))) (hb : Below M.heap.size M M') : (World.cell? M' ⟨gf, 0, none⟩ = some (.bool s1) ∧ World.cell? M' ⟨gf, 1, none⟩ = some (.slice A1 n1 c1) ∧ World.cell? M' ⟨gf, 2, none⟩ = some (.slice B1 m1 d1) ∧ World.cell? M' ⟨gg, 0, none⟩ = some (.bool s2) ∧ World.cell? M' ⟨gg, 1, none⟩ = some (.slice A2 n2 c2) ∧ World.cell? M' ⟨gg, 2, none⟩ = some (.slice B2 m2 d2) ∧ Hid (N2 w M' g3 gf gg s1 A1 n1 c1 B1 m1 d1 a s2 A2 n2 c2 B2 m2 d2 b)) := ((N2.of h).below hb).cells
theorem N2.nextS (h : (World.cell? M ⟨gf, 0, none⟩ = some (.bool s1) ∧ World.cell? M ⟨gf, 1, none⟩ = some (.slice A1 n1 c1) ∧ World.cell? M ⟨gf, 2, none⟩ = some (.slice B1 m1 d1) ∧ World.cell? M ⟨gg, 0, none⟩ = some (.bool s2) ∧ World.cell? M ⟨gg, 1, none⟩ = some (.slice A2 n2 c2) ∧ World.cell? M ⟨gg, 2, none⟩ = some (.slice B2 m2 d2) ∧ Hid (N2 w M g3 gf gg s1 A1 n1 c1 B1 m1 d1 a s2 A2 n2 c2 B2 m2 d2 b))) {x : Bool} {B C : Option Addr} {k k' c c' : Nat} : (World.cell? (((M.setCell ⟨g3, 0, none⟩ (.bool x)).setCell ⟨g3, 1, none⟩ (.slice B k k')).setCell ⟨g3, 2, none⟩ (.slice C c c')) ⟨gf, 0, none⟩ = some (.bool s1) ∧ World.cell? (((M.setCell ⟨g3, 0, none⟩ (.bool x)).setCell ⟨g3, 1, none⟩ (.slice B k k')).setCell ⟨g3, 2, none⟩ (.slice C c c')) ⟨gf, 1, none⟩ = some (.slice A1 n1 c1) ∧ World.cell? (((M.setCell ⟨g3, 0, none⟩ (.bool x)).setCell ⟨g3, 1, none⟩ (.slice B k k')).setCell ⟨g3, 2, none⟩ (.slice C c c')) ⟨gf, 2, none⟩ = some (.slice B1 m1 d1) ∧ World.cell? (((M.setCell ⟨g3, 0, none⟩ (.bool x)).setCell ⟨g3, 1, none⟩ (.slice B k k')).setCell ⟨g3, 2, none⟩ (.slice C c c')) ⟨gg, 0, none⟩ = some (.bool s2) ∧ World.cell? (((M.setCell ⟨g3, 0, none⟩ (.bool x)).setCell ⟨g3, 1, none⟩ (.slice B k k')).setCell ⟨g3, 2, none⟩ (.slice C c c')) ⟨gg, 1, none⟩ = some (.slice A2 n2 c2) ∧ World.cell? (((M.setCell ⟨g3, 0, none⟩ (.bool x)).setCell ⟨g3, 1, none⟩ (.slice B k k')).setCell ⟨g3, 2, none⟩ (.slice C c c')) ⟨gg, 2, none⟩ = some (.slice B2 m2 d2) ∧ Hid (N2 w (((M.setCell ⟨g3, 0, none⟩ (.bool x)).setCell ⟨g3, 1, none⟩ (.slice B k k')).setCell ⟨g3, 2, none⟩ (.slice C c c')) g3 gf gg s1 A1 n1 c1 B1 m1 d1 a s2 A2 n2 c2 B2 m2 d2 b)) :=
  ((N2.of h).grown (NI.bool _) (NI.slice _ _ _) (NI.slice _ _ _)).cells
end
/-- how two rational numbers compare -/
def cmpQ (a b : Rat) : Int := sgnI (ng (a - b)) (a - b).num.natAbs
theorem sgnI_mk (n : Int) (d : Nat) (hd : d ≠ 0) : sgnI (ng (mkRat n d)) (mkRat n d).num.natAbs = cmpZ n 0 := by
  obtain ⟨s, k, rfl, hs⟩ : ∃ s k, n = sg s k ∧ (s = true → k ≠ 0) := ⟨decide (n < 0), n.natAbs, by unfold sg; by_cases h : n < 0 <;> simp [h] <;> omega, by intro h; simp at h; omega⟩
  by_cases hk : k = 0
  · subst hk
    rw [mk_zero, sg_zero]
    decide
  · rw [mk_sign s hd hk, mk_abs s k hd]
    have := div_gcd_pos (d := d) hk
    unfold sgnI cmpZ sg
    rw [if_neg (by omega)]
    cases s
    · have h1 : ¬ ((k : Int) < 0) := by omega
      have h2 : ¬ ((k : Int) = 0) := by omega
      simp [h1, hk]
    · rw [if_pos rfl, if_pos]
      simp
      omega
theorem cmpZ_Q (a b : Rat) : cmpZ (sg (ng a) a.num.natAbs * b.den) (sg (ng b) b.num.natAbs * a.den) = cmpQ a b := by
  unfold cmpQ
  have e : a - b = mkRat (a.num * b.den - b.num * a.den) (a.den * b.den) := by
    rw [Rat.sub_eq_add_neg, Rat.add_def', Rat.neg_num, Rat.neg_den]
    congr 1
    grind
  rw [e, sgnI_mk _ _ (Nat.mul_ne_zero a.den_nz b.den_nz), sg_ng, sg_ng]
  unfold cmpZ
  split <;> split <;> (try split) <;> (try split) <;> omega
theorem inv_facts {b : Rat} (h : b ≠ 0) : ng b⁻¹ = ng b ∧ b⁻¹.num.natAbs = b.den ∧ b⁻¹.den = b.num.natAbs := by
  have hn : b.num.natAbs ≠ 0 := by
    have : b.num ≠ 0 := fun h0 => h (Rat.num_eq_zero.1 h0)
    omega
  have e := rat_div 1 b h
  rw [Rat.div_def, Rat.one_mul] at e
  have e1 : mkRat (sg (ng b) b.den) b.num.natAbs = b⁻¹ := by
    rw [← e]
    have h1 : ng (1 : Rat) = false := by decide
    have h2 : (1 : Rat).num.natAbs = 1 := by decide
    have h3 : (1 : Rat).den = 1 := by decide
    rw [h1, h2, h3, Nat.one_mul, Nat.one_mul]
    cases ng b <;> rfl
  have hc : Nat.gcd b.den b.num.natAbs = 1 := by rw [Nat.gcd_comm]; exact b.reduced
  rw [← e1, mk_sign _ hn b.den_nz, mk_abs _ _ hn, mk_den _ _ hn, hc, Nat.div_one, Nat.div_one]
  exact ⟨rfl, rfl, rfl⟩
theorem fCmp (a b : Rat) (w : World) (v1 v2 : Value) (h1 : IsF w v1 a) (h2 : IsF w v2 b) (k1 : Wq 400000 a) (k2 : Wq 400000 b) :
    Calls Tryd.prog 75 #[v1, v2] w fun e w' => e = .returned (.int .i64 (cmpQ a b)) ∧ Below w.heap.size w w' := by
  obtain ⟨A1, c1, A2, c2, rfl, r1, r2⟩ := h1
  obtain ⟨A3, c3, A4, c4, rfl, r3, r4⟩ := h2
  have := fracCmp (ng a) a.num.natAbs a.den (ng b) b.num.natAbs b.den w _ _ _ _ _ _ _ _ r1 r2 r3 r4 k1.1 k1.2 k2.1 k2.2 a.den_nz b.den_nz
  rwa [cmpZ_Q] at this
theorem fInv (b : Rat) (w : World) (v : Value) (h : IsF w v b) (hb : b ≠ 0) :
    Calls Tryd.prog 55 #[v] w fun e w' => ∃ u, e = .returned u ∧ IsF w' u b⁻¹ ∧ Below w.heap.size w w' := by
  obtain ⟨A1, c1, A2, c2, rfl, r1, r2⟩ := h
  obtain ⟨e1, e2, e3⟩ := inv_facts hb
  refine (fracInverse _ _ _ w _ _ _ _).mono ?_
  rintro e w' ⟨rfl, hl⟩
  exact ⟨_, rfl, by unfold IsF; rw [e1, e2, e3]; exact ⟨_, _, _, _, rfl, r2.below hl, r1.below hl⟩, hl⟩
theorem inv_Wq {b : Rat} {k : Nat} (h : b ≠ 0) (hk : Wq k b) : Wq k b⁻¹ := by
  obtain ⟨_, e2, e3⟩ := inv_facts h
  unfold Wq
  rw [e2, e3]
  exact ⟨hk.2, hk.1⟩
end Go.Proofs.YtfmhplcpejmkhabDoor

namespace Go.Proofs.YtfmhplcpejmkhabDoor
open Go.RowKit Dig
set_option linter.unusedVariables false
set_option linter.unusedSimpArgs false
theorem sgn_eq (x : Rat) : sgnI (ng x) x.num.natAbs = if x < 0 then -1 else if x = 0 then 0 else 1 := by
  unfold sgnI ng
  by_cases h0 : x = 0
  · subst h0
    decide
  · have hn : x.num ≠ 0 := fun h => h0 (Rat.num_eq_zero.1 h)
    rw [if_neg (by omega), if_neg h0]
    by_cases hl : x < 0
    · have h1 : ¬ (0 ≤ x) := by grind
      rw [← Rat.num_nonneg] at h1
      have : x.num < 0 := by omega
      rw [if_pos (by simpa using this), if_pos hl]
    · have h1 : 0 ≤ x := by grind
      rw [← Rat.num_nonneg] at h1
      have : ¬ x.num < 0 := by omega
      rw [if_neg (by simpa using this), if_neg hl]
theorem cmp_lt {a b : Rat} (h : a < b) : cmpQ a b = -1 := by
  unfold cmpQ
  rw [sgn_eq, if_pos (by grind)]
theorem cmp_eq {a b : Rat} (h : a = b) : cmpQ a b = 0 := by
  unfold cmpQ
  rw [sgn_eq, if_neg (by grind), if_pos (by grind)]
theorem cmp_gt {a b : Rat} (h : b < a) : cmpQ a b = 1 := by
  unfold cmpQ
  rw [sgn_eq, if_neg (by grind), if_neg (by grind)]
theorem cmp_cases (a b : Rat) : (a < b ∧ cmpQ a b = -1) ∨ (a = b ∧ cmpQ a b = 0) ∨ (b < a ∧ cmpQ a b = 1) := by
  by_cases h : a < b
  · exact Or.inl ⟨h, cmp_lt h⟩
  · by_cases h2 : a = b
    · exact Or.inr (Or.inl ⟨h2, cmp_eq h2⟩)
    · have h3 : b < a := by grind
      exact Or.inr (Or.inr ⟨h3, cmp_gt h3⟩)
theorem cmp_swap (a b : Rat) : cmpQ b a = -cmpQ a b := by
  rcases cmp_cases a b with ⟨h, e⟩ | ⟨h, e⟩ | ⟨h, e⟩
  · rw [e, cmp_gt h]; rfl
  · rw [e, cmp_eq h.symm]; rfl
  · rw [e, cmp_lt h]
theorem cmp_add (a b c : Rat) : cmpQ (a + c) (b + c) = cmpQ a b := by
  unfold cmpQ
  have : a + c - (b + c) = a - b := by grind
  rw [this]
theorem cmp_trans (x y z : Rat) : (cmpQ x y = cmpQ y z → cmpQ x z = cmpQ x y) ∧ (cmpQ x y = 0 → cmpQ x z = cmpQ y z) ∧ (cmpQ y z = 0 → cmpQ x z = cmpQ x y) := by
  rcases cmp_cases x y with ⟨h, e⟩ | ⟨h, e⟩ | ⟨h, e⟩ <;> rcases cmp_cases y z with ⟨h2, e2⟩ | ⟨h2, e2⟩ | ⟨h2, e2⟩ <;> rw [e, e2]
  · have h3 : x < z := by grind
    rw [cmp_lt h3]; decide
  · subst h2; rw [e]; decide
  · refine ⟨fun h => ?_, fun h => ?_, fun h => ?_⟩ <;> exact absurd h (by decide)
  · subst h; rw [e2]; decide
  · subst h h2; rw [cmp_eq rfl]; decide
  · subst h; rw [e2]; decide
  · refine ⟨fun h => ?_, fun h => ?_, fun h => ?_⟩ <;> exact absurd h (by decide)
  · subst h2; rw [e]; decide
  · have h3 : z < x := by grind
    rw [cmp_gt h3]; decide
end Go.Proofs.YtfmhplcpejmkhabDoor

namespace Go.Proofs.YtfmhplcpejmkhabDoor
open Go.RowKit Dig
set_option linter.unusedVariables false
set_option linter.unusedSimpArgs false
set_option maxHeartbeats 2000000 in
set_option maxRecDepth 100000 in
theorem nCompare_true_true (s1 : Bool) (X1 Y1 : Nat) (s2 : Bool) (X2 Y2 : Nat)  (w : World) (v1 v2 : Value) (h1 : RawV w v1 s1 X1 Y1) (h2 : RawV w v2 s2 X2 Y2) (hT : Tab w) (a b : Rat) (ha : ratOf s1 X1 Y1 = a) (hb : ratOf s2 X2 Y2 = b) (hL1 : largeB s1 X1 Y1 = true) (hL2 : largeB s2 X2 Y2 = true) :
    Calls Tryd.prog 32 #[v1, v2] w (fun e w' => e = .returned (.tuple #[.int .i64 0, .int .i64 1]) ∧ Below w.heap.size w w') := by
  have H1 := Lib.hid h1
  have H2 := Lib.hid h2
  have HT := Lib.hid hT
  obtain ⟨A1, n1, c1, A1', n1', c1', rfl⟩ := h1.shape
  obtain ⟨A2, n2, c2, A2', n2', c2', rfl⟩ := h2.shape
  clear h1 h2 hT
  obtain ⟨M, hM, k1, k2, bM⟩ := start1 w (.bool s1) (.slice A1 n1 c1) (.slice A1' n1' c1') (.bool s2) (.slice A2 n2 c2) (.slice A2' n2' c2') 24 24
  have HR := Lib.hid True.intro
  have HX := Lib.hid k1
  have HY := Lib.hid k2
  have BM := Lib.hid bM
  replace H1 := Lib.hid (H1.out.below bM)
  replace H2 := Lib.hid (H2.out.below bM)
  replace HT := Lib.hid (HT.out.below bM)
  have HA := Lib.hid ha
  have HB := Lib.hid hb
  have HL1 := Lib.hid hL1
  have HL2 := Lib.hid hL2
  clear ha hb hL1 hL2 k1 k2 bM
  go_enter Tryd.func32, Tryd.ntmps32
  go_upto_region 1 with (fail)
  rw [← hM]
  clear hM
  obtain ⟨x1, x2, x3, _, _, _⟩ := HX.out.cells
  go_wp2_with fail
  refine (readV _ s1 X1 Y1 _ H1.out HT.out).mono ?_
  rw [HL1.out, Bool.not_true]
  rintro e wa ⟨t1, B1, m1, d1, B1', m1', d1', rfl, f1, ba⟩
  have bb := below_step ba ba.size (below_alloc wa (.cells #[.bool t1, .slice B1 m1 d1, .slice B1' m1' d1'] 65))
  have HF1 := Lib.hid (Box.new wa (.bool t1) (.slice B1 m1 d1) (.slice B1' m1' d1') 65)
  have F1 : Hid (largeB s1 X1 Y1 = false → IsF (wa.alloc (.cells #[.bool t1, .slice B1 m1 d1, .slice B1' m1' d1'] 65)) (.agg #[.bool t1, .slice B1 m1 d1, .slice B1' m1' d1']) (ratOf s1 X1 Y1)) := Lib.hid (fun h => absurd (HL1.out.symm.trans h) (by simp))
  have hsz : w.heap.size + 1 < wa.heap.size := Nat.lt_of_lt_of_le (HY.out.lt) ba.size
  replace HX := Lib.hid (HX.out.below bb)
  replace HY := Lib.hid (HY.out.below bb)
  replace H2 := Lib.hid (H2.out.below bb)
  replace HT := Lib.hid (HT.out.below bb)
  have BM := Lib.hid (below_step BM.out BM.out.size bb)
  obtain ⟨w1, hw1⟩ : ∃ w1, wa.alloc (.cells #[.bool t1, .slice B1 m1 d1, .slice B1' m1' d1'] 65) = w1 := ⟨_, rfl⟩
  have hs1 : w1.heap.size = wa.heap.size + 1 := by rw [← hw1]; simp
  have HS1 := Lib.hid hs1
  have HSZ := Lib.hid hsz
  clear x1 x2 x3 ba bb f1 hs1 hsz
  go_upto_region 2 with (fail)
  rw [hw1] at HX HY H2 HT BM HF1 F1
  try rw [hw1]
  clear hw1
  obtain ⟨y1, y2, y3, _, _, _⟩ := HY.out.cells
  go_wp2_with fail
  refine (readV _ s2 X2 Y2 _ H2.out HT.out).mono ?_
  rw [HL2.out, Bool.not_true]
  rintro e wc ⟨t2, B2, m2, d2, B2', m2', d2', rfl, f2, bc⟩
  have bd := below_step bc bc.size (below_alloc wc (.cells #[.bool t2, .slice B2 m2 d2, .slice B2' m2' d2'] 65))
  have HF2 := Lib.hid (Box.new wc (.bool t2) (.slice B2 m2 d2) (.slice B2' m2' d2') 65)
  have F2 : Hid (largeB s2 X2 Y2 = false → IsF (wc.alloc (.cells #[.bool t2, .slice B2 m2 d2, .slice B2' m2' d2'] 65)) (.agg #[.bool t2, .slice B2 m2 d2, .slice B2' m2' d2']) (ratOf s2 X2 Y2)) := Lib.hid (fun h => absurd (HL2.out.symm.trans h) (by simp))
  have F1 : Hid (largeB s1 X1 Y1 = false → IsF (wc.alloc (.cells #[.bool t2, .slice B2 m2 d2, .slice B2' m2' d2'] 65)) (.agg #[.bool t1, .slice B1 m1 d1, .slice B1' m1' d1']) (ratOf s1 X1 Y1)) := Lib.hid (fun h => (F1.out h).below bd)
  have hsz2 : wa.heap.size + 1 ≤ wc.heap.size := by have := bc.size; have := HS1.out; omega
  replace HF1 := Lib.hid (HF1.out.below bd)
  replace HT := Lib.hid (HT.out.below bd)
  have BM := Lib.hid (below_step BM.out BM.out.size bd)
  have HSZ2 := Lib.hid hsz2
  obtain ⟨w2, hw2⟩ : ∃ w2, wc.alloc (.cells #[.bool t2, .slice B2 m2 d2, .slice B2' m2' d2'] 65) = w2 := ⟨_, rfl⟩
  obtain ⟨gf, hgf⟩ : ∃ g, wa.heap.size = g := ⟨_, rfl⟩
  obtain ⟨gg, hgg⟩ : ∃ g, wc.heap.size = g := ⟨_, rfl⟩
  clear y1 y2 y3 bc bd f2 HS1 hsz2 HX HY H1 H2
  go_upto_region 3 with (fail)
  rw [hw2] at HF1 HF2 HT BM F1 F2
  try rw [hw2]
  rw [hgf] at HF1 HSZ HSZ2
  rw [hgg] at HF2 HSZ2
  try rw [hgf]
  try rw [hgg]
  clear hw2 hgf hgg
  go_wp2_with fail
  refine bodyPost_ret (v := .tuple #[.int .i64 0, .int .i64 1]) (by simp [results, Tryd.results32, go_sem]) rfl ⟨rfl, BM.out⟩
set_option maxHeartbeats 2000000 in
set_option maxRecDepth 100000 in
theorem nCompare_true_false (s1 : Bool) (X1 Y1 : Nat) (s2 : Bool) (X2 Y2 : Nat)  (w : World) (v1 v2 : Value) (h1 : RawV w v1 s1 X1 Y1) (h2 : RawV w v2 s2 X2 Y2) (hT : Tab w) (a b : Rat) (ha : ratOf s1 X1 Y1 = a) (hb : ratOf s2 X2 Y2 = b) (hL1 : largeB s1 X1 Y1 = true) (hL2 : largeB s2 X2 Y2 = false) :
    Calls Tryd.prog 32 #[v1, v2] w (fun e w' => e = .returned (.tuple #[.int .i64 0, .int .i64 1]) ∧ Below w.heap.size w w') := by
  have H1 := Lib.hid h1
  have H2 := Lib.hid h2
  have HT := Lib.hid hT
  obtain ⟨A1, n1, c1, A1', n1', c1', rfl⟩ := h1.shape
  obtain ⟨A2, n2, c2, A2', n2', c2', rfl⟩ := h2.shape
  clear h1 h2 hT
  obtain ⟨M, hM, k1, k2, bM⟩ := start1 w (.bool s1) (.slice A1 n1 c1) (.slice A1' n1' c1') (.bool s2) (.slice A2 n2 c2) (.slice A2' n2' c2') 24 24
  have HR := Lib.hid True.intro
  have HX := Lib.hid k1
  have HY := Lib.hid k2
  have BM := Lib.hid bM
  replace H1 := Lib.hid (H1.out.below bM)
  replace H2 := Lib.hid (H2.out.below bM)
  replace HT := Lib.hid (HT.out.below bM)
  have HA := Lib.hid ha
  have HB := Lib.hid hb
  have HL1 := Lib.hid hL1
  have HL2 := Lib.hid hL2
  clear ha hb hL1 hL2 k1 k2 bM
  go_enter Tryd.func32, Tryd.ntmps32
  go_upto_region 1 with (fail)
  rw [← hM]
  clear hM
  obtain ⟨x1, x2, x3, _, _, _⟩ := HX.out.cells
  go_wp2_with fail
  refine (readV _ s1 X1 Y1 _ H1.out HT.out).mono ?_
  rw [HL1.out, Bool.not_true]
  rintro e wa ⟨t1, B1, m1, d1, B1', m1', d1', rfl, f1, ba⟩
  have bb := below_step ba ba.size (below_alloc wa (.cells #[.bool t1, .slice B1 m1 d1, .slice B1' m1' d1'] 65))
  have HF1 := Lib.hid (Box.new wa (.bool t1) (.slice B1 m1 d1) (.slice B1' m1' d1') 65)
  have F1 : Hid (largeB s1 X1 Y1 = false → IsF (wa.alloc (.cells #[.bool t1, .slice B1 m1 d1, .slice B1' m1' d1'] 65)) (.agg #[.bool t1, .slice B1 m1 d1, .slice B1' m1' d1']) (ratOf s1 X1 Y1)) := Lib.hid (fun h => absurd (HL1.out.symm.trans h) (by simp))
  have hsz : w.heap.size + 1 < wa.heap.size := Nat.lt_of_lt_of_le (HY.out.lt) ba.size
  replace HX := Lib.hid (HX.out.below bb)
  replace HY := Lib.hid (HY.out.below bb)
  replace H2 := Lib.hid (H2.out.below bb)
  replace HT := Lib.hid (HT.out.below bb)
  have BM := Lib.hid (below_step BM.out BM.out.size bb)
  obtain ⟨w1, hw1⟩ : ∃ w1, wa.alloc (.cells #[.bool t1, .slice B1 m1 d1, .slice B1' m1' d1'] 65) = w1 := ⟨_, rfl⟩
  have hs1 : w1.heap.size = wa.heap.size + 1 := by rw [← hw1]; simp
  have HS1 := Lib.hid hs1
  have HSZ := Lib.hid hsz
  clear x1 x2 x3 ba bb f1 hs1 hsz
  go_upto_region 2 with (fail)
  rw [hw1] at HX HY H2 HT BM HF1 F1
  try rw [hw1]
  clear hw1
  obtain ⟨y1, y2, y3, _, _, _⟩ := HY.out.cells
  go_wp2_with fail
  refine (readV _ s2 X2 Y2 _ H2.out HT.out).mono ?_
  rw [HL2.out, Bool.not_false]
  rintro e wc ⟨t2, B2, m2, d2, B2', m2', d2', rfl, f2, bc⟩
  have bd := below_step bc bc.size (below_alloc wc (.cells #[.bool t2, .slice B2 m2 d2, .slice B2' m2' d2'] 65))
  have HF2 := Lib.hid (Box.new wc (.bool t2) (.slice B2 m2 d2) (.slice B2' m2' d2') 65)
  have F2 : Hid (largeB s2 X2 Y2 = false → IsF (wc.alloc (.cells #[.bool t2, .slice B2 m2 d2, .slice B2' m2' d2'] 65)) (.agg #[.bool t2, .slice B2 m2 d2, .slice B2' m2' d2']) (ratOf s2 X2 Y2)) := Lib.hid (fun h => (f2.out rfl).below (below_alloc _ _))
  have F1 : Hid (largeB s1 X1 Y1 = false → IsF (wc.alloc (.cells #[.bool t2, .slice B2 m2 d2, .slice B2' m2' d2'] 65)) (.agg #[.bool t1, .slice B1 m1 d1, .slice B1' m1' d1']) (ratOf s1 X1 Y1)) := Lib.hid (fun h => (F1.out h).below bd)
  have hsz2 : wa.heap.size + 1 ≤ wc.heap.size := by have := bc.size; have := HS1.out; omega
  replace HF1 := Lib.hid (HF1.out.below bd)
  replace HT := Lib.hid (HT.out.below bd)
  have BM := Lib.hid (below_step BM.out BM.out.size bd)
  have HSZ2 := Lib.hid hsz2
  obtain ⟨w2, hw2⟩ : ∃ w2, wc.alloc (.cells #[.bool t2, .slice B2 m2 d2, .slice B2' m2' d2'] 65) = w2 := ⟨_, rfl⟩
  obtain ⟨gf, hgf⟩ : ∃ g, wa.heap.size = g := ⟨_, rfl⟩
  obtain ⟨gg, hgg⟩ : ∃ g, wc.heap.size = g := ⟨_, rfl⟩
  clear y1 y2 y3 bc bd f2 HS1 hsz2 HX HY H1 H2
  go_upto_region 3 with (fail)
  rw [hw2] at HF1 HF2 HT BM F1 F2
  try rw [hw2]
  rw [hgf] at HF1 HSZ HSZ2
  rw [hgg] at HF2 HSZ2
  try rw [hgf]
  try rw [hgg]
  clear hw2 hgf hgg
  go_wp2_with fail
  refine bodyPost_ret (v := .tuple #[.int .i64 0, .int .i64 1]) (by simp [results, Tryd.results32, go_sem]) rfl ⟨rfl, BM.out⟩
set_option maxHeartbeats 2000000 in
set_option maxRecDepth 100000 in
theorem nCompare_false_true (s1 : Bool) (X1 Y1 : Nat) (s2 : Bool) (X2 Y2 : Nat)  (w : World) (v1 v2 : Value) (h1 : RawV w v1 s1 X1 Y1) (h2 : RawV w v2 s2 X2 Y2) (hT : Tab w) (a b : Rat) (ha : ratOf s1 X1 Y1 = a) (hb : ratOf s2 X2 Y2 = b) (hL1 : largeB s1 X1 Y1 = false) (hL2 : largeB s2 X2 Y2 = true) :
    Calls Tryd.prog 32 #[v1, v2] w (fun e w' => e = .returned (.tuple #[.int .i64 0, .int .i64 1]) ∧ Below w.heap.size w w') := by
  have H1 := Lib.hid h1
  have H2 := Lib.hid h2
  have HT := Lib.hid hT
  obtain ⟨A1, n1, c1, A1', n1', c1', rfl⟩ := h1.shape
  obtain ⟨A2, n2, c2, A2', n2', c2', rfl⟩ := h2.shape
  clear h1 h2 hT
  obtain ⟨M, hM, k1, k2, bM⟩ := start1 w (.bool s1) (.slice A1 n1 c1) (.slice A1' n1' c1') (.bool s2) (.slice A2 n2 c2) (.slice A2' n2' c2') 24 24
  have HR := Lib.hid True.intro
  have HX := Lib.hid k1
  have HY := Lib.hid k2
  have BM := Lib.hid bM
  replace H1 := Lib.hid (H1.out.below bM)
  replace H2 := Lib.hid (H2.out.below bM)
  replace HT := Lib.hid (HT.out.below bM)
  have HA := Lib.hid ha
  have HB := Lib.hid hb
  have HL1 := Lib.hid hL1
  have HL2 := Lib.hid hL2
  clear ha hb hL1 hL2 k1 k2 bM
  go_enter Tryd.func32, Tryd.ntmps32
  go_upto_region 1 with (fail)
  rw [← hM]
  clear hM
  obtain ⟨x1, x2, x3, _, _, _⟩ := HX.out.cells
  go_wp2_with fail
  refine (readV _ s1 X1 Y1 _ H1.out HT.out).mono ?_
  rw [HL1.out, Bool.not_false]
  rintro e wa ⟨t1, B1, m1, d1, B1', m1', d1', rfl, f1, ba⟩
  have bb := below_step ba ba.size (below_alloc wa (.cells #[.bool t1, .slice B1 m1 d1, .slice B1' m1' d1'] 65))
  have HF1 := Lib.hid (Box.new wa (.bool t1) (.slice B1 m1 d1) (.slice B1' m1' d1') 65)
  have F1 : Hid (largeB s1 X1 Y1 = false → IsF (wa.alloc (.cells #[.bool t1, .slice B1 m1 d1, .slice B1' m1' d1'] 65)) (.agg #[.bool t1, .slice B1 m1 d1, .slice B1' m1' d1']) (ratOf s1 X1 Y1)) := Lib.hid (fun h => (f1.out rfl).below (below_alloc _ _))
  have hsz : w.heap.size + 1 < wa.heap.size := Nat.lt_of_lt_of_le (HY.out.lt) ba.size
  replace HX := Lib.hid (HX.out.below bb)
  replace HY := Lib.hid (HY.out.below bb)
  replace H2 := Lib.hid (H2.out.below bb)
  replace HT := Lib.hid (HT.out.below bb)
  have BM := Lib.hid (below_step BM.out BM.out.size bb)
  obtain ⟨w1, hw1⟩ : ∃ w1, wa.alloc (.cells #[.bool t1, .slice B1 m1 d1, .slice B1' m1' d1'] 65) = w1 := ⟨_, rfl⟩
  have hs1 : w1.heap.size = wa.heap.size + 1 := by rw [← hw1]; simp
  have HS1 := Lib.hid hs1
  have HSZ := Lib.hid hsz
  clear x1 x2 x3 ba bb f1 hs1 hsz
  go_upto_region 2 with (fail)
  rw [hw1] at HX HY H2 HT BM HF1 F1
  try rw [hw1]
  clear hw1
  obtain ⟨y1, y2, y3, _, _, _⟩ := HY.out.cells
  go_wp2_with fail
  refine (readV _ s2 X2 Y2 _ H2.out HT.out).mono ?_
  rw [HL2.out, Bool.not_true]
  rintro e wc ⟨t2, B2, m2, d2, B2', m2', d2', rfl, f2, bc⟩
  have bd := below_step bc bc.size (below_alloc wc (.cells #[.bool t2, .slice B2 m2 d2, .slice B2' m2' d2'] 65))
  have HF2 := Lib.hid (Box.new wc (.bool t2) (.slice B2 m2 d2) (.slice B2' m2' d2') 65)
  have F2 : Hid (largeB s2 X2 Y2 = false → IsF (wc.alloc (.cells #[.bool t2, .slice B2 m2 d2, .slice B2' m2' d2'] 65)) (.agg #[.bool t2, .slice B2 m2 d2, .slice B2' m2' d2']) (ratOf s2 X2 Y2)) := Lib.hid (fun h => absurd (HL2.out.symm.trans h) (by simp))
  have F1 : Hid (largeB s1 X1 Y1 = false → IsF (wc.alloc (.cells #[.bool t2, .slice B2 m2 d2, .slice B2' m2' d2'] 65)) (.agg #[.bool t1, .slice B1 m1 d1, .slice B1' m1' d1']) (ratOf s1 X1 Y1)) := Lib.hid (fun h => (F1.out h).below bd)
  have hsz2 : wa.heap.size + 1 ≤ wc.heap.size := by have := bc.size; have := HS1.out; omega
  replace HF1 := Lib.hid (HF1.out.below bd)
  replace HT := Lib.hid (HT.out.below bd)
  have BM := Lib.hid (below_step BM.out BM.out.size bd)
  have HSZ2 := Lib.hid hsz2
  obtain ⟨w2, hw2⟩ : ∃ w2, wc.alloc (.cells #[.bool t2, .slice B2 m2 d2, .slice B2' m2' d2'] 65) = w2 := ⟨_, rfl⟩
  obtain ⟨gf, hgf⟩ : ∃ g, wa.heap.size = g := ⟨_, rfl⟩
  obtain ⟨gg, hgg⟩ : ∃ g, wc.heap.size = g := ⟨_, rfl⟩
  clear y1 y2 y3 bc bd f2 HS1 hsz2 HX HY H1 H2
  go_upto_region 3 with (fail)
  rw [hw2] at HF1 HF2 HT BM F1 F2
  try rw [hw2]
  rw [hgf] at HF1 HSZ HSZ2
  rw [hgg] at HF2 HSZ2
  try rw [hgf]
  try rw [hgg]
  clear hw2 hgf hgg
  go_wp2_with fail
  refine bodyPost_ret (v := .tuple #[.int .i64 0, .int .i64 1]) (by simp [results, Tryd.results32, go_sem]) rfl ⟨rfl, BM.out⟩
set_option maxHeartbeats 2000000 in
set_option maxRecDepth 100000 in
theorem nCompare_fit (s1 : Bool) (X1 Y1 : Nat) (s2 : Bool) (X2 Y2 : Nat) (c : Int) (hc : cmpQ (ratOf s1 X1 Y1) (ratOf s2 X2 Y2) = c) (w : World) (v1 v2 : Value) (h1 : RawV w v1 s1 X1 Y1) (h2 : RawV w v2 s2 X2 Y2) (hT : Tab w) (a b : Rat) (ha : ratOf s1 X1 Y1 = a) (hb : ratOf s2 X2 Y2 = b) (hL1 : largeB s1 X1 Y1 = false) (hL2 : largeB s2 X2 Y2 = false) :
    Calls Tryd.prog 32 #[v1, v2] w (fun e w' => e = .returned (.tuple #[.int .i64 c, .int .i64 0]) ∧ Below w.heap.size w w') := by
  have H1 := Lib.hid h1
  have H2 := Lib.hid h2
  have HT := Lib.hid hT
  obtain ⟨A1, n1, c1, A1', n1', c1', rfl⟩ := h1.shape
  obtain ⟨A2, n2, c2, A2', n2', c2', rfl⟩ := h2.shape
  clear h1 h2 hT
  obtain ⟨M, hM, k1, k2, bM⟩ := start1 w (.bool s1) (.slice A1 n1 c1) (.slice A1' n1' c1') (.bool s2) (.slice A2 n2 c2) (.slice A2' n2' c2') 24 24
  have HR := Lib.hid True.intro
  have HX := Lib.hid k1
  have HY := Lib.hid k2
  have BM := Lib.hid bM
  replace H1 := Lib.hid (H1.out.below bM)
  replace H2 := Lib.hid (H2.out.below bM)
  replace HT := Lib.hid (HT.out.below bM)
  have HA := Lib.hid ha
  have HB := Lib.hid hb
  have HL1 := Lib.hid hL1
  have HL2 := Lib.hid hL2
  have fa := (largeB_false hL1).2.2
  have fb := (largeB_false hL2).2.2
  rw [ha] at fa
  rw [hb] at fb
  have FA := Lib.hid fa
  have FB := Lib.hid fb
  clear fa fb
  rw [ha, hb] at hc
  have HC := Lib.hid hc
  clear hc
  clear ha hb hL1 hL2 k1 k2 bM
  go_enter Tryd.func32, Tryd.ntmps32
  go_upto_region 1 with (fail)
  rw [← hM]
  clear hM
  obtain ⟨x1, x2, x3, _, _, _⟩ := HX.out.cells
  go_wp2_with fail
  refine (readV _ s1 X1 Y1 _ H1.out HT.out).mono ?_
  rw [HL1.out, Bool.not_false]
  rintro e wa ⟨t1, B1, m1, d1, B1', m1', d1', rfl, f1, ba⟩
  have bb := below_step ba ba.size (below_alloc wa (.cells #[.bool t1, .slice B1 m1 d1, .slice B1' m1' d1'] 65))
  have HF1 := Lib.hid (Box.new wa (.bool t1) (.slice B1 m1 d1) (.slice B1' m1' d1') 65)
  have F1 : Hid (largeB s1 X1 Y1 = false → IsF (wa.alloc (.cells #[.bool t1, .slice B1 m1 d1, .slice B1' m1' d1'] 65)) (.agg #[.bool t1, .slice B1 m1 d1, .slice B1' m1' d1']) (ratOf s1 X1 Y1)) := Lib.hid (fun h => (f1.out rfl).below (below_alloc _ _))
  have hsz : w.heap.size + 1 < wa.heap.size := Nat.lt_of_lt_of_le (HY.out.lt) ba.size
  replace HX := Lib.hid (HX.out.below bb)
  replace HY := Lib.hid (HY.out.below bb)
  replace H2 := Lib.hid (H2.out.below bb)
  replace HT := Lib.hid (HT.out.below bb)
  have BM := Lib.hid (below_step BM.out BM.out.size bb)
  obtain ⟨w1, hw1⟩ : ∃ w1, wa.alloc (.cells #[.bool t1, .slice B1 m1 d1, .slice B1' m1' d1'] 65) = w1 := ⟨_, rfl⟩
  have hs1 : w1.heap.size = wa.heap.size + 1 := by rw [← hw1]; simp
  have HS1 := Lib.hid hs1
  have HSZ := Lib.hid hsz
  clear x1 x2 x3 ba bb f1 hs1 hsz
  go_upto_region 2 with (fail)
  rw [hw1] at HX HY H2 HT BM HF1 F1
  try rw [hw1]
  clear hw1
  obtain ⟨y1, y2, y3, _, _, _⟩ := HY.out.cells
  go_wp2_with fail
  refine (readV _ s2 X2 Y2 _ H2.out HT.out).mono ?_
  rw [HL2.out, Bool.not_false]
  rintro e wc ⟨t2, B2, m2, d2, B2', m2', d2', rfl, f2, bc⟩
  have bd := below_step bc bc.size (below_alloc wc (.cells #[.bool t2, .slice B2 m2 d2, .slice B2' m2' d2'] 65))
  have HF2 := Lib.hid (Box.new wc (.bool t2) (.slice B2 m2 d2) (.slice B2' m2' d2') 65)
  have F2 : Hid (largeB s2 X2 Y2 = false → IsF (wc.alloc (.cells #[.bool t2, .slice B2 m2 d2, .slice B2' m2' d2'] 65)) (.agg #[.bool t2, .slice B2 m2 d2, .slice B2' m2' d2']) (ratOf s2 X2 Y2)) := Lib.hid (fun h => (f2.out rfl).below (below_alloc _ _))
  have F1 : Hid (largeB s1 X1 Y1 = false → IsF (wc.alloc (.cells #[.bool t2, .slice B2 m2 d2, .slice B2' m2' d2'] 65)) (.agg #[.bool t1, .slice B1 m1 d1, .slice B1' m1' d1']) (ratOf s1 X1 Y1)) := Lib.hid (fun h => (F1.out h).below bd)
  have hsz2 : wa.heap.size + 1 ≤ wc.heap.size := by have := bc.size; have := HS1.out; omega
  replace HF1 := Lib.hid (HF1.out.below bd)
  replace HT := Lib.hid (HT.out.below bd)
  have BM := Lib.hid (below_step BM.out BM.out.size bd)
  have HSZ2 := Lib.hid hsz2
  obtain ⟨w2, hw2⟩ : ∃ w2, wc.alloc (.cells #[.bool t2, .slice B2 m2 d2, .slice B2' m2' d2'] 65) = w2 := ⟨_, rfl⟩
  obtain ⟨gf, hgf⟩ : ∃ g, wa.heap.size = g := ⟨_, rfl⟩
  obtain ⟨gg, hgg⟩ : ∃ g, wc.heap.size = g := ⟨_, rfl⟩
  clear y1 y2 y3 bc bd f2 HS1 hsz2 HX HY H1 H2
  go_upto_region 3 with (fail)
  rw [hw2] at HF1 HF2 HT BM F1 F2
  try rw [hw2]
  rw [hgf] at HF1 HSZ HSZ2
  rw [hgg] at HF2 HSZ2
  try rw [hgf]
  try rw [hgg]
  clear hw2 hgf hgg
  have F1 := Lib.hid (F1.out HL1.out)
  have F2 := Lib.hid (F2.out HL2.out)
  rw [HA.out] at F1
  rw [HB.out] at F2
  obtain ⟨x1, x2, x3, _⟩ := HF1.out.cells
  obtain ⟨y1, y2, y3, _⟩ := HF2.out.cells
  go_wp2_with fail
  refine (fCmp a b _ _ _ F1.out F2.out (fit_Wq FA.out (by omega)) (fit_Wq FB.out (by omega))).mono ?_
  rw [HC.out]
  rintro e we ⟨rfl, be⟩
  have BM := Lib.hid (below_step BM.out BM.out.size be)
  clear be
  go_wp2_with fail
  refine bodyPost_ret (v := .tuple #[.int .i64 c, .int .i64 0]) (by simp [results, Tryd.results32, go_sem]) rfl ⟨rfl, BM.out⟩
/-- what Compare returns -/
theorem nCompare (s1 : Bool) (X1 Y1 : Nat) (s2 : Bool) (X2 Y2 : Nat) (w : World) (v1 v2 : Value) (h1 : RawV w v1 s1 X1 Y1) (h2 : RawV w v2 s2 X2 Y2) (hT : Tab w) (c k : Int) (hc : (if (largeB s1 X1 Y1 || largeB s2 X2 Y2) = true then 0 else cmpQ (ratOf s1 X1 Y1) (ratOf s2 X2 Y2)) = c) (hk : (if (largeB s1 X1 Y1 || largeB s2 X2 Y2) = true then 1 else 0) = k) :
    Calls Tryd.prog 32 #[v1, v2] w fun e w' => e = .returned (.tuple #[.int .i64 c, .int .i64 k]) ∧ Below w.heap.size w w' := by
  subst hc hk
  cases e1 : largeB s1 X1 Y1 <;> cases e2 : largeB s2 X2 Y2
  · exact nCompare_fit s1 X1 Y1 s2 X2 Y2 _ rfl w v1 v2 h1 h2 hT _ _ rfl rfl e1 e2
  · exact nCompare_false_true s1 X1 Y1 s2 X2 Y2 w v1 v2 h1 h2 hT _ _ rfl rfl e1 e2
  · exact nCompare_true_false s1 X1 Y1 s2 X2 Y2 w v1 v2 h1 h2 hT _ _ rfl rfl e1 e2
  · exact nCompare_true_true s1 X1 Y1 s2 X2 Y2 w v1 v2 h1 h2 hT _ _ rfl rfl e1 e2
end Go.Proofs.YtfmhplcpejmkhabDoor

namespace Go.Proofs.YtfmhplcpejmkhabDoor
open Go.RowKit Dig
set_option linter.unusedVariables false
set_option linter.unusedSimpArgs false
def valO : Out → Rat
  | .ok q => q
  | .err _ => 0
theorem fit_zero : fitQ 0 := by
  refine ⟨?_, ?_⟩
  · exact Nat.le_trans ((dig_length_le B32_two _ 2).2 (by unfold B32; decide)) (by omega : 2 ≤ 64)
  · exact Nat.le_trans ((dig_length_le B32_two _ 2).2 (by unfold B32; decide)) (by omega : 2 ≤ 64)
theorem OutIs.rawV {w : World} {o : Out} {u : Value} {k : Int} (h : OutIs w o u k) : RawV w u (ng (valO o)) (valO o).num.natAbs (dwv (valO o).den) := by
  cases o with
  | ok q => exact h.2.1.raw h.2.2
  | err j =>
    obtain ⟨_, e, _, _⟩ := h
    rw [e]
    exact ⟨none, 0, [], none, 0, [], rfl, Rd.nil _ _ _ (by omega), Rd.nil _ _ _ (by omega), (fun x hx => by cases hx), (fun x hx => by cases hx), rfl, rfl, by simp, by simp⟩
theorem OutIs.fit {w : World} {o : Out} {u : Value} {k : Int} (h : OutIs w o u k) : fitQ (valO o) := by
  cases o with
  | ok q => exact h.2.2
  | err j => exact fit_zero
theorem give_cases (q : Rat) : (give q = .ok q ∧ fitQ q) ∨ give q = .err 1 := by
  unfold give
  by_cases h : fitQ q
  · exact Or.inl ⟨if_pos h, h⟩
  · exact Or.inr (if_neg h)
end Go.Proofs.YtfmhplcpejmkhabDoor

namespace Go.Proofs.YtfmhplcpejmkhabDoor
open Go.RowKit Dig
set_option linter.unusedVariables false
set_option linter.unusedSimpArgs false
theorem mk_sub (n m : Int) (d e : Nat) (hd : d ≠ 0) (he : e ≠ 0) : mkRat n d - mkRat m e = mkRat (n * e - m * d) (d * e) := by
  rw [Rat.sub_eq_add_neg, Rat.neg_mkRat, Rat.mkRat_add_mkRat _ _ hd he]
  congr 1
  grind
theorem cmp_mk (n m : Int) (d e : Nat) (hd : d ≠ 0) (he : e ≠ 0) : cmpQ (mkRat n d) (mkRat m e) = cmpZ (n * e) (m * d) := by
  unfold cmpQ
  rw [mk_sub n m d e hd he, sgnI_mk _ _ (Nat.mul_ne_zero hd he)]
  unfold cmpZ
  split <;> split <;> (try split) <;> (try split) <;> omega
theorem x_mk (x : Rat) : x = mkRat (sg (ng x) x.num.natAbs) x.den := by rw [sg_ng, Rat.mkRat_self]
theorem cmpZ_lt {a b : Int} (h : a < b) : cmpZ a b = -1 := by unfold cmpZ; rw [if_pos h]
/-- below, above, and how far apart -/
theorem grid_steps (x : Rat) (p : Nat) :
    (gridQ x p false = x ∧ gridQ x p true = x) ∨
    (cmpQ (gridQ x p false) x = -1 ∧ cmpQ x (gridQ x p true) = -1 ∧ cmpQ (gridQ x p false) (gridQ x p true) = -1 ∧ gridQ x p true - gridQ x p false = mkRat 1 (2 ^ p)) := by
  have hP : (2 ^ p : Nat) ≠ 0 := Nat.ne_of_gt (Nat.two_pow_pos p)
  have hd := x.den_nz
  have hx := x_mk x
  obtain ⟨s, hs⟩ : ∃ s, ng x = s := ⟨_, rfl⟩
  obtain ⟨n, hn⟩ : ∃ n, x.num.natAbs = n := ⟨_, rfl⟩
  obtain ⟨d, hdd⟩ : ∃ d, x.den = d := ⟨_, rfl⟩
  obtain ⟨P, hPP⟩ : ∃ P, (2 ^ p : Nat) = P := ⟨_, rfl⟩
  unfold gridQ gridN
  rw [hs, hn, hdd, hPP]
  rw [hs, hn, hdd] at hx
  rw [hdd] at hd
  rw [hPP] at hP
  have hm := Nat.div_add_mod (n * P) d
  have hr := Nat.mod_lt (n * P) (Nat.pos_of_ne_zero hd)
  obtain ⟨k, hk⟩ : ∃ k, n * P / d = k := ⟨_, rfl⟩
  obtain ⟨r, hrr⟩ : ∃ r, n * P % d = r := ⟨_, rfl⟩
  rw [hk, hrr] at hm ⊢
  rw [hrr] at hr
  have hmi : (d : Int) * k + r = n * P := by exact_mod_cast hm
  rw [hx]
  by_cases h0 : r = 0
  · left
    have e : ∀ b : Bool, (k + if (b != s) = true ∧ r ≠ 0 then 1 else 0) = k := by intro b; rw [if_neg (by simp [h0])]; rfl
    rw [e, e]
    have : mkRat (sg s k) P = mkRat (sg s n) d := by
      rw [Rat.mkRat_eq_iff hP hd]
      subst h0
      unfold sg
      cases s <;> simp <;> grind
    exact ⟨this, this⟩
  · right
    rw [cmp_mk _ _ _ _ hP hd, cmp_mk _ _ _ _ hd hP, cmp_mk _ _ _ _ hP hP, mk_sub _ _ _ _ hP hP]
    have hP0 : (0 : Int) < P := by omega
    have hr0 : 0 < r := by omega
    have hc : (k : Int) * d + r = n * P := by grind
    have m1 : (k : Int) * d < n * P := by omega
    have m2 : (n : Int) * P < ((k : Int) + 1) * d := by
      have : ((k : Int) + 1) * d = k * d + d := by grind
      omega
    have m3 : (k : Int) * P < ((k : Int) + 1) * P := by
      have : ((k : Int) + 1) * P = k * P + P := by grind
      omega
    have m4 : ((k : Int) + 1) * P - k * P = P := by grind
    have m5 : mkRat (P : Int) (P * P) = mkRat 1 P := by
      rw [Rat.mkRat_eq_iff (Nat.mul_ne_zero hP hP) hP]
      push_cast
      grind
    cases s
    · have e1 : (k + if (false != false) = true ∧ r ≠ 0 then 1 else 0) = k := by simp
      have e2 : (k + if (true != false) = true ∧ r ≠ 0 then 1 else 0) = k + 1 := by simp [h0]
      rw [e1, e2]
      simp only [sg, Bool.false_eq_true, if_false]
      push_cast
      refine ⟨cmpZ_lt m1, cmpZ_lt m2, cmpZ_lt m3, ?_⟩
      rw [m4, m5]
    · have e1 : (k + if (false != true) = true ∧ r ≠ 0 then 1 else 0) = k + 1 := by simp [h0]
      have e2 : (k + if (true != true) = true ∧ r ≠ 0 then 1 else 0) = k := by simp
      rw [e1, e2]
      simp only [sg, if_true]
      push_cast
      refine ⟨cmpZ_lt ?_, cmpZ_lt ?_, cmpZ_lt ?_, ?_⟩
      · rw [Int.neg_mul, Int.neg_mul]; omega
      · rw [Int.neg_mul, Int.neg_mul]; omega
      · rw [Int.neg_mul, Int.neg_mul]; omega
      · have m6 : -(k : Int) * P - -((k : Int) + 1) * P = P := by grind
        rw [m6, m5]
end Go.Proofs.YtfmhplcpejmkhabDoor

namespace Go.Proofs.YtfmhplcpejmkhabDoor
open Go.RowKit Dig
set_option linter.unusedVariables false
set_option linter.unusedSimpArgs false
structure X2 (w M : World) (g1 g2 : Nat) (s1 : Bool) (A1 : Option Addr) (n1 c1 : Nat) (B1 : Option Addr) (m1 d1 N1 D1 : Nat) (s2 : Bool) (A2 : Option Addr) (n2 c2 : Nat) (B2 : Option Addr) (m2 d2 N2 D2 : Nat) : Prop where
  f : Box M g1 (.bool s1) (.slice A1 n1 c1) (.slice B1 m1 d1) 24
  g : Box M g2 (.bool s2) (.slice A2 n2 c2) (.slice B2 m2 d2) 24
  r1 : RawV M (.agg #[.bool s1, .slice A1 n1 c1, .slice B1 m1 d1]) s1 N1 D1
  r2 : RawV M (.agg #[.bool s2, .slice A2 n2 c2, .slice B2 m2 d2]) s2 N2 D2
  tab : Tab M
  bel : Below w.heap.size w M
structure X1 (w M : World) (g1 : Nat) (s1 : Bool) (A1 : Option Addr) (n1 c1 : Nat) (B1 : Option Addr) (m1 d1 N1 D1 : Nat) : Prop where
  f : Box M g1 (.bool s1) (.slice A1 n1 c1) (.slice B1 m1 d1) 24
  r1 : RawV M (.agg #[.bool s1, .slice A1 n1 c1, .slice B1 m1 d1]) s1 N1 D1
  tab : Tab M
  bel : Below w.heap.size w M
section
variable {w M M' : World} {g1 g2 : Nat} {s1 : Bool} {A1 : Option Addr} {n1 c1 : Nat} {B1 : Option Addr} {m1 d1 N1 D1 : Nat} {s2 : Bool} {A2 : Option Addr} {n2 c2 : Nat} {B2 : Option Addr} {m2 d2 N2 D2 : Nat}
theorem X2.below (h : X2 w M g1 g2 s1 A1 n1 c1 B1 m1 d1 N1 D1 s2 A2 n2 c2 B2 m2 d2 N2 D2) (hb : Below M.heap.size M M') : X2 w M' g1 g2 s1 A1 n1 c1 B1 m1 d1 N1 D1 s2 A2 n2 c2 B2 m2 d2 N2 D2 :=
  ⟨h.f.below hb, h.g.below hb, h.r1.below hb, h.r2.below hb, h.tab.below hb, below_step h.bel h.bel.size hb⟩
theorem X2.drew (h : X2 w M g1 g2 s1 A1 n1 c1 B1 m1 d1 N1 D1 s2 A2 n2 c2 B2 m2 d2 N2 D2) : X2 w M.drew g1 g2 s1 A1 n1 c1 B1 m1 d1 N1 D1 s2 A2 n2 c2 B2 m2 d2 N2 D2 := h.below (Below.refl _ _).drew
theorem X2.cells (h : X2 w M g1 g2 s1 A1 n1 c1 B1 m1 d1 N1 D1 s2 A2 n2 c2 B2 m2 d2 N2 D2) : (World.cell? M ⟨g1, 0, none⟩ = some (.bool s1) ∧ World.cell? M ⟨g1, 1, none⟩ = some (.slice A1 n1 c1) ∧ World.cell? M ⟨g1, 2, none⟩ = some (.slice B1 m1 d1) ∧ World.cell? M ⟨g2, 0, none⟩ = some (.bool s2) ∧ World.cell? M ⟨g2, 1, none⟩ = some (.slice A2 n2 c2) ∧ World.cell? M ⟨g2, 2, none⟩ = some (.slice B2 m2 d2) ∧ Hid (X2 w M g1 g2 s1 A1 n1 c1 B1 m1 d1 N1 D1 s2 A2 n2 c2 B2 m2 d2 N2 D2)) := by
  obtain ⟨a1, a2, a3, _, _, _⟩ := h.f.cells
  obtain ⟨b1, b2, b3, _, _, _⟩ := h.g.cells
  exact ⟨a1, a2, a3, b1, b2, b3, h⟩
theorem X2.of (h : (World.cell? M ⟨g1, 0, none⟩ = some (.bool s1) ∧ World.cell? M ⟨g1, 1, none⟩ = some (.slice A1 n1 c1) ∧ World.cell? M ⟨g1, 2, none⟩ = some (.slice B1 m1 d1) ∧ World.cell? M ⟨g2, 0, none⟩ = some (.bool s2) ∧ World.cell? M ⟨g2, 1, none⟩ = some (.slice A2 n2 c2) ∧ World.cell? M ⟨g2, 2, none⟩ = some (.slice B2 m2 d2) ∧ Hid (X2 w M g1 g2 s1 A1 n1 c1 B1 m1 d1 N1 D1 s2 A2 n2 c2 B2 m2 d2 N2 D2))) : X2 w M g1 g2 s1 A1 n1 c1 B1 m1 d1 N1 D1 s2 A2 n2 c2 B2 m2 d2 N2 D2 := h.2.2.2.2.2.2.out
theorem X2.next (h : (World.cell? M ⟨g1, 0, none⟩ = some (.bool s1) ∧ World.cell? M ⟨g1, 1, none⟩ = some (.slice A1 n1 c1) ∧ World.cell? M ⟨g1, 2, none⟩ = some (.slice B1 m1 d1) ∧ World.cell? M ⟨g2, 0, none⟩ = some (.bool s2) ∧ World.cell? M ⟨g2, 1, none⟩ = some (.slice A2 n2 c2) ∧ World.cell? M ⟨g2, 2, none⟩ = some (.slice B2 m2 d2) ∧ Hid (X2 w M g1 g2 s1 A1 n1 c1 B1 m1 d1 N1 D1 s2 A2 n2 c2 B2 m2 d2 N2 D2))) (hb : Below M.heap.size M M') : (World.cell? M' ⟨g1, 0, none⟩ = some (.bool s1) ∧ World.cell? M' ⟨g1, 1, none⟩ = some (.slice A1 n1 c1) ∧ World.cell? M' ⟨g1, 2, none⟩ = some (.slice B1 m1 d1) ∧ World.cell? M' ⟨g2, 0, none⟩ = some (.bool s2) ∧ World.cell? M' ⟨g2, 1, none⟩ = some (.slice A2 n2 c2) ∧ World.cell? M' ⟨g2, 2, none⟩ = some (.slice B2 m2 d2) ∧ Hid (X2 w M' g1 g2 s1 A1 n1 c1 B1 m1 d1 N1 D1 s2 A2 n2 c2 B2 m2 d2 N2 D2)) := ((X2.of h).below hb).cells
theorem X1.below (h : X1 w M g1 s1 A1 n1 c1 B1 m1 d1 N1 D1) (hb : Below M.heap.size M M') : X1 w M' g1 s1 A1 n1 c1 B1 m1 d1 N1 D1 :=
  ⟨h.f.below hb, h.r1.below hb, h.tab.below hb, below_step h.bel h.bel.size hb⟩
theorem X1.drew (h : X1 w M g1 s1 A1 n1 c1 B1 m1 d1 N1 D1) : X1 w M.drew g1 s1 A1 n1 c1 B1 m1 d1 N1 D1 := h.below (Below.refl _ _).drew
theorem X1.cells (h : X1 w M g1 s1 A1 n1 c1 B1 m1 d1 N1 D1) : (World.cell? M ⟨g1, 0, none⟩ = some (.bool s1) ∧ World.cell? M ⟨g1, 1, none⟩ = some (.slice A1 n1 c1) ∧ World.cell? M ⟨g1, 2, none⟩ = some (.slice B1 m1 d1) ∧ Hid (X1 w M g1 s1 A1 n1 c1 B1 m1 d1 N1 D1)) := by
  obtain ⟨a1, a2, a3, _, _, _⟩ := h.f.cells
  exact ⟨a1, a2, a3, h⟩
theorem X1.of (h : (World.cell? M ⟨g1, 0, none⟩ = some (.bool s1) ∧ World.cell? M ⟨g1, 1, none⟩ = some (.slice A1 n1 c1) ∧ World.cell? M ⟨g1, 2, none⟩ = some (.slice B1 m1 d1) ∧ Hid (X1 w M g1 s1 A1 n1 c1 B1 m1 d1 N1 D1))) : X1 w M g1 s1 A1 n1 c1 B1 m1 d1 N1 D1 := h.2.2.2.out
theorem X1.next (h : (World.cell? M ⟨g1, 0, none⟩ = some (.bool s1) ∧ World.cell? M ⟨g1, 1, none⟩ = some (.slice A1 n1 c1) ∧ World.cell? M ⟨g1, 2, none⟩ = some (.slice B1 m1 d1) ∧ Hid (X1 w M g1 s1 A1 n1 c1 B1 m1 d1 N1 D1))) (hb : Below M.heap.size M M') : (World.cell? M' ⟨g1, 0, none⟩ = some (.bool s1) ∧ World.cell? M' ⟨g1, 1, none⟩ = some (.slice A1 n1 c1) ∧ World.cell? M' ⟨g1, 2, none⟩ = some (.slice B1 m1 d1) ∧ Hid (X1 w M' g1 s1 A1 n1 c1 B1 m1 d1 N1 D1)) := ((X1.of h).below hb).cells
end
end Go.Proofs.YtfmhplcpejmkhabDoor

namespace Go.Proofs.YtfmhplcpejmkhabDoor
open Go.RowKit Dig
set_option linter.unusedVariables false
set_option linter.unusedSimpArgs false
theorem W_single {n : Nat} (h0 : n ≠ 0) (h : n < 4294967296) : W n = [(n : Int)] := by
  unfold W
  rw [dig_pos B32_two h0]
  have h1 : n < B32 := by unfold B32; exact h
  rw [Nat.div_eq_of_lt h1, dig_zero, Nat.mod_eq_of_lt h1]
theorem half_third : ratOf false 1 2 + ratOf false 1 3 = mkRat 5 6 := by
  show mkRat 1 2 + mkRat 1 3 = mkRat 5 6
  rw [Rat.mkRat_add_mkRat _ _ (by omega) (by omega)]
  rfl
theorem five_sixths : ng (mkRat 5 6) = false ∧ (mkRat 5 6).num.natAbs = 5 ∧ (mkRat 5 6).den = 6 := by
  have h1 : (mkRat 5 6).num = 5 := by rw [Rat.num_mkRat, if_neg (by omega)]; rfl
  have h2 : (mkRat 5 6).den = 6 := by rw [Rat.den_mkRat, if_neg (by omega)]; rfl
  refine ⟨?_, ?_, h2⟩
  · unfold ng; rw [h1]; rfl
  · rw [h1]; rfl
theorem fit_half (d : Nat) (h0 : d ≠ 0) (h : d < 4294967296) : fitQ (ratOf false 1 d) := by
  have e : ratOf false 1 d = mkRat 1 d := by unfold ratOf sg; rw [if_neg h0]; rfl
  rw [e]
  have h1 : (mkRat 1 d).num.natAbs ≤ 1 := by
    rw [Rat.num_mkRat, if_neg h0]; simp
  have h2 : (mkRat 1 d).den ≤ d := by
    rw [Rat.den_mkRat, if_neg h0]; exact Nat.div_le_self _ _
  exact ⟨Nat.le_trans (W_le_one (by omega)) (by omega), Nat.le_trans (W_le_one (by omega)) (by omega)⟩
theorem small_large (d : Nat) (h0 : d ≠ 0) (h : d < 4294967296) : largeB false 1 d = false := by
  unfold largeB
  rw [decide_eq_true ⟨Nat.le_trans (W_le_one (by omega)) (by omega), Nat.le_trans (W_le_one (by omega)) (by omega), fit_half d h0 h⟩]
  rfl
theorem rd_one (w : World) (g : Nat) (x : Int) (h : w.cell? ⟨g, 0, none⟩ = some (.int .u32 x)) : Rd w (some ⟨g, 0, none⟩) 1 [x] :=
  ⟨by simp, by omega, fun j hj => by
    have : j = 0 := by simpa using hj
    subst this
    exact ⟨_, rfl, by simpa [Addr.add, rd] using h⟩⟩
theorem raw_one {w : World} {g g' : Nat} {d : Nat} (h1 : w.cell? ⟨g, 0, none⟩ = some (.int .u32 1)) (h2 : w.cell? ⟨g', 0, none⟩ = some (.int .u32 d)) (h : d < 4294967296) :
    RawV w (.agg #[.bool false, .slice (some ⟨g, 0, none⟩) 1 1, .slice (some ⟨g', 0, none⟩) 1 1]) false 1 d := by
  refine ⟨_, _, [1], _, _, [(d : Int)], rfl, rd_one _ _ _ h1, rd_one _ _ _ h2, ?_, ?_, by simp [val], by simp [val], by simp, by simp⟩
  · exact Ok.cons (by omega) (by rw [B32_cast]; omega) (Ok.nil _)
  · exact Ok.cons (by omega) (by rw [B32_cast]; omega) (Ok.nil _)
theorem four_new (w : World) (a b c d : Value) (t : TypeId) : ∃ M, M = ((((w.alloc (.cells #[a] t)).alloc (.cells #[b] t)).alloc (.cells #[c] t)).alloc (.cells #[d] t)) ∧
    M.cell? ⟨w.heap.size, 0, none⟩ = some a ∧ M.cell? ⟨w.heap.size + 1, 0, none⟩ = some b ∧ M.cell? ⟨w.heap.size + 1 + 1, 0, none⟩ = some c ∧ M.cell? ⟨w.heap.size + 1 + 1 + 1, 0, none⟩ = some d ∧ Below w.heap.size w M := by
  refine ⟨_, rfl, ?_⟩
  have key : ∀ (w : World) (x : Value), (w.alloc (.cells #[x] t)).cell? ⟨w.heap.size, 0, none⟩ = some x ∧ Below w.heap.size w (w.alloc (.cells #[x] t)) ∧ (w.alloc (.cells #[x] t)).heap.size = w.heap.size + 1 := by
    intro w x
    refine ⟨?_, below_alloc _ _, by simp⟩
    exact (cell_of_row _ _ 0 _ _ (0, 0) (heap_alloc_new w (.cells #[x] t))).trans rfl
  obtain ⟨a1, b1, s1⟩ := key w a
  generalize w.alloc (.cells #[a] t) = w1 at *
  obtain ⟨a2, b2, s2⟩ := key w1 b
  generalize w1.alloc (.cells #[b] t) = w2 at *
  obtain ⟨a3, b3, s3⟩ := key w2 c
  generalize w2.alloc (.cells #[c] t) = w3 at *
  obtain ⟨a4, b4, s4⟩ := key w3 d
  generalize w3.alloc (.cells #[d] t) = w4 at *
  rw [s1] at a2 s2
  rw [s2] at a3 s3
  rw [s3] at a4
  exact ⟨cell_later b4 (cell_later b3 (cell_later b2 a1)), cell_later b4 (cell_later b3 a2), cell_later b4 a3, a4, below_step b1 b1.size (below_step b2 b2.size (below_step b3 b3.size b4))⟩
set_option maxHeartbeats 1000000 in
set_option maxRecDepth 100000 in
theorem lAwake (w : World) (hT : Tab w) : Calls Tryd.prog 17 #[] w fun e w' => e = .returned (.bool true) ∧ Below w.heap.size w w' := by
  obtain ⟨M, hM, k1, k2, k3, k4, bM⟩ := four_new w (.int .u32 1) (.int .u32 2) (.int .u32 1) (.int .u32 3) 72
  have C := Lib.hid (nAdd false 1 2 false 1 3 M _ _ (raw_one k1 k2 (by omega)) (raw_one k3 k4 (by omega)) (hT.below bM))
  rw [small_large 2 (by omega) (by omega), small_large 3 (by omega) (by omega), half_third] at C
  have BM := Lib.hid bM
  clear k1 k2 k3 k4 bM hT
  go_enter Tryd.func17, Tryd.ntmps17
  go_wp2_with fail
  rw [← hM]
  clear hM
  refine C.out.mono ?_
  rintro e wa ⟨s9, A9, n9, c9, A9', n9', c9', k9, rfl, h9, b9⟩
  have BA := Lib.hid (below_step BM.out BM.out.size b9)
  have hf : fitQ (mkRat 5 6) := by
    obtain ⟨_, h2, h3⟩ := five_sixths
    unfold fitQ
    rw [h2, h3]
    exact ⟨Nat.le_trans (W_le_one (by omega)) (by omega), Nat.le_trans (W_le_one (by omega)) (by omega)⟩
  have hg : (if (false || false) = true then Out.err 1 else give (mkRat 5 6)) = .ok (mkRat 5 6) := by
    show give (mkRat 5 6) = _
    unfold give
    rw [if_pos hf]
  rw [hg] at h9
  obtain ⟨rfl, ⟨B1, b1, B2, b2, e, r1, r2⟩, _⟩ := h9
  obtain ⟨h1, h2, h3⟩ := five_sixths
  rw [h1, h2, h3] at e
  rw [h2, W_single (by omega) (by omega)] at r1
  rw [h3, DW, if_neg (by omega), W_single (by omega) (by omega)] at r2
  rw [W_single (by omega) (by omega), DW, if_neg (by omega), W_single (by omega) (by omega)] at e
  obtain ⟨p1, rfl⟩ := r1.some_ (by simp)
  obtain ⟨p2, rfl⟩ := r2.some_ (by simp)
  simp only [Value.agg.injEq, Array.mk.injEq, List.cons.injEq, Value.bool.injEq, Value.slice.injEq, and_true, List.length_cons, List.length_nil] at e
  obtain ⟨rfl, ⟨rfl, rfl, rfl⟩, rfl, rfl, rfl⟩ := e
  have q1 := r1.cell 0 (by simp)
  have q2 := r2.cell 0 (by simp)
  have e1 := r1.le
  have e2 := r2.le
  have e3 := r1.max
  have e4 := r2.max
  replace q1 : wa.cell? p1 = some (.int .u32 5) := by simpa [Addr.add, rd] using q1
  replace q2 : wa.cell? p2 = some (.int .u32 6) := by simpa [Addr.add, rd] using q2
  simp only [List.length_cons, List.length_nil] at e1 e2
  have ba := below_alloc wa (.cells #[.bool false, .slice (some p1) 1 c9, .slice (some p2) 1 c9'] 24)
  have q3 := cell_later ba q1
  have q4 := cell_later ba q2
  have BB := Lib.hid (below_step BA.out BA.out.size ba)
  clear r1 r2 ba C
  go_wp2
  go_ret
  exact ⟨rfl, BB.out⟩
end Go.Proofs.YtfmhplcpejmkhabDoor

namespace Go.Proofs.YtfmhplcpejmkhabDoor
open Go.RowKit Dig
set_option linter.unusedVariables false
set_option linter.unusedSimpArgs false
theorem qCmp (a b : Rat) (w : World) (v1 v2 : Value) (h1 : IsQ w v1 a) (h2 : IsQ w v2 b) (k1 : Rq 400000 a) (k2 : Rq 400000 b) :
    Calls Tryd.prog 40 #[v1, v2] w fun e w' => e = .returned (.int .i64 (cmpQ a b)) ∧ Below w.heap.size w w' := by
  obtain ⟨A1, c1, A2, c2, rfl, r1, r2⟩ := h1
  obtain ⟨A3, c3, A4, c4, rfl, r3, r4⟩ := h2
  exact rCmpQ (ng a) a.num.natAbs a.den (ng b) b.num.natAbs b.den w _ _ _ _ _ _ _ _ r1 r2 r3 r4 k1.1 k1.2 k2.1 k2.2 a.den_nz b.den_nz _ (rat_sub a b)
end Go.Proofs.YtfmhplcpejmkhabDoor

namespace Go.Proofs.YtfmhplcpejmkhabDoor
open Go.RowKit Dig
set_option linter.unusedVariables false
set_option linter.unusedSimpArgs false
theorem fit_step (k : Nat) (hk : k ≤ 255) : fitQ (mkRat 1 (2 ^ k)) := by
  have h : Wq 64 (mkRat 1 (2 ^ k)) := mk_Wq (Nat.ne_of_gt (Nat.two_pow_pos k)) (Nat.le_trans ((dig_length_le B32_two _ 2).2 (by unfold B32; decide)) (by omega : 2 ≤ 64))
    (Nat.le_trans ((dig_length_le B32_two _ 8).2 (Nat.lt_of_le_of_lt (Nat.pow_le_pow_right (by omega) hk) (by unfold B32; decide))) (by omega : 8 ≤ 64))
  exact h
theorem dn_one (k : Nat) : dnQ ((1 : Int) : Rat) k = mkRat 1 (2 ^ k) := by
  unfold dnQ
  rw [sg_ng]
  show mkRat 1 (1 * 2 ^ k) = _
  rw [Nat.one_mul]
set_option maxHeartbeats 4000000 in
set_option maxRecDepth 100000 in
theorem wNumberSteps (s1 : Bool) (N1 D1 : Nat) (k : Nat) (hk : k ≤ 255) (w : World) (v1 : Value) (h1 : RawV w v1 s1 N1 D1) (hT : Tab w) :
    Calls Tryd.prog 9 #[v1, .int .u8 k] w fun e w' => e = .returned (.bool true) ∧ Below w.heap.size w w' := by
  have H1 := Lib.hid h1
  have HT := Lib.hid hT
  obtain ⟨A1, n1, c1, A1', n1', c1', rfl⟩ := h1.shape
  clear hT h1
  obtain ⟨M, hM, k1, bM⟩ : ∃ M, M = w.alloc (.cells #[.bool s1, .slice A1 n1 c1, .slice A1' n1' c1'] 24) ∧ Box M w.heap.size (.bool s1) (.slice A1 n1 c1) (.slice A1' n1' c1') 24 ∧ Below w.heap.size w M := ⟨_, rfl, Box.new _ _ _ _ _, below_alloc _ _⟩
  have HX1 := Lib.hid k1
  have BM := Lib.hid bM
  replace HT := Lib.hid (HT.out.below bM)
  replace H1 := Lib.hid (H1.out.below bM)
  clear bM k1
  obtain ⟨q, hq⟩ : ∃ x, ratOf s1 N1 D1 = x := ⟨_, rfl⟩
  obtain ⟨L1, hL1⟩ : ∃ x, largeB s1 N1 D1 = x := ⟨_, rfl⟩
  obtain ⟨oa, hoa⟩ : ∃ o, gridOut L1 (k : Int) false q = o := ⟨_, rfl⟩
  obtain ⟨ob, hob⟩ : ∃ o, gridOut L1 (k : Int) true q = o := ⟨_, rfl⟩
  have CA := Lib.hid (fun (w : World) (h1 : RawV w (.agg #[.bool s1, .slice A1 n1 c1, .slice A1' n1' c1']) s1 N1 D1) (t : Tab w) => nDown s1 N1 D1 (k : Int) w _ h1 t)
  have CB := Lib.hid (fun (w : World) (h1 : RawV w (.agg #[.bool s1, .slice A1 n1 c1, .slice A1' n1' c1']) s1 N1 D1) (t : Tab w) => nUp s1 N1 D1 (k : Int) w _ h1 t)
  rw [hL1, hq, hoa] at CA
  rw [hL1, hq, hob] at CB
  have HQ := Lib.hid hq
  have HL := Lib.hid hL1
  have main : (oa = .err 1 ∨ oa = .ok (gridQ q k false)) ∧ (ob = .err 1 ∨ ob = .ok (gridQ q k true)) ∧ (L1 = true → oa = .err 1) := by
    rw [← hoa, ← hob]
    unfold gridOut
    cases L1
    · have hn : ¬ ((k : Int) < 0 ∨ 256 < (k : Int)) := by omega
      simp only [Bool.false_eq_true, if_false, if_neg hn, Int.toNat_natCast]
      refine ⟨?_, ?_, fun h => by simp at h⟩
      · rcases give_cases (gridQ q k false) with ⟨h, _⟩ | h
        · exact Or.inr h
        · exact Or.inl h
      · rcases give_cases (gridQ q k true) with ⟨h, _⟩ | h
        · exact Or.inr h
        · exact Or.inl h
    · simp
  have MA := Lib.hid main
  clear hoa hob hq hL1 main
  have u1 : IntKind.i64.wrap (k : Int) = (k : Int) := wrap_i64 _ (by omega) (by omega)
  have u2 : wrap64 (k : Int) = (k : Int) := by unfold wrap64; omega
  have u3 : IntKind.i64.wrap (-(k : Int)) = -(k : Int) := wrap_i64 _ (by omega) (by omega)
  have u4 : wrap64 (-(k : Int)) = -(k : Int) := by unfold wrap64; omega
  go_enter Tryd.func9, Tryd.ntmps9
  go_upto_region 1 with (fail)
  rw [← hM]
  clear hM
  obtain ⟨x1, y1, z1, _, _, _⟩ := HX1.out.cells
  go_wp2_with fail
  refine (CA.out _ H1.out HT.out).mono ?_
  rintro e wa ⟨pa, Pa, ma, da, Pa', ma', da', ka, rfl, ha, ba⟩
  have bq := below_step ba ba.size (below_alloc wa (.cells #[.bool pa, .slice Pa ma da, .slice Pa' ma' da'] 24))
  have HOa := Lib.hid (ha.below (below_alloc wa (.cells #[.bool pa, .slice Pa ma da, .slice Pa' ma' da'] 24)))
  have HZa := Lib.hid (Box.new wa (.bool pa) (.slice Pa ma da) (.slice Pa' ma' da') 24)
  replace HT := Lib.hid (HT.out.below bq)
  replace H1 := Lib.hid (H1.out.below bq)
  replace HX1 := Lib.hid (HX1.out.below bq)
  replace BM := Lib.hid (below_step BM.out BM.out.size bq)
  obtain ⟨va, hv⟩ : ∃ v, wa.alloc (.cells #[.bool pa, .slice Pa ma da, .slice Pa' ma' da'] 24) = v := ⟨_, rfl⟩
  clear bq ba ha x1 y1 z1
  go_upto_region 2 with (fail)
  rw [hv] at BM HT H1 HX1 HOa HZa
  try rw [hv]
  clear hv
  obtain ⟨x1, y1, z1, _, _, _⟩ := HX1.out.cells
  go_wp2_with fail
  refine (CB.out _ H1.out HT.out).mono ?_
  rintro e wb ⟨pb, Pb, mb, db, Pb', mb', db', kb, rfl, hb, bb⟩
  have bq := below_step bb bb.size (below_alloc wb (.cells #[.bool pb, .slice Pb mb db, .slice Pb' mb' db'] 24))
  have HOb := Lib.hid (hb.below (below_alloc wb (.cells #[.bool pb, .slice Pb mb db, .slice Pb' mb' db'] 24)))
  have HZb := Lib.hid (Box.new wb (.bool pb) (.slice Pb mb db) (.slice Pb' mb' db') 24)
  replace HT := Lib.hid (HT.out.below bq)
  replace H1 := Lib.hid (H1.out.below bq)
  replace HX1 := Lib.hid (HX1.out.below bq)
  replace HOa := Lib.hid (HOa.out.below bq)
  replace HZa := Lib.hid (HZa.out.below bq)
  replace BM := Lib.hid (below_step BM.out BM.out.size bq)
  obtain ⟨vb, hv⟩ : ∃ v, wb.alloc (.cells #[.bool pb, .slice Pb mb db, .slice Pb' mb' db'] 24) = v := ⟨_, rfl⟩
  clear bq bb hb x1 y1 z1
  go_upto_region 3 with (fail)
  rw [hv] at BM HT H1 HX1 HOa HZa HOb HZb
  try rw [hv]
  clear hv
  obtain ⟨hA, hB, hL⟩ := MA.out
  clear MA CA CB
  rcases hA with rfl | rfl
  · obtain rfl : ka = 1 := HOa.out.1
    rcases hB with rfl | rfl
    · obtain rfl : kb = 1 := HOb.out.1
      clear hL HOa HOb HZa HZb HX1 H1
      go_wp2_with fail
      refine (lAwake _ HT.out).mono ?_
      rintro e w9 ⟨rfl, b9⟩
      replace BM := Lib.hid (below_step BM.out BM.out.size b9)
      clear b9
      go_wp2
      go_ret
      exact ⟨rfl, BM.out⟩
    · obtain rfl : kb = 0 := HOb.out.1
      clear hL HOa HOb HZa HZb HX1 H1
      go_wp2_with fail
      refine (lAwake _ HT.out).mono ?_
      rintro e w9 ⟨rfl, b9⟩
      replace BM := Lib.hid (below_step BM.out BM.out.size b9)
      clear b9
      go_wp2
      go_ret
      exact ⟨rfl, BM.out⟩
  · obtain rfl : ka = 0 := HOa.out.1
    rcases hB with rfl | rfl
    · obtain rfl : kb = 1 := HOb.out.1
      clear hL HOa HOb HZa HZb HX1 H1
      go_wp2_with fail
      refine (lAwake _ HT.out).mono ?_
      rintro e w9 ⟨rfl, b9⟩
      replace BM := Lib.hid (below_step BM.out BM.out.size b9)
      clear b9
      go_wp2
      go_ret
      exact ⟨rfl, BM.out⟩
    · obtain rfl : kb = 0 := HOb.out.1
      have hL1 : L1 = false := by cases L1; rfl; exact absurd (hL rfl) (by simp)
      subst hL1
      clear hL
      have GS := Lib.hid (grid_steps q k)
      obtain ⟨a, hga⟩ : ∃ x, gridQ q k false = x := ⟨_, rfl⟩
      obtain ⟨b, hgb⟩ : ∃ x, gridQ q k true = x := ⟨_, rfl⟩
      rw [hga] at HOa GS
      rw [hgb] at HOb GS
      clear hga hgb
      have FA := Lib.hid HOa.out.2.2
      have FB := Lib.hid HOb.out.2.2
      obtain ⟨lo, hlo⟩ : ∃ x, cmpQ a q = x := ⟨_, rfl⟩
      obtain ⟨hi, hhi⟩ : ∃ x, cmpQ q b = x := ⟨_, rfl⟩
      obtain ⟨sm, hsm⟩ : ∃ x, cmpQ a b = x := ⟨_, rfl⟩
      have C1 := Lib.hid (fun (w : World) (h : OutIs w (Out.ok a) (.agg #[.bool pa, .slice Pa ma da, .slice Pa' ma' da']) 0) (h1 : RawV w (.agg #[.bool s1, .slice A1 n1 c1, .slice A1' n1' c1']) s1 N1 D1) (t : Tab w) => nCompare _ _ _ s1 N1 D1 w _ _ h.rawV h1 t lo 0 (by rw [large_self h.fit, HL.out, ratOf_self, HQ.out]; simpa [valO] using hlo) (by rw [large_self h.fit, HL.out]; simp))
      have C2 := Lib.hid (fun (w : World) (h1 : RawV w (.agg #[.bool s1, .slice A1 n1 c1, .slice A1' n1' c1']) s1 N1 D1) (h : OutIs w (Out.ok b) (.agg #[.bool pb, .slice Pb mb db, .slice Pb' mb' db']) 0) (t : Tab w) => nCompare s1 N1 D1 _ _ _ w _ _ h1 h.rawV t hi 0 (by rw [large_self h.fit, HL.out, ratOf_self, HQ.out]; simpa [valO] using hhi) (by rw [large_self h.fit, HL.out]; simp))
      have C3 := Lib.hid (fun (w : World) (h : OutIs w (Out.ok a) (.agg #[.bool pa, .slice Pa ma da, .slice Pa' ma' da']) 0) (h1 : OutIs w (Out.ok b) (.agg #[.bool pb, .slice Pb mb db, .slice Pb' mb' db']) 0) (t : Tab w) => nCompare _ _ _ _ _ _ w _ _ h.rawV h1.rawV t sm 0 (by rw [large_self h.fit, large_self h1.fit, ratOf_self, ratOf_self]; simpa [valO] using hsm) (by rw [large_self h.fit, large_self h1.fit]; simp))
      have CS := Lib.hid (fun (w : World) (h : OutIs w (Out.ok b) (.agg #[.bool pb, .slice Pb mb db, .slice Pb' mb' db']) 0) (h1 : OutIs w (Out.ok a) (.agg #[.bool pa, .slice Pa ma da, .slice Pa' ma' da']) 0) (t : Tab w) => nSub _ _ _ _ _ _ w _ _ h.rawV h1.rawV t)
      rw [large_self (q := valO (Out.ok a)) FA.out, large_self (q := valO (Out.ok b)) FB.out, ratOf_self, ratOf_self] at CS
      simp only [Bool.or_self, Bool.false_eq_true, if_false, valO] at CS
      have V1 := Lib.hid hlo
      have V2 := Lib.hid hhi
      have V3 := Lib.hid hsm
      clear hlo hhi hsm
      obtain ⟨x1, y1, z1, _, _, _⟩ := HZa.out.cells
      obtain ⟨x2, y2, z2, _, _, _⟩ := HX1.out.cells
      go_wp2_with fail
      refine (C1.out _ HOa.out H1.out HT.out).mono ?_
      rintro e wz ⟨rfl, bz⟩
      replace HT := Lib.hid (HT.out.below bz)
      replace H1 := Lib.hid (H1.out.below bz)
      replace HX1 := Lib.hid (HX1.out.below bz)
      replace HOa := Lib.hid (HOa.out.below bz)
      replace HZa := Lib.hid (HZa.out.below bz)
      replace HOb := Lib.hid (HOb.out.below bz)
      replace HZb := Lib.hid (HZb.out.below bz)
      replace BM := Lib.hid (below_step BM.out BM.out.size bz)
      clear bz x1 y1 z1 x2 y2 z2
      obtain ⟨x1, y1, z1, _, _, _⟩ := HX1.out.cells
      obtain ⟨x2, y2, z2, _, _, _⟩ := HZb.out.cells
      go_wp2_with fail
      refine (C2.out _ H1.out HOb.out HT.out).mono ?_
      rintro e wz ⟨rfl, bz⟩
      replace HT := Lib.hid (HT.out.below bz)
      replace H1 := Lib.hid (H1.out.below bz)
      replace HX1 := Lib.hid (HX1.out.below bz)
      replace HOa := Lib.hid (HOa.out.below bz)
      replace HZa := Lib.hid (HZa.out.below bz)
      replace HOb := Lib.hid (HOb.out.below bz)
      replace HZb := Lib.hid (HZb.out.below bz)
      replace BM := Lib.hid (below_step BM.out BM.out.size bz)
      clear bz x1 y1 z1 x2 y2 z2
      obtain ⟨x1, y1, z1, _, _, _⟩ := HZa.out.cells
      obtain ⟨x2, y2, z2, _, _, _⟩ := HZb.out.cells
      go_wp2_with fail
      refine (C3.out _ HOa.out HOb.out HT.out).mono ?_
      rintro e wz ⟨rfl, bz⟩
      replace HT := Lib.hid (HT.out.below bz)
      replace H1 := Lib.hid (H1.out.below bz)
      replace HX1 := Lib.hid (HX1.out.below bz)
      replace HOa := Lib.hid (HOa.out.below bz)
      replace HZa := Lib.hid (HZa.out.below bz)
      replace HOb := Lib.hid (HOb.out.below bz)
      replace HZb := Lib.hid (HZb.out.below bz)
      replace BM := Lib.hid (below_step BM.out BM.out.size bz)
      clear bz x1 y1 z1 x2 y2 z2
      clear C1 C2 C3 HX1 H1
      rcases GS.out with ⟨ea, eb⟩ | ⟨g1, g2, g3, g4⟩
      · obtain rfl : 0 = lo := by have := V1.out; rw [ea, cmp_eq rfl] at this; exact this
        obtain rfl : 0 = hi := by have := V2.out; rw [eb, cmp_eq rfl] at this; exact this
        obtain rfl : 0 = sm := by have := V3.out; rw [ea, eb, cmp_eq rfl] at this; exact this
        clear GS ea eb V1 V2 V3 CS HOa HOb HZa HZb FA FB
        go_wp2_with fail
        refine (lAwake _ HT.out).mono ?_
        rintro e w9 ⟨rfl, b9⟩
        replace BM := Lib.hid (below_step BM.out BM.out.size b9)
        clear b9
        go_wp2
        go_ret
        exact ⟨rfl, BM.out⟩
      · obtain rfl : -1 = lo := g1.symm.trans V1.out
        obtain rfl : -1 = hi := g2.symm.trans V2.out
        obtain rfl : -1 = sm := g3.symm.trans V3.out
        have FS := Lib.hid (fit_step k hk)
        rw [g4] at CS
        have e0 : give (mkRat 1 (2 ^ k)) = .ok (mkRat 1 (2 ^ k)) := by unfold give; rw [if_pos FS.out]
        rw [e0] at CS
        have KD := Lib.hid (dn_one k)
        obtain ⟨st, hst⟩ : ∃ x, mkRat 1 (2 ^ k) = x := ⟨_, rfl⟩
        rw [hst] at CS FS KD
        have CI := Lib.hid (fun w => rInt 1 (by omega) (by omega) w)
        have K1 := Lib.hid (show Rq 400000 ((1 : Int) : Rat) from ⟨Nat.le_trans ((dig_length_le B16_two _ 4).2 (by unfold B16; decide)) (by omega : 4 ≤ 400000), Nat.le_trans ((dig_length_le B16_two _ 4).2 (by unfold B16; decide)) (by omega : 4 ≤ 400000)⟩)
        generalize ((1 : Int) : Rat) = one at *
        clear GS g1 g2 g3 g4 V1 V2 V3 hst e0
        obtain ⟨x1, y1, z1, _, _, _⟩ := HZb.out.cells
        obtain ⟨x2, y2, z2, _, _, _⟩ := HZa.out.cells
        go_wp2_with fail
        refine (CS.out _ HOb.out HOa.out HT.out).mono ?_
        rintro e ws ⟨ps, Ps, ms, ds, Ps', ms', ds', ks, rfl, hs, bs⟩
        have bq := below_step bs bs.size (below_alloc ws (.cells #[.bool ps, .slice Ps ms ds, .slice Ps' ms' ds'] 24))
        have HOs := Lib.hid (hs.below (below_alloc ws (.cells #[.bool ps, .slice Ps ms ds, .slice Ps' ms' ds'] 24)))
        have HZs := Lib.hid (Box.new ws (.bool ps) (.slice Ps ms ds) (.slice Ps' ms' ds') 24)
        replace HT := Lib.hid (HT.out.below bq)
        replace HOa := Lib.hid (HOa.out.below bq)
        replace HZa := Lib.hid (HZa.out.below bq)
        replace HOb := Lib.hid (HOb.out.below bq)
        replace HZb := Lib.hid (HZb.out.below bq)
        replace BM := Lib.hid (below_step BM.out BM.out.size bq)
        obtain ⟨vs, hv⟩ : ∃ v, ws.alloc (.cells #[.bool ps, .slice Ps ms ds, .slice Ps' ms' ds'] 24) = v := ⟨_, rfl⟩
        clear bq bs hs x1 y1 z1 x2 y2 z2
        go_upto_region 13 with (fail)
        rw [hv] at BM HT HOa HZa HOb HZb HOs HZs
        try rw [hv]
        clear hv
        clear HOa HZa HOb HZb
        obtain rfl : ks = 0 := HOs.out.1
        obtain ⟨x1, y1, z1, _, _, _⟩ := HZs.out.cells
        go_wp2_with fail
        refine (ofQ _ _ _ _ st _ HOs.out.rawV (large_self HOs.out.fit) (ratOf_self _)).mono ?_
        rintro e wd ⟨t4, B4, m4, e4, B4', m4', e4', rfl, i4, bd⟩
        replace HT := Lib.hid (HT.out.below bd)
        replace BM := Lib.hid (below_step BM.out BM.out.size bd)
        clear bd x1 y1 z1 HOs HZs
        go_wp2_with fail
        refine (CI.out _).mono ?_
        rintro e wi ⟨t5, B5, m5, e5, B5', m5', e5', rfl, i5, bi⟩
        replace HT := Lib.hid (HT.out.below bi)
        replace i4 := Lib.hid (i4.out.below bi)
        replace BM := Lib.hid (below_step BM.out BM.out.size bi)
        clear bi
        go_wp2_with fail
        refine (qDn one k (by omega) _ _ i5.out K1.out st KD.out).mono ?_
        rintro e wn ⟨t6, B6, m6, e6, B6', m6', e6', rfl, i6, bn⟩
        replace HT := Lib.hid (HT.out.below bn)
        replace i4 := Lib.hid (i4.out.below bn)
        replace BM := Lib.hid (below_step BM.out BM.out.size bn)
        clear bn
        have CC := Lib.hid (fun w v1 v2 h1 h2 => qCmp st st w v1 v2 h1 h2 (fit_Rq FS.out (by omega)) (fit_Rq FS.out (by omega)))
        rw [cmp_eq (rfl : st = st)] at CC
        go_wp2_with fail
        refine (CC.out _ _ _ i4.out i6.out).mono ?_
        rintro e wc ⟨rfl, bc⟩
        replace HT := Lib.hid (HT.out.below bc)
        replace BM := Lib.hid (below_step BM.out BM.out.size bc)
        clear bc
        go_wp2_with fail
        refine (lAwake _ HT.out).mono ?_
        rintro e w9 ⟨rfl, b9⟩
        replace BM := Lib.hid (below_step BM.out BM.out.size b9)
        clear b9
        go_wp2
        go_ret
        exact ⟨rfl, BM.out⟩
theorem wNumberSteps8 (s1 : Bool) (N1 D1 : Nat) (n : Int) (hn : (Lit.int .u8 n).wf = true) (w : World) (v1 : Value) (h1 : RawV w v1 s1 N1 D1) (hT : Tab w) :
    Calls Tryd.prog 9 #[v1, .int .u8 n] w fun e w' => e = .returned (.bool true) ∧ Below w.heap.size w w' := by
  simp only [Lit.wf, Bool.and_eq_true, decide_eq_true_eq] at hn
  have e1 : IntKind.min .u8 = 0 := by decide
  have e2 : IntKind.max .u8 = 255 := by decide
  rw [e1, e2] at hn
  obtain ⟨k, rfl⟩ : ∃ k : Nat, n = (k : Int) := ⟨n.toNat, by omega⟩
  exact wNumberSteps s1 N1 D1 k (by omega) w v1 h1 hT
end Go.Proofs.YtfmhplcpejmkhabDoor

namespace Go.Proofs.YtfmhplcpejmkhabDoor
open Go.ChangeShapes Go.WideShapes Go.ChangeAt Go.RowKit Dig
set_option linter.unusedVariables false
set_option linter.unusedSimpArgs false
theorem own : ownKnob Tryd.prog.godebug = none := by kernel_rfl
theorem gTab : Tryd.prog.globalNamed "math/bits.deBruijn32tab" = some 0 := by kernel_rfl
theorem gTabType : (Tryd.prog.globals[0]?).map (·.type) = some 131 := by kernel_rfl
theorem cellsTab : Tryd.prog.cellsOf 131 = 32 := by kernel_rfl
theorem cellsU8 : Tryd.prog.cellsOf 5 = 1 := by kernel_rfl
theorem cellsU32 : Tryd.prog.cellsOf 72 = 1 := by kernel_rfl
theorem cellsRat : Tryd.prog.cellsOf 24 = 3 := by kernel_rfl
theorem laidOut : laidOutB Tryd.prog = true := by kernel_rfl
theorem tab_of {W : World} (h : laidMetH Tryd.prog [("math/bits.deBruijn32tab", Rows.laid_math_bits_deBruijn32tab)] W) : Tab W := by
  have t : Lib.TabIs Tryd.prog W "math/bits.deBruijn32tab" .u8 (Lib.deBruijn32tab.map Int.ofNat) :=
    Lib.tabIs_of_head (rest := []) gTab gTabType Tryd.underlying131 Tryd.underlying5 cellsU8 cellsTab h
  intro j hj
  have hc := t.cell gTab j (by simpa using hj)
  rw [hc]
  congr 2
  simp [List.getD, hj]
set_option maxRecDepth 100000 in
/-- a slice of words that comes in -/
theorem open_rd {H : Type} {enc : TypeId × Value → H} {W : World} {n : Nat} {v : Value} {y : DataW H × List MemPlace} (h : DataW.trod enc Tryd.prog W 0 (fun _ => true) true n 22 [v] = some y) :
    ∃ A c l, v = .slice A l.length c ∧ Rd W A c l ∧ Ok B32 l ∧ l.length < Rows.uptoBulk y.1 := by
  rcases open_ints Tryd.underlying22 Tryd.underlying72 cellsU32 h with ⟨e, rfl⟩ | ⟨a, len, cap, zs, e, _, hl, hm, hz, rfl, hc, hw⟩
  · obtain rfl : v = .slice none 0 0 := by simpa using e
    exact ⟨none, 0, [], rfl, ⟨Nat.le_refl _, Nat.zero_le _, fun j hj => absurd hj (Nat.not_lt_zero _)⟩, (fun x (hx : x ∈ []) => by simp at hx), by simp [Rows.uptoBulk]⟩
  · obtain rfl : v = .slice (some a) len cap := by simpa using e
    rw [if_pos rfl] at hz
    refine ⟨some a, cap, zs.take len, by simp [hz, Nat.min_eq_left hl], ⟨by simp [hz]; omega, by unfold maxLen at hm; omega, ?_⟩, ?_, ?_⟩
    · intro j hj
      have hj' : j < len := by simp [hz] at hj; omega
      refine ⟨a, rfl, ?_⟩
      rw [hc j (by omega)]
      have : j < zs.length := by omega
      simp [rd, List.getD, hj', List.getElem?_take]
    · intro x hx
      have := hw x (List.mem_of_mem_take hx)
      simp only [Lit.wf, Bool.and_eq_true, decide_eq_true_eq] at this
      have e1 : IntKind.min .u32 = 0 := by decide
      have e2 : IntKind.max .u32 = 4294967295 := by decide
      rw [e1, e2] at this
      unfold B32
      omega
    · have : ∀ l : List (DataW H), l.length ≤ Rows.uptoBulkAll l := by
        intro l
        induction l with
        | nil => simp [Rows.uptoBulkAll]
        | cons x r ih =>
          have h1 : 1 ≤ Rows.uptoBulk x := by
            cases x with
            | lit l => cases l <;> simp [Rows.uptoBulk]
            | _ => simp [Rows.uptoBulk]
          simp only [Rows.uptoBulkAll, List.length_cons]
          omega
      have h2 := this (lits (H := H) .u32 (zs.take len))
      have h3 : (lits (H := H) .u32 (zs.take len)).length = (zs.take len).length := by simp [lits]
      simp only [Rows.uptoBulk]
      omega
theorem fin_agg3 {H : Type} (a b c : DataW H) : Rows.uptoBulk b < Rows.uptoBulk (.agg [a, b, c]) ∧ Rows.uptoBulk c < Rows.uptoBulk (.agg [a, b, c]) := by
  have h1 : ∀ x : DataW H, 1 ≤ Rows.uptoBulk x := by
    intro x
    cases x with
    | lit l => cases l <;> simp [Rows.uptoBulk]
    | _ => simp [Rows.uptoBulk]
  have ha := h1 a
  have hb := h1 b
  have hc := h1 c
  simp only [Rows.uptoBulk, Rows.uptoBulkAll]
  omega
set_option maxRecDepth 100000 in
/-- a number that comes in, whatever its length -/
theorem open_rat {H : Type} {enc : TypeId × Value → H} {W : World} {b0 : Nat} {v : Value} {d : DataW H} {p : List MemPlace} (hv : Value.okWide Tryd.prog W .any b0 24 v) (h : DataW.Trod enc Tryd.prog W 0 (fun _ => true) true 24 v d p) :
    ∃ s A1 c1 l1 A2 c2 l2, v = .agg #[.bool s, .slice A1 l1.length c1, .slice A2 l2.length c2] ∧ Rd W A1 c1 l1 ∧ Rd W A2 c2 l2 ∧ Ok B32 l1 ∧ Ok B32 l2 ∧ l1.length + 1 < Rows.uptoBulk d ∧ l2.length + 1 < Rows.uptoBulk d := by
  obtain ⟨v0, v1, v2, y0, y1, y2, n, rfl, rfl, rfl, h0, h1, h2⟩ := Joins.open_agg3 Tryd.underlying24 (by kernel_rfl) cellsRat hv h
  obtain ⟨A1, c1, l1, rfl, r1, o1, k1⟩ := open_rd h1
  obtain ⟨A2, c2, l2, rfl, r2, o2, k2⟩ := open_rd h2
  have hb : ∃ s, v0 = .bool s := by
    obtain ⟨s, h', _⟩ := DataW.trod_bool Tryd.underlying4 h0
    exact ⟨s, by simpa using h'⟩
  obtain ⟨s, rfl⟩ := hb
  obtain ⟨q1, q2⟩ := fin_agg3 y0.1 y1.1 y2.1
  exact ⟨s, A1, c1, l1, A2, c2, l2, rfl, r1, r2, o1, o2, by omega, by omega⟩
set_option maxRecDepth 100000 in
theorem open_raw {H : Type} {enc : TypeId × Value → H} {W : World} {b0 : Nat} {v : Value} {d : DataW H} {p : List MemPlace} (hv : Value.okWide Tryd.prog W .any b0 24 v) (h : DataW.Trod enc Tryd.prog W 0 (fun _ => true) true 24 v d p)
    (hk : Rows.uptoBulk d ≤ 1048576) : ∃ s N D, RawV W v s N D := by
  obtain ⟨s, A1, c1, l1, A2, c2, l2, e, r1, r2, o1, o2, k1, k2⟩ := open_rat hv h
  obtain ⟨N, hN⟩ := Int.eq_ofNat_of_zero_le (val_nonneg o1)
  obtain ⟨D, hD⟩ := Int.eq_ofNat_of_zero_le (val_nonneg o2)
  exact ⟨s, N, D, A1, c1, l1, A2, c2, l2, e, r1, r2, o1, o2, hN, hD, by omega, by omega⟩
set_option maxRecDepth 100000 in
/-- the arguments read behind the call as they did -/
theorem stays {H : Type} {enc : TypeId × Value → H} {W W' : World} (hb : Below W.heap.size W W') {sp : Nat → Bool} :
    ∀ {ts : List TypeId} {vs : List Value} {ds : List (DataW H)} {ps : List MemPlace}, (∀ t ∈ ts, Tryd.prog.readableRec t = true ∧ t < Tryd.prog.types.size) →
      DataW.TrodAll enc Tryd.prog W 0 (fun _ => true) true ts vs ds ps → (∀ p ∈ ps, sp p.block = true) → DataW.TrodAll enc Tryd.prog W' 0 sp true ts vs ds ps
  | [], [], [], _, _, h, _ => h
  | _ :: _, _ :: _, _ :: _, _, hT, h, hs => by
    have hlt := h.lt
    obtain ⟨p, q, h1, h2, e⟩ := h
    refine ⟨p, q, ?_, stays hb (fun t ht => hT t (List.mem_cons.2 (Or.inr ht))) h2 (fun x hx => hs x (by rw [e]; exact List.mem_append_right _ hx)), e⟩
    exact WideElems.Trod_stays laidOut (hT _ (List.mem_cons.2 (Or.inl rfl))).1 (hT _ (List.mem_cons.2 (Or.inl rfl))).2 h1
      (fun x hx => hb.same (hlt x (by rw [e]; exact List.mem_append_left _ hx))) (fun x hx => hs x (by rw [e]; exact List.mem_append_left _ hx))
set_option maxRecDepth 100000 in
/-- what the answer true gives, where nothing old has turned -/
theorem said_true {H : Type} {enc : TypeId × Value → H} {f : Func} {s : ChangeSpec} {W W' : World} {args : Array Value} {ds gs : List (DataW H)} {before : List MemPlace}
    (hW : DataW.Whole enc Tryd.prog f.params.toList s.vars false W args.toList ds gs before) (hv : s.vars = []) (hT : ∀ t ∈ f.params.toList, Tryd.prog.readableRec t = true ∧ t < Tryd.prog.types.size)
    (hr : f.resultTypes = #[4]) (e1 : (s.fn H (ds ++ gs)).results = [.lit (.bool true)]) (e2 : (s.fn H (ds ++ gs)).args = ds) (e3 : (s.fn H (ds ++ gs)).vars = []) (hb : Below W.heap.size W W') :
    s.post enc Tryd.prog f false true false false W args (.bool true) W' := by
  have hW' := hW
  obtain ⟨p, q, hA, hV, rfl, _, _⟩ := hW'
  rw [hv] at hV
  obtain ⟨rfl, rfl⟩ := trodVars_none hV
  have lt := hW.lt
  have ok : ∀ (j : Nat) (t : TypeId) (r : Value), f.resultTypes[j]? = some t → ((Value.bool true).resultList f.resultTypes.size)[j]? = some r → Value.okWide Tryd.prog W' .any 0 t r := ok_one hr rfl (okWide_bool_mk Tryd.underlying4 _)
  have res : ∀ (b : Nat) (sp : Nat → Bool) (hd : Bool), DataW.TrodAll enc Tryd.prog W' b sp hd f.resultTypes.toList ((Value.bool true).resultList f.resultTypes.size) (s.fn H (ds ++ [])).results [] := fun _ _ _ => by
    rw [e1, hr]
    exact trodAll_mk1 (shut_bool Tryd.underlying4 _)
  have arg : ∀ sp : Nat → Bool, (∀ x ∈ p ++ [], sp x.block = true) → DataW.TrodAll enc Tryd.prog W' 0 sp true f.params.toList args.toList (s.fn H (ds ++ [])).args p := fun sp hs => by
    rw [e2]
    exact stays hb hT hA (fun x hx => hs x (by simpa using hx))
  have var : ∀ sp : Nat → Bool, DataW.TrodVars enc Tryd.prog W' sp s.vars (s.fn H (ds ++ [])).vars [] := fun _ => by
    rw [e3, hv]
    rfl
  have hold : ∀ x ∈ p ++ [], (fun b => decide (b < W.heap.size)) x.block = true := fun x hx => by simpa using lt x hx
  refine ⟨ds, [], p ++ [], [], p, [], hW, res _ _ _, arg _ hold, var _, hb.frame _, fun h => by cases h⟩
end Go.Proofs.YtfmhplcpejmkhabDoor

namespace Go.Proofs.YtfmhplcpejmkhabDoor.lawNumberSteps
open Go.ChangeShapes Go.WideShapes Go.ChangeAt Go.RowKit Dig
set_option linter.unusedVariables false
set_option linter.unusedSimpArgs false
set_option maxRecDepth 100000 in
theorem contract (H : Type) (enc : TypeId × Value → H) (W : World) (base : Nat) (args : Array Value) (ds gs : List (DataW H)) (before : List MemPlace)
    (hval : ∀ (j : Nat) t v, Tryd.f9.params[j]? = some t → args[j]? = some v → Value.okWide Tryd.prog W .any base t v)
    (hW : DataW.Whole enc Tryd.prog Tryd.f9.params.toList Rows.numberStepsSpec.vars false W args.toList ds gs before) (hL : laidMetH Tryd.prog Rows.numberStepsUptoRow.laid W)
    (hk : Rows.uptoBulkAll (ds ++ gs) ≤ 1048576) :
    Calls Tryd.prog 9 args W fun e W' => ∃ v, e = .returned v ∧ Rows.numberStepsSpec.post enc Tryd.prog Tryd.f9 false true false false W args v W' := by
  have hW' := hW
  obtain ⟨p, q, hA0, hV, rfl, hfz, hnd⟩ := hW
  have hA : DataW.TrodAll enc Tryd.prog W 0 (fun _ => true) true Tryd.f9.params.toList args.toList ds p := hA0
  rw [Tryd.params9] at hA hval
  obtain ⟨v0, vs0, d0, ds0, p0, q0, hv0, rfl, rfl, h0, r0⟩ := trodAll_cons hA
  obtain ⟨v1, vs1, d1, ds1, p1, q1, hv1, rfl, rfl, h1, r1⟩ := trodAll_cons r0
  obtain ⟨hn, rfl, rfl⟩ := trodAll_nil r1
  obtain rfl : args = #[v0, v1] := by cases args; simp_all
  obtain ⟨rfl, rfl⟩ := trodVars_none hV
  have hT := tab_of hL
  simp only [List.append_nil, Rows.uptoBulkAll] at hk
  obtain ⟨s0, N0, D0, k0⟩ := open_raw (hval 0 24 v0 rfl rfl) h0 (by omega)
  obtain ⟨n1, rfl, rfl, x1, y1⟩ := open_int Tryd.underlying5 (hval 1 5 v1 rfl rfl) h1
  refine (wNumberSteps8 s0 N0 D0 n1 y1 W _ k0 hT).mono fun e W' ⟨he, hb⟩ => ?_
  subst he
  exact ⟨_, rfl, said_true hW' rfl (by rw [Tryd.params9]; intro t ht; simp at ht; rcases ht with rfl | rfl <;> (exact ⟨by kernel_rfl, of_decide_eq_true (by kernel_rfl)⟩)) (by kernel_rfl) rfl rfl rfl hb⟩

noncomputable def laidWorld (os : Os) : World :=
  { World.holding Tryd.prog os ⟨#[], #[], []⟩ with heap := (World.holding Tryd.prog os ⟨#[], #[], []⟩).heap.modify 0 fun
      | .cells _ t frozen => .cells ((Lib.deBruijn32tab.map fun n => Value.int .u8 (Int.ofNat n)).toArray) t frozen
      | o => o }
theorem laid_met (os : Os) : laidMet Tryd.prog Rows.numberStepsUptoRow.laid ((laidWorld os).forCall (fun _ _ => 0) ⟨#[], #[.agg #[.bool false, .slice none 0 0, .slice none 0 0], .int .u8 0], []⟩).memory :=
  laidMet_of_run' 64 (by kernel_rfl) (by kernel_rfl)
theorem reads (os : Os) {H : Type} (enc : TypeId × Value → H) : ∃ places, DataW.whole enc Tryd.prog ((laidWorld os).forCall (fun _ _ => 0) ⟨#[], #[.agg #[.bool false, .slice none 0 0, .slice none 0 0], .int .u8 0], []⟩).memory Tryd.f9.params.toList Rows.numberStepsSpec.vars false (#[.agg #[.bool false, .slice none 0 0, .slice none 0 0], .int .u8 0] : Array Value).toList 64 = some ([.agg [.lit (.bool false), .nil, .nil], .lit (.int .u8 0)], [], places) :=
  ⟨[], by kernel_rfl⟩
set_option maxRecDepth 100000 in
theorem lifted (os : Os) (started : os.Started) (H : Type) (enc : TypeId × Value → H) (F : Stop.Interp) :
    ReturnsInHanded {} Tryd.checked os 9 .any ((Rows.OpenSpec.upto Rows.numberStepsSpec).preRow enc Tryd.prog Tryd.f9 Rows.numberStepsUptoRow.domain false Rows.numberStepsUptoRow.laid) (((Rows.OpenSpec.upto Rows.numberStepsSpec).at F).post enc Tryd.prog Tryd.f9 false true false false) := by
  obtain ⟨places, hx⟩ := reads os enc
  refine returnsInHanded_of_row (C := Tryd.checked) (s := Rows.OpenSpec.upto Rows.numberStepsSpec) own started (by kernel_rfl) Tryd.func9
    (witness_row_at (enc := enc) (C := Tryd.checked) false (laidWorld os) #[.agg #[.bool false, .slice none 0 0, .slice none 0 0], .int .u8 0] rfl (by kernel_rfl) (by kernel_rfl) (by kernel_rfl)
      (OpenSpec.preRow_of_cond 64 hx (by kernel_rfl) (fun k hk => by cases hk; kernel_rfl) (by kernel_rfl) (laid_met os))) ?_
  intro W base args ds gs before hval hW _ hcond hreach hL _ _
  exact contract H enc W base args ds gs before hval hW hL (by simpa [Rows.uptoSmall] using hcond _ rfl)
theorem said : Rows.NumberStepsUptoSaid :=
  OpenClaim.holds_of_cond 9 Tryd.f9 rfl rfl rfl rfl rfl rfl rfl ⟨rfl, rfl, rfl, rfl, rfl⟩ rfl rfl rfl rfl rfl (by kernel_rfl) Tryd.func9 (by kernel_rfl)
    (of_decide_eq_true (by kernel_rfl)) (by unfold Func.isWrapper; first | (rw [if_pos (by decide +kernel)]; kernel_rfl) | (rw [if_neg (by decide +kernel)]; exact ⟨rfl, rfl⟩))
    (fun os started H enc _ F => by rw [OpenClaim.pre_eq_preRow]; exact lifted os started H enc F)
theorem plain (f : FuncId) (fn : Func) (hf : Tryd.pinned.checked.prog.funcNamed "inequality/inequalitylaw01.NumberSteps" = some f) (hfn : Tryd.pinned.checked.prog.funcs[f]? = some fn) :
    false = Tryd.pinned.checked.prog.looks [] ∧ ∀ (j : Nat) t, fn.params[j]? = some t → Tryd.pinned.checked.prog.wantsStandIn t = false := by
  obtain rfl : f = 9 := Option.some.inj ((show Tryd.prog.funcNamed "inequality/inequalitylaw01.NumberSteps" = some 9 by kernel_rfl).symm.trans hf) |>.symm
  obtain rfl : fn = Tryd.f9 := (Option.some.inj (Tryd.func9.symm.trans hfn)).symm
  refine ⟨by kernel_rfl, fun j t ht => ?_⟩
  rw [Tryd.params9] at ht
  have hm := Array.mem_of_getElem? ht
  simp at hm
  rcases hm with rfl | rfl
  · exact (show Tryd.prog.wantsStandIn 24 = false by kernel_rfl)
  · exact (show Tryd.prog.wantsStandIn 5 = false by kernel_rfl)
theorem card : Rows.NumberStepsUptoCardSaid :=
  Claim7.holds_tied_plain_at .later [] _ _ _ _ said (fun _ h => by cases h) (by kernel_rfl) (fun _ h => by cases h) numberStepsUpto_row_tie rfl ⟨rfl, rfl⟩ (by kernel_rfl) rfl plain (by kernel_rfl)
end Go.Proofs.YtfmhplcpejmkhabDoor.lawNumberSteps
