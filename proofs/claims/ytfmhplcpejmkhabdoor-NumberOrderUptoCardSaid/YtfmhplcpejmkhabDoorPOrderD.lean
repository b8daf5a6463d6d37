/-
  Contracts of number.round, Down, Up. Under the premise that the table of math/bits lies as its initialiser lays it.
  Contracts of two values that have been read.
  How rational numbers compare: plain laws.
  Contracts of number.Compare. Under the premise that the table of math/bits lies as its initialiser lays it.
  Results of operations as values: an error's value is the zero value.
  Contracts: number.Sign, the reference's Mag. Under the premise that the table of math/bits lies as its initialiser lays it.
  Contract of the statements' own awake.
  The walk of the statement NumberOrder. Under the premise that the table of math/bits lies as its initialiser lays it.
  From a row's reading to the walks' premises: a number as it comes in, the table of math/bits, and what an answer 'true' over untouched arguments gives.
  The statement NumberOrderUptoCardSaid: the row, and the card over it. Conditions: the walks' none but what the row's reading and its listed table give.
-/
import Derived.Test.YtfmhplcpejmkhabDoorCards
import Derived.Test.YtfmhplcpejmkhabDoorTie
import Derived.WalkKit
import Derived.ProofKit
import Derived.OpenShut
import Derived.Carry
import Derived.Deep.DeepHandedRow
import Derived.Lib.LaidTab
import Derived.Lib.SmallJoins
import Derived.ChangeSlices
import Derived.Test.YtfmhplcpejmkhabDoorPOrderC
namespace Go.Proofs.YtfmhplcpejmkhabDoor
open Go.RowKit Dig
set_option linter.unusedVariables false
set_option linter.unusedSimpArgs false
/-- a value that has been read, and a variable for a result -/
structure N1 (w M : World) (g3 g : Nat) (s : Bool) (A1 : Option Addr) (n1 c1 : Nat) (B1 : Option Addr) (m1 d1 : Nat) : Prop where
  res : Res M g3 24
  box : Box M g (.bool s) (.slice A1 n1 c1) (.slice B1 m1 d1) 65
  tab : Tab M
  bel : Below w.heap.size w M
  n3 : w.heap.size ≤ g3
  ne : g ≠ g3
theorem N1.below {w M M' : World} {g3 g : Nat} {s : Bool} {A1 : Option Addr} {n1 c1 : Nat} {B1 : Option Addr} {m1 d1 : Nat} (h : N1 w M g3 g s A1 n1 c1 B1 m1 d1) (hb : Below M.heap.size M M') : N1 w M' g3 g s A1 n1 c1 B1 m1 d1 :=
  ⟨h.res.below hb, h.box.below hb, h.tab.below hb, below_step h.bel h.bel.size hb, h.n3, h.ne⟩
theorem Calls.partsF {f : Nat} {args : Array Value} {w : World} {q : Rat} (h : Calls Tryd.prog f args w fun e w' => ∃ u, e = .returned u ∧ IsF w' u q ∧ Below w.heap.size w w') :
    Calls Tryd.prog f args w fun e w' => ∃ t B1 m1 e1 B2 m2 e2, e = .returned (.agg #[.bool t, .slice B1 m1 e1, .slice B2 m2 e2]) ∧ Hid (IsF w' (.agg #[.bool t, .slice B1 m1 e1, .slice B2 m2 e2]) q) ∧ Below w.heap.size w w' := by
  refine h.mono ?_
  rintro e w' ⟨u, rfl, hq, hb⟩
  have hq2 := hq
  obtain ⟨A1, c1, A2, c2, rfl, r1, r2⟩ := hq
  exact ⟨_, _, _, _, _, _, _, rfl, hq2, hb⟩
def gridOut (L : Bool) (p : Int) (up : Bool) (q : Rat) : Out := if L = true then .err 1 else if p < 0 ∨ 256 < p then .err 2 else give (gridQ q p.toNat up)
theorem fGrid (a : Rat) (p : Nat) (up : Bool) (lp : p ≤ 100000) (w : World) (v1 : Value) (h1 : IsF w v1 a) (k : Wq 200000 a) (hT : Tab w) : Calls Tryd.prog 116 #[v1, .int .i64 p, .bool up] w fun e w' => ∃ u, e = .returned u ∧ IsF w' u (gridQ a p up) ∧ Below w.heap.size w w' := by
  obtain ⟨A1, c1, A2, c2, rfl, r1, r2⟩ := h1
  exact fracGrid _ _ _ p up w _ _ _ _ r1 r2 k.1 k.2 lp a.den_nz hT
set_option maxHeartbeats 2000000 in
set_option maxRecDepth 100000 in
theorem nround_large (s1 : Bool) (N1' D1' : Nat) (p : Int) (up : Bool) (w : World) (v1 : Value) (h1 : RawV w v1 s1 N1' D1') (hT : Tab w) (q : Rat) (hq : ratOf s1 N1' D1' = q) (hL : largeB s1 N1' D1' = true) :
    Calls Tryd.prog 82 #[v1, .int .i64 p, .bool up] w (OutPost w (Out.err 1)) := by
  have H1 := Lib.hid h1
  have HT := Lib.hid hT
  obtain ⟨A1, n1, c1, A1', n1', c1', rfl⟩ := h1.shape
  clear h1 hT
  obtain ⟨M, hM, k1, k3, bM⟩ := start1 w (.bool s1) (.slice A1 n1 c1) (.slice A1' n1' c1') (.bool false) (.slice none 0 0) (.slice none 0 0) 24 24
  have HX := Lib.hid k1
  have HR := Lib.hid (show Res M (w.heap.size + 1) 24 from ⟨_, _, _, NI.bool _, NI.slice _ _ _, NI.slice _ _ _, k3⟩)
  have BM := Lib.hid bM
  replace H1 := Lib.hid (H1.out.below bM)
  replace HT := Lib.hid (HT.out.below bM)
  have HQ := Lib.hid hq
  have HL := Lib.hid hL
  obtain ⟨o, ho⟩ : ∃ o, Out.err 1 = o := ⟨_, rfl⟩
  have HO := Lib.hid ho
  rw [ho]
  clear hq hL k1 k3 bM ho
  go_enter Tryd.func82, Tryd.ntmps82
  go_upto_region 1 with (fail)
  rw [← hM]
  clear hM
  obtain ⟨x1, x2, x3, _, _, _⟩ := HX.out.cells
  go_wp2_with fail
  refine (readV _ s1 N1' D1' _ H1.out HT.out).mono ?_
  rw [HL.out, Bool.not_true]
  rintro e wa ⟨t1, B1, m1, d1, B1', m1', d1', rfl, f1, ba⟩
  have bb := below_step ba ba.size (below_alloc wa (.cells #[.bool t1, .slice B1 m1 d1, .slice B1' m1' d1'] 65))
  have hf1 := Box.new wa (.bool t1) (.slice B1 m1 d1) (.slice B1' m1' d1') 65
  have szw : w.heap.size + 1 < wa.heap.size := Nat.lt_of_lt_of_le (by obtain ⟨_, _, _, _, _, _, hh⟩ := HR.out; exact hh.lt) ba.size
  have TA : Hid (N1 w (wa.alloc (.cells #[.bool t1, .slice B1 m1 d1, .slice B1' m1' d1'] 65)) (w.heap.size + 1) wa.heap.size t1 B1 m1 d1 B1' m1' d1') :=
    Lib.hid ⟨HR.out.below bb, hf1, HT.out.below bb, below_step BM.out BM.out.size bb, by omega, by omega⟩
  obtain ⟨w2, hw2⟩ : ∃ w2, wa.alloc (.cells #[.bool t1, .slice B1 m1 d1, .slice B1' m1' d1'] 65) = w2 := ⟨_, rfl⟩
  obtain ⟨gf, hgf⟩ : ∃ gf, wa.heap.size = gf := ⟨_, rfl⟩
  clear x1 x2 x3 ba bb f1 hf1 szw HR BM HX H1 HT
  go_upto_region 2 with (fail)
  rw [hw2] at TA
  try rw [hw2]
  rw [hgf] at TA
  try rw [hgf]
  clear hw2 hgf
  obtain ⟨y1, y2, y3, _⟩ := TA.out.box.cells
  obtain ⟨z1, z2, z3, hy1, hy2, hy3, f1, f2, f3⟩ := TA.out.res.cells
  obtain ⟨q0, q1, q2, hs, hb⟩ := OutIs.stored (o := .err 1) (k := 1) (s := false) (A1 := none) (A2 := none) (n1 := 0) (c1 := 0) (n2 := 0) (c2 := 0) ⟨rfl, rfl, by omega, by omega⟩ TA.out.res TA.out.bel TA.out.n3
  have Q := Lib.hid (And.intro q0 (And.intro q1 q2))
  have HBB := Lib.hid hb
  clear q0 q1 q2 hs hb
  go_wp2_with fail
  obtain ⟨q0, q1, q2⟩ := Q.out
  refine bodyPost_ret (v := .tuple #[noRat, .int .i64 1]) (by simp [results, Tryd.results82, go_sem, q0, q1, q2, noRat]) rfl ?_
  rw [← HO.out]
  exact OutPost.err rfl (by omega) (by omega) HBB.out
set_option maxHeartbeats 2000000 in
set_option maxRecDepth 100000 in
theorem nround_neg (s1 : Bool) (N1' D1' : Nat) (p : Int) (hp : p < 0) (up : Bool) (w : World) (v1 : Value) (h1 : RawV w v1 s1 N1' D1') (hT : Tab w) (q : Rat) (hq : ratOf s1 N1' D1' = q) (hL : largeB s1 N1' D1' = false) :
    Calls Tryd.prog 82 #[v1, .int .i64 p, .bool up] w (OutPost w (Out.err 2)) := by
  have H1 := Lib.hid h1
  have HT := Lib.hid hT
  obtain ⟨A1, n1, c1, A1', n1', c1', rfl⟩ := h1.shape
  clear h1 hT
  obtain ⟨M, hM, k1, k3, bM⟩ := start1 w (.bool s1) (.slice A1 n1 c1) (.slice A1' n1' c1') (.bool false) (.slice none 0 0) (.slice none 0 0) 24 24
  have HX := Lib.hid k1
  have HR := Lib.hid (show Res M (w.heap.size + 1) 24 from ⟨_, _, _, NI.bool _, NI.slice _ _ _, NI.slice _ _ _, k3⟩)
  have BM := Lib.hid bM
  replace H1 := Lib.hid (H1.out.below bM)
  replace HT := Lib.hid (HT.out.below bM)
  have HQ := Lib.hid hq
  have HL := Lib.hid hL
  have hp1 : decide (p < 0) = true := decide_eq_true hp
  clear hp
  obtain ⟨o, ho⟩ : ∃ o, Out.err 2 = o := ⟨_, rfl⟩
  have HO := Lib.hid ho
  rw [ho]
  clear hq hL k1 k3 bM ho
  go_enter Tryd.func82, Tryd.ntmps82
  go_upto_region 1 with (fail)
  rw [← hM]
  clear hM
  obtain ⟨x1, x2, x3, _, _, _⟩ := HX.out.cells
  go_wp2_with fail
  refine (readV _ s1 N1' D1' _ H1.out HT.out).mono ?_
  rw [HL.out, Bool.not_false]
  rintro e wa ⟨t1, B1, m1, d1, B1', m1', d1', rfl, f1, ba⟩
  have bb := below_step ba ba.size (below_alloc wa (.cells #[.bool t1, .slice B1 m1 d1, .slice B1' m1' d1'] 65))
  have hf1 := Box.new wa (.bool t1) (.slice B1 m1 d1) (.slice B1' m1' d1') 65
  have szw : w.heap.size + 1 < wa.heap.size := Nat.lt_of_lt_of_le (by obtain ⟨_, _, _, _, _, _, hh⟩ := HR.out; exact hh.lt) ba.size
  have TA : Hid (N1 w (wa.alloc (.cells #[.bool t1, .slice B1 m1 d1, .slice B1' m1' d1'] 65)) (w.heap.size + 1) wa.heap.size t1 B1 m1 d1 B1' m1' d1') :=
    Lib.hid ⟨HR.out.below bb, hf1, HT.out.below bb, below_step BM.out BM.out.size bb, by omega, by omega⟩
  have F1 : Hid (IsF (wa.alloc (.cells #[.bool t1, .slice B1 m1 d1, .slice B1' m1' d1'] 65)) (.agg #[.bool t1, .slice B1 m1 d1, .slice B1' m1' d1']) q) := Lib.hid (by rw [← HQ.out]; exact (f1.out rfl).below (below_alloc _ _))
  obtain ⟨w2, hw2⟩ : ∃ w2, wa.alloc (.cells #[.bool t1, .slice B1 m1 d1, .slice B1' m1' d1'] 65) = w2 := ⟨_, rfl⟩
  obtain ⟨gf, hgf⟩ : ∃ gf, wa.heap.size = gf := ⟨_, rfl⟩
  clear x1 x2 x3 ba bb f1 hf1 szw HR BM HX H1 HT
  go_upto_region 2 with (fail)
  rw [hw2] at TA F1
  try rw [hw2]
  rw [hgf] at TA
  try rw [hgf]
  clear hw2 hgf
  obtain ⟨y1, y2, y3, _⟩ := TA.out.box.cells
  obtain ⟨z1, z2, z3, hy1, hy2, hy3, f1, f2, f3⟩ := TA.out.res.cells
  obtain ⟨q0, q1, q2, hs, hb⟩ := OutIs.stored (o := .err 2) (k := 2) (s := false) (A1 := none) (A2 := none) (n1 := 0) (c1 := 0) (n2 := 0) (c2 := 0) ⟨rfl, rfl, by omega, by omega⟩ TA.out.res TA.out.bel TA.out.n3
  have Q := Lib.hid (And.intro q0 (And.intro q1 q2))
  have HBB := Lib.hid hb
  clear q0 q1 q2 hs hb
  go_wp2_with fail
  obtain ⟨q0, q1, q2⟩ := Q.out
  refine bodyPost_ret (v := .tuple #[noRat, .int .i64 2]) (by simp [results, Tryd.results82, go_sem, q0, q1, q2, noRat]) rfl ?_
  rw [← HO.out]
  exact OutPost.err rfl (by omega) (by omega) HBB.out
set_option maxHeartbeats 2000000 in
set_option maxRecDepth 100000 in
theorem nround_big (s1 : Bool) (N1' D1' : Nat) (p : Int) (hp : 256 < p) (up : Bool) (w : World) (v1 : Value) (h1 : RawV w v1 s1 N1' D1') (hT : Tab w) (q : Rat) (hq : ratOf s1 N1' D1' = q) (hL : largeB s1 N1' D1' = false) :
    Calls Tryd.prog 82 #[v1, .int .i64 p, .bool up] w (OutPost w (Out.err 2)) := by
  have H1 := Lib.hid h1
  have HT := Lib.hid hT
  obtain ⟨A1, n1, c1, A1', n1', c1', rfl⟩ := h1.shape
  clear h1 hT
  obtain ⟨M, hM, k1, k3, bM⟩ := start1 w (.bool s1) (.slice A1 n1 c1) (.slice A1' n1' c1') (.bool false) (.slice none 0 0) (.slice none 0 0) 24 24
  have HX := Lib.hid k1
  have HR := Lib.hid (show Res M (w.heap.size + 1) 24 from ⟨_, _, _, NI.bool _, NI.slice _ _ _, NI.slice _ _ _, k3⟩)
  have BM := Lib.hid bM
  replace H1 := Lib.hid (H1.out.below bM)
  replace HT := Lib.hid (HT.out.below bM)
  have HQ := Lib.hid hq
  have HL := Lib.hid hL
  have hp1 : decide (p < 0) = false := decide_eq_false (by omega)
  have hp2 : decide (256 < p) = true := decide_eq_true hp
  clear hp
  obtain ⟨o, ho⟩ : ∃ o, Out.err 2 = o := ⟨_, rfl⟩
  have HO := Lib.hid ho
  rw [ho]
  clear hq hL k1 k3 bM ho
  go_enter Tryd.func82, Tryd.ntmps82
  go_upto_region 1 with (fail)
  rw [← hM]
  clear hM
  obtain ⟨x1, x2, x3, _, _, _⟩ := HX.out.cells
  go_wp2_with fail
  refine (readV _ s1 N1' D1' _ H1.out HT.out).mono ?_
  rw [HL.out, Bool.not_false]
  rintro e wa ⟨t1, B1, m1, d1, B1', m1', d1', rfl, f1, ba⟩
  have bb := below_step ba ba.size (below_alloc wa (.cells #[.bool t1, .slice B1 m1 d1, .slice B1' m1' d1'] 65))
  have hf1 := Box.new wa (.bool t1) (.slice B1 m1 d1) (.slice B1' m1' d1') 65
  have szw : w.heap.size + 1 < wa.heap.size := Nat.lt_of_lt_of_le (by obtain ⟨_, _, _, _, _, _, hh⟩ := HR.out; exact hh.lt) ba.size
  have TA : Hid (N1 w (wa.alloc (.cells #[.bool t1, .slice B1 m1 d1, .slice B1' m1' d1'] 65)) (w.heap.size + 1) wa.heap.size t1 B1 m1 d1 B1' m1' d1') :=
    Lib.hid ⟨HR.out.below bb, hf1, HT.out.below bb, below_step BM.out BM.out.size bb, by omega, by omega⟩
  have F1 : Hid (IsF (wa.alloc (.cells #[.bool t1, .slice B1 m1 d1, .slice B1' m1' d1'] 65)) (.agg #[.bool t1, .slice B1 m1 d1, .slice B1' m1' d1']) q) := Lib.hid (by rw [← HQ.out]; exact (f1.out rfl).below (below_alloc _ _))
  obtain ⟨w2, hw2⟩ : ∃ w2, wa.alloc (.cells #[.bool t1, .slice B1 m1 d1, .slice B1' m1' d1'] 65) = w2 := ⟨_, rfl⟩
  obtain ⟨gf, hgf⟩ : ∃ gf, wa.heap.size = gf := ⟨_, rfl⟩
  clear x1 x2 x3 ba bb f1 hf1 szw HR BM HX H1 HT
  go_upto_region 2 with (fail)
  rw [hw2] at TA F1
  try rw [hw2]
  rw [hgf] at TA
  try rw [hgf]
  clear hw2 hgf
  obtain ⟨y1, y2, y3, _⟩ := TA.out.box.cells
  obtain ⟨z1, z2, z3, hy1, hy2, hy3, f1, f2, f3⟩ := TA.out.res.cells
  obtain ⟨q0, q1, q2, hs, hb⟩ := OutIs.stored (o := .err 2) (k := 2) (s := false) (A1 := none) (A2 := none) (n1 := 0) (c1 := 0) (n2 := 0) (c2 := 0) ⟨rfl, rfl, by omega, by omega⟩ TA.out.res TA.out.bel TA.out.n3
  have Q := Lib.hid (And.intro q0 (And.intro q1 q2))
  have HBB := Lib.hid hb
  clear q0 q1 q2 hs hb
  go_wp2_with fail
  obtain ⟨q0, q1, q2⟩ := Q.out
  refine bodyPost_ret (v := .tuple #[noRat, .int .i64 2]) (by simp [results, Tryd.results82, go_sem, q0, q1, q2, noRat]) rfl ?_
  rw [← HO.out]
  exact OutPost.err rfl (by omega) (by omega) HBB.out
set_option maxHeartbeats 2000000 in
set_option maxRecDepth 100000 in
theorem nround_ok (s1 : Bool) (N1' D1' : Nat) (p : Nat) (hp : p ≤ 256) (up : Bool) (r : Rat) (hr : gridQ (ratOf s1 N1' D1') p up = r) (w : World) (v1 : Value) (h1 : RawV w v1 s1 N1' D1') (hT : Tab w) (q : Rat) (hq : ratOf s1 N1' D1' = q) (hL : largeB s1 N1' D1' = false) :
    Calls Tryd.prog 82 #[v1, .int .i64 p, .bool up] w (OutPost w (give r)) := by
  have H1 := Lib.hid h1
  have HT := Lib.hid hT
  obtain ⟨A1, n1, c1, A1', n1', c1', rfl⟩ := h1.shape
  clear h1 hT
  obtain ⟨M, hM, k1, k3, bM⟩ := start1 w (.bool s1) (.slice A1 n1 c1) (.slice A1' n1' c1') (.bool false) (.slice none 0 0) (.slice none 0 0) 24 24
  have HX := Lib.hid k1
  have HR := Lib.hid (show Res M (w.heap.size + 1) 24 from ⟨_, _, _, NI.bool _, NI.slice _ _ _, NI.slice _ _ _, k3⟩)
  have BM := Lib.hid bM
  replace H1 := Lib.hid (H1.out.below bM)
  replace HT := Lib.hid (HT.out.below bM)
  have HQ := Lib.hid hq
  have HL := Lib.hid hL
  have hf := (largeB_false hL).2.2
  rw [hq] at hf
  have HF := Lib.hid hf
  clear hf
  rw [hq] at hr
  have HR2 := Lib.hid hr
  have HP := Lib.hid hp
  have hp1 : decide ((p : Int) < 0) = false := decide_eq_false (by omega)
  have hp2 : decide (256 < (p : Int)) = false := decide_eq_false (by omega)
  have hp3 : decide (256 < p) = false := decide_eq_false (by omega)
  clear hr hp
  obtain ⟨o, ho⟩ : ∃ o, give r = o := ⟨_, rfl⟩
  have HO := Lib.hid ho
  rw [ho]
  clear hq hL k1 k3 bM ho
  go_enter Tryd.func82, Tryd.ntmps82
  go_upto_region 1 with (fail)
  rw [← hM]
  clear hM
  obtain ⟨x1, x2, x3, _, _, _⟩ := HX.out.cells
  go_wp2_with fail
  refine (readV _ s1 N1' D1' _ H1.out HT.out).mono ?_
  rw [HL.out, Bool.not_false]
  rintro e wa ⟨t1, B1, m1, d1, B1', m1', d1', rfl, f1, ba⟩
  have bb := below_step ba ba.size (below_alloc wa (.cells #[.bool t1, .slice B1 m1 d1, .slice B1' m1' d1'] 65))
  have hf1 := Box.new wa (.bool t1) (.slice B1 m1 d1) (.slice B1' m1' d1') 65
  have szw : w.heap.size + 1 < wa.heap.size := Nat.lt_of_lt_of_le (by obtain ⟨_, _, _, _, _, _, hh⟩ := HR.out; exact hh.lt) ba.size
  have TA : Hid (N1 w (wa.alloc (.cells #[.bool t1, .slice B1 m1 d1, .slice B1' m1' d1'] 65)) (w.heap.size + 1) wa.heap.size t1 B1 m1 d1 B1' m1' d1') :=
    Lib.hid ⟨HR.out.below bb, hf1, HT.out.below bb, below_step BM.out BM.out.size bb, by omega, by omega⟩
  have F1 : Hid (IsF (wa.alloc (.cells #[.bool t1, .slice B1 m1 d1, .slice B1' m1' d1'] 65)) (.agg #[.bool t1, .slice B1 m1 d1, .slice B1' m1' d1']) q) := Lib.hid (by rw [← HQ.out]; exact (f1.out rfl).below (below_alloc _ _))
  obtain ⟨w2, hw2⟩ : ∃ w2, wa.alloc (.cells #[.bool t1, .slice B1 m1 d1, .slice B1' m1' d1'] 65) = w2 := ⟨_, rfl⟩
  obtain ⟨gf, hgf⟩ : ∃ gf, wa.heap.size = gf := ⟨_, rfl⟩
  clear x1 x2 x3 ba bb f1 hf1 szw HR BM HX H1 HT
  go_upto_region 2 with (fail)
  rw [hw2] at TA F1
  try rw [hw2]
  rw [hgf] at TA
  try rw [hgf]
  clear hw2 hgf
  obtain ⟨y1, y2, y3, _⟩ := TA.out.box.cells
  go_wp2_with fail
  refine (Calls.partsF (fGrid q p up (Nat.le_trans HP.out (by omega)) _ _ F1.out (fit_Wq HF.out (by omega)) TA.out.tab)).mono ?_
  rw [HR2.out]
  rintro e wb ⟨t2, B2, m2, d2, B2', m2', d2', rfl, i1, bb⟩
  replace TA := Lib.hid (TA.out.below bb)
  clear bb
  go_wp2_with fail
  refine (giveF _ _ _ i1.out).mono ?_
  rintro e we ⟨s9, A9, n9, c9, A9', n9', c9', k9, rfl, h9, b9⟩
  replace TA := Lib.hid (TA.out.below b9)
  obtain ⟨z1, z2, z3, hz1, hz2, hz3, k1, k2, k3⟩ := TA.out.res.cells
  obtain ⟨q0, q1, q2, hs, hb⟩ := OutIs.stored h9 TA.out.res TA.out.bel TA.out.n3
  have Q := Lib.hid (And.intro q0 (And.intro q1 q2))
  have HS := Lib.hid hs
  have HBB := Lib.hid hb
  clear q0 q1 q2 hs hb h9 b9
  go_wp2
  obtain ⟨q0, q1, q2⟩ := Q.out
  refine bodyPost_ret (v := .tuple #[.agg #[.bool s9, .slice A9 n9 c9, .slice A9' n9' c9'], .int .i64 k9]) (by simp [results, Tryd.results82, go_sem, q0, q1, q2]) rfl ?_
  rw [← HO.out]
  exact ⟨_, _, _, _, _, _, _, _, rfl, HS.out, HBB.out⟩
theorem nround (s1 : Bool) (N1' D1' : Nat) (p : Int) (up : Bool) (w : World) (v1 : Value) (h1 : RawV w v1 s1 N1' D1') (hT : Tab w) :
    Calls Tryd.prog 82 #[v1, .int .i64 p, .bool up] w (OutPost w (gridOut (largeB s1 N1' D1') p up (ratOf s1 N1' D1'))) := by
  unfold gridOut
  by_cases h : largeB s1 N1' D1' = true
  · rw [if_pos h]; exact nround_large s1 N1' D1' p up w v1 h1 hT _ rfl h
  · rw [if_neg h]
    have h' : largeB s1 N1' D1' = false := by simpa using h
    by_cases hn : p < 0
    · rw [if_pos (Or.inl hn)]; exact nround_neg s1 N1' D1' p hn up w v1 h1 hT _ rfl h'
    · by_cases hb : 256 < p
      · rw [if_pos (Or.inr hb)]; exact nround_big s1 N1' D1' p hb up w v1 h1 hT _ rfl h'
      · rw [if_neg (by omega)]
        obtain ⟨k, rfl⟩ : ∃ k : Nat, p = (k : Int) := ⟨p.toNat, by omega⟩
        rw [Int.toNat_natCast]
        exact nround_ok s1 N1' D1' k (by omega) up _ rfl w v1 h1 hT _ rfl h'
set_option maxHeartbeats 1000000 in
set_option maxRecDepth 100000 in
theorem nDown (s1 : Bool) (N1 D1 : Nat) (p : Int) (w : World) (v1 : Value) (h1 : RawV w v1 s1 N1 D1) (hT : Tab w) :
    Calls Tryd.prog 38 #[v1, .int .i64 p] w (OutPost w (gridOut (largeB s1 N1 D1) p false (ratOf s1 N1 D1))) := by
  have H1 := Lib.hid h1
  have HT := Lib.hid hT
  obtain ⟨A1, n1, c1, A1', n1', c1', rfl⟩ := h1.shape
  clear h1 hT
  obtain ⟨M, hM, k1, k3, bM⟩ := start1 w (.bool s1) (.slice A1 n1 c1) (.slice A1' n1' c1') (.bool false) (.slice none 0 0) (.slice none 0 0) 24 24
  have HX := Lib.hid k1
  have HR := Lib.hid (show Res M (w.heap.size + 1) 24 from ⟨_, _, _, NI.bool _, NI.slice _ _ _, NI.slice _ _ _, k3⟩)
  have BM := Lib.hid bM
  replace H1 := Lib.hid (H1.out.below bM)
  replace HT := Lib.hid (HT.out.below bM)
  have C := Lib.hid (nround s1 N1 D1 p false M _ H1.out HT.out)
  obtain ⟨o, ho⟩ : ∃ o, gridOut (largeB s1 N1 D1) p false (ratOf s1 N1 D1) = o := ⟨_, rfl⟩
  rw [ho] at C
  rw [ho]
  clear k1 k3 bM ho
  go_enter Tryd.func38, Tryd.ntmps38
  go_upto_region 1 with (fail)
  rw [← hM]
  clear hM
  obtain ⟨x1, x2, x3, _, _, _⟩ := HX.out.cells
  go_wp2_with fail
  refine C.out.mono ?_
  rintro e we ⟨s9, A9, n9, c9, A9', n9', c9', k9, rfl, h9, b9⟩
  replace HR := Lib.hid (HR.out.below b9)
  have BE := Lib.hid (below_step BM.out BM.out.size b9)
  obtain ⟨q0, q1, q2, hs, hb⟩ := OutIs.stored h9 HR.out BE.out (by omega)
  have Q := Lib.hid (And.intro q0 (And.intro q1 q2))
  have HS := Lib.hid hs
  have HB := Lib.hid hb
  clear b9 h9 q0 q1 q2 hs hb x1 x2 x3
  obtain ⟨r1, r2, r3, hr1, hr2, hr3, _, _, _⟩ := HR.out.cells
  go_wp2_with fail
  obtain ⟨q0, q1, q2⟩ := Q.out
  refine bodyPost_ret (v := .tuple #[.agg #[.bool s9, .slice A9 n9 c9, .slice A9' n9' c9'], .int .i64 k9]) (by simp [results, Tryd.results38, go_sem, q0, q1, q2]) rfl ?_
  exact ⟨_, _, _, _, _, _, _, _, rfl, HS.out, HB.out⟩
set_option maxHeartbeats 1000000 in
set_option maxRecDepth 100000 in
theorem nUp (s1 : Bool) (N1 D1 : Nat) (p : Int) (w : World) (v1 : Value) (h1 : RawV w v1 s1 N1 D1) (hT : Tab w) :
    Calls Tryd.prog 39 #[v1, .int .i64 p] w (OutPost w (gridOut (largeB s1 N1 D1) p true (ratOf s1 N1 D1))) := by
  have H1 := Lib.hid h1
  have HT := Lib.hid hT
  obtain ⟨A1, n1, c1, A1', n1', c1', rfl⟩ := h1.shape
  clear h1 hT
  obtain ⟨M, hM, k1, k3, bM⟩ := start1 w (.bool s1) (.slice A1 n1 c1) (.slice A1' n1' c1') (.bool false) (.slice none 0 0) (.slice none 0 0) 24 24
  have HX := Lib.hid k1
  have HR := Lib.hid (show Res M (w.heap.size + 1) 24 from ⟨_, _, _, NI.bool _, NI.slice _ _ _, NI.slice _ _ _, k3⟩)
  have BM := Lib.hid bM
  replace H1 := Lib.hid (H1.out.below bM)
  replace HT := Lib.hid (HT.out.below bM)
  have C := Lib.hid (nround s1 N1 D1 p true M _ H1.out HT.out)
  obtain ⟨o, ho⟩ : ∃ o, gridOut (largeB s1 N1 D1) p true (ratOf s1 N1 D1) = o := ⟨_, rfl⟩
  rw [ho] at C
  rw [ho]
  clear k1 k3 bM ho
  go_enter Tryd.func39, Tryd.ntmps39
  go_upto_region 1 with (fail)
  rw [← hM]
  clear hM
  obtain ⟨x1, x2, x3, _, _, _⟩ := HX.out.cells
  go_wp2_with fail
  refine C.out.mono ?_
  rintro e we ⟨s9, A9, n9, c9, A9', n9', c9', k9, rfl, h9, b9⟩
  replace HR := Lib.hid (HR.out.below b9)
  have BE := Lib.hid (below_step BM.out BM.out.size b9)
  obtain ⟨q0, q1, q2, hs, hb⟩ := OutIs.stored h9 HR.out BE.out (by omega)
  have Q := Lib.hid (And.intro q0 (And.intro q1 q2))
  have HS := Lib.hid hs
  have HB := Lib.hid hb
  clear b9 h9 q0 q1 q2 hs hb x1 x2 x3
  obtain ⟨r1, r2, r3, hr1, hr2, hr3, _, _, _⟩ := HR.out.cells
  go_wp2_with fail
  obtain ⟨q0, q1, q2⟩ := Q.out
  refine bodyPost_ret (v := .tuple #[.agg #[.bool s9, .slice A9 n9 c9, .slice A9' n9' c9'], .int .i64 k9]) (by simp [results, Tryd.results39, go_sem, q0, q1, q2]) rfl ?_
  exact ⟨_, _, _, _, _, _, _, _, rfl, HS.out, HB.out⟩
end Go.Proofs.YtfmhplcpejmkhabDoor

namespace Go.Proofs.YtfmhplcpejmkhabDoor
open Go.RowKit Dig
set_option linter.unusedVariables false
set_option linter.unusedSimpArgs false
/-- two values that have been read, and a variable for a result -/
structure N2 (w M : World) (g3 gf gg : Nat) (s1 : Bool) (A1 : Option Addr) (n1 c1 : Nat) (B1 : Option Addr) (m1 d1 : Nat) (a : Rat) (s2 : Bool) (A2 : Option Addr) (n2 c2 : Nat) (B2 : Option Addr) (m2 d2 : Nat) (b : Rat) : Prop where
  res : Res M g3 24
  f : Box M gf (.bool s1) (.slice A1 n1 c1) (.slice B1 m1 d1) 65
  g : Box M gg (.bool s2) (.slice A2 n2 c2) (.slice B2 m2 d2) 65
  fa : IsF M (.agg #[.bool s1, .slice A1 n1 c1, .slice B1 m1 d1]) a
  fb : IsF M (.agg #[.bool s2, .slice A2 n2 c2, .slice B2 m2 d2]) b
  tab : Tab M
  bel : Below w.heap.size w M
  n3 : w.heap.size ≤ g3
  n1 : gf ≠ g3
  n2 : gg ≠ g3
  n4 : g3 ≠ 0
theorem IsF.grown {w w' : World} {v : Value} {q : Rat} {g : Nat} {x y z : Value} {t : TypeId} (h : IsF w v q) (hb : Box w g x y z t) (hx : NI x) (hy : NI y) (hz : NI z) (hg : w.grownBy w' (some g)) : IsF w' v q := by
  obtain ⟨A1, c1, A2, c2, e, r1, r2⟩ := h
  exact ⟨A1, c1, A2, c2, e, r1.grown_box hb hx hy hz hg, r2.grown_box hb hx hy hz hg⟩
section
variable {w M M' : World} {g3 gf gg : Nat} {s1 : Bool} {A1 : Option Addr} {n1 c1 : Nat} {B1 : Option Addr} {m1 d1 : Nat} {a : Rat} {s2 : Bool} {A2 : Option Addr} {n2 c2 : Nat} {B2 : Option Addr} {m2 d2 : Nat} {b : Rat}
theorem N2.below (h : N2 w M g3 gf gg s1 A1 n1 c1 B1 m1 d1 a s2 A2 n2 c2 B2 m2 d2 b) (hb : Below M.heap.size M M') : N2 w M' g3 gf gg s1 A1 n1 c1 B1 m1 d1 a s2 A2 n2 c2 B2 m2 d2 b :=
  ⟨h.res.below hb, h.f.below hb, h.g.below hb, h.fa.below hb, h.fb.below hb, h.tab.below hb, below_step h.bel h.bel.size hb, h.n3, h.n1, h.n2, h.n4⟩
theorem N2.drew (h : N2 w M g3 gf gg s1 A1 n1 c1 B1 m1 d1 a s2 A2 n2 c2 B2 m2 d2 b) : N2 w M.drew g3 gf gg s1 A1 n1 c1 B1 m1 d1 a s2 A2 n2 c2 B2 m2 d2 b := h.below (Below.refl _ _).drew
theorem N2.grown (h : N2 w M g3 gf gg s1 A1 n1 c1 B1 m1 d1 a s2 A2 n2 c2 B2 m2 d2 b) {x y z : Value} (hx : NI x) (hy : NI y) (hz : NI z) : N2 w (((M.setCell ⟨g3, 0, none⟩ x).setCell ⟨g3, 1, none⟩ y).setCell ⟨g3, 2, none⟩ z) g3 gf gg s1 A1 n1 c1 B1 m1 d1 a s2 A2 n2 c2 B2 m2 d2 b := by
  have hg := grown_set3 M g3 x y z
  obtain ⟨x', y', z', hx', hy', hz', h4⟩ := h.res
  exact ⟨h.res.set3 hx hy hz, (hg.block gf h.f.lt (fun e => h.n1 (Option.some.inj e))).trans h.f, (hg.block gg h.g.lt (fun e => h.n2 (Option.some.inj e))).trans h.g, h.fa.grown h4 hx' hy' hz' hg, h.fb.grown h4 hx' hy' hz' hg, h.tab.grown hg h.n4, below_set3 h.bel h.n3 _ _ _, h.n3, h.n1, h.n2, h.n4⟩
theorem N2.cells (h : N2 w M g3 gf gg s1 A1 n1 c1 B1 m1 d1 a s2 A2 n2 c2 B2 m2 d2 b) : (World.cell? M ⟨gf, 0, none⟩ = some (.bool s1) ∧ World.cell? M ⟨gf, 1, none⟩ = some (.slice A1 n1 c1) ∧ World.cell? M ⟨gf, 2, none⟩ = some (.slice B1 m1 d1) ∧ World.cell? M ⟨gg, 0, none⟩ = some (.bool s2) ∧ World.cell? M ⟨gg, 1, none⟩ = some (.slice A2 n2 c2) ∧ World.cell? M ⟨gg, 2, none⟩ = some (.slice B2 m2 d2) ∧ Hid (N2 w M g3 gf gg s1 A1 n1 c1 B1 m1 d1 a s2 A2 n2 c2 B2 m2 d2 b)) := by
  obtain ⟨a1, a2, a3, _, _, _⟩ := h.f.cells
  obtain ⟨b1, b2, b3, _, _, _⟩ := h.g.cells
  exact ⟨a1, a2, a3, b1, b2, b3, h⟩
theorem N2.of (h : (World.cell? M ⟨gf, 0, none⟩ = some (.bool s1) ∧ World.cell? M ⟨gf, 1, none⟩ = some (.slice A1 n1 c1) ∧ World.cell? M ⟨gf, 2, none⟩ = some (.slice B1 m1 d1) ∧ World.cell? M ⟨gg, 0, none⟩ = some (.bool s2) ∧ World.cell? M ⟨gg, 1, none⟩ = some (.slice A2 n2 c2) ∧ World.cell? M ⟨gg, 2, none⟩ = some (.slice B2 m2 d2) ∧ Hid (N2 w M g3 gf gg s1 A1 n1 c1 B1 m1 d1 a s2 A2 n2 c2 B2 m2 d2 b))) : N2 w M g3 gf gg s1 A1 n1 c1 B1 m1 d1 a s2 A2 n2 c2 B2 m2 d2 b := h.2.2.2.2.2.2.out
theorem N2.next (h : (World.cell? M ⟨gf, 0, none⟩ = some (.bool s1) ∧ World.cell? M ⟨gf, 1, none⟩ = some (.slice A1 n1 c1) ∧ World.cell? M ⟨gf, 2, none⟩ = some (.slice B1 m1 d1) ∧ World.cell? M ⟨gg, 0, none⟩ = some (.bool s2) ∧ World.cell? M ⟨gg, 1, none⟩ = some (.slice A2 n2 c2) ∧ World.cell? M ⟨gg, 2, none⟩ = some (.slice B2 m2 d2) ∧ Hid (N2 w M g3 gf gg s1 A1 n1 c1 B1 m1 d1 a s2 A2 n2 c2 B2 m2 d2 b))) (hb : Below M.heap.size M M') : (World.cell? M' ⟨gf, 0, none⟩ = some (.bool s1) ∧ World.cell? M' ⟨gf, 1, none⟩ = some (.slice A1 n1 c1) ∧ World.cell? M' ⟨gf, 2, none⟩ = some (.slice B1 m1 d1) ∧ World.cell? M' ⟨gg, 0, none⟩ = some (.bool s2) ∧ World.cell? M' ⟨gg, 1, none⟩ = some (.slice A2 n2 c2) ∧ World.cell? M' ⟨gg, 2, none⟩ = some (.slice B2 m2 d2) ∧ Hid (N2 w M' g3 gf gg s1 A1 n1 c1 B1 m1 d1 a s2 A2 n2 c2 B2 m2 d2 b)) := ((N2.of h).below hb).cells
theorem N2.nextS (h : (World.cell? M ⟨gf, 0, none⟩ = some (.bool s1) ∧ World.cell? M ⟨gf, 1, none⟩ = some (.slice A1 n1 c1) ∧ World.cell? M ⟨gf, 2, none⟩ = some (.slice B1 m1 d1) ∧ World.cell? M ⟨gg, 0, none⟩ = some (.bool s2) ∧ World.cell? M ⟨gg, 1, none⟩ = some (.slice A2 n2 c2) ∧ World.cell? M ⟨gg, 2, none⟩ = some (.slice B2 m2 d2) ∧ Hid (N2 w M g3 gf gg s1 A1 n1 c1 B1 m1 d1 a s2 A2 n2 c2 B2 m2 d2 b))) {x : Bool} {B C : Option Addr} {k k' c c' : Nat} : (World.cell? (((M.setCell ⟨g3, 0, none⟩ (.bool x)).setCell ⟨g3, 1, none⟩ (.slice B k k')).setCell ⟨g3, 2, none⟩ (.slice C c c')) ⟨gf, 0, none⟩ = some (.bool s1) ∧ World.cell? (((M.setCell ⟨g3, 0, none⟩ (.bool x)).setCell ⟨g3, 1, none⟩ (.slice B k k')).setCell ⟨g3, 2, none⟩ (.slice C c c')) ⟨gf, 1, none⟩ = some (.slice A1 n1 c1) ∧ World.cell? (((M.setCell ⟨g3, 0, none⟩ (.bool x)).setCell ⟨g3, 1, none⟩ (.slice B k k')).setCell ⟨g3, 2, none⟩ (.slice C c c')) ⟨gf, 2, none⟩ = some (.slice B1 m1 d1) ∧ World.cell? (((M.setCell ⟨g3, 0, none⟩ (.bool x)).setCell ⟨g3, 1, none⟩ (.slice B k k')).setCell ⟨g3, 2, none⟩ (.slice C c c')) ⟨gg, 0, none⟩ = some (.bool s2) ∧ World.cell? (((M.setCell ⟨g3, 0, none⟩ (.bool x)).setCell ⟨g3, 1, none⟩ (.slice B k k')).setCell ⟨g3, 2, none⟩ (.slice C c c')) ⟨gg, 1, none⟩ = some (.slice A2 n2 c2) ∧ World.cell? (((M.setCell ⟨g3, 0, none⟩ (.bool x)).setCell ⟨g3, 1, none⟩ (.slice B k k')).setCell ⟨g3, 2, none⟩ (.slice C c c')) ⟨gg, 2, none⟩ = some (.slice B2 m2 d2) ∧ Hid (N2 w (((M.setCell ⟨g3, 0, none⟩ (.bool x)).setCell ⟨g3, 1, none⟩ (.slice B k k')).setCell ⟨g3, 2, none⟩ (.slice C c c')) g3 gf gg s1 A1 n1 c1 B1 m1 d1 a s2 A2 n2 c2 B2 m2 d2 b)) :=
  ((N2.of h).grown (NI.bool _) (NI.slice _ _ _) (NI.slice _ _ _)).cells
end
/-- how two rational numbers compare -/
def cmpQ (a b : Rat) : Int := sgnI (ng (a - b)) (a - b).num.natAbs
theorem sgnI_mk (n : Int) (d : Nat) (hd : d ≠ 0) : sgnI (ng (mkRat n d)) (mkRat n d).num.natAbs = cmpZ n 0 := by
  obtain ⟨s, k, rfl, hs⟩ : ∃ s k, n = sg s k ∧ (s = true → k ≠ 0) := ⟨decide (n < 0), n.natAbs, by unfold sg; by_cases h : n < 0 <;> simp [h] <;> omega, by intro h; simp at h; omega⟩
  by_cases hk : k = 0
  · subst hk
    rw [mk_zero, sg_zero]
    decide
  · rw [mk_sign s hd hk, mk_abs s k hd]
    have := div_gcd_pos (d := d) hk
    unfold sgnI cmpZ sg
    rw [if_neg (by omega)]
    cases s
    · have h1 : ¬ ((k : Int) < 0) := by omega
      have h2 : ¬ ((k : Int) = 0) := by omega
      simp [h1, hk]
    · rw [if_pos rfl, if_pos]
      simp
      omega
theorem cmpZ_Q (a b : Rat) : cmpZ (sg (ng a) a.num.natAbs * b.den) (sg (ng b) b.num.natAbs * a.den) = cmpQ a b := by
  unfold cmpQ
  have e : a - b = mkRat (a.num * b.den - b.num * a.den) (a.den * b.den) := by
    rw [Rat.sub_eq_add_neg, Rat.add_def', Rat.neg_num, Rat.neg_den]
    congr 1
    grind
  rw [e, sgnI_mk _ _ (Nat.mul_ne_zero a.den_nz b.den_nz), sg_ng, sg_ng]
  unfold cmpZ
  split <;> split <;> (try split) <;> (try split) <;> omega
theorem inv_facts {b : Rat} (h : b ≠ 0) : ng b⁻¹ = ng b ∧ b⁻¹.num.natAbs = b.den ∧ b⁻¹.den = b.num.natAbs := by
  have hn : b.num.natAbs ≠ 0 := by
    have : b.num ≠ 0 := fun h0 => h (Rat.num_eq_zero.1 h0)
    omega
  have e := rat_div 1 b h
  rw [Rat.div_def, Rat.one_mul] at e
  have e1 : mkRat (sg (ng b) b.den) b.num.natAbs = b⁻¹ := by
    rw [← e]
    have h1 : ng (1 : Rat) = false := by decide
    have h2 : (1 : Rat).num.natAbs = 1 := by decide
    have h3 : (1 : Rat).den = 1 := by decide
    rw [h1, h2, h3, Nat.one_mul, Nat.one_mul]
    cases ng b <;> rfl
  have hc : Nat.gcd b.den b.num.natAbs = 1 := by rw [Nat.gcd_comm]; exact b.reduced
  rw [← e1, mk_sign _ hn b.den_nz, mk_abs _ _ hn, mk_den _ _ hn, hc, Nat.div_one, Nat.div_one]
  exact ⟨rfl, rfl, rfl⟩
theorem fCmp (a b : Rat) (w : World) (v1 v2 : Value) (h1 : IsF w v1 a) (h2 : IsF w v2 b) (k1 : Wq 400000 a) (k2 : Wq 400000 b) :
    Calls Tryd.prog 75 #[v1, v2] w fun e w' => e = .returned (.int .i64 (cmpQ a b)) ∧ Below w.heap.size w w' := by
  obtain ⟨A1, c1, A2, c2, rfl, r1, r2⟩ := h1
  obtain ⟨A3, c3, A4, c4, rfl, r3, r4⟩ := h2
  have := fracCmp (ng a) a.num.natAbs a.den (ng b) b.num.natAbs b.den w _ _ _ _ _ _ _ _ r1 r2 r3 r4 k1.1 k1.2 k2.1 k2.2 a.den_nz b.den_nz
  rwa [cmpZ_Q] at this
theorem fInv (b : Rat) (w : World) (v : Value) (h : IsF w v b) (hb : b ≠ 0) :
    Calls Tryd.prog 55 #[v] w fun e w' => ∃ u, e = .returned u ∧ IsF w' u b⁻¹ ∧ Below w.heap.size w w' := by
  obtain ⟨A1, c1, A2, c2, rfl, r1, r2⟩ := h
  obtain ⟨e1, e2, e3⟩ := inv_facts hb
  refine (fracInverse _ _ _ w _ _ _ _).mono ?_
  rintro e w' ⟨rfl, hl⟩
  exact ⟨_, rfl, by unfold IsF; rw [e1, e2, e3]; exact ⟨_, _, _, _, rfl, r2.below hl, r1.below hl⟩, hl⟩
theorem inv_Wq {b : Rat} {k : Nat} (h : b ≠ 0) (hk : Wq k b) : Wq k b⁻¹ := by
  obtain ⟨_, e2, e3⟩ := inv_facts h
  unfold Wq
  rw [e2, e3]
  exact ⟨hk.2, hk.1⟩
end Go.Proofs.YtfmhplcpejmkhabDoor

namespace Go.Proofs.YtfmhplcpejmkhabDoor
open Go.RowKit Dig
set_option linter.unusedVariables false
set_option linter.unusedSimpArgs false
theorem sgn_eq (x : Rat) : sgnI (ng x) x.num.natAbs = if x < 0 then -1 else if x = 0 then 0 else 1 := by
  unfold sgnI ng
  by_cases h0 : x = 0
  · subst h0
    decide
  · have hn : x.num ≠ 0 := fun h => h0 (Rat.num_eq_zero.1 h)
    rw [if_neg (by omega), if_neg h0]
    by_cases hl : x < 0
    · have h1 : ¬ (0 ≤ x) := by grind
      rw [← Rat.num_nonneg] at h1
      have : x.num < 0 := by omega
      rw [if_pos (by simpa using this), if_pos hl]
    · have h1 : 0 ≤ x := by grind
      rw [← Rat.num_nonneg] at h1
      have : ¬ x.num < 0 := by omega
      rw [if_neg (by simpa using this), if_neg hl]
theorem cmp_lt {a b : Rat} (h : a < b) : cmpQ a b = -1 := by
  unfold cmpQ
  rw [sgn_eq, if_pos (by grind)]
theorem cmp_eq {a b : Rat} (h : a = b) : cmpQ a b = 0 := by
  unfold cmpQ
  rw [sgn_eq, if_neg (by grind), if_pos (by grind)]
theorem cmp_gt {a b : Rat} (h : b < a) : cmpQ a b = 1 := by
  unfold cmpQ
  rw [sgn_eq, if_neg (by grind), if_neg (by grind)]
theorem cmp_cases (a b : Rat) : (a < b ∧ cmpQ a b = -1) ∨ (a = b ∧ cmpQ a b = 0) ∨ (b < a ∧ cmpQ a b = 1) := by
  by_cases h : a < b
  · exact Or.inl ⟨h, cmp_lt h⟩
  · by_cases h2 : a = b
    · exact Or.inr (Or.inl ⟨h2, cmp_eq h2⟩)
    · have h3 : b < a := by grind
      exact Or.inr (Or.inr ⟨h3, cmp_gt h3⟩)
theorem cmp_swap (a b : Rat) : cmpQ b a = -cmpQ a b := by
  rcases cmp_cases a b with ⟨h, e⟩ | ⟨h, e⟩ | ⟨h, e⟩
  · rw [e, cmp_gt h]; rfl
  · rw [e, cmp_eq h.symm]; rfl
  · rw [e, cmp_lt h]
theorem cmp_add (a b c : Rat) : cmpQ (a + c) (b + c) = cmpQ a b := by
  unfold cmpQ
  have : a + c - (b + c) = a - b := by grind
  rw [this]
theorem cmp_trans (x y z : Rat) : (cmpQ x y = cmpQ y z → cmpQ x z = cmpQ x y) ∧ (cmpQ x y = 0 → cmpQ x z = cmpQ y z) ∧ (cmpQ y z = 0 → cmpQ x z = cmpQ x y) := by
  rcases cmp_cases x y with ⟨h, e⟩ | ⟨h, e⟩ | ⟨h, e⟩ <;> rcases cmp_cases y z with ⟨h2, e2⟩ | ⟨h2, e2⟩ | ⟨h2, e2⟩ <;> rw [e, e2]
  · have h3 : x < z := by grind
    rw [cmp_lt h3]; decide
  · subst h2; rw [e]; decide
  · refine ⟨fun h => ?_, fun h => ?_, fun h => ?_⟩ <;> exact absurd h (by decide)
  · subst h; rw [e2]; decide
  · subst h h2; rw [cmp_eq rfl]; decide
  · subst h; rw [e2]; decide
  · refine ⟨fun h => ?_, fun h => ?_, fun h => ?_⟩ <;> exact absurd h (by decide)
  · subst h2; rw [e]; decide
  · have h3 : z < x := by grind
    rw [cmp_gt h3]; decide
end Go.Proofs.YtfmhplcpejmkhabDoor

namespace Go.Proofs.YtfmhplcpejmkhabDoor
open Go.RowKit Dig
set_option linter.unusedVariables false
set_option linter.unusedSimpArgs false
set_option maxHeartbeats 2000000 in
set_option maxRecDepth 100000 in
theorem nCompare_true_true (s1 : Bool) (X1 Y1 : Nat) (s2 : Bool) (X2 Y2 : Nat)  (w : World) (v1 v2 : Value) (h1 : RawV w v1 s1 X1 Y1) (h2 : RawV w v2 s2 X2 Y2) (hT : Tab w) (a b : Rat) (ha : ratOf s1 X1 Y1 = a) (hb : ratOf s2 X2 Y2 = b) (hL1 : largeB s1 X1 Y1 = true) (hL2 : largeB s2 X2 Y2 = true) :
    Calls Tryd.prog 32 #[v1, v2] w (fun e w' => e = .returned (.tuple #[.int .i64 0, .int .i64 1]) ∧ Below w.heap.size w w') := by
  have H1 := Lib.hid h1
  have H2 := Lib.hid h2
  have HT := Lib.hid hT
  obtain ⟨A1, n1, c1, A1', n1', c1', rfl⟩ := h1.shape
  obtain ⟨A2, n2, c2, A2', n2', c2', rfl⟩ := h2.shape
  clear h1 h2 hT
  obtain ⟨M, hM, k1, k2, bM⟩ := start1 w (.bool s1) (.slice A1 n1 c1) (.slice A1' n1' c1') (.bool s2) (.slice A2 n2 c2) (.slice A2' n2' c2') 24 24
  have HR := Lib.hid True.intro
  have HX := Lib.hid k1
  have HY := Lib.hid k2
  have BM := Lib.hid bM
  replace H1 := Lib.hid (H1.out.below bM)
  replace H2 := Lib.hid (H2.out.below bM)
  replace HT := Lib.hid (HT.out.below bM)
  have HA := Lib.hid ha
  have HB := Lib.hid hb
  have HL1 := Lib.hid hL1
  have HL2 := Lib.hid hL2
  clear ha hb hL1 hL2 k1 k2 bM
  go_enter Tryd.func32, Tryd.ntmps32
  go_upto_region 1 with (fail)
  rw [← hM]
  clear hM
  obtain ⟨x1, x2, x3, _, _, _⟩ := HX.out.cells
  go_wp2_with fail
  refine (readV _ s1 X1 Y1 _ H1.out HT.out).mono ?_
  rw [HL1.out, Bool.not_true]
  rintro e wa ⟨t1, B1, m1, d1, B1', m1', d1', rfl, f1, ba⟩
  have bb := below_step ba ba.size (below_alloc wa (.cells #[.bool t1, .slice B1 m1 d1, .slice B1' m1' d1'] 65))
  have HF1 := Lib.hid (Box.new wa (.bool t1) (.slice B1 m1 d1) (.slice B1' m1' d1') 65)
  have F1 : Hid (largeB s1 X1 Y1 = false → IsF (wa.alloc (.cells #[.bool t1, .slice B1 m1 d1, .slice B1' m1' d1'] 65)) (.agg #[.bool t1, .slice B1 m1 d1, .slice B1' m1' d1']) (ratOf s1 X1 Y1)) := Lib.hid (fun h => absurd (HL1.out.symm.trans h) (by simp))
  have hsz : w.heap.size + 1 < wa.heap.size := Nat.lt_of_lt_of_le (HY.out.lt) ba.size
  replace HX := Lib.hid (HX.out.below bb)
  replace HY := Lib.hid (HY.out.below bb)
  replace H2 := Lib.hid (H2.out.below bb)
  replace HT := Lib.hid (HT.out.below bb)
  have BM := Lib.hid (below_step BM.out BM.out.size bb)
  obtain ⟨w1, hw1⟩ : ∃ w1, wa.alloc (.cells #[.bool t1, .slice B1 m1 d1, .slice B1' m1' d1'] 65) = w1 := ⟨_, rfl⟩
  have hs1 : w1.heap.size = wa.heap.size + 1 := by rw [← hw1]; simp
  have HS1 := Lib.hid hs1
  have HSZ := Lib.hid hsz
  clear x1 x2 x3 ba bb f1 hs1 hsz
  go_upto_region 2 with (fail)
  rw [hw1] at HX HY H2 HT BM HF1 F1
  try rw [hw1]
  clear hw1
  obtain ⟨y1, y2, y3, _, _, _⟩ := HY.out.cells
  go_wp2_with fail
  refine (readV _ s2 X2 Y2 _ H2.out HT.out).mono ?_
  rw [HL2.out, Bool.not_true]
  rintro e wc ⟨t2, B2, m2, d2, B2', m2', d2', rfl, f2, bc⟩
  have bd := below_step bc bc.size (below_alloc wc (.cells #[.bool t2, .slice B2 m2 d2, .slice B2' m2' d2'] 65))
  have HF2 := Lib.hid (Box.new wc (.bool t2) (.slice B2 m2 d2) (.slice B2' m2' d2') 65)
  have F2 : Hid (largeB s2 X2 Y2 = false → IsF (wc.alloc (.cells #[.bool t2, .slice B2 m2 d2, .slice B2' m2' d2'] 65)) (.agg #[.bool t2, .slice B2 m2 d2, .slice B2' m2' d2']) (ratOf s2 X2 Y2)) := Lib.hid (fun h => absurd (HL2.out.symm.trans h) (by simp))
  have F1 : Hid (largeB s1 X1 Y1 = false → IsF (wc.alloc (.cells #[.bool t2, .slice B2 m2 d2, .slice B2' m2' d2'] 65)) (.agg #[.bool t1, .slice B1 m1 d1, .slice B1' m1' d1']) (ratOf s1 X1 Y1)) := Lib.hid (fun h => (F1.out h).below bd)
  have hsz2 : wa.heap.size + 1 ≤ wc.heap.size := by have := bc.size; have := HS1.out; omega
  replace HF1 := Lib.hid (HF1.out.below bd)
  replace HT := Lib.hid (HT.out.below bd)
  have BM := Lib.hid (below_step BM.out BM.out.size bd)
  have HSZ2 := Lib.hid hsz2
  obtain ⟨w2, hw2⟩ : ∃ w2, wc.alloc (.cells #[.bool t2, .slice B2 m2 d2, .slice B2' m2' d2'] 65) = w2 := ⟨_, rfl⟩
  obtain ⟨gf, hgf⟩ : ∃ g, wa.heap.size = g := ⟨_, rfl⟩
  obtain ⟨gg, hgg⟩ : ∃ g, wc.heap.size = g := ⟨_, rfl⟩
  clear y1 y2 y3 bc bd f2 HS1 hsz2 HX HY H1 H2
  go_upto_region 3 with (fail)
  rw [hw2] at HF1 HF2 HT BM F1 F2
  try rw [hw2]
  rw [hgf] at HF1 HSZ HSZ2
  rw [hgg] at HF2 HSZ2
  try rw [hgf]
  try rw [hgg]
  clear hw2 hgf hgg
  go_wp2_with fail
  refine bodyPost_ret (v := .tuple #[.int .i64 0, .int .i64 1]) (by simp [results, Tryd.results32, go_sem]) rfl ⟨rfl, BM.out⟩
set_option maxHeartbeats 2000000 in
set_option maxRecDepth 100000 in
theorem nCompare_true_false (s1 : Bool) (X1 Y1 : Nat) (s2 : Bool) (X2 Y2 : Nat)  (w : World) (v1 v2 : Value) (h1 : RawV w v1 s1 X1 Y1) (h2 : RawV w v2 s2 X2 Y2) (hT : Tab w) (a b : Rat) (ha : ratOf s1 X1 Y1 = a) (hb : ratOf s2 X2 Y2 = b) (hL1 : largeB s1 X1 Y1 = true) (hL2 : largeB s2 X2 Y2 = false) :
    Calls Tryd.prog 32 #[v1, v2] w (fun e w' => e = .returned (.tuple #[.int .i64 0, .int .i64 1]) ∧ Below w.heap.size w w') := by
  have H1 := Lib.hid h1
  have H2 := Lib.hid h2
  have HT := Lib.hid hT
  obtain ⟨A1, n1, c1, A1', n1', c1', rfl⟩ := h1.shape
  obtain ⟨A2, n2, c2, A2', n2', c2', rfl⟩ := h2.shape
  clear h1 h2 hT
  obtain ⟨M, hM, k1, k2, bM⟩ := start1 w (.bool s1) (.slice A1 n1 c1) (.slice A1' n1' c1') (.bool s2) (.slice A2 n2 c2) (.slice A2' n2' c2') 24 24
  have HR := Lib.hid True.intro
  have HX := Lib.hid k1
  have HY := Lib.hid k2
  have BM := Lib.hid bM
  replace H1 := Lib.hid (H1.out.below bM)
  replace H2 := Lib.hid (H2.out.below bM)
  replace HT := Lib.hid (HT.out.below bM)
  have HA := Lib.hid ha
  have HB := Lib.hid hb
  have HL1 := Lib.hid hL1
  have HL2 := Lib.hid hL2
  clear ha hb hL1 hL2 k1 k2 bM
  go_enter Tryd.func32, Tryd.ntmps32
  go_upto_region 1 with (fail)
  rw [← hM]
  clear hM
  obtain ⟨x1, x2, x3, _, _, _⟩ := HX.out.cells
  go_wp2_with fail
  refine (readV _ s1 X1 Y1 _ H1.out HT.out).mono ?_
  rw [HL1.out, Bool.not_true]
  rintro e wa ⟨t1, B1, m1, d1, B1', m1', d1', rfl, f1, ba⟩
  have bb := below_step ba ba.size (below_alloc wa (.cells #[.bool t1, .slice B1 m1 d1, .slice B1' m1' d1'] 65))
  have HF1 := Lib.hid (Box.new wa (.bool t1) (.slice B1 m1 d1) (.slice B1' m1' d1') 65)
  have F1 : Hid (largeB s1 X1 Y1 = false → IsF (wa.alloc (.cells #[.bool t1, .slice B1 m1 d1, .slice B1' m1' d1'] 65)) (.agg #[.bool t1, .slice B1 m1 d1, .slice B1' m1' d1']) (ratOf s1 X1 Y1)) := Lib.hid (fun h => absurd (HL1.out.symm.trans h) (by simp))
  have hsz : w.heap.size + 1 < wa.heap.size := Nat.lt_of_lt_of_le (HY.out.lt) ba.size
  replace HX := Lib.hid (HX.out.below bb)
  replace HY := Lib.hid (HY.out.below bb)
  replace H2 := Lib.hid (H2.out.below bb)
  replace HT := Lib.hid (HT.out.below bb)
  have BM := Lib.hid (below_step BM.out BM.out.size bb)
  obtain ⟨w1, hw1⟩ : ∃ w1, wa.alloc (.cells #[.bool t1, .slice B1 m1 d1, .slice B1' m1' d1'] 65) = w1 := ⟨_, rfl⟩
  have hs1 : w1.heap.size = wa.heap.size + 1 := by rw [← hw1]; simp
  have HS1 := Lib.hid hs1
  have HSZ := Lib.hid hsz
  clear x1 x2 x3 ba bb f1 hs1 hsz
  go_upto_region 2 with (fail)
  rw [hw1] at HX HY H2 HT BM HF1 F1
  try rw [hw1]
  clear hw1
  obtain ⟨y1, y2, y3, _, _, _⟩ := HY.out.cells
  go_wp2_with fail
  refine (readV _ s2 X2 Y2 _ H2.out HT.out).mono ?_
  rw [HL2.out, Bool.not_false]
  rintro e wc ⟨t2, B2, m2, d2, B2', m2', d2', rfl, f2, bc⟩
  have bd := below_step bc bc.size (below_alloc wc (.cells #[.bool t2, .slice B2 m2 d2, .slice B2' m2' d2'] 65))
  have HF2 := Lib.hid (Box.new wc (.bool t2) (.slice B2 m2 d2) (.slice B2' m2' d2') 65)
  have F2 : Hid (largeB s2 X2 Y2 = false → IsF (wc.alloc (.cells #[.bool t2, .slice B2 m2 d2, .slice B2' m2' d2'] 65)) (.agg #[.bool t2, .slice B2 m2 d2, .slice B2' m2' d2']) (ratOf s2 X2 Y2)) := Lib.hid (fun h => (f2.out rfl).below (below_alloc _ _))
  have F1 : Hid (largeB s1 X1 Y1 = false → IsF (wc.alloc (.cells #[.bool t2, .slice B2 m2 d2, .slice B2' m2' d2'] 65)) (.agg #[.bool t1, .slice B1 m1 d1, .slice B1' m1' d1']) (ratOf s1 X1 Y1)) := Lib.hid (fun h => (F1.out h).below bd)
  have hsz2 : wa.heap.size + 1 ≤ wc.heap.size := by have := bc.size; have := HS1.out; omega
  replace HF1 := Lib.hid (HF1.out.below bd)
  replace HT := Lib.hid (HT.out.below bd)
  have BM := Lib.hid (below_step BM.out BM.out.size bd)
  have HSZ2 := Lib.hid hsz2
  obtain ⟨w2, hw2⟩ : ∃ w2, wc.alloc (.cells #[.bool t2, .slice B2 m2 d2, .slice B2' m2' d2'] 65) = w2 := ⟨_, rfl⟩
  obtain ⟨gf, hgf⟩ : ∃ g, wa.heap.size = g := ⟨_, rfl⟩
  obtain ⟨gg, hgg⟩ : ∃ g, wc.heap.size = g := ⟨_, rfl⟩
  clear y1 y2 y3 bc bd f2 HS1 hsz2 HX HY H1 H2
  go_upto_region 3 with (fail)
  rw [hw2] at HF1 HF2 HT BM F1 F2
  try rw [hw2]
  rw [hgf] at HF1 HSZ HSZ2
  rw [hgg] at HF2 HSZ2
  try rw [hgf]
  try rw [hgg]
  clear hw2 hgf hgg
  go_wp2_with fail
  refine bodyPost_ret (v := .tuple #[.int .i64 0, .int .i64 1]) (by simp [results, Tryd.results32, go_sem]) rfl ⟨rfl, BM.out⟩
set_option maxHeartbeats 2000000 in
set_option maxRecDepth 100000 in
theorem nCompare_false_true (s1 : Bool) (X1 Y1 : Nat) (s2 : Bool) (X2 Y2 : Nat)  (w : World) (v1 v2 : Value) (h1 : RawV w v1 s1 X1 Y1) (h2 : RawV w v2 s2 X2 Y2) (hT : Tab w) (a b : Rat) (ha : ratOf s1 X1 Y1 = a) (hb : ratOf s2 X2 Y2 = b) (hL1 : largeB s1 X1 Y1 = false) (hL2 : largeB s2 X2 Y2 = true) :
    Calls Tryd.prog 32 #[v1, v2] w (fun e w' => e = .returned (.tuple #[.int .i64 0, .int .i64 1]) ∧ Below w.heap.size w w') := by
  have H1 := Lib.hid h1
  have H2 := Lib.hid h2
  have HT := Lib.hid hT
  obtain ⟨A1, n1, c1, A1', n1', c1', rfl⟩ := h1.shape
  obtain ⟨A2, n2, c2, A2', n2', c2', rfl⟩ := h2.shape
  clear h1 h2 hT
  obtain ⟨M, hM, k1, k2, bM⟩ := start1 w (.bool s1) (.slice A1 n1 c1) (.slice A1' n1' c1') (.bool s2) (.slice A2 n2 c2) (.slice A2' n2' c2') 24 24
  have HR := Lib.hid True.intro
  have HX := Lib.hid k1
  have HY := Lib.hid k2
  have BM := Lib.hid bM
  replace H1 := Lib.hid (H1.out.below bM)
  replace H2 := Lib.hid (H2.out.below bM)
  replace HT := Lib.hid (HT.out.below bM)
  have HA := Lib.hid ha
  have HB := Lib.hid hb
  have HL1 := Lib.hid hL1
  have HL2 := Lib.hid hL2
  clear ha hb hL1 hL2 k1 k2 bM
  go_enter Tryd.func32, Tryd.ntmps32
  go_upto_region 1 with (fail)
  rw [← hM]
  clear hM
  obtain ⟨x1, x2, x3, _, _, _⟩ := HX.out.cells
  go_wp2_with fail
  refine (readV _ s1 X1 Y1 _ H1.out HT.out).mono ?_
  rw [HL1.out, Bool.not_false]
  rintro e wa ⟨t1, B1, m1, d1, B1', m1', d1', rfl, f1, ba⟩
  have bb := below_step ba ba.size (below_alloc wa (.cells #[.bool t1, .slice B1 m1 d1, .slice B1' m1' d1'] 65))
  have HF1 := Lib.hid (Box.new wa (.bool t1) (.slice B1 m1 d1) (.slice B1' m1' d1') 65)
  have F1 : Hid (largeB s1 X1 Y1 = false → IsF (wa.alloc (.cells #[.bool t1, .slice B1 m1 d1, .slice B1' m1' d1'] 65)) (.agg #[.bool t1, .slice B1 m1 d1, .slice B1' m1' d1']) (ratOf s1 X1 Y1)) := Lib.hid (fun h => (f1.out rfl).below (below_alloc _ _))
  have hsz : w.heap.size + 1 < wa.heap.size := Nat.lt_of_lt_of_le (HY.out.lt) ba.size
  replace HX := Lib.hid (HX.out.below bb)
  replace HY := Lib.hid (HY.out.below bb)
  replace H2 := Lib.hid (H2.out.below bb)
  replace HT := Lib.hid (HT.out.below bb)
  have BM := Lib.hid (below_step BM.out BM.out.size bb)
  obtain ⟨w1, hw1⟩ : ∃ w1, wa.alloc (.cells #[.bool t1, .slice B1 m1 d1, .slice B1' m1' d1'] 65) = w1 := ⟨_, rfl⟩
  have hs1 : w1.heap.size = wa.heap.size + 1 := by rw [← hw1]; simp
  have HS1 := Lib.hid hs1
  have HSZ := Lib.hid hsz
  clear x1 x2 x3 ba bb f1 hs1 hsz
  go_upto_region 2 with (fail)
  rw [hw1] at HX HY H2 HT BM HF1 F1
  try rw [hw1]
  clear hw1
  obtain ⟨y1, y2, y3, _, _, _⟩ := HY.out.cells
  go_wp2_with fail
  refine (readV _ s2 X2 Y2 _ H2.out HT.out).mono ?_
  rw [HL2.out, Bool.not_true]
  rintro e wc ⟨t2, B2, m2, d2, B2', m2', d2', rfl, f2, bc⟩
  have bd := below_step bc bc.size (below_alloc wc (.cells #[.bool t2, .slice B2 m2 d2, .slice B2' m2' d2'] 65))
  have HF2 := Lib.hid (Box.new wc (.bool t2) (.slice B2 m2 d2) (.slice B2' m2' d2') 65)
  have F2 : Hid (largeB s2 X2 Y2 = false → IsF (wc.alloc (.cells #[.bool t2, .slice B2 m2 d2, .slice B2' m2' d2'] 65)) (.agg #[.bool t2, .slice B2 m2 d2, .slice B2' m2' d2']) (ratOf s2 X2 Y2)) := Lib.hid (fun h => absurd (HL2.out.symm.trans h) (by simp))
  have F1 : Hid (largeB s1 X1 Y1 = false → IsF (wc.alloc (.cells #[.bool t2, .slice B2 m2 d2, .slice B2' m2' d2'] 65)) (.agg #[.bool t1, .slice B1 m1 d1, .slice B1' m1' d1']) (ratOf s1 X1 Y1)) := Lib.hid (fun h => (F1.out h).below bd)
  have hsz2 : wa.heap.size + 1 ≤ wc.heap.size := by have := bc.size; have := HS1.out; omega
  replace HF1 := Lib.hid (HF1.out.below bd)
  replace HT := Lib.hid (HT.out.below bd)
  have BM := Lib.hid (below_step BM.out BM.out.size bd)
  have HSZ2 := Lib.hid hsz2
  obtain ⟨w2, hw2⟩ : ∃ w2, wc.alloc (.cells #[.bool t2, .slice B2 m2 d2, .slice B2' m2' d2'] 65) = w2 := ⟨_, rfl⟩
  obtain ⟨gf, hgf⟩ : ∃ g, wa.heap.size = g := ⟨_, rfl⟩
  obtain ⟨gg, hgg⟩ : ∃ g, wc.heap.size = g := ⟨_, rfl⟩
  clear y1 y2 y3 bc bd f2 HS1 hsz2 HX HY H1 H2
  go_upto_region 3 with (fail)
  rw [hw2] at HF1 HF2 HT BM F1 F2
  try rw [hw2]
  rw [hgf] at HF1 HSZ HSZ2
  rw [hgg] at HF2 HSZ2
  try rw [hgf]
  try rw [hgg]
  clear hw2 hgf hgg
  go_wp2_with fail
  refine bodyPost_ret (v := .tuple #[.int .i64 0, .int .i64 1]) (by simp [results, Tryd.results32, go_sem]) rfl ⟨rfl, BM.out⟩
set_option maxHeartbeats 2000000 in
set_option maxRecDepth 100000 in
theorem nCompare_fit (s1 : Bool) (X1 Y1 : Nat) (s2 : Bool) (X2 Y2 : Nat) (c : Int) (hc : cmpQ (ratOf s1 X1 Y1) (ratOf s2 X2 Y2) = c) (w : World) (v1 v2 : Value) (h1 : RawV w v1 s1 X1 Y1) (h2 : RawV w v2 s2 X2 Y2) (hT : Tab w) (a b : Rat) (ha : ratOf s1 X1 Y1 = a) (hb : ratOf s2 X2 Y2 = b) (hL1 : largeB s1 X1 Y1 = false) (hL2 : largeB s2 X2 Y2 = false) :
    Calls Tryd.prog 32 #[v1, v2] w (fun e w' => e = .returned (.tuple #[.int .i64 c, .int .i64 0]) ∧ Below w.heap.size w w') := by
  have H1 := Lib.hid h1
  have H2 := Lib.hid h2
  have HT := Lib.hid hT
  obtain ⟨A1, n1, c1, A1', n1', c1', rfl⟩ := h1.shape
  obtain ⟨A2, n2, c2, A2', n2', c2', rfl⟩ := h2.shape
  clear h1 h2 hT
  obtain ⟨M, hM, k1, k2, bM⟩ := start1 w (.bool s1) (.slice A1 n1 c1) (.slice A1' n1' c1') (.bool s2) (.slice A2 n2 c2) (.slice A2' n2' c2') 24 24
  have HR := Lib.hid True.intro
  have HX := Lib.hid k1
  have HY := Lib.hid k2
  have BM := Lib.hid bM
  replace H1 := Lib.hid (H1.out.below bM)
  replace H2 := Lib.hid (H2.out.below bM)
  replace HT := Lib.hid (HT.out.below bM)
  have HA := Lib.hid ha
  have HB := Lib.hid hb
  have HL1 := Lib.hid hL1
  have HL2 := Lib.hid hL2
  have fa := (largeB_false hL1).2.2
  have fb := (largeB_false hL2).2.2
  rw [ha] at fa
  rw [hb] at fb
  have FA := Lib.hid fa
  have FB := Lib.hid fb
  clear fa fb
  rw [ha, hb] at hc
  have HC := Lib.hid hc
  clear hc
  clear ha hb hL1 hL2 k1 k2 bM
  go_enter Tryd.func32, Tryd.ntmps32
  go_upto_region 1 with (fail)
  rw [← hM]
  clear hM
  obtain ⟨x1, x2, x3, _, _, _⟩ := HX.out.cells
  go_wp2_with fail
  refine (readV _ s1 X1 Y1 _ H1.out HT.out).mono ?_
  rw [HL1.out, Bool.not_false]
  rintro e wa ⟨t1, B1, m1, d1, B1', m1', d1', rfl, f1, ba⟩
  have bb := below_step ba ba.size (below_alloc wa (.cells #[.bool t1, .slice B1 m1 d1, .slice B1' m1' d1'] 65))
  have HF1 := Lib.hid (Box.new wa (.bool t1) (.slice B1 m1 d1) (.slice B1' m1' d1') 65)
  have F1 : Hid (largeB s1 X1 Y1 = false → IsF (wa.alloc (.cells #[.bool t1, .slice B1 m1 d1, .slice B1' m1' d1'] 65)) (.agg #[.bool t1, .slice B1 m1 d1, .slice B1' m1' d1']) (ratOf s1 X1 Y1)) := Lib.hid (fun h => (f1.out rfl).below (below_alloc _ _))
  have hsz : w.heap.size + 1 < wa.heap.size := Nat.lt_of_lt_of_le (HY.out.lt) ba.size
  replace HX := Lib.hid (HX.out.below bb)
  replace HY := Lib.hid (HY.out.below bb)
  replace H2 := Lib.hid (H2.out.below bb)
  replace HT := Lib.hid (HT.out.below bb)
  have BM := Lib.hid (below_step BM.out BM.out.size bb)
  obtain ⟨w1, hw1⟩ : ∃ w1, wa.alloc (.cells #[.bool t1, .slice B1 m1 d1, .slice B1' m1' d1'] 65) = w1 := ⟨_, rfl⟩
  have hs1 : w1.heap.size = wa.heap.size + 1 := by rw [← hw1]; simp
  have HS1 := Lib.hid hs1
  have HSZ := Lib.hid hsz
  clear x1 x2 x3 ba bb f1 hs1 hsz
  go_upto_region 2 with (fail)
  rw [hw1] at HX HY H2 HT BM HF1 F1
  try rw [hw1]
  clear hw1
  obtain ⟨y1, y2, y3, _, _, _⟩ := HY.out.cells
  go_wp2_with fail
  refine (readV _ s2 X2 Y2 _ H2.out HT.out).mono ?_
  rw [HL2.out, Bool.not_false]
  rintro e wc ⟨t2, B2, m2, d2, B2', m2', d2', rfl, f2, bc⟩
  have bd := below_step bc bc.size (below_alloc wc (.cells #[.bool t2, .slice B2 m2 d2, .slice B2' m2' d2'] 65))
  have HF2 := Lib.hid (Box.new wc (.bool t2) (.slice B2 m2 d2) (.slice B2' m2' d2') 65)
  have F2 : Hid (largeB s2 X2 Y2 = false → IsF (wc.alloc (.cells #[.bool t2, .slice B2 m2 d2, .slice B2' m2' d2'] 65)) (.agg #[.bool t2, .slice B2 m2 d2, .slice B2' m2' d2']) (ratOf s2 X2 Y2)) := Lib.hid (fun h => (f2.out rfl).below (below_alloc _ _))
  have F1 : Hid (largeB s1 X1 Y1 = false → IsF (wc.alloc (.cells #[.bool t2, .slice B2 m2 d2, .slice B2' m2' d2'] 65)) (.agg #[.bool t1, .slice B1 m1 d1, .slice B1' m1' d1']) (ratOf s1 X1 Y1)) := Lib.hid (fun h => (F1.out h).below bd)
  have hsz2 : wa.heap.size + 1 ≤ wc.heap.size := by have := bc.size; have := HS1.out; omega
  replace HF1 := Lib.hid (HF1.out.below bd)
  replace HT := Lib.hid (HT.out.below bd)
  have BM := Lib.hid (below_step BM.out BM.out.size bd)
  have HSZ2 := Lib.hid hsz2
  obtain ⟨w2, hw2⟩ : ∃ w2, wc.alloc (.cells #[.bool t2, .slice B2 m2 d2, .slice B2' m2' d2'] 65) = w2 := ⟨_, rfl⟩
  obtain ⟨gf, hgf⟩ : ∃ g, wa.heap.size = g := ⟨_, rfl⟩
  obtain ⟨gg, hgg⟩ : ∃ g, wc.heap.size = g := ⟨_, rfl⟩
  clear y1 y2 y3 bc bd f2 HS1 hsz2 HX HY H1 H2
  go_upto_region 3 with (fail)
  rw [hw2] at HF1 HF2 HT BM F1 F2
  try rw [hw2]
  rw [hgf] at HF1 HSZ HSZ2
  rw [hgg] at HF2 HSZ2
  try rw [hgf]
  try rw [hgg]
  clear hw2 hgf hgg
  have F1 := Lib.hid (F1.out HL1.out)
  have F2 := Lib.hid (F2.out HL2.out)
  rw [HA.out] at F1
  rw [HB.out] at F2
  obtain ⟨x1, x2, x3, _⟩ := HF1.out.cells
  obtain ⟨y1, y2, y3, _⟩ := HF2.out.cells
  go_wp2_with fail
  refine (fCmp a b _ _ _ F1.out F2.out (fit_Wq FA.out (by omega)) (fit_Wq FB.out (by omega))).mono ?_
  rw [HC.out]
  rintro e we ⟨rfl, be⟩
  have BM := Lib.hid (below_step BM.out BM.out.size be)
  clear be
  go_wp2_with fail
  refine bodyPost_ret (v := .tuple #[.int .i64 c, .int .i64 0]) (by simp [results, Tryd.results32, go_sem]) rfl ⟨rfl, BM.out⟩
/-- what Compare returns -/
theorem nCompare (s1 : Bool) (X1 Y1 : Nat) (s2 : Bool) (X2 Y2 : Nat) (w : World) (v1 v2 : Value) (h1 : RawV w v1 s1 X1 Y1) (h2 : RawV w v2 s2 X2 Y2) (hT : Tab w) (c k : Int) (hc : (if (largeB s1 X1 Y1 || largeB s2 X2 Y2) = true then 0 else cmpQ (ratOf s1 X1 Y1) (ratOf s2 X2 Y2)) = c) (hk : (if (largeB s1 X1 Y1 || largeB s2 X2 Y2) = true then 1 else 0) = k) :
    Calls Tryd.prog 32 #[v1, v2] w fun e w' => e = .returned (.tuple #[.int .i64 c, .int .i64 k]) ∧ Below w.heap.size w w' := by
  subst hc hk
  cases e1 : largeB s1 X1 Y1 <;> cases e2 : largeB s2 X2 Y2
  · exact nCompare_fit s1 X1 Y1 s2 X2 Y2 _ rfl w v1 v2 h1 h2 hT _ _ rfl rfl e1 e2
  · exact nCompare_false_true s1 X1 Y1 s2 X2 Y2 w v1 v2 h1 h2 hT _ _ rfl rfl e1 e2
  · exact nCompare_true_false s1 X1 Y1 s2 X2 Y2 w v1 v2 h1 h2 hT _ _ rfl rfl e1 e2
  · exact nCompare_true_true s1 X1 Y1 s2 X2 Y2 w v1 v2 h1 h2 hT _ _ rfl rfl e1 e2
end Go.Proofs.YtfmhplcpejmkhabDoor

namespace Go.Proofs.YtfmhplcpejmkhabDoor
open Go.RowKit Dig
set_option linter.unusedVariables false
set_option linter.unusedSimpArgs false
def valO : Out → Rat
  | .ok q => q
  | .err _ => 0
theorem fit_zero : fitQ 0 := by
  refine ⟨?_, ?_⟩
  · exact Nat.le_trans ((dig_length_le B32_two _ 2).2 (by unfold B32; decide)) (by omega : 2 ≤ 64)
  · exact Nat.le_trans ((dig_length_le B32_two _ 2).2 (by unfold B32; decide)) (by omega : 2 ≤ 64)
theorem OutIs.rawV {w : World} {o : Out} {u : Value} {k : Int} (h : OutIs w o u k) : RawV w u (ng (valO o)) (valO o).num.natAbs (dwv (valO o).den) := by
  cases o with
  | ok q => exact h.2.1.raw h.2.2
  | err j =>
    obtain ⟨_, e, _, _⟩ := h
    rw [e]
    exact ⟨none, 0, [], none, 0, [], rfl, Rd.nil _ _ _ (by omega), Rd.nil _ _ _ (by omega), (fun x hx => by cases hx), (fun x hx => by cases hx), rfl, rfl, by simp, by simp⟩
theorem OutIs.fit {w : World} {o : Out} {u : Value} {k : Int} (h : OutIs w o u k) : fitQ (valO o) := by
  cases o with
  | ok q => exact h.2.2
  | err j => exact fit_zero
theorem give_cases (q : Rat) : (give q = .ok q ∧ fitQ q) ∨ give q = .err 1 := by
  unfold give
  by_cases h : fitQ q
  · exact Or.inl ⟨if_pos h, h⟩
  · exact Or.inr (if_neg h)
end Go.Proofs.YtfmhplcpejmkhabDoor

namespace Go.Proofs.YtfmhplcpejmkhabDoor
open Go.RowKit Dig
set_option linter.unusedVariables false
set_option linter.unusedSimpArgs false
set_option maxHeartbeats 2000000 in
set_option maxRecDepth 100000 in
theorem nSign (s1 : Bool) (N1 D1 : Nat) (w : World) (v1 : Value) (h1 : RawV w v1 s1 N1 D1) (hT : Tab w) (q : Rat) (hq : ratOf s1 N1 D1 = q) (k : Int) (hk : sgnI (ng q) q.num.natAbs = k) (L1 : Bool) (hL1 : largeB s1 N1 D1 = L1) (x y : Int) (hx : (if L1 = true then 0 else k) = x) (hy : (if L1 = true then 1 else 0) = y) :
    Calls Tryd.prog 20 #[v1] w fun e w' => e = .returned (.tuple #[.int .i64 x, .int .i64 y]) ∧ Below w.heap.size w w' := by
  have H1 := Lib.hid h1
  have HT := Lib.hid hT
  obtain ⟨A1, n1, c1, A1', n1', c1', rfl⟩ := h1.shape
  have bM := below_alloc w (.cells #[.bool s1, .slice A1 n1 c1, .slice A1' n1' c1'] 24)
  have HX := Lib.hid (Box.new w (.bool s1) (.slice A1 n1 c1) (.slice A1' n1' c1') 24)
  have BM := Lib.hid bM
  have HQ := Lib.hid hq
  have HK := Lib.hid hk
  have HL1 := Lib.hid hL1
  replace H1 := Lib.hid (H1.out.below bM)
  replace HT := Lib.hid (HT.out.below bM)
  have HXX := Lib.hid hx
  have HYY := Lib.hid hy
  clear h1 hT bM hq hk hL1 hx hy
  go_enter Tryd.func20, Tryd.ntmps20
  go_upto_region 1 with (fail)
  obtain ⟨x1, x2, x3, _, _, _⟩ := HX.out.cells
  go_wp2_with fail
  refine (readV _ s1 N1 D1 _ H1.out HT.out).mono ?_
  rw [HL1.out, HQ.out]
  rintro e wa ⟨t1, B1, m1, d1, B1', m1', d1', rfl, f1, ba⟩
  have bb := below_step ba ba.size (below_alloc wa (.cells #[.bool t1, .slice B1 m1 d1, .slice B1' m1' d1'] 65))
  have HF1 := Lib.hid (Box.new wa (.bool t1) (.slice B1 m1 d1) (.slice B1' m1' d1') 65)
  have F1 : Hid (L1 = false → IsF (wa.alloc (.cells #[.bool t1, .slice B1 m1 d1, .slice B1' m1' d1'] 65)) (.agg #[.bool t1, .slice B1 m1 d1, .slice B1' m1' d1']) q) := Lib.hid (fun h => (f1.out h).below (below_alloc _ _))
  have BM := Lib.hid (below_step BM.out BM.out.size bb)
  clear x1 x2 x3 ba bb f1
  obtain ⟨w1, hw1⟩ : ∃ w1, wa.alloc (.cells #[.bool t1, .slice B1 m1 d1, .slice B1' m1' d1'] 65) = w1 := ⟨_, rfl⟩
  go_upto_region 2 with (fail)
  rw [hw1] at BM HF1 F1
  try rw [hw1]
  clear hw1
  rcases L1 with _ | _
  · obtain rfl : k = x := by have := HXX.out; simpa using this
    obtain rfl : 0 = y := by have := HYY.out; simpa using this
    obtain ⟨E1, e1, E2, e2, ev, r1, r2⟩ := F1.out rfl
    obtain ⟨rfl, ⟨rfl, rfl, rfl⟩, rfl, rfl, rfl⟩ : t1 = ng q ∧ (B1 = E1 ∧ m1 = (W q.num.natAbs).length ∧ d1 = e1) ∧ B1' = E2 ∧ m1' = (W q.den).length ∧ d1' = e2 := by simpa using ev
    obtain ⟨x1, x2, x3, _, _, _⟩ := HF1.out.cells
    clear ev r1 r2
    go_wp2_with fail
    refine (fracSign _ _ _ _ _ _ _ _).mono ?_
    rw [HK.out]
    rintro e wb ⟨rfl, bb⟩
    have BM := Lib.hid (below_step BM.out BM.out.size bb)
    clear bb x1 x2 x3
    go_wp2_with fail
    refine bodyPost_ret (v := .tuple #[.int .i64 k, .int .i64 0]) (by simp [results, Tryd.results20, go_sem]) rfl ⟨rfl, BM.out⟩
  · obtain rfl : 0 = x := by have := HXX.out; simpa using this
    obtain rfl : 1 = y := by have := HYY.out; simpa using this
    go_wp2_with fail
    refine bodyPost_ret (v := .tuple #[.int .i64 0, .int .i64 1]) (by simp [results, Tryd.results20, go_sem]) rfl ⟨rfl, BM.out⟩
theorem qSgn (b : Rat) (w : World) (v : Value) (h : IsQ w v b) :
    Calls Tryd.prog 26 #[v] w fun e w' => e = .returned (.int .i64 (sgnI (ng b) b.num.natAbs)) ∧ Below w.heap.size w w' := by
  obtain ⟨A1, c1, A2, c2, rfl, r1, r2⟩ := h
  exact rSgn _ _ _ w _ _ _ _
set_option maxHeartbeats 1000000 in
theorem rMag (s1 : Bool) (n1 d1 : Nat) (w : World) (A1 A2 : Option Addr) (c1 c2 : Nat) :
    Calls Tryd.prog 29 #[.agg #[.bool s1, .slice A1 n1 c1, .slice A2 d1 c2]] w fun e w' => e = .returned (.agg #[.bool false, .slice A1 n1 c1, .slice A2 d1 c2]) ∧ Below w.heap.size w w' := by
  go_enter Tryd.func29, Tryd.ntmps29
  go_wp2_with fail
  refine bodyPost_ret (v := .agg #[.bool false, .slice A1 n1 c1, .slice A2 d1 c2]) (by simp [results, Tryd.results29, go_sem]) rfl ⟨rfl, below_alloc2 _ _ _ _ _ _ _ _ _⟩
theorem qMag (a : Rat) (w : World) (v1 : Value) (h1 : IsQ w v1 a) :
    Calls Tryd.prog 29 #[v1] w fun e w' => ∃ u, e = .returned u ∧ IsQ w' u (absQ a) ∧ Below w.heap.size w w' := by
  obtain ⟨A1, c1, A2, c2, rfl, r1, r2⟩ := h1
  obtain ⟨e1, e2, e3⟩ := absQ_facts a
  refine (rMag _ _ _ w A1 A2 c1 c2).mono ?_
  rintro e w' ⟨rfl, hb⟩
  exact ⟨_, rfl, by unfold IsQ; rw [e1, e2, e3]; exact ⟨_, _, _, _, rfl, r1.below hb, r2.below hb⟩, hb⟩
end Go.Proofs.YtfmhplcpejmkhabDoor

namespace Go.Proofs.YtfmhplcpejmkhabDoor
open Go.RowKit Dig
set_option linter.unusedVariables false
set_option linter.unusedSimpArgs false
theorem W_single {n : Nat} (h0 : n ≠ 0) (h : n < 4294967296) : W n = [(n : Int)] := by
  unfold W
  rw [dig_pos B32_two h0]
  have h1 : n < B32 := by unfold B32; exact h
  rw [Nat.div_eq_of_lt h1, dig_zero, Nat.mod_eq_of_lt h1]
theorem half_third : ratOf false 1 2 + ratOf false 1 3 = mkRat 5 6 := by
  show mkRat 1 2 + mkRat 1 3 = mkRat 5 6
  rw [Rat.mkRat_add_mkRat _ _ (by omega) (by omega)]
  rfl
theorem five_sixths : ng (mkRat 5 6) = false ∧ (mkRat 5 6).num.natAbs = 5 ∧ (mkRat 5 6).den = 6 := by
  have h1 : (mkRat 5 6).num = 5 := by rw [Rat.num_mkRat, if_neg (by omega)]; rfl
  have h2 : (mkRat 5 6).den = 6 := by rw [Rat.den_mkRat, if_neg (by omega)]; rfl
  refine ⟨?_, ?_, h2⟩
  · unfold ng; rw [h1]; rfl
  · rw [h1]; rfl
theorem fit_half (d : Nat) (h0 : d ≠ 0) (h : d < 4294967296) : fitQ (ratOf false 1 d) := by
  have e : ratOf false 1 d = mkRat 1 d := by unfold ratOf sg; rw [if_neg h0]; rfl
  rw [e]
  have h1 : (mkRat 1 d).num.natAbs ≤ 1 := by
    rw [Rat.num_mkRat, if_neg h0]; simp
  have h2 : (mkRat 1 d).den ≤ d := by
    rw [Rat.den_mkRat, if_neg h0]; exact Nat.div_le_self _ _
  exact ⟨Nat.le_trans (W_le_one (by omega)) (by omega), Nat.le_trans (W_le_one (by omega)) (by omega)⟩
theorem small_large (d : Nat) (h0 : d ≠ 0) (h : d < 4294967296) : largeB false 1 d = false := by
  unfold largeB
  rw [decide_eq_true ⟨Nat.le_trans (W_le_one (by omega)) (by omega), Nat.le_trans (W_le_one (by omega)) (by omega), fit_half d h0 h⟩]
  rfl
theorem rd_one (w : World) (g : Nat) (x : Int) (h : w.cell? ⟨g, 0, none⟩ = some (.int .u32 x)) : Rd w (some ⟨g, 0, none⟩) 1 [x] :=
  ⟨by simp, by omega, fun j hj => by
    have : j = 0 := by simpa using hj
    subst this
    exact ⟨_, rfl, by simpa [Addr.add, rd] using h⟩⟩
theorem raw_one {w : World} {g g' : Nat} {d : Nat} (h1 : w.cell? ⟨g, 0, none⟩ = some (.int .u32 1)) (h2 : w.cell? ⟨g', 0, none⟩ = some (.int .u32 d)) (h : d < 4294967296) :
    RawV w (.agg #[.bool false, .slice (some ⟨g, 0, none⟩) 1 1, .slice (some ⟨g', 0, none⟩) 1 1]) false 1 d := by
  refine ⟨_, _, [1], _, _, [(d : Int)], rfl, rd_one _ _ _ h1, rd_one _ _ _ h2, ?_, ?_, by simp [val], by simp [val], by simp, by simp⟩
  · exact Ok.cons (by omega) (by rw [B32_cast]; omega) (Ok.nil _)
  · exact Ok.cons (by omega) (by rw [B32_cast]; omega) (Ok.nil _)
theorem four_new (w : World) (a b c d : Value) (t : TypeId) : ∃ M, M = ((((w.alloc (.cells #[a] t)).alloc (.cells #[b] t)).alloc (.cells #[c] t)).alloc (.cells #[d] t)) ∧
    M.cell? ⟨w.heap.size, 0, none⟩ = some a ∧ M.cell? ⟨w.heap.size + 1, 0, none⟩ = some b ∧ M.cell? ⟨w.heap.size + 1 + 1, 0, none⟩ = some c ∧ M.cell? ⟨w.heap.size + 1 + 1 + 1, 0, none⟩ = some d ∧ Below w.heap.size w M := by
  refine ⟨_, rfl, ?_⟩
  have key : ∀ (w : World) (x : Value), (w.alloc (.cells #[x] t)).cell? ⟨w.heap.size, 0, none⟩ = some x ∧ Below w.heap.size w (w.alloc (.cells #[x] t)) ∧ (w.alloc (.cells #[x] t)).heap.size = w.heap.size + 1 := by
    intro w x
    refine ⟨?_, below_alloc _ _, by simp⟩
    exact (cell_of_row _ _ 0 _ _ (0, 0) (heap_alloc_new w (.cells #[x] t))).trans rfl
  obtain ⟨a1, b1, s1⟩ := key w a
  generalize w.alloc (.cells #[a] t) = w1 at *
  obtain ⟨a2, b2, s2⟩ := key w1 b
  generalize w1.alloc (.cells #[b] t) = w2 at *
  obtain ⟨a3, b3, s3⟩ := key w2 c
  generalize w2.alloc (.cells #[c] t) = w3 at *
  obtain ⟨a4, b4, s4⟩ := key w3 d
  generalize w3.alloc (.cells #[d] t) = w4 at *
  rw [s1] at a2 s2
  rw [s2] at a3 s3
  rw [s3] at a4
  exact ⟨cell_later b4 (cell_later b3 (cell_later b2 a1)), cell_later b4 (cell_later b3 a2), cell_later b4 a3, a4, below_step b1 b1.size (below_step b2 b2.size (below_step b3 b3.size b4))⟩
set_option maxHeartbeats 1000000 in
set_option maxRecDepth 100000 in
theorem lAwake (w : World) (hT : Tab w) : Calls Tryd.prog 17 #[] w fun e w' => e = .returned (.bool true) ∧ Below w.heap.size w w' := by
  obtain ⟨M, hM, k1, k2, k3, k4, bM⟩ := four_new w (.int .u32 1) (.int .u32 2) (.int .u32 1) (.int .u32 3) 72
  have C := Lib.hid (nAdd false 1 2 false 1 3 M _ _ (raw_one k1 k2 (by omega)) (raw_one k3 k4 (by omega)) (hT.below bM))
  rw [small_large 2 (by omega) (by omega), small_large 3 (by omega) (by omega), half_third] at C
  have BM := Lib.hid bM
  clear k1 k2 k3 k4 bM hT
  go_enter Tryd.func17, Tryd.ntmps17
  go_wp2_with fail
  rw [← hM]
  clear hM
  refine C.out.mono ?_
  rintro e wa ⟨s9, A9, n9, c9, A9', n9', c9', k9, rfl, h9, b9⟩
  have BA := Lib.hid (below_step BM.out BM.out.size b9)
  have hf : fitQ (mkRat 5 6) := by
    obtain ⟨_, h2, h3⟩ := five_sixths
    unfold fitQ
    rw [h2, h3]
    exact ⟨Nat.le_trans (W_le_one (by omega)) (by omega), Nat.le_trans (W_le_one (by omega)) (by omega)⟩
  have hg : (if (false || false) = true then Out.err 1 else give (mkRat 5 6)) = .ok (mkRat 5 6) := by
    show give (mkRat 5 6) = _
    unfold give
    rw [if_pos hf]
  rw [hg] at h9
  obtain ⟨rfl, ⟨B1, b1, B2, b2, e, r1, r2⟩, _⟩ := h9
  obtain ⟨h1, h2, h3⟩ := five_sixths
  rw [h1, h2, h3] at e
  rw [h2, W_single (by omega) (by omega)] at r1
  rw [h3, DW, if_neg (by omega), W_single (by omega) (by omega)] at r2
  rw [W_single (by omega) (by omega), DW, if_neg (by omega), W_single (by omega) (by omega)] at e
  obtain ⟨p1, rfl⟩ := r1.some_ (by simp)
  obtain ⟨p2, rfl⟩ := r2.some_ (by simp)
  simp only [Value.agg.injEq, Array.mk.injEq, List.cons.injEq, Value.bool.injEq, Value.slice.injEq, and_true, List.length_cons, List.length_nil] at e
  obtain ⟨rfl, ⟨rfl, rfl, rfl⟩, rfl, rfl, rfl⟩ := e
  have q1 := r1.cell 0 (by simp)
  have q2 := r2.cell 0 (by simp)
  have e1 := r1.le
  have e2 := r2.le
  have e3 := r1.max
  have e4 := r2.max
  replace q1 : wa.cell? p1 = some (.int .u32 5) := by simpa [Addr.add, rd] using q1
  replace q2 : wa.cell? p2 = some (.int .u32 6) := by simpa [Addr.add, rd] using q2
  simp only [List.length_cons, List.length_nil] at e1 e2
  have ba := below_alloc wa (.cells #[.bool false, .slice (some p1) 1 c9, .slice (some p2) 1 c9'] 24)
  have q3 := cell_later ba q1
  have q4 := cell_later ba q2
  have BB := Lib.hid (below_step BA.out BA.out.size ba)
  clear r1 r2 ba C
  go_wp2
  go_ret
  exact ⟨rfl, BB.out⟩
end Go.Proofs.YtfmhplcpejmkhabDoor

namespace Go.Proofs.YtfmhplcpejmkhabDoor
open Go.RowKit Dig
set_option linter.unusedVariables false
set_option linter.unusedSimpArgs false
set_option maxHeartbeats 4000000 in
set_option maxRecDepth 100000 in
theorem wNumberOrder (s1 : Bool) (N1 D1 : Nat) (s2 : Bool) (N2 D2 : Nat) (s3 : Bool) (N3 D3 : Nat) (w : World) (v1 v2 v3 : Value) (h1 : RawV w v1 s1 N1 D1) (h2 : RawV w v2 s2 N2 D2) (h3 : RawV w v3 s3 N3 D3) (hT : Tab w) :
    Calls Tryd.prog 7 #[v1, v2, v3] w fun e w' => e = .returned (.bool true) ∧ Below w.heap.size w w' := by
  have H1 := Lib.hid h1
  have H2 := Lib.hid h2
  have H3 := Lib.hid h3
  have HT := Lib.hid hT
  obtain ⟨A1, n1, c1, A1', n1', c1', rfl⟩ := h1.shape
  obtain ⟨A2, n2, c2, A2', n2', c2', rfl⟩ := h2.shape
  obtain ⟨A3, n3, c3, A3', n3', c3', rfl⟩ := h3.shape
  clear hT h1 h2 h3
  obtain ⟨M, hM, k1, k2, k3, bM⟩ := start2 w (.bool s1) (.slice A1 n1 c1) (.slice A1' n1' c1') (.bool s2) (.slice A2 n2 c2) (.slice A2' n2' c2') (.bool s3) (.slice A3 n3 c3) (.slice A3' n3' c3') 24 24 24
  have HX1 := Lib.hid k1
  have HX2 := Lib.hid k2
  have HX3 := Lib.hid k3
  have BM := Lib.hid bM
  replace HT := Lib.hid (HT.out.below bM)
  replace H1 := Lib.hid (H1.out.below bM)
  replace H2 := Lib.hid (H2.out.below bM)
  replace H3 := Lib.hid (H3.out.below bM)
  clear k1 k2 k3 bM
  obtain ⟨p, hp⟩ : ∃ x, ratOf s1 N1 D1 = x := ⟨_, rfl⟩
  obtain ⟨L1, hL1⟩ : ∃ x, largeB s1 N1 D1 = x := ⟨_, rfl⟩
  obtain ⟨q, hq⟩ : ∃ x, ratOf s2 N2 D2 = x := ⟨_, rfl⟩
  obtain ⟨L2, hL2⟩ : ∃ x, largeB s2 N2 D2 = x := ⟨_, rfl⟩
  obtain ⟨r, hr⟩ : ∃ x, ratOf s3 N3 D3 = x := ⟨_, rfl⟩
  obtain ⟨L3, hL3⟩ : ∃ x, largeB s3 N3 D3 = x := ⟨_, rfl⟩
  obtain ⟨a, ha⟩ : ∃ x, (if (L1 || L2) = true then 0 else cmpQ p q) = x := ⟨_, rfl⟩
  obtain ⟨ka, hka⟩ : ∃ x, (if (L1 || L2) = true then 1 else (0 : Int)) = x := ⟨_, rfl⟩
  have Ca := Lib.hid (fun (w : World) (h1 : RawV w (.agg #[.bool s1, .slice A1 n1 c1, .slice A1' n1' c1']) s1 N1 D1) (h2 : RawV w (.agg #[.bool s2, .slice A2 n2 c2, .slice A2' n2' c2']) s2 N2 D2) (t : Tab w) => nCompare s1 N1 D1 s2 N2 D2 w _ _ h1 h2 t a ka (by rw [hL1, hL2, hp, hq]; exact ha) (by rw [hL1, hL2]; exact hka))
  have Va := Lib.hid ha
  have Ka := Lib.hid hka
  obtain ⟨b, hb⟩ : ∃ x, (if (L2 || L3) = true then 0 else cmpQ q r) = x := ⟨_, rfl⟩
  obtain ⟨kb, hkb⟩ : ∃ x, (if (L2 || L3) = true then 1 else (0 : Int)) = x := ⟨_, rfl⟩
  have Cb := Lib.hid (fun (w : World) (h1 : RawV w (.agg #[.bool s2, .slice A2 n2 c2, .slice A2' n2' c2']) s2 N2 D2) (h2 : RawV w (.agg #[.bool s3, .slice A3 n3 c3, .slice A3' n3' c3']) s3 N3 D3) (t : Tab w) => nCompare s2 N2 D2 s3 N3 D3 w _ _ h1 h2 t b kb (by rw [hL2, hL3, hq, hr]; exact hb) (by rw [hL2, hL3]; exact hkb))
  have Vb := Lib.hid hb
  have Kb := Lib.hid hkb
  obtain ⟨c, hc⟩ : ∃ x, (if (L1 || L3) = true then 0 else cmpQ p r) = x := ⟨_, rfl⟩
  obtain ⟨kc, hkc⟩ : ∃ x, (if (L1 || L3) = true then 1 else (0 : Int)) = x := ⟨_, rfl⟩
  have Cc := Lib.hid (fun (w : World) (h1 : RawV w (.agg #[.bool s1, .slice A1 n1 c1, .slice A1' n1' c1']) s1 N1 D1) (h2 : RawV w (.agg #[.bool s3, .slice A3 n3 c3, .slice A3' n3' c3']) s3 N3 D3) (t : Tab w) => nCompare s1 N1 D1 s3 N3 D3 w _ _ h1 h2 t c kc (by rw [hL1, hL3, hp, hr]; exact hc) (by rw [hL1, hL3]; exact hkc))
  have Vc := Lib.hid hc
  have Kc := Lib.hid hkc
  obtain ⟨e, he⟩ : ∃ x, (if (L2 || L1) = true then 0 else cmpQ q p) = x := ⟨_, rfl⟩
  obtain ⟨ke, hke⟩ : ∃ x, (if (L2 || L1) = true then 1 else (0 : Int)) = x := ⟨_, rfl⟩
  have Ce := Lib.hid (fun (w : World) (h1 : RawV w (.agg #[.bool s2, .slice A2 n2 c2, .slice A2' n2' c2']) s2 N2 D2) (h2 : RawV w (.agg #[.bool s1, .slice A1 n1 c1, .slice A1' n1' c1']) s1 N1 D1) (t : Tab w) => nCompare s2 N2 D2 s1 N1 D1 w _ _ h1 h2 t e ke (by rw [hL2, hL1, hq, hp]; exact he) (by rw [hL2, hL1]; exact hke))
  have Ve := Lib.hid he
  have Ke := Lib.hid hke
  have CS := Lib.hid (fun (w : World) (h1 : RawV w (.agg #[.bool s1, .slice A1 n1 c1, .slice A1' n1' c1']) s1 N1 D1) (h2 : RawV w (.agg #[.bool s2, .slice A2 n2 c2, .slice A2' n2' c2']) s2 N2 D2) (t : Tab w) => nSub s1 N1 D1 s2 N2 D2 w _ _ h1 h2 t)
  rw [hL1, hL2, hp, hq] at CS
  have CU := Lib.hid (fun (w : World) (h1 : RawV w (.agg #[.bool s1, .slice A1 n1 c1, .slice A1' n1' c1']) s1 N1 D1) (h2 : RawV w (.agg #[.bool s3, .slice A3 n3 c3, .slice A3' n3' c3']) s3 N3 D3) (t : Tab w) => nAdd s1 N1 D1 s3 N3 D3 w _ _ h1 h2 t)
  rw [hL1, hL3, hp, hr] at CU
  have CV := Lib.hid (fun (w : World) (h1 : RawV w (.agg #[.bool s2, .slice A2 n2 c2, .slice A2' n2' c2']) s2 N2 D2) (h2 : RawV w (.agg #[.bool s3, .slice A3 n3 c3, .slice A3' n3' c3']) s3 N3 D3) (t : Tab w) => nAdd s2 N2 D2 s3 N3 D3 w _ _ h1 h2 t)
  rw [hL2, hL3, hq, hr] at CV
  clear hp hq hr hL1 hL2 hL3 ha hb hc he hka hkb hkc hke
  go_enter Tryd.func7, Tryd.ntmps7
  go_upto_region 1 with (fail)
  rw [← hM]
  clear hM
  obtain ⟨x1, y1, z1, _, _, _⟩ := HX1.out.cells
  obtain ⟨x2, y2, z2, _, _, _⟩ := HX2.out.cells
  obtain ⟨x3, y3, z3, _, _, _⟩ := HX3.out.cells
  go_wp2_with fail
  refine (Ca.out _ H1.out H2.out HT.out).mono ?_
  rintro e wz ⟨rfl, bz⟩
  replace HT := Lib.hid (HT.out.below bz)
  replace H1 := Lib.hid (H1.out.below bz)
  replace H2 := Lib.hid (H2.out.below bz)
  replace H3 := Lib.hid (H3.out.below bz)
  replace HX1 := Lib.hid (HX1.out.below bz)
  replace HX2 := Lib.hid (HX2.out.below bz)
  replace HX3 := Lib.hid (HX3.out.below bz)
  replace BM := Lib.hid (below_step BM.out BM.out.size bz)
  clear bz x1 y1 z1 x2 y2 z2 x3 y3 z3
  obtain ⟨x1, y1, z1, _, _, _⟩ := HX1.out.cells
  obtain ⟨x2, y2, z2, _, _, _⟩ := HX2.out.cells
  obtain ⟨x3, y3, z3, _, _, _⟩ := HX3.out.cells
  go_wp2_with fail
  refine (Cb.out _ H2.out H3.out HT.out).mono ?_
  rintro e wz ⟨rfl, bz⟩
  replace HT := Lib.hid (HT.out.below bz)
  replace H1 := Lib.hid (H1.out.below bz)
  replace H2 := Lib.hid (H2.out.below bz)
  replace H3 := Lib.hid (H3.out.below bz)
  replace HX1 := Lib.hid (HX1.out.below bz)
  replace HX2 := Lib.hid (HX2.out.below bz)
  replace HX3 := Lib.hid (HX3.out.below bz)
  replace BM := Lib.hid (below_step BM.out BM.out.size bz)
  clear bz x1 y1 z1 x2 y2 z2 x3 y3 z3
  obtain ⟨x1, y1, z1, _, _, _⟩ := HX1.out.cells
  obtain ⟨x2, y2, z2, _, _, _⟩ := HX2.out.cells
  obtain ⟨x3, y3, z3, _, _, _⟩ := HX3.out.cells
  go_wp2_with fail
  refine (Cc.out _ H1.out H3.out HT.out).mono ?_
  rintro e wz ⟨rfl, bz⟩
  replace HT := Lib.hid (HT.out.below bz)
  replace H1 := Lib.hid (H1.out.below bz)
  replace H2 := Lib.hid (H2.out.below bz)
  replace H3 := Lib.hid (H3.out.below bz)
  replace HX1 := Lib.hid (HX1.out.below bz)
  replace HX2 := Lib.hid (HX2.out.below bz)
  replace HX3 := Lib.hid (HX3.out.below bz)
  replace BM := Lib.hid (below_step BM.out BM.out.size bz)
  clear bz x1 y1 z1 x2 y2 z2 x3 y3 z3
  have main : (L1 = false ∧ L2 = false ∧ L3 = false) ∨ (L1 || L2 || L3) = true := by cases L1 <;> cases L2 <;> cases L3 <;> simp
  rcases main with ⟨rfl, rfl, rfl⟩ | hbig
  · obtain rfl : 0 = ka := by have := Ka.out; simpa using this
    obtain rfl : 0 = kb := by have := Kb.out; simpa using this
    obtain rfl : 0 = kc := by have := Kc.out; simpa using this
    obtain rfl : 0 = ke := by have := Ke.out; simpa using this
    have VA := Lib.hid (show cmpQ p q = a by have := Va.out; simpa using this)
    have VB := Lib.hid (show cmpQ q r = b by have := Vb.out; simpa using this)
    have VC := Lib.hid (show cmpQ p r = c by have := Vc.out; simpa using this)
    have VE := Lib.hid (show cmpQ q p = e by have := Ve.out; simpa using this)
    obtain ⟨x1, y1, z1, _, _, _⟩ := HX1.out.cells
    obtain ⟨x2, y2, z2, _, _, _⟩ := HX2.out.cells
    obtain ⟨x3, y3, z3, _, _, _⟩ := HX3.out.cells
    go_wp2_with fail
    refine (Ce.out _ H2.out H1.out HT.out).mono ?_
    rintro e wz ⟨rfl, bz⟩
    replace HT := Lib.hid (HT.out.below bz)
    replace H1 := Lib.hid (H1.out.below bz)
    replace H2 := Lib.hid (H2.out.below bz)
    replace H3 := Lib.hid (H3.out.below bz)
    replace HX1 := Lib.hid (HX1.out.below bz)
    replace HX2 := Lib.hid (HX2.out.below bz)
    replace HX3 := Lib.hid (HX3.out.below bz)
    replace BM := Lib.hid (below_step BM.out BM.out.size bz)
    clear bz x1 y1 z1 x2 y2 z2 x3 y3 z3
    go_upto_region 7 with (fail)
    have VR := Lib.hid (cmp_trans p q r)
    rw [VA.out, VB.out, VC.out] at VR
    have SW := Lib.hid (cmp_swap p q)
    rw [VE.out, VA.out] at SW
    have A3 := Lib.hid (cmp_cases p q)
    have B3 := Lib.hid (cmp_cases q r)
    rw [VA.out] at A3
    rw [VB.out] at B3
    go_cut [99] (fun v99 wc => v99 = .bool false ∧ wc = wz)
    case first =>
      have w1 : wrap64 (1 : Int) = 1 := by unfold wrap64; omega
      have w2 : wrap64 (-1 : Int) = -1 := by unfold wrap64; omega
      have w3 : wrap64 (0 : Int) = 0 := by unfold wrap64; omega
      have w4 : IntKind.i64.wrap (1 : Int) = 1 := by decide
      have w5 : IntKind.i64.wrap (-1 : Int) = -1 := by decide
      have w6 : IntKind.i64.wrap (0 : Int) = 0 := by decide
      have TR := VR.out
      have SE := SW.out
      have a3 : a = -1 ∨ a = 0 ∨ a = 1 := by rcases A3.out with ⟨_, h⟩ | ⟨_, h⟩ | ⟨_, h⟩ <;> omega
      have b3 : b = -1 ∨ b = 0 ∨ b = 1 := by rcases B3.out with ⟨_, h⟩ | ⟨_, h⟩ | ⟨_, h⟩ <;> omega
      clear VR SW A3 B3 VA VB VC VE Va Vb Vc Ve Ka Kb Kc Ke Ca Cb Cc Ce CS CU CV
      rcases a3 with rfl | rfl | rfl <;> rcases b3 with rfl | rfl | rfl
      · obtain rfl : e = 1 := by omega
        obtain rfl : c = -1 := by omega
        clear TR SE
        go_wp2_with fail
        go_meet
        case rel => exact ⟨rfl, rfl⟩
      · obtain rfl : e = 1 := by omega
        obtain rfl : c = -1 := by omega
        clear TR SE
        go_wp2_with fail
        go_meet
        case rel => exact ⟨rfl, rfl⟩
      · obtain rfl : e = 1 := by omega
        clear TR SE
        go_wp2_with fail
        go_meet
        case rel => exact ⟨rfl, rfl⟩
      · obtain rfl : e = 0 := by omega
        obtain rfl : c = -1 := by omega
        clear TR SE
        go_wp2_with fail
        go_meet
        case rel => exact ⟨rfl, rfl⟩
      · obtain rfl : e = 0 := by omega
        obtain rfl : c = 0 := by omega
        clear TR SE
        go_wp2_with fail
        go_meet
        case rel => exact ⟨rfl, rfl⟩
      · obtain rfl : e = 0 := by omega
        obtain rfl : c = 1 := by omega
        clear TR SE
        go_wp2_with fail
        go_meet
        case rel => exact ⟨rfl, rfl⟩
      · obtain rfl : e = -1 := by omega
        clear TR SE
        go_wp2_with fail
        go_meet
        case rel => exact ⟨rfl, rfl⟩
      · obtain rfl : e = -1 := by omega
        obtain rfl : c = 1 := by omega
        clear TR SE
        go_wp2_with fail
        go_meet
        case rel => exact ⟨rfl, rfl⟩
      · obtain rfl : e = -1 := by omega
        obtain rfl : c = 1 := by omega
        clear TR SE
        go_wp2_with fail
        go_meet
        case rel => exact ⟨rfl, rfl⟩
    case rest =>
      obtain ⟨rfl, rfl⟩ := hcut
      simp only [Bool.or_self, Bool.false_eq_true, if_false] at CS CU CV
      clear VR SW A3 B3 VB VC VE Va Vb Vc Ve Ka Kb Kc Ke Ca Cb Cc Ce
      have GoS := Lib.hid (give_cases (p - q))
      obtain ⟨oS, hoS⟩ : ∃ o, give (p - q) = o := ⟨_, rfl⟩
      have GoU := Lib.hid (give_cases (p + r))
      obtain ⟨oU, hoU⟩ : ∃ o, give (p + r) = o := ⟨_, rfl⟩
      have GoV := Lib.hid (give_cases (q + r))
      obtain ⟨oV, hoV⟩ : ∃ o, give (q + r) = o := ⟨_, rfl⟩
      rw [hoS] at CS GoS
      rw [hoU] at CU GoU
      rw [hoV] at CV GoV
      clear hoS hoU hoV
      obtain ⟨x1, y1, z1, _, _, _⟩ := HX1.out.cells
      obtain ⟨x2, y2, z2, _, _, _⟩ := HX2.out.cells
      obtain ⟨x3, y3, z3, _, _, _⟩ := HX3.out.cells
      go_wp2_with fail
      refine (CS.out _ H1.out H2.out HT.out).mono ?_
      rintro e wS ⟨pS, PS, mS, dS, PS', mS', dS', kS, rfl, hS, bS⟩
      have bb := below_step bS bS.size (below_alloc wS (.cells #[.bool pS, .slice PS mS dS, .slice PS' mS' dS'] 24))
      have HOS := Lib.hid (hS.below (below_alloc wS (.cells #[.bool pS, .slice PS mS dS, .slice PS' mS' dS'] 24)))
      have HZS := Lib.hid (Box.new wS (.bool pS) (.slice PS mS dS) (.slice PS' mS' dS') 24)
      replace HT := Lib.hid (HT.out.below bb)
      replace H1 := Lib.hid (H1.out.below bb)
      replace H2 := Lib.hid (H2.out.below bb)
      replace H3 := Lib.hid (H3.out.below bb)
      replace HX1 := Lib.hid (HX1.out.below bb)
      replace HX2 := Lib.hid (HX2.out.below bb)
      replace HX3 := Lib.hid (HX3.out.below bb)
      replace BM := Lib.hid (below_step BM.out BM.out.size bb)
      obtain ⟨vS, hv⟩ : ∃ v, wS.alloc (.cells #[.bool pS, .slice PS mS dS, .slice PS' mS' dS'] 24) = v := ⟨_, rfl⟩
      clear bb bS hS x1 y1 z1 x2 y2 z2 x3 y3 z3
      go_upto_region 10 with (fail)
      rw [hv] at BM HT H1 H2 H3 HX1 HX2 HX3 HOS HZS
      try rw [hv]
      clear hv
      obtain ⟨sv, hsv⟩ : ∃ x, sgnI (ng (valO oS)) (valO oS).num.natAbs = x := ⟨_, rfl⟩
      have SV := Lib.hid hsv
      have CG := Lib.hid (fun (w : World) (h : OutIs w oS (.agg #[.bool pS, .slice PS mS dS, .slice PS' mS' dS']) kS) (t : Tab w) => nSign _ _ _ w _ h.rawV t (valO oS) (ratOf_self _) sv hsv false (large_self h.fit) sv 0 (by simp) (by simp))
      clear hsv
      obtain ⟨x1, y1, z1, _, _, _⟩ := HZS.out.cells
      go_wp2_with fail
      refine (CG.out _ HOS.out HT.out).mono ?_
      rintro e wz ⟨rfl, bz⟩
      replace HT := Lib.hid (HT.out.below bz)
      replace H1 := Lib.hid (H1.out.below bz)
      replace H2 := Lib.hid (H2.out.below bz)
      replace H3 := Lib.hid (H3.out.below bz)
      replace HX1 := Lib.hid (HX1.out.below bz)
      replace HX2 := Lib.hid (HX2.out.below bz)
      replace HX3 := Lib.hid (HX3.out.below bz)
      replace HOS := Lib.hid (HOS.out.below bz)
      replace HZS := Lib.hid (HZS.out.below bz)
      replace BM := Lib.hid (below_step BM.out BM.out.size bz)
      clear bz x1 y1 z1
      rcases GoS.out with ⟨rfl, _⟩ | rfl
      · obtain rfl : kS = 0 := HOS.out.1
        obtain rfl : a = sv := by have h1 := SV.out; have h2 := VA.out; rw [← h1, ← h2]; rfl
        clear HOS HZS CG SV CS GoS
        obtain ⟨x1, y1, z1, _, _, _⟩ := HX1.out.cells
        obtain ⟨x2, y2, z2, _, _, _⟩ := HX2.out.cells
        obtain ⟨x3, y3, z3, _, _, _⟩ := HX3.out.cells
        go_wp2_with fail
        refine (CU.out _ H1.out H3.out HT.out).mono ?_
        rintro e wU ⟨pU, PU, mU, dU, PU', mU', dU', kU, rfl, hU, bU⟩
        have bb := below_step bU bU.size (below_alloc wU (.cells #[.bool pU, .slice PU mU dU, .slice PU' mU' dU'] 24))
        have HOU := Lib.hid (hU.below (below_alloc wU (.cells #[.bool pU, .slice PU mU dU, .slice PU' mU' dU'] 24)))
        have HZU := Lib.hid (Box.new wU (.bool pU) (.slice PU mU dU) (.slice PU' mU' dU') 24)
        replace HT := Lib.hid (HT.out.below bb)
        replace H1 := Lib.hid (H1.out.below bb)
        replace H2 := Lib.hid (H2.out.below bb)
        replace H3 := Lib.hid (H3.out.below bb)
        replace HX1 := Lib.hid (HX1.out.below bb)
        replace HX2 := Lib.hid (HX2.out.below bb)
        replace HX3 := Lib.hid (HX3.out.below bb)
        replace BM := Lib.hid (below_step BM.out BM.out.size bb)
        obtain ⟨vU, hv⟩ : ∃ v, wU.alloc (.cells #[.bool pU, .slice PU mU dU, .slice PU' mU' dU'] 24) = v := ⟨_, rfl⟩
        clear bb bU hU x1 y1 z1 x2 y2 z2 x3 y3 z3
        go_upto_region 14 with (fail)
        rw [hv] at BM HT H1 H2 H3 HX1 HX2 HX3 HOU HZU
        try rw [hv]
        clear hv
        obtain ⟨x1, y1, z1, _, _, _⟩ := HX1.out.cells
        obtain ⟨x2, y2, z2, _, _, _⟩ := HX2.out.cells
        obtain ⟨x3, y3, z3, _, _, _⟩ := HX3.out.cells
        go_wp2_with fail
        refine (CV.out _ H2.out H3.out HT.out).mono ?_
        rintro e wV ⟨pV, PV, mV, dV, PV', mV', dV', kV, rfl, hV, bV⟩
        have bb := below_step bV bV.size (below_alloc wV (.cells #[.bool pV, .slice PV mV dV, .slice PV' mV' dV'] 24))
        have HOV := Lib.hid (hV.below (below_alloc wV (.cells #[.bool pV, .slice PV mV dV, .slice PV' mV' dV'] 24)))
        have HZV := Lib.hid (Box.new wV (.bool pV) (.slice PV mV dV) (.slice PV' mV' dV') 24)
        replace HT := Lib.hid (HT.out.below bb)
        replace H1 := Lib.hid (H1.out.below bb)
        replace H2 := Lib.hid (H2.out.below bb)
        replace H3 := Lib.hid (H3.out.below bb)
        replace HX1 := Lib.hid (HX1.out.below bb)
        replace HX2 := Lib.hid (HX2.out.below bb)
        replace HX3 := Lib.hid (HX3.out.below bb)
        replace HOU := Lib.hid (HOU.out.below bb)
        replace HZU := Lib.hid (HZU.out.below bb)
        replace BM := Lib.hid (below_step BM.out BM.out.size bb)
        obtain ⟨vV, hv⟩ : ∃ v, wV.alloc (.cells #[.bool pV, .slice PV mV dV, .slice PV' mV' dV'] 24) = v := ⟨_, rfl⟩
        clear bb bV hV x1 y1 z1 x2 y2 z2 x3 y3 z3
        go_upto_region 15 with (fail)
        rw [hv] at BM HT H1 H2 H3 HX1 HX2 HX3 HOU HZU HOV HZV
        try rw [hv]
        clear hv
        obtain ⟨g, hg⟩ : ∃ x, cmpQ (valO oU) (valO oV) = x := ⟨_, rfl⟩
        have VG := Lib.hid hg
        have CW := Lib.hid (fun (w : World) (h : OutIs w oU (.agg #[.bool pU, .slice PU mU dU, .slice PU' mU' dU']) kU) (h' : OutIs w oV (.agg #[.bool pV, .slice PV mV dV, .slice PV' mV' dV']) kV) (t : Tab w) => nCompare _ _ _ _ _ _ w _ _ h.rawV h'.rawV t g 0 (by rw [large_self h.fit, large_self h'.fit, ratOf_self, ratOf_self]; simpa using hg) (by rw [large_self h.fit, large_self h'.fit]; simp))
        clear hg
        obtain ⟨x1, y1, z1, _, _, _⟩ := HZU.out.cells
        obtain ⟨x2, y2, z2, _, _, _⟩ := HZV.out.cells
        go_wp2_with fail
        refine (CW.out _ HOU.out HOV.out HT.out).mono ?_
        rintro e wz ⟨rfl, bz⟩
        replace HT := Lib.hid (HT.out.below bz)
        replace HOU := Lib.hid (HOU.out.below bz)
        replace HOV := Lib.hid (HOV.out.below bz)
        replace BM := Lib.hid (below_step BM.out BM.out.size bz)
        clear bz x1 y1 z1 x2 y2 z2
        clear HX1 HX2 HX3 HZU HZV H1 H2 H3
        rcases GoU.out with ⟨rfl, _⟩ | rfl
        · obtain rfl : kU = 0 := HOU.out.1
          rcases GoV.out with ⟨rfl, _⟩ | rfl
          · obtain rfl : kV = 0 := HOV.out.1
            obtain rfl : a = g := by have h1 := VG.out; have h2 := VA.out; rw [← h1, ← h2]; exact (cmp_add p q r).symm
            go_wp2_with fail
            refine (lAwake _ HT.out).mono ?_
            rintro e w9 ⟨rfl, b9⟩
            replace BM := Lib.hid (below_step BM.out BM.out.size b9)
            clear b9
            go_wp2
            go_ret
            exact ⟨rfl, BM.out⟩
          · obtain rfl : kV = 1 := HOV.out.1
            go_wp2_with fail
            refine (lAwake _ HT.out).mono ?_
            rintro e w9 ⟨rfl, b9⟩
            replace BM := Lib.hid (below_step BM.out BM.out.size b9)
            clear b9
            go_wp2
            go_ret
            exact ⟨rfl, BM.out⟩
        · obtain rfl : kU = 1 := HOU.out.1
          go_wp2_with fail
          refine (lAwake _ HT.out).mono ?_
          rintro e w9 ⟨rfl, b9⟩
          replace BM := Lib.hid (below_step BM.out BM.out.size b9)
          clear b9
          go_wp2
          go_ret
          exact ⟨rfl, BM.out⟩
      · obtain rfl : kS = 1 := HOS.out.1
        clear HOS HZS CG SV CS GoS
        obtain ⟨x1, y1, z1, _, _, _⟩ := HX1.out.cells
        obtain ⟨x2, y2, z2, _, _, _⟩ := HX2.out.cells
        obtain ⟨x3, y3, z3, _, _, _⟩ := HX3.out.cells
        go_wp2_with fail
        refine (CU.out _ H1.out H3.out HT.out).mono ?_
        rintro e wU ⟨pU, PU, mU, dU, PU', mU', dU', kU, rfl, hU, bU⟩
        have bb := below_step bU bU.size (below_alloc wU (.cells #[.bool pU, .slice PU mU dU, .slice PU' mU' dU'] 24))
        have HOU := Lib.hid (hU.below (below_alloc wU (.cells #[.bool pU, .slice PU mU dU, .slice PU' mU' dU'] 24)))
        have HZU := Lib.hid (Box.new wU (.bool pU) (.slice PU mU dU) (.slice PU' mU' dU') 24)
        replace HT := Lib.hid (HT.out.below bb)
        replace H1 := Lib.hid (H1.out.below bb)
        replace H2 := Lib.hid (H2.out.below bb)
        replace H3 := Lib.hid (H3.out.below bb)
        replace HX1 := Lib.hid (HX1.out.below bb)
        replace HX2 := Lib.hid (HX2.out.below bb)
        replace HX3 := Lib.hid (HX3.out.below bb)
        replace BM := Lib.hid (below_step BM.out BM.out.size bb)
        obtain ⟨vU, hv⟩ : ∃ v, wU.alloc (.cells #[.bool pU, .slice PU mU dU, .slice PU' mU' dU'] 24) = v := ⟨_, rfl⟩
        clear bb bU hU x1 y1 z1 x2 y2 z2 x3 y3 z3
        go_upto_region 14 with (fail)
        rw [hv] at BM HT H1 H2 H3 HX1 HX2 HX3 HOU HZU
        try rw [hv]
        clear hv
        obtain ⟨x1, y1, z1, _, _, _⟩ := HX1.out.cells
        obtain ⟨x2, y2, z2, _, _, _⟩ := HX2.out.cells
        obtain ⟨x3, y3, z3, _, _, _⟩ := HX3.out.cells
        go_wp2_with fail
        refine (CV.out _ H2.out H3.out HT.out).mono ?_
        rintro e wV ⟨pV, PV, mV, dV, PV', mV', dV', kV, rfl, hV, bV⟩
        have bb := below_step bV bV.size (below_alloc wV (.cells #[.bool pV, .slice PV mV dV, .slice PV' mV' dV'] 24))
        have HOV := Lib.hid (hV.below (below_alloc wV (.cells #[.bool pV, .slice PV mV dV, .slice PV' mV' dV'] 24)))
        have HZV := Lib.hid (Box.new wV (.bool pV) (.slice PV mV dV) (.slice PV' mV' dV') 24)
        replace HT := Lib.hid (HT.out.below bb)
        replace H1 := Lib.hid (H1.out.below bb)
        replace H2 := Lib.hid (H2.out.below bb)
        replace H3 := Lib.hid (H3.out.below bb)
        replace HX1 := Lib.hid (HX1.out.below bb)
        replace HX2 := Lib.hid (HX2.out.below bb)
        replace HX3 := Lib.hid (HX3.out.below bb)
        replace HOU := Lib.hid (HOU.out.below bb)
        replace HZU := Lib.hid (HZU.out.below bb)
        replace BM := Lib.hid (below_step BM.out BM.out.size bb)
        obtain ⟨vV, hv⟩ : ∃ v, wV.alloc (.cells #[.bool pV, .slice PV mV dV, .slice PV' mV' dV'] 24) = v := ⟨_, rfl⟩
        clear bb bV hV x1 y1 z1 x2 y2 z2 x3 y3 z3
        go_upto_region 15 with (fail)
        rw [hv] at BM HT H1 H2 H3 HX1 HX2 HX3 HOU HZU HOV HZV
        try rw [hv]
        clear hv
        obtain ⟨g, hg⟩ : ∃ x, cmpQ (valO oU) (valO oV) = x := ⟨_, rfl⟩
        have VG := Lib.hid hg
        have CW := Lib.hid (fun (w : World) (h : OutIs w oU (.agg #[.bool pU, .slice PU mU dU, .slice PU' mU' dU']) kU) (h' : OutIs w oV (.agg #[.bool pV, .slice PV mV dV, .slice PV' mV' dV']) kV) (t : Tab w) => nCompare _ _ _ _ _ _ w _ _ h.rawV h'.rawV t g 0 (by rw [large_self h.fit, large_self h'.fit, ratOf_self, ratOf_self]; simpa using hg) (by rw [large_self h.fit, large_self h'.fit]; simp))
        clear hg
        obtain ⟨x1, y1, z1, _, _, _⟩ := HZU.out.cells
        obtain ⟨x2, y2, z2, _, _, _⟩ := HZV.out.cells
        go_wp2_with fail
        refine (CW.out _ HOU.out HOV.out HT.out).mono ?_
        rintro e wz ⟨rfl, bz⟩
        replace HT := Lib.hid (HT.out.below bz)
        replace HOU := Lib.hid (HOU.out.below bz)
        replace HOV := Lib.hid (HOV.out.below bz)
        replace BM := Lib.hid (below_step BM.out BM.out.size bz)
        clear bz x1 y1 z1 x2 y2 z2
        clear HX1 HX2 HX3 HZU HZV H1 H2 H3
        rcases GoU.out with ⟨rfl, _⟩ | rfl
        · obtain rfl : kU = 0 := HOU.out.1
          rcases GoV.out with ⟨rfl, _⟩ | rfl
          · obtain rfl : kV = 0 := HOV.out.1
            obtain rfl : a = g := by have h1 := VG.out; have h2 := VA.out; rw [← h1, ← h2]; exact (cmp_add p q r).symm
            go_wp2_with fail
            refine (lAwake _ HT.out).mono ?_
            rintro e w9 ⟨rfl, b9⟩
            replace BM := Lib.hid (below_step BM.out BM.out.size b9)
            clear b9
            go_wp2
            go_ret
            exact ⟨rfl, BM.out⟩
          · obtain rfl : kV = 1 := HOV.out.1
            go_wp2_with fail
            refine (lAwake _ HT.out).mono ?_
            rintro e w9 ⟨rfl, b9⟩
            replace BM := Lib.hid (below_step BM.out BM.out.size b9)
            clear b9
            go_wp2
            go_ret
            exact ⟨rfl, BM.out⟩
        · obtain rfl : kU = 1 := HOU.out.1
          go_wp2_with fail
          refine (lAwake _ HT.out).mono ?_
          rintro e w9 ⟨rfl, b9⟩
          replace BM := Lib.hid (below_step BM.out BM.out.size b9)
          clear b9
          go_wp2
          go_ret
          exact ⟨rfl, BM.out⟩
  · have hk : (ka = 1 ∨ kb = 1) := by have e1 := Ka.out; have e2 := Kb.out; rw [← e1, ← e2]; cases L1 <;> cases L2 <;> cases L3 <;> simp_all
    have h1 : ka = 0 ∨ ka = 1 := by have e1 := Ka.out; rw [← e1]; cases L1 <;> cases L2 <;> simp
    have h2 : kb = 0 ∨ kb = 1 := by have e1 := Kb.out; rw [← e1]; cases L2 <;> cases L3 <;> simp
    clear hbig Va Vb Vc Ve Ka Kb Kc Ke Ca Cb Cc Ce CS CU CV
    rcases h1 with rfl | rfl <;> rcases h2 with rfl | rfl
    · simp at hk
    · clear hk
      go_wp2_with fail
      refine (lAwake _ HT.out).mono ?_
      rintro e w9 ⟨rfl, b9⟩
      replace BM := Lib.hid (below_step BM.out BM.out.size b9)
      clear b9
      go_wp2
      go_ret
      exact ⟨rfl, BM.out⟩
    · clear hk
      go_wp2_with fail
      refine (lAwake _ HT.out).mono ?_
      rintro e w9 ⟨rfl, b9⟩
      replace BM := Lib.hid (below_step BM.out BM.out.size b9)
      clear b9
      go_wp2
      go_ret
      exact ⟨rfl, BM.out⟩
    · clear hk
      go_wp2_with fail
      refine (lAwake _ HT.out).mono ?_
      rintro e w9 ⟨rfl, b9⟩
      replace BM := Lib.hid (below_step BM.out BM.out.size b9)
      clear b9
      go_wp2
      go_ret
      exact ⟨rfl, BM.out⟩
end Go.Proofs.YtfmhplcpejmkhabDoor

namespace Go.Proofs.YtfmhplcpejmkhabDoor
open Go.ChangeShapes Go.WideShapes Go.ChangeAt Go.RowKit Dig
set_option linter.unusedVariables false
set_option linter.unusedSimpArgs false
theorem own : ownKnob Tryd.prog.godebug = none := by kernel_rfl
theorem gTab : Tryd.prog.globalNamed "math/bits.deBruijn32tab" = some 0 := by kernel_rfl
theorem gTabType : (Tryd.prog.globals[0]?).map (·.type) = some 131 := by kernel_rfl
theorem cellsTab : Tryd.prog.cellsOf 131 = 32 := by kernel_rfl
theorem cellsU8 : Tryd.prog.cellsOf 5 = 1 := by kernel_rfl
theorem cellsU32 : Tryd.prog.cellsOf 72 = 1 := by kernel_rfl
theorem cellsRat : Tryd.prog.cellsOf 24 = 3 := by kernel_rfl
theorem laidOut : laidOutB Tryd.prog = true := by kernel_rfl
theorem tab_of {W : World} (h : laidMetH Tryd.prog [("math/bits.deBruijn32tab", Rows.laid_math_bits_deBruijn32tab)] W) : Tab W := by
  have t : Lib.TabIs Tryd.prog W "math/bits.deBruijn32tab" .u8 (Lib.deBruijn32tab.map Int.ofNat) :=
    Lib.tabIs_of_head (rest := []) gTab gTabType Tryd.underlying131 Tryd.underlying5 cellsU8 cellsTab h
  intro j hj
  have hc := t.cell gTab j (by simpa using hj)
  rw [hc]
  congr 2
  simp [List.getD, hj]
set_option maxRecDepth 100000 in
/-- a slice of words that comes in -/
theorem open_rd {H : Type} {enc : TypeId × Value → H} {W : World} {n : Nat} {v : Value} {y : DataW H × List MemPlace} (h : DataW.trod enc Tryd.prog W 0 (fun _ => true) true n 22 [v] = some y) :
    ∃ A c l, v = .slice A l.length c ∧ Rd W A c l ∧ Ok B32 l ∧ l.length < Rows.uptoBulk y.1 := by
  rcases open_ints Tryd.underlying22 Tryd.underlying72 cellsU32 h with ⟨e, rfl⟩ | ⟨a, len, cap, zs, e, _, hl, hm, hz, rfl, hc, hw⟩
  · obtain rfl : v = .slice none 0 0 := by simpa using e
    exact ⟨none, 0, [], rfl, ⟨Nat.le_refl _, Nat.zero_le _, fun j hj => absurd hj (Nat.not_lt_zero _)⟩, (fun x (hx : x ∈ []) => by simp at hx), by simp [Rows.uptoBulk]⟩
  · obtain rfl : v = .slice (some a) len cap := by simpa using e
    rw [if_pos rfl] at hz
    refine ⟨some a, cap, zs.take len, by simp [hz, Nat.min_eq_left hl], ⟨by simp [hz]; omega, by unfold maxLen at hm; omega, ?_⟩, ?_, ?_⟩
    · intro j hj
      have hj' : j < len := by simp [hz] at hj; omega
      refine ⟨a, rfl, ?_⟩
      rw [hc j (by omega)]
      have : j < zs.length := by omega
      simp [rd, List.getD, hj', List.getElem?_take]
    · intro x hx
      have := hw x (List.mem_of_mem_take hx)
      simp only [Lit.wf, Bool.and_eq_true, decide_eq_true_eq] at this
      have e1 : IntKind.min .u32 = 0 := by decide
      have e2 : IntKind.max .u32 = 4294967295 := by decide
      rw [e1, e2] at this
      unfold B32
      omega
    · have : ∀ l : List (DataW H), l.length ≤ Rows.uptoBulkAll l := by
        intro l
        induction l with
        | nil => simp [Rows.uptoBulkAll]
        | cons x r ih =>
          have h1 : 1 ≤ Rows.uptoBulk x := by
            cases x with
            | lit l => cases l <;> simp [Rows.uptoBulk]
            | _ => simp [Rows.uptoBulk]
          simp only [Rows.uptoBulkAll, List.length_cons]
          omega
      have h2 := this (lits (H := H) .u32 (zs.take len))
      have h3 : (lits (H := H) .u32 (zs.take len)).length = (zs.take len).length := by simp [lits]
      simp only [Rows.uptoBulk]
      omega
theorem fin_agg3 {H : Type} (a b c : DataW H) : Rows.uptoBulk b < Rows.uptoBulk (.agg [a, b, c]) ∧ Rows.uptoBulk c < Rows.uptoBulk (.agg [a, b, c]) := by
  have h1 : ∀ x : DataW H, 1 ≤ Rows.uptoBulk x := by
    intro x
    cases x with
    | lit l => cases l <;> simp [Rows.uptoBulk]
    | _ => simp [Rows.uptoBulk]
  have ha := h1 a
  have hb := h1 b
  have hc := h1 c
  simp only [Rows.uptoBulk, Rows.uptoBulkAll]
  omega
set_option maxRecDepth 100000 in
/-- a number that comes in, whatever its length -/
theorem open_rat {H : Type} {enc : TypeId × Value → H} {W : World} {b0 : Nat} {v : Value} {d : DataW H} {p : List MemPlace} (hv : Value.okWide Tryd.prog W .any b0 24 v) (h : DataW.Trod enc Tryd.prog W 0 (fun _ => true) true 24 v d p) :
    ∃ s A1 c1 l1 A2 c2 l2, v = .agg #[.bool s, .slice A1 l1.length c1, .slice A2 l2.length c2] ∧ Rd W A1 c1 l1 ∧ Rd W A2 c2 l2 ∧ Ok B32 l1 ∧ Ok B32 l2 ∧ l1.length + 1 < Rows.uptoBulk d ∧ l2.length + 1 < Rows.uptoBulk d := by
  obtain ⟨v0, v1, v2, y0, y1, y2, n, rfl, rfl, rfl, h0, h1, h2⟩ := Joins.open_agg3 Tryd.underlying24 (by kernel_rfl) cellsRat hv h
  obtain ⟨A1, c1, l1, rfl, r1, o1, k1⟩ := open_rd h1
  obtain ⟨A2, c2, l2, rfl, r2, o2, k2⟩ := open_rd h2
  have hb : ∃ s, v0 = .bool s := by
    obtain ⟨s, h', _⟩ := DataW.trod_bool Tryd.underlying4 h0
    exact ⟨s, by simpa using h'⟩
  obtain ⟨s, rfl⟩ := hb
  obtain ⟨q1, q2⟩ := fin_agg3 y0.1 y1.1 y2.1
  exact ⟨s, A1, c1, l1, A2, c2, l2, rfl, r1, r2, o1, o2, by omega, by omega⟩
set_option maxRecDepth 100000 in
theorem open_raw {H : Type} {enc : TypeId × Value → H} {W : World} {b0 : Nat} {v : Value} {d : DataW H} {p : List MemPlace} (hv : Value.okWide Tryd.prog W .any b0 24 v) (h : DataW.Trod enc Tryd.prog W 0 (fun _ => true) true 24 v d p)
    (hk : Rows.uptoBulk d ≤ 1048576) : ∃ s N D, RawV W v s N D := by
  obtain ⟨s, A1, c1, l1, A2, c2, l2, e, r1, r2, o1, o2, k1, k2⟩ := open_rat hv h
  obtain ⟨N, hN⟩ := Int.eq_ofNat_of_zero_le (val_nonneg o1)
  obtain ⟨D, hD⟩ := Int.eq_ofNat_of_zero_le (val_nonneg o2)
  exact ⟨s, N, D, A1, c1, l1, A2, c2, l2, e, r1, r2, o1, o2, hN, hD, by omega, by omega⟩
set_option maxRecDepth 100000 in
/-- the arguments read behind the call as they did -/
theorem stays {H : Type} {enc : TypeId × Value → H} {W W' : World} (hb : Below W.heap.size W W') {sp : Nat → Bool} :
    ∀ {ts : List TypeId} {vs : List Value} {ds : List (DataW H)} {ps : List MemPlace}, (∀ t ∈ ts, Tryd.prog.readableRec t = true ∧ t < Tryd.prog.types.size) →
      DataW.TrodAll enc Tryd.prog W 0 (fun _ => true) true ts vs ds ps → (∀ p ∈ ps, sp p.block = true) → DataW.TrodAll enc Tryd.prog W' 0 sp true ts vs ds ps
  | [], [], [], _, _, h, _ => h
  | _ :: _, _ :: _, _ :: _, _, hT, h, hs => by
    have hlt := h.lt
    obtain ⟨p, q, h1, h2, e⟩ := h
    refine ⟨p, q, ?_, stays hb (fun t ht => hT t (List.mem_cons.2 (Or.inr ht))) h2 (fun x hx => hs x (by rw [e]; exact List.mem_append_right _ hx)), e⟩
    exact WideElems.Trod_stays laidOut (hT _ (List.mem_cons.2 (Or.inl rfl))).1 (hT _ (List.mem_cons.2 (Or.inl rfl))).2 h1
      (fun x hx => hb.same (hlt x (by rw [e]; exact List.mem_append_left _ hx))) (fun x hx => hs x (by rw [e]; exact List.mem_append_left _ hx))
set_option maxRecDepth 100000 in
/-- what the answer true gives, where nothing old has turned -/
theorem said_true {H : Type} {enc : TypeId × Value → H} {f : Func} {s : ChangeSpec} {W W' : World} {args : Array Value} {ds gs : List (DataW H)} {before : List MemPlace}
    (hW : DataW.Whole enc Tryd.prog f.params.toList s.vars false W args.toList ds gs before) (hv : s.vars = []) (hT : ∀ t ∈ f.params.toList, Tryd.prog.readableRec t = true ∧ t < Tryd.prog.types.size)
    (hr : f.resultTypes = #[4]) (e1 : (s.fn H (ds ++ gs)).results = [.lit (.bool true)]) (e2 : (s.fn H (ds ++ gs)).args = ds) (e3 : (s.fn H (ds ++ gs)).vars = []) (hb : Below W.heap.size W W') :
    s.post enc Tryd.prog f false true false false W args (.bool true) W' := by
  have hW' := hW
  obtain ⟨p, q, hA, hV, rfl, _, _⟩ := hW'
  rw [hv] at hV
  obtain ⟨rfl, rfl⟩ := trodVars_none hV
  have lt := hW.lt
  have ok : ∀ (j : Nat) (t : TypeId) (r : Value), f.resultTypes[j]? = some t → ((Value.bool true).resultList f.resultTypes.size)[j]? = some r → Value.okWide Tryd.prog W' .any 0 t r := ok_one hr rfl (okWide_bool_mk Tryd.underlying4 _)
  have res : ∀ (b : Nat) (sp : Nat → Bool) (hd : Bool), DataW.TrodAll enc Tryd.prog W' b sp hd f.resultTypes.toList ((Value.bool true).resultList f.resultTypes.size) (s.fn H (ds ++ [])).results [] := fun _ _ _ => by
    rw [e1, hr]
    exact trodAll_mk1 (shut_bool Tryd.underlying4 _)
  have arg : ∀ sp : Nat → Bool, (∀ x ∈ p ++ [], sp x.block = true) → DataW.TrodAll enc Tryd.prog W' 0 sp true f.params.toList args.toList (s.fn H (ds ++ [])).args p := fun sp hs => by
    rw [e2]
    exact stays hb hT hA (fun x hx => hs x (by simpa using hx))
  have var : ∀ sp : Nat → Bool, DataW.TrodVars enc Tryd.prog W' sp s.vars (s.fn H (ds ++ [])).vars [] := fun _ => by
    rw [e3, hv]
    rfl
  have hold : ∀ x ∈ p ++ [], (fun b => decide (b < W.heap.size)) x.block = true := fun x hx => by simpa using lt x hx
  refine ⟨ds, [], p ++ [], [], p, [], hW, res _ _ _, arg _ hold, var _, hb.frame _, fun h => by cases h⟩
end Go.Proofs.YtfmhplcpejmkhabDoor

namespace Go.Proofs.YtfmhplcpejmkhabDoor.lawNumberOrder
open Go.ChangeShapes Go.WideShapes Go.ChangeAt Go.RowKit Dig
set_option linter.unusedVariables false
set_option linter.unusedSimpArgs false
set_option maxRecDepth 100000 in
theorem contract (H : Type) (enc : TypeId × Value → H) (W : World) (base : Nat) (args : Array Value) (ds gs : List (DataW H)) (before : List MemPlace)
    (hval : ∀ (j : Nat) t v, Tryd.f7.params[j]? = some t → args[j]? = some v → Value.okWide Tryd.prog W .any base t v)
    (hW : DataW.Whole enc Tryd.prog Tryd.f7.params.toList Rows.numberOrderSpec.vars false W args.toList ds gs before) (hL : laidMetH Tryd.prog Rows.numberOrderUptoRow.laid W)
    (hk : Rows.uptoBulkAll (ds ++ gs) ≤ 1048576) :
    Calls Tryd.prog 7 args W fun e W' => ∃ v, e = .returned v ∧ Rows.numberOrderSpec.post enc Tryd.prog Tryd.f7 false true false false W args v W' := by
  have hW' := hW
  obtain ⟨p, q, hA0, hV, rfl, hfz, hnd⟩ := hW
  have hA : DataW.TrodAll enc Tryd.prog W 0 (fun _ => true) true Tryd.f7.params.toList args.toList ds p := hA0
  rw [Tryd.params7] at hA hval
  obtain ⟨v0, vs0, d0, ds0, p0, q0, hv0, rfl, rfl, h0, r0⟩ := trodAll_cons hA
  obtain ⟨v1, vs1, d1, ds1, p1, q1, hv1, rfl, rfl, h1, r1⟩ := trodAll_cons r0
  obtain ⟨v2, vs2, d2, ds2, p2, q2, hv2, rfl, rfl, h2, r2⟩ := trodAll_cons r1
  obtain ⟨hn, rfl, rfl⟩ := trodAll_nil r2
  obtain rfl : args = #[v0, v1, v2] := by cases args; simp_all
  obtain ⟨rfl, rfl⟩ := trodVars_none hV
  have hT := tab_of hL
  simp only [List.append_nil, Rows.uptoBulkAll] at hk
  obtain ⟨s0, N0, D0, k0⟩ := open_raw (hval 0 24 v0 rfl rfl) h0 (by omega)
  obtain ⟨s1, N1, D1, k1⟩ := open_raw (hval 1 24 v1 rfl rfl) h1 (by omega)
  obtain ⟨s2, N2, D2, k2⟩ := open_raw (hval 2 24 v2 rfl rfl) h2 (by omega)
  refine (wNumberOrder s0 N0 D0 s1 N1 D1 s2 N2 D2 W _ _ _ k0 k1 k2 hT).mono fun e W' ⟨he, hb⟩ => ?_
  subst he
  exact ⟨_, rfl, said_true hW' rfl (by rw [Tryd.params7]; intro t ht; simp at ht; subst ht; exact ⟨by kernel_rfl, of_decide_eq_true (by kernel_rfl)⟩) (by kernel_rfl) rfl rfl rfl hb⟩

noncomputable def laidWorld (os : Os) : World :=
  { World.holding Tryd.prog os ⟨#[], #[], []⟩ with heap := (World.holding Tryd.prog os ⟨#[], #[], []⟩).heap.modify 0 fun
      | .cells _ t frozen => .cells ((Lib.deBruijn32tab.map fun n => Value.int .u8 (Int.ofNat n)).toArray) t frozen
      | o => o }
theorem laid_met (os : Os) : laidMet Tryd.prog Rows.numberOrderUptoRow.laid ((laidWorld os).forCall (fun _ _ => 0) ⟨#[], #[.agg #[.bool false, .slice none 0 0, .slice none 0 0], .agg #[.bool false, .slice none 0 0, .slice none 0 0], .agg #[.bool false, .slice none 0 0, .slice none 0 0]], []⟩).memory :=
  laidMet_of_run' 64 (by kernel_rfl) (by kernel_rfl)
theorem reads (os : Os) {H : Type} (enc : TypeId × Value → H) : ∃ places, DataW.whole enc Tryd.prog ((laidWorld os).forCall (fun _ _ => 0) ⟨#[], #[.agg #[.bool false, .slice none 0 0, .slice none 0 0], .agg #[.bool false, .slice none 0 0, .slice none 0 0], .agg #[.bool false, .slice none 0 0, .slice none 0 0]], []⟩).memory Tryd.f7.params.toList Rows.numberOrderSpec.vars false (#[.agg #[.bool false, .slice none 0 0, .slice none 0 0], .agg #[.bool false, .slice none 0 0, .slice none 0 0], .agg #[.bool false, .slice none 0 0, .slice none 0 0]] : Array Value).toList 64 = some ([.agg [.lit (.bool false), .nil, .nil], .agg [.lit (.bool false), .nil, .nil], .agg [.lit (.bool false), .nil, .nil]], [], places) :=
  ⟨[], by kernel_rfl⟩
set_option maxRecDepth 100000 in
theorem lifted (os : Os) (started : os.Started) (H : Type) (enc : TypeId × Value → H) (F : Stop.Interp) :
    ReturnsInHanded {} Tryd.checked os 7 .any ((Rows.OpenSpec.upto Rows.numberOrderSpec).preRow enc Tryd.prog Tryd.f7 Rows.numberOrderUptoRow.domain false Rows.numberOrderUptoRow.laid) (((Rows.OpenSpec.upto Rows.numberOrderSpec).at F).post enc Tryd.prog Tryd.f7 false true false false) := by
  obtain ⟨places, hx⟩ := reads os enc
  refine returnsInHanded_of_row (C := Tryd.checked) (s := Rows.OpenSpec.upto Rows.numberOrderSpec) own started (by kernel_rfl) Tryd.func7
    (witness_row_at (enc := enc) (C := Tryd.checked) false (laidWorld os) #[.agg #[.bool false, .slice none 0 0, .slice none 0 0], .agg #[.bool false, .slice none 0 0, .slice none 0 0], .agg #[.bool false, .slice none 0 0, .slice none 0 0]] rfl (by kernel_rfl) (by kernel_rfl) (by kernel_rfl)
      (OpenSpec.preRow_of_cond 64 hx (by kernel_rfl) (fun k hk => by cases hk; kernel_rfl) (by kernel_rfl) (laid_met os))) ?_
  intro W base args ds gs before hval hW _ hcond hreach hL _ _
  exact contract H enc W base args ds gs before hval hW hL (by simpa [Rows.uptoSmall] using hcond _ rfl)
theorem said : Rows.NumberOrderUptoSaid :=
  OpenClaim.holds_of_cond 7 Tryd.f7 rfl rfl rfl rfl rfl rfl rfl ⟨rfl, rfl, rfl, rfl, rfl⟩ rfl rfl rfl rfl rfl (by kernel_rfl) Tryd.func7 (by kernel_rfl)
    (of_decide_eq_true (by kernel_rfl)) (by unfold Func.isWrapper; first | (rw [if_pos (by decide +kernel)]; kernel_rfl) | (rw [if_neg (by decide +kernel)]; exact ⟨rfl, rfl⟩))
    (fun os started H enc _ F => by rw [OpenClaim.pre_eq_preRow]; exact lifted os started H enc F)
theorem plain (f : FuncId) (fn : Func) (hf : Tryd.pinned.checked.prog.funcNamed "inequality/inequalitylaw01.NumberOrder" = some f) (hfn : Tryd.pinned.checked.prog.funcs[f]? = some fn) :
    false = Tryd.pinned.checked.prog.looks [] ∧ ∀ (j : Nat) t, fn.params[j]? = some t → Tryd.pinned.checked.prog.wantsStandIn t = false := by
  obtain rfl : f = 7 := Option.some.inj ((show Tryd.prog.funcNamed "inequality/inequalitylaw01.NumberOrder" = some 7 by kernel_rfl).symm.trans hf) |>.symm
  obtain rfl : fn = Tryd.f7 := (Option.some.inj (Tryd.func7.symm.trans hfn)).symm
  refine ⟨by kernel_rfl, fun j t ht => ?_⟩
  rw [Tryd.params7] at ht
  have hm := Array.mem_of_getElem? ht
  simp at hm
  subst hm
  exact (show Tryd.prog.wantsStandIn 24 = false by kernel_rfl)
theorem card : Rows.NumberOrderUptoCardSaid :=
  Claim7.holds_tied_plain_at .later [] _ _ _ _ said (fun _ h => by cases h) (by kernel_rfl) (fun _ h => by cases h) numberOrderUpto_row_tie rfl ⟨rfl, rfl⟩ (by kernel_rfl) rfl plain (by kernel_rfl)
end Go.Proofs.YtfmhplcpejmkhabDoor.lawNumberOrder
