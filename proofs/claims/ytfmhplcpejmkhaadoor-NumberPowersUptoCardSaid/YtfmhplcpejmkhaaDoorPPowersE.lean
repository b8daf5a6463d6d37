/-
  Contracts of number.Root. Under the premise that the table of math/bits lies as its initialiser lays it.
  Contracts of number.root, RootDown, RootUp. Under the premise that the table of math/bits lies as its initialiser lays it.
  The operations over values of whatever kind: Pow, Root, Abs, Canon, RootDown, RootUp, Compare. Under the premise that the table of math/bits lies as its initialiser lays it.
  Contract of the statements' own awake.
  The walk of the statement NumberPowers. Under the premise that the table of math/bits lies as its initialiser lays it.
  From a row's reading to the walks' premises: a number as it comes in, the table of math/bits, and what an answer 'true' over untouched arguments gives.
  The statement NumberPowersUptoCardSaid: the row, and the card over it. Conditions: the walks' none but what the row's reading and its listed table give.
-/
import Derived.Test.YtfmhplcpejmkhaaDoorCards
import Derived.Test.YtfmhplcpejmkhaaDoorTie
import Derived.WalkKit
import Derived.ProofKit
import Derived.OpenShut
import Derived.Carry
import Derived.Deep.DeepHandedRow
import Derived.Lib.LaidTab
import Derived.Lib.SmallJoins
import Derived.ChangeSlices
import Derived.Test.YtfmhplcpejmkhaaDoorPPowersD
namespace Go.Proofs.YtfmhplcpejmkhaaDoor
open Go.RowKit Dig
set_option linter.unusedVariables false
set_option linter.unusedSimpArgs false
/-- a value, whether there is one, and an error -/
def Out3 (w : World) (o : Out) (b : Bool) (e : Ending) (w' : World) : Prop :=
  ∃ s A n c A' n' c' k, e = .returned (.tuple #[.agg #[.bool s, .slice A n c, .slice A' n' c'], .bool b, .int .i64 k]) ∧ OutIs w' o (.agg #[.bool s, .slice A n c, .slice A' n' c']) k ∧ Below w.heap.size w w'
/-- what Root returns -/
def rootOut (L : Bool) (n : Int) (q : Rat) : Out × Bool :=
  if L = true then (.err 1, false) else if n < 2 ∨ 8 < n then (.err 2, false) else if ng q = true ∧ n.toNat % 2 = 0 then (.ok 0, false) else if isRt n.toNat q = true then (.ok (rtQ n.toNat q), true) else (.ok 0, false)
theorem rt_fit {q : Rat} {k : Nat} (hk : 0 < k) (hf : fitQ q) (h : isRt k q = true) : fitQ (rtQ k q) := by
  obtain ⟨_, e2, e3⟩ := rt_facts hk h
  have l : ∀ a, irt k a ≤ a := by
    intro a
    have h1 := irt_le (a := a) hk
    rcases Nat.eq_zero_or_pos (irt k a) with h0 | h0
    · omega
    · exact Nat.le_trans (by have := Nat.pow_le_pow_right h0 (show 1 ≤ k by omega); simpa using this) h1
  unfold fitQ
  rw [e2, e3]
  exact ⟨Nat.le_trans (dig_length_mono B32_two (l _)) hf.1, Nat.le_trans (dig_length_mono B32_two (l _)) hf.2⟩
set_option maxHeartbeats 2000000 in
set_option maxRecDepth 100000 in
theorem nRoot_large (s1 : Bool) (N1' D1' : Nat) (p : Int) (w : World) (v1 : Value) (h1 : RawV w v1 s1 N1' D1') (hT : Tab w) (q : Rat) (hq : ratOf s1 N1' D1' = q) (hL : largeB s1 N1' D1' = true) :
    Calls Tryd.prog 42 #[v1, .int .i64 p] w (Out3 w (Out.err 1) false) := by
  have H1 := Lib.hid h1
  have HT := Lib.hid hT
  obtain ⟨A1, n1, c1, A1', n1', c1', rfl⟩ := h1.shape
  clear h1 hT
  obtain ⟨M, hM, k1, k3, bM⟩ := start1 w (.bool s1) (.slice A1 n1 c1) (.slice A1' n1' c1') (.bool false) (.slice none 0 0) (.slice none 0 0) 24 24
  have HX := Lib.hid k1
  have HR := Lib.hid (show Res M (w.heap.size + 1) 24 from ⟨_, _, _, NI.bool _, NI.slice _ _ _, NI.slice _ _ _, k3⟩)
  have BM := Lib.hid bM
  replace H1 := Lib.hid (H1.out.below bM)
  replace HT := Lib.hid (HT.out.below bM)
  have HQ := Lib.hid hq
  have HL := Lib.hid hL
  obtain ⟨o, ho⟩ : ∃ o, Out.err 1 = o := ⟨_, rfl⟩
  have HO := Lib.hid ho
  rw [ho]
  clear hq hL k1 k3 bM ho
  go_enter Tryd.func42, Tryd.ntmps42
  go_upto_region 1 with (fail)
  rw [← hM]
  clear hM
  obtain ⟨x1, x2, x3, _, _, _⟩ := HX.out.cells
  go_wp2_with fail
  refine (readV _ s1 N1' D1' _ H1.out HT.out).mono ?_
  rw [HL.out, Bool.not_true]
  rintro e wa ⟨t1, B1, m1, d1, B1', m1', d1', rfl, f1, ba⟩
  have bb := below_step ba ba.size (below_alloc wa (.cells #[.bool t1, .slice B1 m1 d1, .slice B1' m1' d1'] 60))
  have hf1 := Box.new wa (.bool t1) (.slice B1 m1 d1) (.slice B1' m1' d1') 60
  have szw : w.heap.size + 1 < wa.heap.size := Nat.lt_of_lt_of_le (by obtain ⟨_, _, _, _, _, _, hh⟩ := HR.out; exact hh.lt) ba.size
  have TA : Hid (N1 w (wa.alloc (.cells #[.bool t1, .slice B1 m1 d1, .slice B1' m1' d1'] 60)) (w.heap.size + 1) wa.heap.size t1 B1 m1 d1 B1' m1' d1') :=
    Lib.hid ⟨HR.out.below bb, hf1, HT.out.below bb, below_step BM.out BM.out.size bb, by omega, by omega⟩
  obtain ⟨w2, hw2⟩ : ∃ w2, wa.alloc (.cells #[.bool t1, .slice B1 m1 d1, .slice B1' m1' d1'] 60) = w2 := ⟨_, rfl⟩
  obtain ⟨gf, hgf⟩ : ∃ gf, wa.heap.size = gf := ⟨_, rfl⟩
  clear x1 x2 x3 ba bb f1 hf1 szw HR BM HX H1 HT
  go_upto_region 2 with (fail)
  rw [hw2] at TA
  try rw [hw2]
  rw [hgf] at TA
  try rw [hgf]
  clear hw2 hgf
  obtain ⟨y1, y2, y3, _⟩ := TA.out.box.cells
  obtain ⟨z1, z2, z3, hy1, hy2, hy3, f1, f2, f3⟩ := TA.out.res.cells
  obtain ⟨q0, q1, q2, hs, hb⟩ := OutIs.stored (o := .err 1) (k := 1) (s := false) (A1 := none) (A2 := none) (n1 := 0) (c1 := 0) (n2 := 0) (c2 := 0) ⟨rfl, rfl, by omega, by omega⟩ TA.out.res TA.out.bel TA.out.n3
  have Q := Lib.hid (And.intro q0 (And.intro q1 q2))
  have HS := Lib.hid hs
  have HBB := Lib.hid hb
  clear q0 q1 q2 hs hb
  go_wp2_with fail
  obtain ⟨q0, q1, q2⟩ := Q.out
  refine bodyPost_ret (v := .tuple #[noRat, .bool false, .int .i64 1]) (by simp [results, Tryd.results42, go_sem, q0, q1, q2, noRat]) rfl ?_
  rw [← HO.out]
  exact ⟨_, _, _, _, _, _, _, _, rfl, HS.out, HBB.out⟩
set_option maxHeartbeats 2000000 in
set_option maxRecDepth 100000 in
theorem nRoot_low (s1 : Bool) (N1' D1' : Nat) (p : Int) (hp : p < 2) (w : World) (v1 : Value) (h1 : RawV w v1 s1 N1' D1') (hT : Tab w) (q : Rat) (hq : ratOf s1 N1' D1' = q) (hL : largeB s1 N1' D1' = false) :
    Calls Tryd.prog 42 #[v1, .int .i64 p] w (Out3 w (Out.err 2) false) := by
  have H1 := Lib.hid h1
  have HT := Lib.hid hT
  obtain ⟨A1, n1, c1, A1', n1', c1', rfl⟩ := h1.shape
  clear h1 hT
  obtain ⟨M, hM, k1, k3, bM⟩ := start1 w (.bool s1) (.slice A1 n1 c1) (.slice A1' n1' c1') (.bool false) (.slice none 0 0) (.slice none 0 0) 24 24
  have HX := Lib.hid k1
  have HR := Lib.hid (show Res M (w.heap.size + 1) 24 from ⟨_, _, _, NI.bool _, NI.slice _ _ _, NI.slice _ _ _, k3⟩)
  have BM := Lib.hid bM
  replace H1 := Lib.hid (H1.out.below bM)
  replace HT := Lib.hid (HT.out.below bM)
  have HQ := Lib.hid hq
  have HL := Lib.hid hL
  have hp1 : decide (p < 2) = true := decide_eq_true hp
  clear hp
  obtain ⟨o, ho⟩ : ∃ o, Out.err 2 = o := ⟨_, rfl⟩
  have HO := Lib.hid ho
  rw [ho]
  clear hq hL k1 k3 bM ho
  go_enter Tryd.func42, Tryd.ntmps42
  go_upto_region 1 with (fail)
  rw [← hM]
  clear hM
  obtain ⟨x1, x2, x3, _, _, _⟩ := HX.out.cells
  go_wp2_with fail
  refine (readV _ s1 N1' D1' _ H1.out HT.out).mono ?_
  rw [HL.out, Bool.not_false]
  rintro e wa ⟨t1, B1, m1, d1, B1', m1', d1', rfl, f1, ba⟩
  have bb := below_step ba ba.size (below_alloc wa (.cells #[.bool t1, .slice B1 m1 d1, .slice B1' m1' d1'] 60))
  have hf1 := Box.new wa (.bool t1) (.slice B1 m1 d1) (.slice B1' m1' d1') 60
  have szw : w.heap.size + 1 < wa.heap.size := Nat.lt_of_lt_of_le (by obtain ⟨_, _, _, _, _, _, hh⟩ := HR.out; exact hh.lt) ba.size
  have TA : Hid (N1 w (wa.alloc (.cells #[.bool t1, .slice B1 m1 d1, .slice B1' m1' d1'] 60)) (w.heap.size + 1) wa.heap.size t1 B1 m1 d1 B1' m1' d1') :=
    Lib.hid ⟨HR.out.below bb, hf1, HT.out.below bb, below_step BM.out BM.out.size bb, by omega, by omega⟩
  have F1 : Hid (IsF (wa.alloc (.cells #[.bool t1, .slice B1 m1 d1, .slice B1' m1' d1'] 60)) (.agg #[.bool t1, .slice B1 m1 d1, .slice B1' m1' d1']) q) := Lib.hid (by rw [← HQ.out]; exact (f1.out rfl).below (below_alloc _ _))
  obtain ⟨w2, hw2⟩ : ∃ w2, wa.alloc (.cells #[.bool t1, .slice B1 m1 d1, .slice B1' m1' d1'] 60) = w2 := ⟨_, rfl⟩
  obtain ⟨gf, hgf⟩ : ∃ gf, wa.heap.size = gf := ⟨_, rfl⟩
  clear x1 x2 x3 ba bb f1 hf1 szw HR BM HX H1 HT
  go_upto_region 2 with (fail)
  rw [hw2] at TA F1
  try rw [hw2]
  rw [hgf] at TA
  try rw [hgf]
  clear hw2 hgf
  obtain ⟨y1, y2, y3, _⟩ := TA.out.box.cells
  obtain ⟨z1, z2, z3, hy1, hy2, hy3, f1, f2, f3⟩ := TA.out.res.cells
  obtain ⟨q0, q1, q2, hs, hb⟩ := OutIs.stored (o := .err 2) (k := 2) (s := false) (A1 := none) (A2 := none) (n1 := 0) (c1 := 0) (n2 := 0) (c2 := 0) ⟨rfl, rfl, by omega, by omega⟩ TA.out.res TA.out.bel TA.out.n3
  have Q := Lib.hid (And.intro q0 (And.intro q1 q2))
  have HS := Lib.hid hs
  have HBB := Lib.hid hb
  clear q0 q1 q2 hs hb
  go_wp2_with fail
  obtain ⟨q0, q1, q2⟩ := Q.out
  refine bodyPost_ret (v := .tuple #[noRat, .bool false, .int .i64 2]) (by simp [results, Tryd.results42, go_sem, q0, q1, q2, noRat]) rfl ?_
  rw [← HO.out]
  exact ⟨_, _, _, _, _, _, _, _, rfl, HS.out, HBB.out⟩
set_option maxHeartbeats 2000000 in
set_option maxRecDepth 100000 in
theorem nRoot_high (s1 : Bool) (N1' D1' : Nat) (p : Int) (hp : 8 < p) (w : World) (v1 : Value) (h1 : RawV w v1 s1 N1' D1') (hT : Tab w) (q : Rat) (hq : ratOf s1 N1' D1' = q) (hL : largeB s1 N1' D1' = false) :
    Calls Tryd.prog 42 #[v1, .int .i64 p] w (Out3 w (Out.err 2) false) := by
  have H1 := Lib.hid h1
  have HT := Lib.hid hT
  obtain ⟨A1, n1, c1, A1', n1', c1', rfl⟩ := h1.shape
  clear h1 hT
  obtain ⟨M, hM, k1, k3, bM⟩ := start1 w (.bool s1) (.slice A1 n1 c1) (.slice A1' n1' c1') (.bool false) (.slice none 0 0) (.slice none 0 0) 24 24
  have HX := Lib.hid k1
  have HR := Lib.hid (show Res M (w.heap.size + 1) 24 from ⟨_, _, _, NI.bool _, NI.slice _ _ _, NI.slice _ _ _, k3⟩)
  have BM := Lib.hid bM
  replace H1 := Lib.hid (H1.out.below bM)
  replace HT := Lib.hid (HT.out.below bM)
  have HQ := Lib.hid hq
  have HL := Lib.hid hL
  have hp1 : decide (p < 2) = false := decide_eq_false (by omega)
  have hp2 : decide (8 < p) = true := decide_eq_true hp
  clear hp
  obtain ⟨o, ho⟩ : ∃ o, Out.err 2 = o := ⟨_, rfl⟩
  have HO := Lib.hid ho
  rw [ho]
  clear hq hL k1 k3 bM ho
  go_enter Tryd.func42, Tryd.ntmps42
  go_upto_region 1 with (fail)
  rw [← hM]
  clear hM
  obtain ⟨x1, x2, x3, _, _, _⟩ := HX.out.cells
  go_wp2_with fail
  refine (readV _ s1 N1' D1' _ H1.out HT.out).mono ?_
  rw [HL.out, Bool.not_false]
  rintro e wa ⟨t1, B1, m1, d1, B1', m1', d1', rfl, f1, ba⟩
  have bb := below_step ba ba.size (below_alloc wa (.cells #[.bool t1, .slice B1 m1 d1, .slice B1' m1' d1'] 60))
  have hf1 := Box.new wa (.bool t1) (.slice B1 m1 d1) (.slice B1' m1' d1') 60
  have szw : w.heap.size + 1 < wa.heap.size := Nat.lt_of_lt_of_le (by obtain ⟨_, _, _, _, _, _, hh⟩ := HR.out; exact hh.lt) ba.size
  have TA : Hid (N1 w (wa.alloc (.cells #[.bool t1, .slice B1 m1 d1, .slice B1' m1' d1'] 60)) (w.heap.size + 1) wa.heap.size t1 B1 m1 d1 B1' m1' d1') :=
    Lib.hid ⟨HR.out.below bb, hf1, HT.out.below bb, below_step BM.out BM.out.size bb, by omega, by omega⟩
  have F1 : Hid (IsF (wa.alloc (.cells #[.bool t1, .slice B1 m1 d1, .slice B1' m1' d1'] 60)) (.agg #[.bool t1, .slice B1 m1 d1, .slice B1' m1' d1']) q) := Lib.hid (by rw [← HQ.out]; exact (f1.out rfl).below (below_alloc _ _))
  obtain ⟨w2, hw2⟩ : ∃ w2, wa.alloc (.cells #[.bool t1, .slice B1 m1 d1, .slice B1' m1' d1'] 60) = w2 := ⟨_, rfl⟩
  obtain ⟨gf, hgf⟩ : ∃ gf, wa.heap.size = gf := ⟨_, rfl⟩
  clear x1 x2 x3 ba bb f1 hf1 szw HR BM HX H1 HT
  go_upto_region 2 with (fail)
  rw [hw2] at TA F1
  try rw [hw2]
  rw [hgf] at TA
  try rw [hgf]
  clear hw2 hgf
  obtain ⟨y1, y2, y3, _⟩ := TA.out.box.cells
  obtain ⟨z1, z2, z3, hy1, hy2, hy3, f1, f2, f3⟩ := TA.out.res.cells
  obtain ⟨q0, q1, q2, hs, hb⟩ := OutIs.stored (o := .err 2) (k := 2) (s := false) (A1 := none) (A2 := none) (n1 := 0) (c1 := 0) (n2 := 0) (c2 := 0) ⟨rfl, rfl, by omega, by omega⟩ TA.out.res TA.out.bel TA.out.n3
  have Q := Lib.hid (And.intro q0 (And.intro q1 q2))
  have HS := Lib.hid hs
  have HBB := Lib.hid hb
  clear q0 q1 q2 hs hb
  go_wp2_with fail
  obtain ⟨q0, q1, q2⟩ := Q.out
  refine bodyPost_ret (v := .tuple #[noRat, .bool false, .int .i64 2]) (by simp [results, Tryd.results42, go_sem, q0, q1, q2, noRat]) rfl ?_
  rw [← HO.out]
  exact ⟨_, _, _, _, _, _, _, _, rfl, HS.out, HBB.out⟩
set_option maxHeartbeats 2000000 in
set_option maxRecDepth 100000 in
theorem nRoot_even (s1 : Bool) (N1' D1' : Nat) (k : Nat) (h2 : 2 ≤ k) (h8 : k ≤ 8) (hs : ng (ratOf s1 N1' D1') = true) (he : k % 2 = 0) (w : World) (v1 : Value) (h1 : RawV w v1 s1 N1' D1') (hT : Tab w) (q : Rat) (hq : ratOf s1 N1' D1' = q) (hL : largeB s1 N1' D1' = false) :
    Calls Tryd.prog 42 #[v1, .int .i64 (k : Int)] w (Out3 w (Out.ok 0) false) := by
  have H1 := Lib.hid h1
  have HT := Lib.hid hT
  obtain ⟨A1, n1, c1, A1', n1', c1', rfl⟩ := h1.shape
  clear h1 hT
  obtain ⟨M, hM, k1, k3, bM⟩ := start1 w (.bool s1) (.slice A1 n1 c1) (.slice A1' n1' c1') (.bool false) (.slice none 0 0) (.slice none 0 0) 24 24
  have HX := Lib.hid k1
  have HR := Lib.hid (show Res M (w.heap.size + 1) 24 from ⟨_, _, _, NI.bool _, NI.slice _ _ _, NI.slice _ _ _, k3⟩)
  have BM := Lib.hid bM
  replace H1 := Lib.hid (H1.out.below bM)
  replace HT := Lib.hid (HT.out.below bM)
  have HQ := Lib.hid hq
  have HL := Lib.hid hL
  have hp1 : decide ((k : Int) < 2) = false := decide_eq_false (by omega)
  have hp1' : decide (k < 2) = false := decide_eq_false (by omega)
  have hp2 : decide (8 < (k : Int)) = false := decide_eq_false (by omega)
  have hp2' : decide (8 < k) = false := decide_eq_false (by omega)
  have hm := tmod_two k
  have hm2 : IntKind.i64.wrap ((k % 2 : Nat) : Int) = ((k % 2 : Nat) : Int) := wraps_i64 _ (by omega) (by omega)
  have HK2 := Lib.hid h2
  have HK8 := Lib.hid h8
  rw [hq] at hs
  have HNG := Lib.hid hs
  clear hs
  rw [he] at hm hm2
  clear he
  obtain ⟨o, ho⟩ : ∃ o, Out.ok 0 = o := ⟨_, rfl⟩
  have HO := Lib.hid ho
  rw [ho]
  clear hq hL k1 k3 bM ho
  go_enter Tryd.func42, Tryd.ntmps42
  go_upto_region 1 with (fail)
  rw [← hM]
  clear hM
  obtain ⟨x1, x2, x3, _, _, _⟩ := HX.out.cells
  go_wp2_with fail
  refine (readV _ s1 N1' D1' _ H1.out HT.out).mono ?_
  rw [HL.out, Bool.not_false]
  rintro e wa ⟨t1, B1, m1, d1, B1', m1', d1', rfl, f1, ba⟩
  have bb := below_step ba ba.size (below_alloc wa (.cells #[.bool t1, .slice B1 m1 d1, .slice B1' m1' d1'] 60))
  have hf1 := Box.new wa (.bool t1) (.slice B1 m1 d1) (.slice B1' m1' d1') 60
  have szw : w.heap.size + 1 < wa.heap.size := Nat.lt_of_lt_of_le (by obtain ⟨_, _, _, _, _, _, hh⟩ := HR.out; exact hh.lt) ba.size
  have TA : Hid (N1 w (wa.alloc (.cells #[.bool t1, .slice B1 m1 d1, .slice B1' m1' d1'] 60)) (w.heap.size + 1) wa.heap.size t1 B1 m1 d1 B1' m1' d1') :=
    Lib.hid ⟨HR.out.below bb, hf1, HT.out.below bb, below_step BM.out BM.out.size bb, by omega, by omega⟩
  have F1 : Hid (IsF (wa.alloc (.cells #[.bool t1, .slice B1 m1 d1, .slice B1' m1' d1'] 60)) (.agg #[.bool t1, .slice B1 m1 d1, .slice B1' m1' d1']) q) := Lib.hid (by rw [← HQ.out]; exact (f1.out rfl).below (below_alloc _ _))
  obtain ⟨w2, hw2⟩ : ∃ w2, wa.alloc (.cells #[.bool t1, .slice B1 m1 d1, .slice B1' m1' d1'] 60) = w2 := ⟨_, rfl⟩
  obtain ⟨gf, hgf⟩ : ∃ gf, wa.heap.size = gf := ⟨_, rfl⟩
  clear x1 x2 x3 ba bb f1 hf1 szw HR BM HX H1 HT
  go_upto_region 2 with (fail)
  rw [hw2] at TA F1
  try rw [hw2]
  rw [hgf] at TA
  try rw [hgf]
  clear hw2 hgf
  obtain ⟨y1, y2, y3, _⟩ := TA.out.box.cells
  obtain ⟨ht, a1, a2⟩ := F1.out.at_
  obtain rfl : t1 = true := ht.trans HNG.out
  have NA := Lib.hid a1
  have NB := Lib.hid a2
  clear ht a1 a2
  obtain ⟨z1, z2, z3, hy1, hy2, hy3, f1, f2, f3⟩ := TA.out.res.cells
  obtain ⟨q0, q1, q2, hs, hb⟩ := OutIs.stored (o := .ok 0) (k := 0) (s := false) (A1 := none) (A2 := none) (n1 := 0) (c1 := 0) (n2 := 0) (c2 := 0) (OutIs.zero _) TA.out.res TA.out.bel TA.out.n3
  have Q := Lib.hid (And.intro q0 (And.intro q1 q2))
  have HS := Lib.hid hs
  have HBB := Lib.hid hb
  clear q0 q1 q2 hs hb
  go_wp2_with fail
  obtain ⟨q0, q1, q2⟩ := Q.out
  refine bodyPost_ret (v := .tuple #[noRat, .bool false, .int .i64 0]) (by simp [results, Tryd.results42, go_sem, q0, q1, q2, noRat]) rfl ?_
  rw [← HO.out]
  exact ⟨_, _, _, _, _, _, _, _, rfl, HS.out, HBB.out⟩
set_option maxHeartbeats 2000000 in
set_option maxRecDepth 100000 in
theorem nRoot_false_true_true (s1 : Bool) (N1' D1' : Nat) (k : Nat) (h2 : 2 ≤ k) (h8 : k ≤ 8) (hs : ng (ratOf s1 N1' D1') = false) (x1 : decide (irt k (ratOf s1 N1' D1').num.natAbs ^ k = (ratOf s1 N1' D1').num.natAbs) = true) (x2 : decide (irt k (ratOf s1 N1' D1').den ^ k = (ratOf s1 N1' D1').den) = true) (r : Rat) (hr : rtQ k (ratOf s1 N1' D1') = r) (w : World) (v1 : Value) (h1 : RawV w v1 s1 N1' D1') (hT : Tab w) (q : Rat) (hq : ratOf s1 N1' D1' = q) (hL : largeB s1 N1' D1' = false) :
    Calls Tryd.prog 42 #[v1, .int .i64 (k : Int)] w (Out3 w (Out.ok r) true) := by
  have H1 := Lib.hid h1
  have HT := Lib.hid hT
  obtain ⟨A1, n1, c1, A1', n1', c1', rfl⟩ := h1.shape
  clear h1 hT
  obtain ⟨M, hM, k1, k3, bM⟩ := start1 w (.bool s1) (.slice A1 n1 c1) (.slice A1' n1' c1') (.bool false) (.slice none 0 0) (.slice none 0 0) 24 24
  have HX := Lib.hid k1
  have HR := Lib.hid (show Res M (w.heap.size + 1) 24 from ⟨_, _, _, NI.bool _, NI.slice _ _ _, NI.slice _ _ _, k3⟩)
  have BM := Lib.hid bM
  replace H1 := Lib.hid (H1.out.below bM)
  replace HT := Lib.hid (HT.out.below bM)
  have HQ := Lib.hid hq
  have HL := Lib.hid hL
  have hf := (largeB_false hL).2.2
  rw [hq] at hf
  have HF := Lib.hid hf
  clear hf
  have hp1 : decide ((k : Int) < 2) = false := decide_eq_false (by omega)
  have hp1' : decide (k < 2) = false := decide_eq_false (by omega)
  have hp2 : decide (8 < (k : Int)) = false := decide_eq_false (by omega)
  have hp2' : decide (8 < k) = false := decide_eq_false (by omega)
  have hm := tmod_two k
  have hm2 : IntKind.i64.wrap ((k % 2 : Nat) : Int) = ((k % 2 : Nat) : Int) := wraps_i64 _ (by omega) (by omega)
  have HK2 := Lib.hid h2
  have HK8 := Lib.hid h8
  rw [hq] at hs
  have HNG := Lib.hid hs
  clear hs
  rw [hq] at x1 x2
  have HAE := Lib.hid x1
  have HBE := Lib.hid x2
  clear x1 x2
  rw [hq] at hr
  have HR2 := Lib.hid hr
  clear hr
  obtain ⟨o, ho⟩ : ∃ o, Out.ok r = o := ⟨_, rfl⟩
  have HO := Lib.hid ho
  rw [ho]
  clear hq hL k1 k3 bM ho
  go_enter Tryd.func42, Tryd.ntmps42
  go_upto_region 1 with (fail)
  rw [← hM]
  clear hM
  obtain ⟨x1, x2, x3, _, _, _⟩ := HX.out.cells
  go_wp2_with fail
  refine (readV _ s1 N1' D1' _ H1.out HT.out).mono ?_
  rw [HL.out, Bool.not_false]
  rintro e wa ⟨t1, B1, m1, d1, B1', m1', d1', rfl, f1, ba⟩
  have bb := below_step ba ba.size (below_alloc wa (.cells #[.bool t1, .slice B1 m1 d1, .slice B1' m1' d1'] 60))
  have hf1 := Box.new wa (.bool t1) (.slice B1 m1 d1) (.slice B1' m1' d1') 60
  have szw : w.heap.size + 1 < wa.heap.size := Nat.lt_of_lt_of_le (by obtain ⟨_, _, _, _, _, _, hh⟩ := HR.out; exact hh.lt) ba.size
  have TA : Hid (N1 w (wa.alloc (.cells #[.bool t1, .slice B1 m1 d1, .slice B1' m1' d1'] 60)) (w.heap.size + 1) wa.heap.size t1 B1 m1 d1 B1' m1' d1') :=
    Lib.hid ⟨HR.out.below bb, hf1, HT.out.below bb, below_step BM.out BM.out.size bb, by omega, by omega⟩
  have F1 : Hid (IsF (wa.alloc (.cells #[.bool t1, .slice B1 m1 d1, .slice B1' m1' d1'] 60)) (.agg #[.bool t1, .slice B1 m1 d1, .slice B1' m1' d1']) q) := Lib.hid (by rw [← HQ.out]; exact (f1.out rfl).below (below_alloc _ _))
  obtain ⟨w2, hw2⟩ : ∃ w2, wa.alloc (.cells #[.bool t1, .slice B1 m1 d1, .slice B1' m1' d1'] 60) = w2 := ⟨_, rfl⟩
  obtain ⟨gf, hgf⟩ : ∃ gf, wa.heap.size = gf := ⟨_, rfl⟩
  clear x1 x2 x3 ba bb f1 hf1 szw HR BM HX H1 HT
  go_upto_region 2 with (fail)
  rw [hw2] at TA F1
  try rw [hw2]
  rw [hgf] at TA
  try rw [hgf]
  clear hw2 hgf
  obtain ⟨y1, y2, y3, _⟩ := TA.out.box.cells
  obtain ⟨ht, a1, a2⟩ := F1.out.at_
  obtain rfl : t1 = false := ht.trans HNG.out
  have NA := Lib.hid a1
  have NB := Lib.hid a2
  clear ht a1 a2
  go_wp2_with fail
  refine (aRoot _ k _ _ _ _ NA.out (Nat.le_trans HF.out.1 (by omega)) HK2.out (Nat.le_trans HK8.out (by omega))).mono ?_
  rw [HAE.out]
  rintro e wr ⟨RA, rA, sA, rfl, iA, bb⟩
  replace TA := Lib.hid (TA.out.below bb)
  replace NA := Lib.hid (NA.out.below bb)
  replace NB := Lib.hid (NB.out.below bb)
  clear bb y1 y2 y3
  obtain ⟨y1, y2, y3, _⟩ := TA.out.box.cells
  go_wp2_with fail
  refine (aRoot _ k _ _ _ _ NB.out (Nat.le_trans HF.out.2 (by omega)) HK2.out (Nat.le_trans HK8.out (by omega))).mono ?_
  rw [HBE.out]
  rintro e wr ⟨RB, rB, sB, rfl, iB, bb⟩
  replace TA := Lib.hid (TA.out.below bb)
  replace NA := Lib.hid (NA.out.below bb)
  replace NB := Lib.hid (NB.out.below bb)
  replace iA := Lib.hid (iA.out.below bb)
  clear bb y1 y2 y3
  obtain ⟨y1, y2, y3, _⟩ := TA.out.box.cells
  obtain ⟨g1, g2, g3⟩ := rt_facts (n := k) (q := q) (Nat.lt_of_lt_of_le (by omega) HK2.out) (isRt_iff.2 ⟨of_decide_eq_true HAE.out, of_decide_eq_true HBE.out⟩)
  have gf2 := rt_fit (k := k) (q := q) (Nat.lt_of_lt_of_le (by omega) HK2.out) HF.out (isRt_iff.2 ⟨of_decide_eq_true HAE.out, of_decide_eq_true HBE.out⟩)
  have IR := Lib.hid (IsF.mk_at (t := false) (q := rtQ k q) (by rw [g1, HNG.out]) (by rw [g2]; exact iA.out) (by rw [g3]; exact iB.out))
  rw [HR2.out] at IR gf2
  have FQ := Lib.hid gf2
  clear g1 g2 g3 gf2
  go_wp2_with fail
  refine (giveF _ r _ IR.out).mono ?_
  rintro e wb ⟨s9, A9, n9, c9, A9', n9', c9', k9, rfl, h9, b9⟩
  have e0 : give r = .ok r := by unfold give; rw [if_pos FQ.out]
  rw [e0] at h9
  obtain rfl : k9 = 0 := h9.1
  have bb := below_step b9 b9.size (below_alloc wb (.cells #[.bool s9, .slice A9 n9 c9, .slice A9' n9' c9'] 24))
  have hg := h9.2.1.below (below_alloc wb (.cells #[.bool s9, .slice A9 n9 c9, .slice A9' n9' c9'] 24))
  have HZ := Lib.hid (Box.new wb (.bool s9) (.slice A9 n9 c9) (.slice A9' n9' c9') 24)
  have HG := Lib.hid hg
  replace TA := Lib.hid (TA.out.below bb)
  obtain ⟨w3, hw3⟩ : ∃ v, wb.alloc (.cells #[.bool s9, .slice A9 n9 c9, .slice A9' n9' c9'] 24) = v := ⟨_, rfl⟩
  clear bb b9 h9 hg e0 IR iA iB NA NB y1 y2 y3
  go_upto_region 13 with (fail)
  rw [hw3] at TA HZ HG
  try rw [hw3]
  clear hw3
  obtain ⟨x1, y1, z1, _, _, _⟩ := HZ.out.cells
  obtain ⟨u1, u2, u3, hu1, hu2, hu3, k1, k2, k3⟩ := TA.out.res.cells
  obtain ⟨q0, q1, q2, hs, hb⟩ := OutIs.stored (o := .ok r) ⟨rfl, HG.out, FQ.out⟩ TA.out.res TA.out.bel TA.out.n3
  have Q := Lib.hid (And.intro q0 (And.intro q1 q2))
  have HS := Lib.hid hs
  have HBB := Lib.hid hb
  clear q0 q1 q2 hs hb
  go_wp2_with fail
  obtain ⟨q0, q1, q2⟩ := Q.out
  refine bodyPost_ret (v := .tuple #[.agg #[.bool s9, .slice A9 n9 c9, .slice A9' n9' c9'], .bool true, .int .i64 0]) (by simp [results, Tryd.results42, go_sem, q0, q1, q2]) rfl ?_
  rw [← HO.out]
  exact ⟨_, _, _, _, _, _, _, _, rfl, HS.out, HBB.out⟩
set_option maxHeartbeats 2000000 in
set_option maxRecDepth 100000 in
theorem nRoot_false_true_false (s1 : Bool) (N1' D1' : Nat) (k : Nat) (h2 : 2 ≤ k) (h8 : k ≤ 8) (hs : ng (ratOf s1 N1' D1') = false) (x1 : decide (irt k (ratOf s1 N1' D1').num.natAbs ^ k = (ratOf s1 N1' D1').num.natAbs) = true) (x2 : decide (irt k (ratOf s1 N1' D1').den ^ k = (ratOf s1 N1' D1').den) = false) (w : World) (v1 : Value) (h1 : RawV w v1 s1 N1' D1') (hT : Tab w) (q : Rat) (hq : ratOf s1 N1' D1' = q) (hL : largeB s1 N1' D1' = false) :
    Calls Tryd.prog 42 #[v1, .int .i64 (k : Int)] w (Out3 w (Out.ok 0) false) := by
  have H1 := Lib.hid h1
  have HT := Lib.hid hT
  obtain ⟨A1, n1, c1, A1', n1', c1', rfl⟩ := h1.shape
  clear h1 hT
  obtain ⟨M, hM, k1, k3, bM⟩ := start1 w (.bool s1) (.slice A1 n1 c1) (.slice A1' n1' c1') (.bool false) (.slice none 0 0) (.slice none 0 0) 24 24
  have HX := Lib.hid k1
  have HR := Lib.hid (show Res M (w.heap.size + 1) 24 from ⟨_, _, _, NI.bool _, NI.slice _ _ _, NI.slice _ _ _, k3⟩)
  have BM := Lib.hid bM
  replace H1 := Lib.hid (H1.out.below bM)
  replace HT := Lib.hid (HT.out.below bM)
  have HQ := Lib.hid hq
  have HL := Lib.hid hL
  have hf := (largeB_false hL).2.2
  rw [hq] at hf
  have HF := Lib.hid hf
  clear hf
  have hp1 : decide ((k : Int) < 2) = false := decide_eq_false (by omega)
  have hp1' : decide (k < 2) = false := decide_eq_false (by omega)
  have hp2 : decide (8 < (k : Int)) = false := decide_eq_false (by omega)
  have hp2' : decide (8 < k) = false := decide_eq_false (by omega)
  have hm := tmod_two k
  have hm2 : IntKind.i64.wrap ((k % 2 : Nat) : Int) = ((k % 2 : Nat) : Int) := wraps_i64 _ (by omega) (by omega)
  have HK2 := Lib.hid h2
  have HK8 := Lib.hid h8
  rw [hq] at hs
  have HNG := Lib.hid hs
  clear hs
  rw [hq] at x1 x2
  have HAE := Lib.hid x1
  have HBE := Lib.hid x2
  clear x1 x2
  obtain ⟨o, ho⟩ : ∃ o, Out.ok 0 = o := ⟨_, rfl⟩
  have HO := Lib.hid ho
  rw [ho]
  clear hq hL k1 k3 bM ho
  go_enter Tryd.func42, Tryd.ntmps42
  go_upto_region 1 with (fail)
  rw [← hM]
  clear hM
  obtain ⟨x1, x2, x3, _, _, _⟩ := HX.out.cells
  go_wp2_with fail
  refine (readV _ s1 N1' D1' _ H1.out HT.out).mono ?_
  rw [HL.out, Bool.not_false]
  rintro e wa ⟨t1, B1, m1, d1, B1', m1', d1', rfl, f1, ba⟩
  have bb := below_step ba ba.size (below_alloc wa (.cells #[.bool t1, .slice B1 m1 d1, .slice B1' m1' d1'] 60))
  have hf1 := Box.new wa (.bool t1) (.slice B1 m1 d1) (.slice B1' m1' d1') 60
  have szw : w.heap.size + 1 < wa.heap.size := Nat.lt_of_lt_of_le (by obtain ⟨_, _, _, _, _, _, hh⟩ := HR.out; exact hh.lt) ba.size
  have TA : Hid (N1 w (wa.alloc (.cells #[.bool t1, .slice B1 m1 d1, .slice B1' m1' d1'] 60)) (w.heap.size + 1) wa.heap.size t1 B1 m1 d1 B1' m1' d1') :=
    Lib.hid ⟨HR.out.below bb, hf1, HT.out.below bb, below_step BM.out BM.out.size bb, by omega, by omega⟩
  have F1 : Hid (IsF (wa.alloc (.cells #[.bool t1, .slice B1 m1 d1, .slice B1' m1' d1'] 60)) (.agg #[.bool t1, .slice B1 m1 d1, .slice B1' m1' d1']) q) := Lib.hid (by rw [← HQ.out]; exact (f1.out rfl).below (below_alloc _ _))
  obtain ⟨w2, hw2⟩ : ∃ w2, wa.alloc (.cells #[.bool t1, .slice B1 m1 d1, .slice B1' m1' d1'] 60) = w2 := ⟨_, rfl⟩
  obtain ⟨gf, hgf⟩ : ∃ gf, wa.heap.size = gf := ⟨_, rfl⟩
  clear x1 x2 x3 ba bb f1 hf1 szw HR BM HX H1 HT
  go_upto_region 2 with (fail)
  rw [hw2] at TA F1
  try rw [hw2]
  rw [hgf] at TA
  try rw [hgf]
  clear hw2 hgf
  obtain ⟨y1, y2, y3, _⟩ := TA.out.box.cells
  obtain ⟨ht, a1, a2⟩ := F1.out.at_
  obtain rfl : t1 = false := ht.trans HNG.out
  have NA := Lib.hid a1
  have NB := Lib.hid a2
  clear ht a1 a2
  go_wp2_with fail
  refine (aRoot _ k _ _ _ _ NA.out (Nat.le_trans HF.out.1 (by omega)) HK2.out (Nat.le_trans HK8.out (by omega))).mono ?_
  rw [HAE.out]
  rintro e wr ⟨RA, rA, sA, rfl, iA, bb⟩
  replace TA := Lib.hid (TA.out.below bb)
  replace NA := Lib.hid (NA.out.below bb)
  replace NB := Lib.hid (NB.out.below bb)
  clear bb y1 y2 y3
  obtain ⟨y1, y2, y3, _⟩ := TA.out.box.cells
  go_wp2_with fail
  refine (aRoot _ k _ _ _ _ NB.out (Nat.le_trans HF.out.2 (by omega)) HK2.out (Nat.le_trans HK8.out (by omega))).mono ?_
  rw [HBE.out]
  rintro e wr ⟨RB, rB, sB, rfl, iB, bb⟩
  replace TA := Lib.hid (TA.out.below bb)
  replace NA := Lib.hid (NA.out.below bb)
  replace NB := Lib.hid (NB.out.below bb)
  replace iA := Lib.hid (iA.out.below bb)
  clear bb y1 y2 y3
  obtain ⟨y1, y2, y3, _⟩ := TA.out.box.cells
  obtain ⟨z1, z2, z3, hy1, hy2, hy3, f1, f2, f3⟩ := TA.out.res.cells
  obtain ⟨q0, q1, q2, hs, hb⟩ := OutIs.stored (o := .ok 0) (k := 0) (s := false) (A1 := none) (A2 := none) (n1 := 0) (c1 := 0) (n2 := 0) (c2 := 0) (OutIs.zero _) TA.out.res TA.out.bel TA.out.n3
  have Q := Lib.hid (And.intro q0 (And.intro q1 q2))
  have HS := Lib.hid hs
  have HBB := Lib.hid hb
  clear q0 q1 q2 hs hb
  go_wp2_with fail
  obtain ⟨q0, q1, q2⟩ := Q.out
  refine bodyPost_ret (v := .tuple #[noRat, .bool false, .int .i64 0]) (by simp [results, Tryd.results42, go_sem, q0, q1, q2, noRat]) rfl ?_
  rw [← HO.out]
  exact ⟨_, _, _, _, _, _, _, _, rfl, HS.out, HBB.out⟩
set_option maxHeartbeats 2000000 in
set_option maxRecDepth 100000 in
theorem nRoot_false_false_true (s1 : Bool) (N1' D1' : Nat) (k : Nat) (h2 : 2 ≤ k) (h8 : k ≤ 8) (hs : ng (ratOf s1 N1' D1') = false) (x1 : decide (irt k (ratOf s1 N1' D1').num.natAbs ^ k = (ratOf s1 N1' D1').num.natAbs) = false) (x2 : decide (irt k (ratOf s1 N1' D1').den ^ k = (ratOf s1 N1' D1').den) = true) (w : World) (v1 : Value) (h1 : RawV w v1 s1 N1' D1') (hT : Tab w) (q : Rat) (hq : ratOf s1 N1' D1' = q) (hL : largeB s1 N1' D1' = false) :
    Calls Tryd.prog 42 #[v1, .int .i64 (k : Int)] w (Out3 w (Out.ok 0) false) := by
  have H1 := Lib.hid h1
  have HT := Lib.hid hT
  obtain ⟨A1, n1, c1, A1', n1', c1', rfl⟩ := h1.shape
  clear h1 hT
  obtain ⟨M, hM, k1, k3, bM⟩ := start1 w (.bool s1) (.slice A1 n1 c1) (.slice A1' n1' c1') (.bool false) (.slice none 0 0) (.slice none 0 0) 24 24
  have HX := Lib.hid k1
  have HR := Lib.hid (show Res M (w.heap.size + 1) 24 from ⟨_, _, _, NI.bool _, NI.slice _ _ _, NI.slice _ _ _, k3⟩)
  have BM := Lib.hid bM
  replace H1 := Lib.hid (H1.out.below bM)
  replace HT := Lib.hid (HT.out.below bM)
  have HQ := Lib.hid hq
  have HL := Lib.hid hL
  have hf := (largeB_false hL).2.2
  rw [hq] at hf
  have HF := Lib.hid hf
  clear hf
  have hp1 : decide ((k : Int) < 2) = false := decide_eq_false (by omega)
  have hp1' : decide (k < 2) = false := decide_eq_false (by omega)
  have hp2 : decide (8 < (k : Int)) = false := decide_eq_false (by omega)
  have hp2' : decide (8 < k) = false := decide_eq_false (by omega)
  have hm := tmod_two k
  have hm2 : IntKind.i64.wrap ((k % 2 : Nat) : Int) = ((k % 2 : Nat) : Int) := wraps_i64 _ (by omega) (by omega)
  have HK2 := Lib.hid h2
  have HK8 := Lib.hid h8
  rw [hq] at hs
  have HNG := Lib.hid hs
  clear hs
  rw [hq] at x1 x2
  have HAE := Lib.hid x1
  have HBE := Lib.hid x2
  clear x1 x2
  obtain ⟨o, ho⟩ : ∃ o, Out.ok 0 = o := ⟨_, rfl⟩
  have HO := Lib.hid ho
  rw [ho]
  clear hq hL k1 k3 bM ho
  go_enter Tryd.func42, Tryd.ntmps42
  go_upto_region 1 with (fail)
  rw [← hM]
  clear hM
  obtain ⟨x1, x2, x3, _, _, _⟩ := HX.out.cells
  go_wp2_with fail
  refine (readV _ s1 N1' D1' _ H1.out HT.out).mono ?_
  rw [HL.out, Bool.not_false]
  rintro e wa ⟨t1, B1, m1, d1, B1', m1', d1', rfl, f1, ba⟩
  have bb := below_step ba ba.size (below_alloc wa (.cells #[.bool t1, .slice B1 m1 d1, .slice B1' m1' d1'] 60))
  have hf1 := Box.new wa (.bool t1) (.slice B1 m1 d1) (.slice B1' m1' d1') 60
  have szw : w.heap.size + 1 < wa.heap.size := Nat.lt_of_lt_of_le (by obtain ⟨_, _, _, _, _, _, hh⟩ := HR.out; exact hh.lt) ba.size
  have TA : Hid (N1 w (wa.alloc (.cells #[.bool t1, .slice B1 m1 d1, .slice B1' m1' d1'] 60)) (w.heap.size + 1) wa.heap.size t1 B1 m1 d1 B1' m1' d1') :=
    Lib.hid ⟨HR.out.below bb, hf1, HT.out.below bb, below_step BM.out BM.out.size bb, by omega, by omega⟩
  have F1 : Hid (IsF (wa.alloc (.cells #[.bool t1, .slice B1 m1 d1, .slice B1' m1' d1'] 60)) (.agg #[.bool t1, .slice B1 m1 d1, .slice B1' m1' d1']) q) := Lib.hid (by rw [← HQ.out]; exact (f1.out rfl).below (below_alloc _ _))
  obtain ⟨w2, hw2⟩ : ∃ w2, wa.alloc (.cells #[.bool t1, .slice B1 m1 d1, .slice B1' m1' d1'] 60) = w2 := ⟨_, rfl⟩
  obtain ⟨gf, hgf⟩ : ∃ gf, wa.heap.size = gf := ⟨_, rfl⟩
  clear x1 x2 x3 ba bb f1 hf1 szw HR BM HX H1 HT
  go_upto_region 2 with (fail)
  rw [hw2] at TA F1
  try rw [hw2]
  rw [hgf] at TA
  try rw [hgf]
  clear hw2 hgf
  obtain ⟨y1, y2, y3, _⟩ := TA.out.box.cells
  obtain ⟨ht, a1, a2⟩ := F1.out.at_
  obtain rfl : t1 = false := ht.trans HNG.out
  have NA := Lib.hid a1
  have NB := Lib.hid a2
  clear ht a1 a2
  go_wp2_with fail
  refine (aRoot _ k _ _ _ _ NA.out (Nat.le_trans HF.out.1 (by omega)) HK2.out (Nat.le_trans HK8.out (by omega))).mono ?_
  rw [HAE.out]
  rintro e wr ⟨RA, rA, sA, rfl, iA, bb⟩
  replace TA := Lib.hid (TA.out.below bb)
  replace NA := Lib.hid (NA.out.below bb)
  replace NB := Lib.hid (NB.out.below bb)
  clear bb y1 y2 y3
  obtain ⟨y1, y2, y3, _⟩ := TA.out.box.cells
  go_wp2_with fail
  refine (aRoot _ k _ _ _ _ NB.out (Nat.le_trans HF.out.2 (by omega)) HK2.out (Nat.le_trans HK8.out (by omega))).mono ?_
  rw [HBE.out]
  rintro e wr ⟨RB, rB, sB, rfl, iB, bb⟩
  replace TA := Lib.hid (TA.out.below bb)
  replace NA := Lib.hid (NA.out.below bb)
  replace NB := Lib.hid (NB.out.below bb)
  replace iA := Lib.hid (iA.out.below bb)
  clear bb y1 y2 y3
  obtain ⟨y1, y2, y3, _⟩ := TA.out.box.cells
  obtain ⟨z1, z2, z3, hy1, hy2, hy3, f1, f2, f3⟩ := TA.out.res.cells
  obtain ⟨q0, q1, q2, hs, hb⟩ := OutIs.stored (o := .ok 0) (k := 0) (s := false) (A1 := none) (A2 := none) (n1 := 0) (c1 := 0) (n2 := 0) (c2 := 0) (OutIs.zero _) TA.out.res TA.out.bel TA.out.n3
  have Q := Lib.hid (And.intro q0 (And.intro q1 q2))
  have HS := Lib.hid hs
  have HBB := Lib.hid hb
  clear q0 q1 q2 hs hb
  go_wp2_with fail
  obtain ⟨q0, q1, q2⟩ := Q.out
  refine bodyPost_ret (v := .tuple #[noRat, .bool false, .int .i64 0]) (by simp [results, Tryd.results42, go_sem, q0, q1, q2, noRat]) rfl ?_
  rw [← HO.out]
  exact ⟨_, _, _, _, _, _, _, _, rfl, HS.out, HBB.out⟩
set_option maxHeartbeats 2000000 in
set_option maxRecDepth 100000 in
theorem nRoot_false_false_false (s1 : Bool) (N1' D1' : Nat) (k : Nat) (h2 : 2 ≤ k) (h8 : k ≤ 8) (hs : ng (ratOf s1 N1' D1') = false) (x1 : decide (irt k (ratOf s1 N1' D1').num.natAbs ^ k = (ratOf s1 N1' D1').num.natAbs) = false) (x2 : decide (irt k (ratOf s1 N1' D1').den ^ k = (ratOf s1 N1' D1').den) = false) (w : World) (v1 : Value) (h1 : RawV w v1 s1 N1' D1') (hT : Tab w) (q : Rat) (hq : ratOf s1 N1' D1' = q) (hL : largeB s1 N1' D1' = false) :
    Calls Tryd.prog 42 #[v1, .int .i64 (k : Int)] w (Out3 w (Out.ok 0) false) := by
  have H1 := Lib.hid h1
  have HT := Lib.hid hT
  obtain ⟨A1, n1, c1, A1', n1', c1', rfl⟩ := h1.shape
  clear h1 hT
  obtain ⟨M, hM, k1, k3, bM⟩ := start1 w (.bool s1) (.slice A1 n1 c1) (.slice A1' n1' c1') (.bool false) (.slice none 0 0) (.slice none 0 0) 24 24
  have HX := Lib.hid k1
  have HR := Lib.hid (show Res M (w.heap.size + 1) 24 from ⟨_, _, _, NI.bool _, NI.slice _ _ _, NI.slice _ _ _, k3⟩)
  have BM := Lib.hid bM
  replace H1 := Lib.hid (H1.out.below bM)
  replace HT := Lib.hid (HT.out.below bM)
  have HQ := Lib.hid hq
  have HL := Lib.hid hL
  have hf := (largeB_false hL).2.2
  rw [hq] at hf
  have HF := Lib.hid hf
  clear hf
  have hp1 : decide ((k : Int) < 2) = false := decide_eq_false (by omega)
  have hp1' : decide (k < 2) = false := decide_eq_false (by omega)
  have hp2 : decide (8 < (k : Int)) = false := decide_eq_false (by omega)
  have hp2' : decide (8 < k) = false := decide_eq_false (by omega)
  have hm := tmod_two k
  have hm2 : IntKind.i64.wrap ((k % 2 : Nat) : Int) = ((k % 2 : Nat) : Int) := wraps_i64 _ (by omega) (by omega)
  have HK2 := Lib.hid h2
  have HK8 := Lib.hid h8
  rw [hq] at hs
  have HNG := Lib.hid hs
  clear hs
  rw [hq] at x1 x2
  have HAE := Lib.hid x1
  have HBE := Lib.hid x2
  clear x1 x2
  obtain ⟨o, ho⟩ : ∃ o, Out.ok 0 = o := ⟨_, rfl⟩
  have HO := Lib.hid ho
  rw [ho]
  clear hq hL k1 k3 bM ho
  go_enter Tryd.func42, Tryd.ntmps42
  go_upto_region 1 with (fail)
  rw [← hM]
  clear hM
  obtain ⟨x1, x2, x3, _, _, _⟩ := HX.out.cells
  go_wp2_with fail
  refine (readV _ s1 N1' D1' _ H1.out HT.out).mono ?_
  rw [HL.out, Bool.not_false]
  rintro e wa ⟨t1, B1, m1, d1, B1', m1', d1', rfl, f1, ba⟩
  have bb := below_step ba ba.size (below_alloc wa (.cells #[.bool t1, .slice B1 m1 d1, .slice B1' m1' d1'] 60))
  have hf1 := Box.new wa (.bool t1) (.slice B1 m1 d1) (.slice B1' m1' d1') 60
  have szw : w.heap.size + 1 < wa.heap.size := Nat.lt_of_lt_of_le (by obtain ⟨_, _, _, _, _, _, hh⟩ := HR.out; exact hh.lt) ba.size
  have TA : Hid (N1 w (wa.alloc (.cells #[.bool t1, .slice B1 m1 d1, .slice B1' m1' d1'] 60)) (w.heap.size + 1) wa.heap.size t1 B1 m1 d1 B1' m1' d1') :=
    Lib.hid ⟨HR.out.below bb, hf1, HT.out.below bb, below_step BM.out BM.out.size bb, by omega, by omega⟩
  have F1 : Hid (IsF (wa.alloc (.cells #[.bool t1, .slice B1 m1 d1, .slice B1' m1' d1'] 60)) (.agg #[.bool t1, .slice B1 m1 d1, .slice B1' m1' d1']) q) := Lib.hid (by rw [← HQ.out]; exact (f1.out rfl).below (below_alloc _ _))
  obtain ⟨w2, hw2⟩ : ∃ w2, wa.alloc (.cells #[.bool t1, .slice B1 m1 d1, .slice B1' m1' d1'] 60) = w2 := ⟨_, rfl⟩
  obtain ⟨gf, hgf⟩ : ∃ gf, wa.heap.size = gf := ⟨_, rfl⟩
  clear x1 x2 x3 ba bb f1 hf1 szw HR BM HX H1 HT
  go_upto_region 2 with (fail)
  rw [hw2] at TA F1
  try rw [hw2]
  rw [hgf] at TA
  try rw [hgf]
  clear hw2 hgf
  obtain ⟨y1, y2, y3, _⟩ := TA.out.box.cells
  obtain ⟨ht, a1, a2⟩ := F1.out.at_
  obtain rfl : t1 = false := ht.trans HNG.out
  have NA := Lib.hid a1
  have NB := Lib.hid a2
  clear ht a1 a2
  go_wp2_with fail
  refine (aRoot _ k _ _ _ _ NA.out (Nat.le_trans HF.out.1 (by omega)) HK2.out (Nat.le_trans HK8.out (by omega))).mono ?_
  rw [HAE.out]
  rintro e wr ⟨RA, rA, sA, rfl, iA, bb⟩
  replace TA := Lib.hid (TA.out.below bb)
  replace NA := Lib.hid (NA.out.below bb)
  replace NB := Lib.hid (NB.out.below bb)
  clear bb y1 y2 y3
  obtain ⟨y1, y2, y3, _⟩ := TA.out.box.cells
  go_wp2_with fail
  refine (aRoot _ k _ _ _ _ NB.out (Nat.le_trans HF.out.2 (by omega)) HK2.out (Nat.le_trans HK8.out (by omega))).mono ?_
  rw [HBE.out]
  rintro e wr ⟨RB, rB, sB, rfl, iB, bb⟩
  replace TA := Lib.hid (TA.out.below bb)
  replace NA := Lib.hid (NA.out.below bb)
  replace NB := Lib.hid (NB.out.below bb)
  replace iA := Lib.hid (iA.out.below bb)
  clear bb y1 y2 y3
  obtain ⟨y1, y2, y3, _⟩ := TA.out.box.cells
  obtain ⟨z1, z2, z3, hy1, hy2, hy3, f1, f2, f3⟩ := TA.out.res.cells
  obtain ⟨q0, q1, q2, hs, hb⟩ := OutIs.stored (o := .ok 0) (k := 0) (s := false) (A1 := none) (A2 := none) (n1 := 0) (c1 := 0) (n2 := 0) (c2 := 0) (OutIs.zero _) TA.out.res TA.out.bel TA.out.n3
  have Q := Lib.hid (And.intro q0 (And.intro q1 q2))
  have HS := Lib.hid hs
  have HBB := Lib.hid hb
  clear q0 q1 q2 hs hb
  go_wp2_with fail
  obtain ⟨q0, q1, q2⟩ := Q.out
  refine bodyPost_ret (v := .tuple #[noRat, .bool false, .int .i64 0]) (by simp [results, Tryd.results42, go_sem, q0, q1, q2, noRat]) rfl ?_
  rw [← HO.out]
  exact ⟨_, _, _, _, _, _, _, _, rfl, HS.out, HBB.out⟩
set_option maxHeartbeats 2000000 in
set_option maxRecDepth 100000 in
theorem nRoot_true_true_true (s1 : Bool) (N1' D1' : Nat) (k : Nat) (h2 : 2 ≤ k) (h8 : k ≤ 8) (hs : ng (ratOf s1 N1' D1') = true) (ho : k % 2 = 1) (x1 : decide (irt k (ratOf s1 N1' D1').num.natAbs ^ k = (ratOf s1 N1' D1').num.natAbs) = true) (x2 : decide (irt k (ratOf s1 N1' D1').den ^ k = (ratOf s1 N1' D1').den) = true) (r : Rat) (hr : rtQ k (ratOf s1 N1' D1') = r) (w : World) (v1 : Value) (h1 : RawV w v1 s1 N1' D1') (hT : Tab w) (q : Rat) (hq : ratOf s1 N1' D1' = q) (hL : largeB s1 N1' D1' = false) :
    Calls Tryd.prog 42 #[v1, .int .i64 (k : Int)] w (Out3 w (Out.ok r) true) := by
  have H1 := Lib.hid h1
  have HT := Lib.hid hT
  obtain ⟨A1, n1, c1, A1', n1', c1', rfl⟩ := h1.shape
  clear h1 hT
  obtain ⟨M, hM, k1, k3, bM⟩ := start1 w (.bool s1) (.slice A1 n1 c1) (.slice A1' n1' c1') (.bool false) (.slice none 0 0) (.slice none 0 0) 24 24
  have HX := Lib.hid k1
  have HR := Lib.hid (show Res M (w.heap.size + 1) 24 from ⟨_, _, _, NI.bool _, NI.slice _ _ _, NI.slice _ _ _, k3⟩)
  have BM := Lib.hid bM
  replace H1 := Lib.hid (H1.out.below bM)
  replace HT := Lib.hid (HT.out.below bM)
  have HQ := Lib.hid hq
  have HL := Lib.hid hL
  have hf := (largeB_false hL).2.2
  rw [hq] at hf
  have HF := Lib.hid hf
  clear hf
  have hp1 : decide ((k : Int) < 2) = false := decide_eq_false (by omega)
  have hp1' : decide (k < 2) = false := decide_eq_false (by omega)
  have hp2 : decide (8 < (k : Int)) = false := decide_eq_false (by omega)
  have hp2' : decide (8 < k) = false := decide_eq_false (by omega)
  have hm := tmod_two k
  have hm2 : IntKind.i64.wrap ((k % 2 : Nat) : Int) = ((k % 2 : Nat) : Int) := wraps_i64 _ (by omega) (by omega)
  have HK2 := Lib.hid h2
  have HK8 := Lib.hid h8
  rw [hq] at hs
  have HNG := Lib.hid hs
  clear hs
  rw [ho] at hm hm2
  clear ho
  rw [hq] at x1 x2
  have HAE := Lib.hid x1
  have HBE := Lib.hid x2
  clear x1 x2
  rw [hq] at hr
  have HR2 := Lib.hid hr
  clear hr
  obtain ⟨o, ho⟩ : ∃ o, Out.ok r = o := ⟨_, rfl⟩
  have HO := Lib.hid ho
  rw [ho]
  clear hq hL k1 k3 bM ho
  go_enter Tryd.func42, Tryd.ntmps42
  go_upto_region 1 with (fail)
  rw [← hM]
  clear hM
  obtain ⟨x1, x2, x3, _, _, _⟩ := HX.out.cells
  go_wp2_with fail
  refine (readV _ s1 N1' D1' _ H1.out HT.out).mono ?_
  rw [HL.out, Bool.not_false]
  rintro e wa ⟨t1, B1, m1, d1, B1', m1', d1', rfl, f1, ba⟩
  have bb := below_step ba ba.size (below_alloc wa (.cells #[.bool t1, .slice B1 m1 d1, .slice B1' m1' d1'] 60))
  have hf1 := Box.new wa (.bool t1) (.slice B1 m1 d1) (.slice B1' m1' d1') 60
  have szw : w.heap.size + 1 < wa.heap.size := Nat.lt_of_lt_of_le (by obtain ⟨_, _, _, _, _, _, hh⟩ := HR.out; exact hh.lt) ba.size
  have TA : Hid (N1 w (wa.alloc (.cells #[.bool t1, .slice B1 m1 d1, .slice B1' m1' d1'] 60)) (w.heap.size + 1) wa.heap.size t1 B1 m1 d1 B1' m1' d1') :=
    Lib.hid ⟨HR.out.below bb, hf1, HT.out.below bb, below_step BM.out BM.out.size bb, by omega, by omega⟩
  have F1 : Hid (IsF (wa.alloc (.cells #[.bool t1, .slice B1 m1 d1, .slice B1' m1' d1'] 60)) (.agg #[.bool t1, .slice B1 m1 d1, .slice B1' m1' d1']) q) := Lib.hid (by rw [← HQ.out]; exact (f1.out rfl).below (below_alloc _ _))
  obtain ⟨w2, hw2⟩ : ∃ w2, wa.alloc (.cells #[.bool t1, .slice B1 m1 d1, .slice B1' m1' d1'] 60) = w2 := ⟨_, rfl⟩
  obtain ⟨gf, hgf⟩ : ∃ gf, wa.heap.size = gf := ⟨_, rfl⟩
  clear x1 x2 x3 ba bb f1 hf1 szw HR BM HX H1 HT
  go_upto_region 2 with (fail)
  rw [hw2] at TA F1
  try rw [hw2]
  rw [hgf] at TA
  try rw [hgf]
  clear hw2 hgf
  obtain ⟨y1, y2, y3, _⟩ := TA.out.box.cells
  obtain ⟨ht, a1, a2⟩ := F1.out.at_
  obtain rfl : t1 = true := ht.trans HNG.out
  have NA := Lib.hid a1
  have NB := Lib.hid a2
  clear ht a1 a2
  go_wp2_with fail
  refine (aRoot _ k _ _ _ _ NA.out (Nat.le_trans HF.out.1 (by omega)) HK2.out (Nat.le_trans HK8.out (by omega))).mono ?_
  rw [HAE.out]
  rintro e wr ⟨RA, rA, sA, rfl, iA, bb⟩
  replace TA := Lib.hid (TA.out.below bb)
  replace NA := Lib.hid (NA.out.below bb)
  replace NB := Lib.hid (NB.out.below bb)
  clear bb y1 y2 y3
  obtain ⟨y1, y2, y3, _⟩ := TA.out.box.cells
  go_wp2_with fail
  refine (aRoot _ k _ _ _ _ NB.out (Nat.le_trans HF.out.2 (by omega)) HK2.out (Nat.le_trans HK8.out (by omega))).mono ?_
  rw [HBE.out]
  rintro e wr ⟨RB, rB, sB, rfl, iB, bb⟩
  replace TA := Lib.hid (TA.out.below bb)
  replace NA := Lib.hid (NA.out.below bb)
  replace NB := Lib.hid (NB.out.below bb)
  replace iA := Lib.hid (iA.out.below bb)
  clear bb y1 y2 y3
  obtain ⟨y1, y2, y3, _⟩ := TA.out.box.cells
  obtain ⟨g1, g2, g3⟩ := rt_facts (n := k) (q := q) (Nat.lt_of_lt_of_le (by omega) HK2.out) (isRt_iff.2 ⟨of_decide_eq_true HAE.out, of_decide_eq_true HBE.out⟩)
  have gf2 := rt_fit (k := k) (q := q) (Nat.lt_of_lt_of_le (by omega) HK2.out) HF.out (isRt_iff.2 ⟨of_decide_eq_true HAE.out, of_decide_eq_true HBE.out⟩)
  have IR := Lib.hid (IsF.mk_at (t := true) (q := rtQ k q) (by rw [g1, HNG.out]) (by rw [g2]; exact iA.out) (by rw [g3]; exact iB.out))
  rw [HR2.out] at IR gf2
  have FQ := Lib.hid gf2
  clear g1 g2 g3 gf2
  go_wp2_with fail
  refine (giveF _ r _ IR.out).mono ?_
  rintro e wb ⟨s9, A9, n9, c9, A9', n9', c9', k9, rfl, h9, b9⟩
  have e0 : give r = .ok r := by unfold give; rw [if_pos FQ.out]
  rw [e0] at h9
  obtain rfl : k9 = 0 := h9.1
  have bb := below_step b9 b9.size (below_alloc wb (.cells #[.bool s9, .slice A9 n9 c9, .slice A9' n9' c9'] 24))
  have hg := h9.2.1.below (below_alloc wb (.cells #[.bool s9, .slice A9 n9 c9, .slice A9' n9' c9'] 24))
  have HZ := Lib.hid (Box.new wb (.bool s9) (.slice A9 n9 c9) (.slice A9' n9' c9') 24)
  have HG := Lib.hid hg
  replace TA := Lib.hid (TA.out.below bb)
  obtain ⟨w3, hw3⟩ : ∃ v, wb.alloc (.cells #[.bool s9, .slice A9 n9 c9, .slice A9' n9' c9'] 24) = v := ⟨_, rfl⟩
  clear bb b9 h9 hg e0 IR iA iB NA NB y1 y2 y3
  go_upto_region 13 with (fail)
  rw [hw3] at TA HZ HG
  try rw [hw3]
  clear hw3
  obtain ⟨x1, y1, z1, _, _, _⟩ := HZ.out.cells
  obtain ⟨u1, u2, u3, hu1, hu2, hu3, k1, k2, k3⟩ := TA.out.res.cells
  obtain ⟨q0, q1, q2, hs, hb⟩ := OutIs.stored (o := .ok r) ⟨rfl, HG.out, FQ.out⟩ TA.out.res TA.out.bel TA.out.n3
  have Q := Lib.hid (And.intro q0 (And.intro q1 q2))
  have HS := Lib.hid hs
  have HBB := Lib.hid hb
  clear q0 q1 q2 hs hb
  go_wp2_with fail
  obtain ⟨q0, q1, q2⟩ := Q.out
  refine bodyPost_ret (v := .tuple #[.agg #[.bool s9, .slice A9 n9 c9, .slice A9' n9' c9'], .bool true, .int .i64 0]) (by simp [results, Tryd.results42, go_sem, q0, q1, q2]) rfl ?_
  rw [← HO.out]
  exact ⟨_, _, _, _, _, _, _, _, rfl, HS.out, HBB.out⟩
set_option maxHeartbeats 2000000 in
set_option maxRecDepth 100000 in
theorem nRoot_true_true_false (s1 : Bool) (N1' D1' : Nat) (k : Nat) (h2 : 2 ≤ k) (h8 : k ≤ 8) (hs : ng (ratOf s1 N1' D1') = true) (ho : k % 2 = 1) (x1 : decide (irt k (ratOf s1 N1' D1').num.natAbs ^ k = (ratOf s1 N1' D1').num.natAbs) = true) (x2 : decide (irt k (ratOf s1 N1' D1').den ^ k = (ratOf s1 N1' D1').den) = false) (w : World) (v1 : Value) (h1 : RawV w v1 s1 N1' D1') (hT : Tab w) (q : Rat) (hq : ratOf s1 N1' D1' = q) (hL : largeB s1 N1' D1' = false) :
    Calls Tryd.prog 42 #[v1, .int .i64 (k : Int)] w (Out3 w (Out.ok 0) false) := by
  have H1 := Lib.hid h1
  have HT := Lib.hid hT
  obtain ⟨A1, n1, c1, A1', n1', c1', rfl⟩ := h1.shape
  clear h1 hT
  obtain ⟨M, hM, k1, k3, bM⟩ := start1 w (.bool s1) (.slice A1 n1 c1) (.slice A1' n1' c1') (.bool false) (.slice none 0 0) (.slice none 0 0) 24 24
  have HX := Lib.hid k1
  have HR := Lib.hid (show Res M (w.heap.size + 1) 24 from ⟨_, _, _, NI.bool _, NI.slice _ _ _, NI.slice _ _ _, k3⟩)
  have BM := Lib.hid bM
  replace H1 := Lib.hid (H1.out.below bM)
  replace HT := Lib.hid (HT.out.below bM)
  have HQ := Lib.hid hq
  have HL := Lib.hid hL
  have hf := (largeB_false hL).2.2
  rw [hq] at hf
  have HF := Lib.hid hf
  clear hf
  have hp1 : decide ((k : Int) < 2) = false := decide_eq_false (by omega)
  have hp1' : decide (k < 2) = false := decide_eq_false (by omega)
  have hp2 : decide (8 < (k : Int)) = false := decide_eq_false (by omega)
  have hp2' : decide (8 < k) = false := decide_eq_false (by omega)
  have hm := tmod_two k
  have hm2 : IntKind.i64.wrap ((k % 2 : Nat) : Int) = ((k % 2 : Nat) : Int) := wraps_i64 _ (by omega) (by omega)
  have HK2 := Lib.hid h2
  have HK8 := Lib.hid h8
  rw [hq] at hs
  have HNG := Lib.hid hs
  clear hs
  rw [ho] at hm hm2
  clear ho
  rw [hq] at x1 x2
  have HAE := Lib.hid x1
  have HBE := Lib.hid x2
  clear x1 x2
  obtain ⟨o, ho⟩ : ∃ o, Out.ok 0 = o := ⟨_, rfl⟩
  have HO := Lib.hid ho
  rw [ho]
  clear hq hL k1 k3 bM ho
  go_enter Tryd.func42, Tryd.ntmps42
  go_upto_region 1 with (fail)
  rw [← hM]
  clear hM
  obtain ⟨x1, x2, x3, _, _, _⟩ := HX.out.cells
  go_wp2_with fail
  refine (readV _ s1 N1' D1' _ H1.out HT.out).mono ?_
  rw [HL.out, Bool.not_false]
  rintro e wa ⟨t1, B1, m1, d1, B1', m1', d1', rfl, f1, ba⟩
  have bb := below_step ba ba.size (below_alloc wa (.cells #[.bool t1, .slice B1 m1 d1, .slice B1' m1' d1'] 60))
  have hf1 := Box.new wa (.bool t1) (.slice B1 m1 d1) (.slice B1' m1' d1') 60
  have szw : w.heap.size + 1 < wa.heap.size := Nat.lt_of_lt_of_le (by obtain ⟨_, _, _, _, _, _, hh⟩ := HR.out; exact hh.lt) ba.size
  have TA : Hid (N1 w (wa.alloc (.cells #[.bool t1, .slice B1 m1 d1, .slice B1' m1' d1'] 60)) (w.heap.size + 1) wa.heap.size t1 B1 m1 d1 B1' m1' d1') :=
    Lib.hid ⟨HR.out.below bb, hf1, HT.out.below bb, below_step BM.out BM.out.size bb, by omega, by omega⟩
  have F1 : Hid (IsF (wa.alloc (.cells #[.bool t1, .slice B1 m1 d1, .slice B1' m1' d1'] 60)) (.agg #[.bool t1, .slice B1 m1 d1, .slice B1' m1' d1']) q) := Lib.hid (by rw [← HQ.out]; exact (f1.out rfl).below (below_alloc _ _))
  obtain ⟨w2, hw2⟩ : ∃ w2, wa.alloc (.cells #[.bool t1, .slice B1 m1 d1, .slice B1' m1' d1'] 60) = w2 := ⟨_, rfl⟩
  obtain ⟨gf, hgf⟩ : ∃ gf, wa.heap.size = gf := ⟨_, rfl⟩
  clear x1 x2 x3 ba bb f1 hf1 szw HR BM HX H1 HT
  go_upto_region 2 with (fail)
  rw [hw2] at TA F1
  try rw [hw2]
  rw [hgf] at TA
  try rw [hgf]
  clear hw2 hgf
  obtain ⟨y1, y2, y3, _⟩ := TA.out.box.cells
  obtain ⟨ht, a1, a2⟩ := F1.out.at_
  obtain rfl : t1 = true := ht.trans HNG.out
  have NA := Lib.hid a1
  have NB := Lib.hid a2
  clear ht a1 a2
  go_wp2_with fail
  refine (aRoot _ k _ _ _ _ NA.out (Nat.le_trans HF.out.1 (by omega)) HK2.out (Nat.le_trans HK8.out (by omega))).mono ?_
  rw [HAE.out]
  rintro e wr ⟨RA, rA, sA, rfl, iA, bb⟩
  replace TA := Lib.hid (TA.out.below bb)
  replace NA := Lib.hid (NA.out.below bb)
  replace NB := Lib.hid (NB.out.below bb)
  clear bb y1 y2 y3
  obtain ⟨y1, y2, y3, _⟩ := TA.out.box.cells
  go_wp2_with fail
  refine (aRoot _ k _ _ _ _ NB.out (Nat.le_trans HF.out.2 (by omega)) HK2.out (Nat.le_trans HK8.out (by omega))).mono ?_
  rw [HBE.out]
  rintro e wr ⟨RB, rB, sB, rfl, iB, bb⟩
  replace TA := Lib.hid (TA.out.below bb)
  replace NA := Lib.hid (NA.out.below bb)
  replace NB := Lib.hid (NB.out.below bb)
  replace iA := Lib.hid (iA.out.below bb)
  clear bb y1 y2 y3
  obtain ⟨y1, y2, y3, _⟩ := TA.out.box.cells
  obtain ⟨z1, z2, z3, hy1, hy2, hy3, f1, f2, f3⟩ := TA.out.res.cells
  obtain ⟨q0, q1, q2, hs, hb⟩ := OutIs.stored (o := .ok 0) (k := 0) (s := false) (A1 := none) (A2 := none) (n1 := 0) (c1 := 0) (n2 := 0) (c2 := 0) (OutIs.zero _) TA.out.res TA.out.bel TA.out.n3
  have Q := Lib.hid (And.intro q0 (And.intro q1 q2))
  have HS := Lib.hid hs
  have HBB := Lib.hid hb
  clear q0 q1 q2 hs hb
  go_wp2_with fail
  obtain ⟨q0, q1, q2⟩ := Q.out
  refine bodyPost_ret (v := .tuple #[noRat, .bool false, .int .i64 0]) (by simp [results, Tryd.results42, go_sem, q0, q1, q2, noRat]) rfl ?_
  rw [← HO.out]
  exact ⟨_, _, _, _, _, _, _, _, rfl, HS.out, HBB.out⟩
set_option maxHeartbeats 2000000 in
set_option maxRecDepth 100000 in
theorem nRoot_true_false_true (s1 : Bool) (N1' D1' : Nat) (k : Nat) (h2 : 2 ≤ k) (h8 : k ≤ 8) (hs : ng (ratOf s1 N1' D1') = true) (ho : k % 2 = 1) (x1 : decide (irt k (ratOf s1 N1' D1').num.natAbs ^ k = (ratOf s1 N1' D1').num.natAbs) = false) (x2 : decide (irt k (ratOf s1 N1' D1').den ^ k = (ratOf s1 N1' D1').den) = true) (w : World) (v1 : Value) (h1 : RawV w v1 s1 N1' D1') (hT : Tab w) (q : Rat) (hq : ratOf s1 N1' D1' = q) (hL : largeB s1 N1' D1' = false) :
    Calls Tryd.prog 42 #[v1, .int .i64 (k : Int)] w (Out3 w (Out.ok 0) false) := by
  have H1 := Lib.hid h1
  have HT := Lib.hid hT
  obtain ⟨A1, n1, c1, A1', n1', c1', rfl⟩ := h1.shape
  clear h1 hT
  obtain ⟨M, hM, k1, k3, bM⟩ := start1 w (.bool s1) (.slice A1 n1 c1) (.slice A1' n1' c1') (.bool false) (.slice none 0 0) (.slice none 0 0) 24 24
  have HX := Lib.hid k1
  have HR := Lib.hid (show Res M (w.heap.size + 1) 24 from ⟨_, _, _, NI.bool _, NI.slice _ _ _, NI.slice _ _ _, k3⟩)
  have BM := Lib.hid bM
  replace H1 := Lib.hid (H1.out.below bM)
  replace HT := Lib.hid (HT.out.below bM)
  have HQ := Lib.hid hq
  have HL := Lib.hid hL
  have hf := (largeB_false hL).2.2
  rw [hq] at hf
  have HF := Lib.hid hf
  clear hf
  have hp1 : decide ((k : Int) < 2) = false := decide_eq_false (by omega)
  have hp1' : decide (k < 2) = false := decide_eq_false (by omega)
  have hp2 : decide (8 < (k : Int)) = false := decide_eq_false (by omega)
  have hp2' : decide (8 < k) = false := decide_eq_false (by omega)
  have hm := tmod_two k
  have hm2 : IntKind.i64.wrap ((k % 2 : Nat) : Int) = ((k % 2 : Nat) : Int) := wraps_i64 _ (by omega) (by omega)
  have HK2 := Lib.hid h2
  have HK8 := Lib.hid h8
  rw [hq] at hs
  have HNG := Lib.hid hs
  clear hs
  rw [ho] at hm hm2
  clear ho
  rw [hq] at x1 x2
  have HAE := Lib.hid x1
  have HBE := Lib.hid x2
  clear x1 x2
  obtain ⟨o, ho⟩ : ∃ o, Out.ok 0 = o := ⟨_, rfl⟩
  have HO := Lib.hid ho
  rw [ho]
  clear hq hL k1 k3 bM ho
  go_enter Tryd.func42, Tryd.ntmps42
  go_upto_region 1 with (fail)
  rw [← hM]
  clear hM
  obtain ⟨x1, x2, x3, _, _, _⟩ := HX.out.cells
  go_wp2_with fail
  refine (readV _ s1 N1' D1' _ H1.out HT.out).mono ?_
  rw [HL.out, Bool.not_false]
  rintro e wa ⟨t1, B1, m1, d1, B1', m1', d1', rfl, f1, ba⟩
  have bb := below_step ba ba.size (below_alloc wa (.cells #[.bool t1, .slice B1 m1 d1, .slice B1' m1' d1'] 60))
  have hf1 := Box.new wa (.bool t1) (.slice B1 m1 d1) (.slice B1' m1' d1') 60
  have szw : w.heap.size + 1 < wa.heap.size := Nat.lt_of_lt_of_le (by obtain ⟨_, _, _, _, _, _, hh⟩ := HR.out; exact hh.lt) ba.size
  have TA : Hid (N1 w (wa.alloc (.cells #[.bool t1, .slice B1 m1 d1, .slice B1' m1' d1'] 60)) (w.heap.size + 1) wa.heap.size t1 B1 m1 d1 B1' m1' d1') :=
    Lib.hid ⟨HR.out.below bb, hf1, HT.out.below bb, below_step BM.out BM.out.size bb, by omega, by omega⟩
  have F1 : Hid (IsF (wa.alloc (.cells #[.bool t1, .slice B1 m1 d1, .slice B1' m1' d1'] 60)) (.agg #[.bool t1, .slice B1 m1 d1, .slice B1' m1' d1']) q) := Lib.hid (by rw [← HQ.out]; exact (f1.out rfl).below (below_alloc _ _))
  obtain ⟨w2, hw2⟩ : ∃ w2, wa.alloc (.cells #[.bool t1, .slice B1 m1 d1, .slice B1' m1' d1'] 60) = w2 := ⟨_, rfl⟩
  obtain ⟨gf, hgf⟩ : ∃ gf, wa.heap.size = gf := ⟨_, rfl⟩
  clear x1 x2 x3 ba bb f1 hf1 szw HR BM HX H1 HT
  go_upto_region 2 with (fail)
  rw [hw2] at TA F1
  try rw [hw2]
  rw [hgf] at TA
  try rw [hgf]
  clear hw2 hgf
  obtain ⟨y1, y2, y3, _⟩ := TA.out.box.cells
  obtain ⟨ht, a1, a2⟩ := F1.out.at_
  obtain rfl : t1 = true := ht.trans HNG.out
  have NA := Lib.hid a1
  have NB := Lib.hid a2
  clear ht a1 a2
  go_wp2_with fail
  refine (aRoot _ k _ _ _ _ NA.out (Nat.le_trans HF.out.1 (by omega)) HK2.out (Nat.le_trans HK8.out (by omega))).mono ?_
  rw [HAE.out]
  rintro e wr ⟨RA, rA, sA, rfl, iA, bb⟩
  replace TA := Lib.hid (TA.out.below bb)
  replace NA := Lib.hid (NA.out.below bb)
  replace NB := Lib.hid (NB.out.below bb)
  clear bb y1 y2 y3
  obtain ⟨y1, y2, y3, _⟩ := TA.out.box.cells
  go_wp2_with fail
  refine (aRoot _ k _ _ _ _ NB.out (Nat.le_trans HF.out.2 (by omega)) HK2.out (Nat.le_trans HK8.out (by omega))).mono ?_
  rw [HBE.out]
  rintro e wr ⟨RB, rB, sB, rfl, iB, bb⟩
  replace TA := Lib.hid (TA.out.below bb)
  replace NA := Lib.hid (NA.out.below bb)
  replace NB := Lib.hid (NB.out.below bb)
  replace iA := Lib.hid (iA.out.below bb)
  clear bb y1 y2 y3
  obtain ⟨y1, y2, y3, _⟩ := TA.out.box.cells
  obtain ⟨z1, z2, z3, hy1, hy2, hy3, f1, f2, f3⟩ := TA.out.res.cells
  obtain ⟨q0, q1, q2, hs, hb⟩ := OutIs.stored (o := .ok 0) (k := 0) (s := false) (A1 := none) (A2 := none) (n1 := 0) (c1 := 0) (n2 := 0) (c2 := 0) (OutIs.zero _) TA.out.res TA.out.bel TA.out.n3
  have Q := Lib.hid (And.intro q0 (And.intro q1 q2))
  have HS := Lib.hid hs
  have HBB := Lib.hid hb
  clear q0 q1 q2 hs hb
  go_wp2_with fail
  obtain ⟨q0, q1, q2⟩ := Q.out
  refine bodyPost_ret (v := .tuple #[noRat, .bool false, .int .i64 0]) (by simp [results, Tryd.results42, go_sem, q0, q1, q2, noRat]) rfl ?_
  rw [← HO.out]
  exact ⟨_, _, _, _, _, _, _, _, rfl, HS.out, HBB.out⟩
set_option maxHeartbeats 2000000 in
set_option maxRecDepth 100000 in
theorem nRoot_true_false_false (s1 : Bool) (N1' D1' : Nat) (k : Nat) (h2 : 2 ≤ k) (h8 : k ≤ 8) (hs : ng (ratOf s1 N1' D1') = true) (ho : k % 2 = 1) (x1 : decide (irt k (ratOf s1 N1' D1').num.natAbs ^ k = (ratOf s1 N1' D1').num.natAbs) = false) (x2 : decide (irt k (ratOf s1 N1' D1').den ^ k = (ratOf s1 N1' D1').den) = false) (w : World) (v1 : Value) (h1 : RawV w v1 s1 N1' D1') (hT : Tab w) (q : Rat) (hq : ratOf s1 N1' D1' = q) (hL : largeB s1 N1' D1' = false) :
    Calls Tryd.prog 42 #[v1, .int .i64 (k : Int)] w (Out3 w (Out.ok 0) false) := by
  have H1 := Lib.hid h1
  have HT := Lib.hid hT
  obtain ⟨A1, n1, c1, A1', n1', c1', rfl⟩ := h1.shape
  clear h1 hT
  obtain ⟨M, hM, k1, k3, bM⟩ := start1 w (.bool s1) (.slice A1 n1 c1) (.slice A1' n1' c1') (.bool false) (.slice none 0 0) (.slice none 0 0) 24 24
  have HX := Lib.hid k1
  have HR := Lib.hid (show Res M (w.heap.size + 1) 24 from ⟨_, _, _, NI.bool _, NI.slice _ _ _, NI.slice _ _ _, k3⟩)
  have BM := Lib.hid bM
  replace H1 := Lib.hid (H1.out.below bM)
  replace HT := Lib.hid (HT.out.below bM)
  have HQ := Lib.hid hq
  have HL := Lib.hid hL
  have hf := (largeB_false hL).2.2
  rw [hq] at hf
  have HF := Lib.hid hf
  clear hf
  have hp1 : decide ((k : Int) < 2) = false := decide_eq_false (by omega)
  have hp1' : decide (k < 2) = false := decide_eq_false (by omega)
  have hp2 : decide (8 < (k : Int)) = false := decide_eq_false (by omega)
  have hp2' : decide (8 < k) = false := decide_eq_false (by omega)
  have hm := tmod_two k
  have hm2 : IntKind.i64.wrap ((k % 2 : Nat) : Int) = ((k % 2 : Nat) : Int) := wraps_i64 _ (by omega) (by omega)
  have HK2 := Lib.hid h2
  have HK8 := Lib.hid h8
  rw [hq] at hs
  have HNG := Lib.hid hs
  clear hs
  rw [ho] at hm hm2
  clear ho
  rw [hq] at x1 x2
  have HAE := Lib.hid x1
  have HBE := Lib.hid x2
  clear x1 x2
  obtain ⟨o, ho⟩ : ∃ o, Out.ok 0 = o := ⟨_, rfl⟩
  have HO := Lib.hid ho
  rw [ho]
  clear hq hL k1 k3 bM ho
  go_enter Tryd.func42, Tryd.ntmps42
  go_upto_region 1 with (fail)
  rw [← hM]
  clear hM
  obtain ⟨x1, x2, x3, _, _, _⟩ := HX.out.cells
  go_wp2_with fail
  refine (readV _ s1 N1' D1' _ H1.out HT.out).mono ?_
  rw [HL.out, Bool.not_false]
  rintro e wa ⟨t1, B1, m1, d1, B1', m1', d1', rfl, f1, ba⟩
  have bb := below_step ba ba.size (below_alloc wa (.cells #[.bool t1, .slice B1 m1 d1, .slice B1' m1' d1'] 60))
  have hf1 := Box.new wa (.bool t1) (.slice B1 m1 d1) (.slice B1' m1' d1') 60
  have szw : w.heap.size + 1 < wa.heap.size := Nat.lt_of_lt_of_le (by obtain ⟨_, _, _, _, _, _, hh⟩ := HR.out; exact hh.lt) ba.size
  have TA : Hid (N1 w (wa.alloc (.cells #[.bool t1, .slice B1 m1 d1, .slice B1' m1' d1'] 60)) (w.heap.size + 1) wa.heap.size t1 B1 m1 d1 B1' m1' d1') :=
    Lib.hid ⟨HR.out.below bb, hf1, HT.out.below bb, below_step BM.out BM.out.size bb, by omega, by omega⟩
  have F1 : Hid (IsF (wa.alloc (.cells #[.bool t1, .slice B1 m1 d1, .slice B1' m1' d1'] 60)) (.agg #[.bool t1, .slice B1 m1 d1, .slice B1' m1' d1']) q) := Lib.hid (by rw [← HQ.out]; exact (f1.out rfl).below (below_alloc _ _))
  obtain ⟨w2, hw2⟩ : ∃ w2, wa.alloc (.cells #[.bool t1, .slice B1 m1 d1, .slice B1' m1' d1'] 60) = w2 := ⟨_, rfl⟩
  obtain ⟨gf, hgf⟩ : ∃ gf, wa.heap.size = gf := ⟨_, rfl⟩
  clear x1 x2 x3 ba bb f1 hf1 szw HR BM HX H1 HT
  go_upto_region 2 with (fail)
  rw [hw2] at TA F1
  try rw [hw2]
  rw [hgf] at TA
  try rw [hgf]
  clear hw2 hgf
  obtain ⟨y1, y2, y3, _⟩ := TA.out.box.cells
  obtain ⟨ht, a1, a2⟩ := F1.out.at_
  obtain rfl : t1 = true := ht.trans HNG.out
  have NA := Lib.hid a1
  have NB := Lib.hid a2
  clear ht a1 a2
  go_wp2_with fail
  refine (aRoot _ k _ _ _ _ NA.out (Nat.le_trans HF.out.1 (by omega)) HK2.out (Nat.le_trans HK8.out (by omega))).mono ?_
  rw [HAE.out]
  rintro e wr ⟨RA, rA, sA, rfl, iA, bb⟩
  replace TA := Lib.hid (TA.out.below bb)
  replace NA := Lib.hid (NA.out.below bb)
  replace NB := Lib.hid (NB.out.below bb)
  clear bb y1 y2 y3
  obtain ⟨y1, y2, y3, _⟩ := TA.out.box.cells
  go_wp2_with fail
  refine (aRoot _ k _ _ _ _ NB.out (Nat.le_trans HF.out.2 (by omega)) HK2.out (Nat.le_trans HK8.out (by omega))).mono ?_
  rw [HBE.out]
  rintro e wr ⟨RB, rB, sB, rfl, iB, bb⟩
  replace TA := Lib.hid (TA.out.below bb)
  replace NA := Lib.hid (NA.out.below bb)
  replace NB := Lib.hid (NB.out.below bb)
  replace iA := Lib.hid (iA.out.below bb)
  clear bb y1 y2 y3
  obtain ⟨y1, y2, y3, _⟩ := TA.out.box.cells
  obtain ⟨z1, z2, z3, hy1, hy2, hy3, f1, f2, f3⟩ := TA.out.res.cells
  obtain ⟨q0, q1, q2, hs, hb⟩ := OutIs.stored (o := .ok 0) (k := 0) (s := false) (A1 := none) (A2 := none) (n1 := 0) (c1 := 0) (n2 := 0) (c2 := 0) (OutIs.zero _) TA.out.res TA.out.bel TA.out.n3
  have Q := Lib.hid (And.intro q0 (And.intro q1 q2))
  have HS := Lib.hid hs
  have HBB := Lib.hid hb
  clear q0 q1 q2 hs hb
  go_wp2_with fail
  obtain ⟨q0, q1, q2⟩ := Q.out
  refine bodyPost_ret (v := .tuple #[noRat, .bool false, .int .i64 0]) (by simp [results, Tryd.results42, go_sem, q0, q1, q2, noRat]) rfl ?_
  rw [← HO.out]
  exact ⟨_, _, _, _, _, _, _, _, rfl, HS.out, HBB.out⟩
theorem nRoot (s1 : Bool) (N1' D1' : Nat) (p : Int) (w : World) (v1 : Value) (h1 : RawV w v1 s1 N1' D1') (hT : Tab w) :
    Calls Tryd.prog 42 #[v1, .int .i64 p] w (Out3 w (rootOut (largeB s1 N1' D1') p (ratOf s1 N1' D1')).1 (rootOut (largeB s1 N1' D1') p (ratOf s1 N1' D1')).2) := by
  unfold rootOut
  by_cases h : largeB s1 N1' D1' = true
  · rw [if_pos h]; exact nRoot_large s1 N1' D1' p w v1 h1 hT _ rfl h
  · rw [if_neg h]
    have h' : largeB s1 N1' D1' = false := by simpa using h
    by_cases hl : p < 2
    · rw [if_pos (Or.inl hl)]; exact nRoot_low s1 N1' D1' p hl w v1 h1 hT _ rfl h'
    · by_cases hh : 8 < p
      · rw [if_pos (Or.inr hh)]; exact nRoot_high s1 N1' D1' p hh w v1 h1 hT _ rfl h'
      · rw [if_neg (by omega)]
        obtain ⟨k, rfl⟩ : ∃ k : Nat, p = (k : Int) := ⟨p.toNat, by omega⟩
        rw [Int.toNat_natCast]
        have h2 : 2 ≤ k := by omega
        have h8 : k ≤ 8 := by omega
        cases hs : ng (ratOf s1 N1' D1')
        · rw [if_neg (by simp)]
          cases x1 : decide (irt k (ratOf s1 N1' D1').num.natAbs ^ k = (ratOf s1 N1' D1').num.natAbs) <;> cases x2 : decide (irt k (ratOf s1 N1' D1').den ^ k = (ratOf s1 N1' D1').den)
          · rw [if_neg (by unfold isRt; rw [x1]; simp)]; exact nRoot_false_false_false s1 N1' D1' k h2 h8 hs x1 x2 w v1 h1 hT _ rfl h'
          · rw [if_neg (by unfold isRt; rw [x1]; simp)]; exact nRoot_false_false_true s1 N1' D1' k h2 h8 hs x1 x2 w v1 h1 hT _ rfl h'
          · rw [if_neg (by unfold isRt; rw [x2]; simp)]; exact nRoot_false_true_false s1 N1' D1' k h2 h8 hs x1 x2 w v1 h1 hT _ rfl h'
          · rw [if_pos (by unfold isRt; rw [x1, x2]; rfl)]; exact nRoot_false_true_true s1 N1' D1' k h2 h8 hs x1 x2 _ rfl w v1 h1 hT _ rfl h'
        · by_cases he : k % 2 = 0
          · rw [if_pos ⟨rfl, he⟩]; exact nRoot_even s1 N1' D1' k h2 h8 hs he w v1 h1 hT _ rfl h'
          · have ho : k % 2 = 1 := by omega
            rw [if_neg (fun h => he h.2)]
            cases x1 : decide (irt k (ratOf s1 N1' D1').num.natAbs ^ k = (ratOf s1 N1' D1').num.natAbs) <;> cases x2 : decide (irt k (ratOf s1 N1' D1').den ^ k = (ratOf s1 N1' D1').den)
            · rw [if_neg (by unfold isRt; rw [x1]; simp)]; exact nRoot_true_false_false s1 N1' D1' k h2 h8 hs ho x1 x2 w v1 h1 hT _ rfl h'
            · rw [if_neg (by unfold isRt; rw [x1]; simp)]; exact nRoot_true_false_true s1 N1' D1' k h2 h8 hs ho x1 x2 w v1 h1 hT _ rfl h'
            · rw [if_neg (by unfold isRt; rw [x2]; simp)]; exact nRoot_true_true_false s1 N1' D1' k h2 h8 hs ho x1 x2 w v1 h1 hT _ rfl h'
            · rw [if_pos (by unfold isRt; rw [x1, x2]; rfl)]; exact nRoot_true_true_true s1 N1' D1' k h2 h8 hs ho x1 x2 _ rfl w v1 h1 hT _ rfl h'
end Go.Proofs.YtfmhplcpejmkhaaDoor

namespace Go.Proofs.YtfmhplcpejmkhaaDoor
open Go.RowKit Dig
set_option linter.unusedVariables false
set_option linter.unusedSimpArgs false
/-- a value that has been read, its numbers, a further number, and a variable for a result -/
structure NF (w M : World) (g3 g : Nat) (s : Bool) (A1 : Option Addr) (n1 c1 : Nat) (B1 : Option Addr) (m1 d1 : Nat) (q : Rat) (A3 : Option Addr) (n3 c3 x : Nat) : Prop where
  v : N1 w M g3 g s A1 n1 c1 B1 m1 d1
  a : NatAt M A1 n1 c1 q.num.natAbs
  b : NatAt M B1 m1 d1 q.den
  c : NatAt M A3 n3 c3 x
  g0 : g3 ≠ 0
section
variable {w M M' : World} {g3 g : Nat} {s : Bool} {A1 : Option Addr} {n1 c1 : Nat} {B1 : Option Addr} {m1 d1 : Nat} {q : Rat} {A3 : Option Addr} {n3 c3 x : Nat}
theorem NF.below (h : NF w M g3 g s A1 n1 c1 B1 m1 d1 q A3 n3 c3 x) (hb : Below M.heap.size M M') : NF w M' g3 g s A1 n1 c1 B1 m1 d1 q A3 n3 c3 x :=
  ⟨h.v.below hb, h.a.below hb, h.b.below hb, h.c.below hb, h.g0⟩
theorem NF.drew (h : NF w M g3 g s A1 n1 c1 B1 m1 d1 q A3 n3 c3 x) : NF w M.drew g3 g s A1 n1 c1 B1 m1 d1 q A3 n3 c3 x := h.below (Below.refl _ _).drew
theorem NF.cells (h : NF w M g3 g s A1 n1 c1 B1 m1 d1 q A3 n3 c3 x) : (World.cell? M ⟨g, 0, none⟩ = some (.bool s) ∧ World.cell? M ⟨g, 1, none⟩ = some (.slice A1 n1 c1) ∧ World.cell? M ⟨g, 2, none⟩ = some (.slice B1 m1 d1) ∧ Hid (NF w M g3 g s A1 n1 c1 B1 m1 d1 q A3 n3 c3 x)) := by
  obtain ⟨a1, a2, a3, _, _, _⟩ := h.v.box.cells
  exact ⟨a1, a2, a3, h⟩
theorem NF.of (h : (World.cell? M ⟨g, 0, none⟩ = some (.bool s) ∧ World.cell? M ⟨g, 1, none⟩ = some (.slice A1 n1 c1) ∧ World.cell? M ⟨g, 2, none⟩ = some (.slice B1 m1 d1) ∧ Hid (NF w M g3 g s A1 n1 c1 B1 m1 d1 q A3 n3 c3 x))) : NF w M g3 g s A1 n1 c1 B1 m1 d1 q A3 n3 c3 x := h.2.2.2.out
theorem NF.next (h : (World.cell? M ⟨g, 0, none⟩ = some (.bool s) ∧ World.cell? M ⟨g, 1, none⟩ = some (.slice A1 n1 c1) ∧ World.cell? M ⟨g, 2, none⟩ = some (.slice B1 m1 d1) ∧ Hid (NF w M g3 g s A1 n1 c1 B1 m1 d1 q A3 n3 c3 x))) (hb : Below M.heap.size M M') : (World.cell? M' ⟨g, 0, none⟩ = some (.bool s) ∧ World.cell? M' ⟨g, 1, none⟩ = some (.slice A1 n1 c1) ∧ World.cell? M' ⟨g, 2, none⟩ = some (.slice B1 m1 d1) ∧ Hid (NF w M' g3 g s A1 n1 c1 B1 m1 d1 q A3 n3 c3 x)) := ((NF.of h).below hb).cells
theorem NF.nextS (h : (World.cell? M ⟨g, 0, none⟩ = some (.bool s) ∧ World.cell? M ⟨g, 1, none⟩ = some (.slice A1 n1 c1) ∧ World.cell? M ⟨g, 2, none⟩ = some (.slice B1 m1 d1) ∧ Hid (NF w M g3 g s A1 n1 c1 B1 m1 d1 q A3 n3 c3 x))) {a : Bool} {B C : Option Addr} {b b' c c' : Nat} : (World.cell? (((M.setCell ⟨g3, 0, none⟩ (.bool a)).setCell ⟨g3, 1, none⟩ (.slice B b b')).setCell ⟨g3, 2, none⟩ (.slice C c c')) ⟨g, 0, none⟩ = some (.bool s) ∧ World.cell? (((M.setCell ⟨g3, 0, none⟩ (.bool a)).setCell ⟨g3, 1, none⟩ (.slice B b b')).setCell ⟨g3, 2, none⟩ (.slice C c c')) ⟨g, 1, none⟩ = some (.slice A1 n1 c1) ∧ World.cell? (((M.setCell ⟨g3, 0, none⟩ (.bool a)).setCell ⟨g3, 1, none⟩ (.slice B b b')).setCell ⟨g3, 2, none⟩ (.slice C c c')) ⟨g, 2, none⟩ = some (.slice B1 m1 d1) ∧ Hid (NF w (((M.setCell ⟨g3, 0, none⟩ (.bool a)).setCell ⟨g3, 1, none⟩ (.slice B b b')).setCell ⟨g3, 2, none⟩ (.slice C c c')) g3 g s A1 n1 c1 B1 m1 d1 q A3 n3 c3 x)) := by
  have h := NF.of h
  have hg := grown_set3 M g3 (.bool a) (.slice B b b') (.slice C c c')
  obtain ⟨x, y, z, hx, hy, hz, h4⟩ := h.v.res
  exact NF.cells ⟨⟨h.v.res.set3 (NI.bool _) (NI.slice _ _ _) (NI.slice _ _ _), (hg.block g h.v.box.lt (fun e => h.v.ne (Option.some.inj e))).trans h.v.box, h.v.tab.grown hg h.g0, below_set3 h.v.bel h.v.n3 _ _ _, h.v.n3, h.v.ne⟩, h.a.grown h4 hx hy hz hg, h.b.grown h4 hx hy hz hg, h.c.grown h4 hx hy hz hg, h.g0⟩
end
/-- what RootDown and RootUp return -/
def grootOut (L : Bool) (n p : Int) (up : Bool) (q : Rat) : Out :=
  if L = true then .err 1 else if n < 2 ∨ 8 < n ∨ p < 0 ∨ 256 < p then .err 2 else if ng q = true ∧ n.toNat % 2 = 0 then .err 5 else give (grtQ q n.toNat p.toNat up)
theorem irt_self {k : Nat} (hk : 0 < k) (a : Nat) : irt k a ≤ a := by
  have h1 := irt_le (a := a) hk
  rcases Nat.eq_zero_or_pos (irt k a) with h0 | h0
  · omega
  · exact Nat.le_trans (by have := Nat.pow_le_pow_right h0 (show 1 ≤ k by omega); simpa using this) h1
set_option maxHeartbeats 2000000 in
set_option maxRecDepth 100000 in
theorem nroot_large (s1 : Bool) (N1' D1' : Nat) (n p : Int) (up : Bool) (w : World) (v1 : Value) (h1 : RawV w v1 s1 N1' D1') (hT : Tab w) (q : Rat) (hq : ratOf s1 N1' D1' = q) (hL : largeB s1 N1' D1' = true) :
    Calls Tryd.prog 96 #[v1, .int .i64 n, .int .i64 p, .bool up] w (OutPost w (Out.err 1)) := by
  have H1 := Lib.hid h1
  have HT := Lib.hid hT
  obtain ⟨A1, n1, c1, A1', n1', c1', rfl⟩ := h1.shape
  clear h1 hT
  obtain ⟨M, hM, k1, k3, bM⟩ := start1 w (.bool s1) (.slice A1 n1 c1) (.slice A1' n1' c1') (.bool false) (.slice none 0 0) (.slice none 0 0) 24 24
  have HX := Lib.hid k1
  have HR := Lib.hid (show Res M (w.heap.size + 1) 24 from ⟨_, _, _, NI.bool _, NI.slice _ _ _, NI.slice _ _ _, k3⟩)
  have BM := Lib.hid bM
  replace H1 := Lib.hid (H1.out.below bM)
  replace HT := Lib.hid (HT.out.below bM)
  have HQ := Lib.hid hq
  have HL := Lib.hid hL
  obtain ⟨o, ho⟩ : ∃ o, Out.err 1 = o := ⟨_, rfl⟩
  have HO := Lib.hid ho
  rw [ho]
  clear hq hL k1 k3 bM ho
  go_enter Tryd.func96, Tryd.ntmps96
  go_upto_region 1 with (fail)
  rw [← hM]
  clear hM
  obtain ⟨x1, x2, x3, _, _, _⟩ := HX.out.cells
  go_wp2_with fail
  refine (readV _ s1 N1' D1' _ H1.out HT.out).mono ?_
  rw [HL.out, Bool.not_true]
  rintro e wa ⟨t1, B1, m1, d1, B1', m1', d1', rfl, f1, ba⟩
  have bb := below_step ba ba.size (below_alloc wa (.cells #[.bool t1, .slice B1 m1 d1, .slice B1' m1' d1'] 60))
  have hf1 := Box.new wa (.bool t1) (.slice B1 m1 d1) (.slice B1' m1' d1') 60
  have szw : w.heap.size + 1 < wa.heap.size := Nat.lt_of_lt_of_le (by obtain ⟨_, _, _, _, _, _, hh⟩ := HR.out; exact hh.lt) ba.size
  have TA : Hid (N1 w (wa.alloc (.cells #[.bool t1, .slice B1 m1 d1, .slice B1' m1' d1'] 60)) (w.heap.size + 1) wa.heap.size t1 B1 m1 d1 B1' m1' d1') :=
    Lib.hid ⟨HR.out.below bb, hf1, HT.out.below bb, below_step BM.out BM.out.size bb, by omega, by omega⟩
  obtain ⟨w2, hw2⟩ : ∃ w2, wa.alloc (.cells #[.bool t1, .slice B1 m1 d1, .slice B1' m1' d1'] 60) = w2 := ⟨_, rfl⟩
  obtain ⟨gf, hgf⟩ : ∃ gf, wa.heap.size = gf := ⟨_, rfl⟩
  clear x1 x2 x3 ba bb f1 hf1 szw HR BM HX H1 HT
  go_upto_region 2 with (fail)
  rw [hw2] at TA
  try rw [hw2]
  rw [hgf] at TA
  try rw [hgf]
  clear hw2 hgf
  obtain ⟨y1, y2, y3, _⟩ := TA.out.box.cells
  obtain ⟨z1, z2, z3, hy1, hy2, hy3, f1, f2, f3⟩ := TA.out.res.cells
  obtain ⟨q0, q1, q2, hs, hb⟩ := OutIs.stored (o := .err 1) (k := 1) (s := false) (A1 := none) (A2 := none) (n1 := 0) (c1 := 0) (n2 := 0) (c2 := 0) ⟨rfl, rfl, by omega, by omega⟩ TA.out.res TA.out.bel TA.out.n3
  have Q := Lib.hid (And.intro q0 (And.intro q1 q2))
  have HBB := Lib.hid hb
  clear q0 q1 q2 hs hb
  go_wp2_with fail
  obtain ⟨q0, q1, q2⟩ := Q.out
  refine bodyPost_ret (v := .tuple #[noRat, .int .i64 1]) (by simp [results, Tryd.results96, go_sem, q0, q1, q2, noRat]) rfl ?_
  rw [← HO.out]
  exact OutPost.err rfl (by omega) (by omega) HBB.out
set_option maxHeartbeats 2000000 in
set_option maxRecDepth 100000 in
theorem nroot_n2 (s1 : Bool) (N1' D1' : Nat) (n p : Int) (up : Bool) (hn : n < 2) (w : World) (v1 : Value) (h1 : RawV w v1 s1 N1' D1') (hT : Tab w) (q : Rat) (hq : ratOf s1 N1' D1' = q) (hL : largeB s1 N1' D1' = false) :
    Calls Tryd.prog 96 #[v1, .int .i64 n, .int .i64 p, .bool up] w (OutPost w (Out.err 2)) := by
  have H1 := Lib.hid h1
  have HT := Lib.hid hT
  obtain ⟨A1, n1, c1, A1', n1', c1', rfl⟩ := h1.shape
  clear h1 hT
  obtain ⟨M, hM, k1, k3, bM⟩ := start1 w (.bool s1) (.slice A1 n1 c1) (.slice A1' n1' c1') (.bool false) (.slice none 0 0) (.slice none 0 0) 24 24
  have HX := Lib.hid k1
  have HR := Lib.hid (show Res M (w.heap.size + 1) 24 from ⟨_, _, _, NI.bool _, NI.slice _ _ _, NI.slice _ _ _, k3⟩)
  have BM := Lib.hid bM
  replace H1 := Lib.hid (H1.out.below bM)
  replace HT := Lib.hid (HT.out.below bM)
  have HQ := Lib.hid hq
  have HL := Lib.hid hL
  have hp1 : decide (n < 2) = true := decide_eq_true hn
  clear hn
  obtain ⟨o, ho⟩ : ∃ o, Out.err 2 = o := ⟨_, rfl⟩
  have HO := Lib.hid ho
  rw [ho]
  clear hq hL k1 k3 bM ho
  go_enter Tryd.func96, Tryd.ntmps96
  go_upto_region 1 with (fail)
  rw [← hM]
  clear hM
  obtain ⟨x1, x2, x3, _, _, _⟩ := HX.out.cells
  go_wp2_with fail
  refine (readV _ s1 N1' D1' _ H1.out HT.out).mono ?_
  rw [HL.out, Bool.not_false]
  rintro e wa ⟨t1, B1, m1, d1, B1', m1', d1', rfl, f1, ba⟩
  have bb := below_step ba ba.size (below_alloc wa (.cells #[.bool t1, .slice B1 m1 d1, .slice B1' m1' d1'] 60))
  have hf1 := Box.new wa (.bool t1) (.slice B1 m1 d1) (.slice B1' m1' d1') 60
  have szw : w.heap.size + 1 < wa.heap.size := Nat.lt_of_lt_of_le (by obtain ⟨_, _, _, _, _, _, hh⟩ := HR.out; exact hh.lt) ba.size
  have TA : Hid (N1 w (wa.alloc (.cells #[.bool t1, .slice B1 m1 d1, .slice B1' m1' d1'] 60)) (w.heap.size + 1) wa.heap.size t1 B1 m1 d1 B1' m1' d1') :=
    Lib.hid ⟨HR.out.below bb, hf1, HT.out.below bb, below_step BM.out BM.out.size bb, by omega, by omega⟩
  have F1 : Hid (IsF (wa.alloc (.cells #[.bool t1, .slice B1 m1 d1, .slice B1' m1' d1'] 60)) (.agg #[.bool t1, .slice B1 m1 d1, .slice B1' m1' d1']) q) := Lib.hid (by rw [← HQ.out]; exact (f1.out rfl).below (below_alloc _ _))
  obtain ⟨w2, hw2⟩ : ∃ w2, wa.alloc (.cells #[.bool t1, .slice B1 m1 d1, .slice B1' m1' d1'] 60) = w2 := ⟨_, rfl⟩
  obtain ⟨gf, hgf⟩ : ∃ gf, wa.heap.size = gf := ⟨_, rfl⟩
  clear x1 x2 x3 ba bb f1 hf1 szw HR BM HX H1 HT
  go_upto_region 2 with (fail)
  rw [hw2] at TA F1
  try rw [hw2]
  rw [hgf] at TA
  try rw [hgf]
  clear hw2 hgf
  obtain ⟨y1, y2, y3, _⟩ := TA.out.box.cells
  obtain ⟨z1, z2, z3, hy1, hy2, hy3, f1, f2, f3⟩ := TA.out.res.cells
  obtain ⟨q0, q1, q2, hs, hb⟩ := OutIs.stored (o := .err 2) (k := 2) (s := false) (A1 := none) (A2 := none) (n1 := 0) (c1 := 0) (n2 := 0) (c2 := 0) ⟨rfl, rfl, by omega, by omega⟩ TA.out.res TA.out.bel TA.out.n3
  have Q := Lib.hid (And.intro q0 (And.intro q1 q2))
  have HBB := Lib.hid hb
  clear q0 q1 q2 hs hb
  go_wp2_with fail
  obtain ⟨q0, q1, q2⟩ := Q.out
  refine bodyPost_ret (v := .tuple #[noRat, .int .i64 2]) (by simp [results, Tryd.results96, go_sem, q0, q1, q2, noRat]) rfl ?_
  rw [← HO.out]
  exact OutPost.err rfl (by omega) (by omega) HBB.out
set_option maxHeartbeats 2000000 in
set_option maxRecDepth 100000 in
theorem nroot_n8 (s1 : Bool) (N1' D1' : Nat) (n p : Int) (up : Bool) (hn : 8 < n) (w : World) (v1 : Value) (h1 : RawV w v1 s1 N1' D1') (hT : Tab w) (q : Rat) (hq : ratOf s1 N1' D1' = q) (hL : largeB s1 N1' D1' = false) :
    Calls Tryd.prog 96 #[v1, .int .i64 n, .int .i64 p, .bool up] w (OutPost w (Out.err 2)) := by
  have H1 := Lib.hid h1
  have HT := Lib.hid hT
  obtain ⟨A1, n1, c1, A1', n1', c1', rfl⟩ := h1.shape
  clear h1 hT
  obtain ⟨M, hM, k1, k3, bM⟩ := start1 w (.bool s1) (.slice A1 n1 c1) (.slice A1' n1' c1') (.bool false) (.slice none 0 0) (.slice none 0 0) 24 24
  have HX := Lib.hid k1
  have HR := Lib.hid (show Res M (w.heap.size + 1) 24 from ⟨_, _, _, NI.bool _, NI.slice _ _ _, NI.slice _ _ _, k3⟩)
  have BM := Lib.hid bM
  replace H1 := Lib.hid (H1.out.below bM)
  replace HT := Lib.hid (HT.out.below bM)
  have HQ := Lib.hid hq
  have HL := Lib.hid hL
  have hp1 : decide (n < 2) = false := decide_eq_false (by omega)
  have hp2 : decide (8 < n) = true := decide_eq_true hn
  clear hn
  obtain ⟨o, ho⟩ : ∃ o, Out.err 2 = o := ⟨_, rfl⟩
  have HO := Lib.hid ho
  rw [ho]
  clear hq hL k1 k3 bM ho
  go_enter Tryd.func96, Tryd.ntmps96
  go_upto_region 1 with (fail)
  rw [← hM]
  clear hM
  obtain ⟨x1, x2, x3, _, _, _⟩ := HX.out.cells
  go_wp2_with fail
  refine (readV _ s1 N1' D1' _ H1.out HT.out).mono ?_
  rw [HL.out, Bool.not_false]
  rintro e wa ⟨t1, B1, m1, d1, B1', m1', d1', rfl, f1, ba⟩
  have bb := below_step ba ba.size (below_alloc wa (.cells #[.bool t1, .slice B1 m1 d1, .slice B1' m1' d1'] 60))
  have hf1 := Box.new wa (.bool t1) (.slice B1 m1 d1) (.slice B1' m1' d1') 60
  have szw : w.heap.size + 1 < wa.heap.size := Nat.lt_of_lt_of_le (by obtain ⟨_, _, _, _, _, _, hh⟩ := HR.out; exact hh.lt) ba.size
  have TA : Hid (N1 w (wa.alloc (.cells #[.bool t1, .slice B1 m1 d1, .slice B1' m1' d1'] 60)) (w.heap.size + 1) wa.heap.size t1 B1 m1 d1 B1' m1' d1') :=
    Lib.hid ⟨HR.out.below bb, hf1, HT.out.below bb, below_step BM.out BM.out.size bb, by omega, by omega⟩
  have F1 : Hid (IsF (wa.alloc (.cells #[.bool t1, .slice B1 m1 d1, .slice B1' m1' d1'] 60)) (.agg #[.bool t1, .slice B1 m1 d1, .slice B1' m1' d1']) q) := Lib.hid (by rw [← HQ.out]; exact (f1.out rfl).below (below_alloc _ _))
  obtain ⟨w2, hw2⟩ : ∃ w2, wa.alloc (.cells #[.bool t1, .slice B1 m1 d1, .slice B1' m1' d1'] 60) = w2 := ⟨_, rfl⟩
  obtain ⟨gf, hgf⟩ : ∃ gf, wa.heap.size = gf := ⟨_, rfl⟩
  clear x1 x2 x3 ba bb f1 hf1 szw HR BM HX H1 HT
  go_upto_region 2 with (fail)
  rw [hw2] at TA F1
  try rw [hw2]
  rw [hgf] at TA
  try rw [hgf]
  clear hw2 hgf
  obtain ⟨y1, y2, y3, _⟩ := TA.out.box.cells
  obtain ⟨z1, z2, z3, hy1, hy2, hy3, f1, f2, f3⟩ := TA.out.res.cells
  obtain ⟨q0, q1, q2, hs, hb⟩ := OutIs.stored (o := .err 2) (k := 2) (s := false) (A1 := none) (A2 := none) (n1 := 0) (c1 := 0) (n2 := 0) (c2 := 0) ⟨rfl, rfl, by omega, by omega⟩ TA.out.res TA.out.bel TA.out.n3
  have Q := Lib.hid (And.intro q0 (And.intro q1 q2))
  have HBB := Lib.hid hb
  clear q0 q1 q2 hs hb
  go_wp2_with fail
  obtain ⟨q0, q1, q2⟩ := Q.out
  refine bodyPost_ret (v := .tuple #[noRat, .int .i64 2]) (by simp [results, Tryd.results96, go_sem, q0, q1, q2, noRat]) rfl ?_
  rw [← HO.out]
  exact OutPost.err rfl (by omega) (by omega) HBB.out
set_option maxHeartbeats 2000000 in
set_option maxRecDepth 100000 in
theorem nroot_p0 (s1 : Bool) (N1' D1' : Nat) (n p : Int) (up : Bool) (h2 : 2 ≤ n) (h8 : n ≤ 8) (hn : p < 0) (w : World) (v1 : Value) (h1 : RawV w v1 s1 N1' D1') (hT : Tab w) (q : Rat) (hq : ratOf s1 N1' D1' = q) (hL : largeB s1 N1' D1' = false) :
    Calls Tryd.prog 96 #[v1, .int .i64 n, .int .i64 p, .bool up] w (OutPost w (Out.err 2)) := by
  have H1 := Lib.hid h1
  have HT := Lib.hid hT
  obtain ⟨A1, n1, c1, A1', n1', c1', rfl⟩ := h1.shape
  clear h1 hT
  obtain ⟨M, hM, k1, k3, bM⟩ := start1 w (.bool s1) (.slice A1 n1 c1) (.slice A1' n1' c1') (.bool false) (.slice none 0 0) (.slice none 0 0) 24 24
  have HX := Lib.hid k1
  have HR := Lib.hid (show Res M (w.heap.size + 1) 24 from ⟨_, _, _, NI.bool _, NI.slice _ _ _, NI.slice _ _ _, k3⟩)
  have BM := Lib.hid bM
  replace H1 := Lib.hid (H1.out.below bM)
  replace HT := Lib.hid (HT.out.below bM)
  have HQ := Lib.hid hq
  have HL := Lib.hid hL
  have hp1 : decide (n < 2) = false := decide_eq_false (by omega)
  have hp2 : decide (8 < n) = false := decide_eq_false (by omega)
  have hp3 : decide (p < 0) = true := decide_eq_true hn
  clear hn h2 h8
  obtain ⟨o, ho⟩ : ∃ o, Out.err 2 = o := ⟨_, rfl⟩
  have HO := Lib.hid ho
  rw [ho]
  clear hq hL k1 k3 bM ho
  go_enter Tryd.func96, Tryd.ntmps96
  go_upto_region 1 with (fail)
  rw [← hM]
  clear hM
  obtain ⟨x1, x2, x3, _, _, _⟩ := HX.out.cells
  go_wp2_with fail
  refine (readV _ s1 N1' D1' _ H1.out HT.out).mono ?_
  rw [HL.out, Bool.not_false]
  rintro e wa ⟨t1, B1, m1, d1, B1', m1', d1', rfl, f1, ba⟩
  have bb := below_step ba ba.size (below_alloc wa (.cells #[.bool t1, .slice B1 m1 d1, .slice B1' m1' d1'] 60))
  have hf1 := Box.new wa (.bool t1) (.slice B1 m1 d1) (.slice B1' m1' d1') 60
  have szw : w.heap.size + 1 < wa.heap.size := Nat.lt_of_lt_of_le (by obtain ⟨_, _, _, _, _, _, hh⟩ := HR.out; exact hh.lt) ba.size
  have TA : Hid (N1 w (wa.alloc (.cells #[.bool t1, .slice B1 m1 d1, .slice B1' m1' d1'] 60)) (w.heap.size + 1) wa.heap.size t1 B1 m1 d1 B1' m1' d1') :=
    Lib.hid ⟨HR.out.below bb, hf1, HT.out.below bb, below_step BM.out BM.out.size bb, by omega, by omega⟩
  have F1 : Hid (IsF (wa.alloc (.cells #[.bool t1, .slice B1 m1 d1, .slice B1' m1' d1'] 60)) (.agg #[.bool t1, .slice B1 m1 d1, .slice B1' m1' d1']) q) := Lib.hid (by rw [← HQ.out]; exact (f1.out rfl).below (below_alloc _ _))
  obtain ⟨w2, hw2⟩ : ∃ w2, wa.alloc (.cells #[.bool t1, .slice B1 m1 d1, .slice B1' m1' d1'] 60) = w2 := ⟨_, rfl⟩
  obtain ⟨gf, hgf⟩ : ∃ gf, wa.heap.size = gf := ⟨_, rfl⟩
  clear x1 x2 x3 ba bb f1 hf1 szw HR BM HX H1 HT
  go_upto_region 2 with (fail)
  rw [hw2] at TA F1
  try rw [hw2]
  rw [hgf] at TA
  try rw [hgf]
  clear hw2 hgf
  obtain ⟨y1, y2, y3, _⟩ := TA.out.box.cells
  obtain ⟨z1, z2, z3, hy1, hy2, hy3, f1, f2, f3⟩ := TA.out.res.cells
  obtain ⟨q0, q1, q2, hs, hb⟩ := OutIs.stored (o := .err 2) (k := 2) (s := false) (A1 := none) (A2 := none) (n1 := 0) (c1 := 0) (n2 := 0) (c2 := 0) ⟨rfl, rfl, by omega, by omega⟩ TA.out.res TA.out.bel TA.out.n3
  have Q := Lib.hid (And.intro q0 (And.intro q1 q2))
  have HBB := Lib.hid hb
  clear q0 q1 q2 hs hb
  go_wp2_with fail
  obtain ⟨q0, q1, q2⟩ := Q.out
  refine bodyPost_ret (v := .tuple #[noRat, .int .i64 2]) (by simp [results, Tryd.results96, go_sem, q0, q1, q2, noRat]) rfl ?_
  rw [← HO.out]
  exact OutPost.err rfl (by omega) (by omega) HBB.out
set_option maxHeartbeats 2000000 in
set_option maxRecDepth 100000 in
theorem nroot_p256 (s1 : Bool) (N1' D1' : Nat) (n p : Int) (up : Bool) (h2 : 2 ≤ n) (h8 : n ≤ 8) (hn : 256 < p) (w : World) (v1 : Value) (h1 : RawV w v1 s1 N1' D1') (hT : Tab w) (q : Rat) (hq : ratOf s1 N1' D1' = q) (hL : largeB s1 N1' D1' = false) :
    Calls Tryd.prog 96 #[v1, .int .i64 n, .int .i64 p, .bool up] w (OutPost w (Out.err 2)) := by
  have H1 := Lib.hid h1
  have HT := Lib.hid hT
  obtain ⟨A1, n1, c1, A1', n1', c1', rfl⟩ := h1.shape
  clear h1 hT
  obtain ⟨M, hM, k1, k3, bM⟩ := start1 w (.bool s1) (.slice A1 n1 c1) (.slice A1' n1' c1') (.bool false) (.slice none 0 0) (.slice none 0 0) 24 24
  have HX := Lib.hid k1
  have HR := Lib.hid (show Res M (w.heap.size + 1) 24 from ⟨_, _, _, NI.bool _, NI.slice _ _ _, NI.slice _ _ _, k3⟩)
  have BM := Lib.hid bM
  replace H1 := Lib.hid (H1.out.below bM)
  replace HT := Lib.hid (HT.out.below bM)
  have HQ := Lib.hid hq
  have HL := Lib.hid hL
  have hp1 : decide (n < 2) = false := decide_eq_false (by omega)
  have hp2 : decide (8 < n) = false := decide_eq_false (by omega)
  have hp3 : decide (p < 0) = false := decide_eq_false (by omega)
  have hp4 : decide (256 < p) = true := decide_eq_true hn
  clear hn h2 h8
  obtain ⟨o, ho⟩ : ∃ o, Out.err 2 = o := ⟨_, rfl⟩
  have HO := Lib.hid ho
  rw [ho]
  clear hq hL k1 k3 bM ho
  go_enter Tryd.func96, Tryd.ntmps96
  go_upto_region 1 with (fail)
  rw [← hM]
  clear hM
  obtain ⟨x1, x2, x3, _, _, _⟩ := HX.out.cells
  go_wp2_with fail
  refine (readV _ s1 N1' D1' _ H1.out HT.out).mono ?_
  rw [HL.out, Bool.not_false]
  rintro e wa ⟨t1, B1, m1, d1, B1', m1', d1', rfl, f1, ba⟩
  have bb := below_step ba ba.size (below_alloc wa (.cells #[.bool t1, .slice B1 m1 d1, .slice B1' m1' d1'] 60))
  have hf1 := Box.new wa (.bool t1) (.slice B1 m1 d1) (.slice B1' m1' d1') 60
  have szw : w.heap.size + 1 < wa.heap.size := Nat.lt_of_lt_of_le (by obtain ⟨_, _, _, _, _, _, hh⟩ := HR.out; exact hh.lt) ba.size
  have TA : Hid (N1 w (wa.alloc (.cells #[.bool t1, .slice B1 m1 d1, .slice B1' m1' d1'] 60)) (w.heap.size + 1) wa.heap.size t1 B1 m1 d1 B1' m1' d1') :=
    Lib.hid ⟨HR.out.below bb, hf1, HT.out.below bb, below_step BM.out BM.out.size bb, by omega, by omega⟩
  have F1 : Hid (IsF (wa.alloc (.cells #[.bool t1, .slice B1 m1 d1, .slice B1' m1' d1'] 60)) (.agg #[.bool t1, .slice B1 m1 d1, .slice B1' m1' d1']) q) := Lib.hid (by rw [← HQ.out]; exact (f1.out rfl).below (below_alloc _ _))
  obtain ⟨w2, hw2⟩ : ∃ w2, wa.alloc (.cells #[.bool t1, .slice B1 m1 d1, .slice B1' m1' d1'] 60) = w2 := ⟨_, rfl⟩
  obtain ⟨gf, hgf⟩ : ∃ gf, wa.heap.size = gf := ⟨_, rfl⟩
  clear x1 x2 x3 ba bb f1 hf1 szw HR BM HX H1 HT
  go_upto_region 2 with (fail)
  rw [hw2] at TA F1
  try rw [hw2]
  rw [hgf] at TA
  try rw [hgf]
  clear hw2 hgf
  obtain ⟨y1, y2, y3, _⟩ := TA.out.box.cells
  obtain ⟨z1, z2, z3, hy1, hy2, hy3, f1, f2, f3⟩ := TA.out.res.cells
  obtain ⟨q0, q1, q2, hs, hb⟩ := OutIs.stored (o := .err 2) (k := 2) (s := false) (A1 := none) (A2 := none) (n1 := 0) (c1 := 0) (n2 := 0) (c2 := 0) ⟨rfl, rfl, by omega, by omega⟩ TA.out.res TA.out.bel TA.out.n3
  have Q := Lib.hid (And.intro q0 (And.intro q1 q2))
  have HBB := Lib.hid hb
  clear q0 q1 q2 hs hb
  go_wp2_with fail
  obtain ⟨q0, q1, q2⟩ := Q.out
  refine bodyPost_ret (v := .tuple #[noRat, .int .i64 2]) (by simp [results, Tryd.results96, go_sem, q0, q1, q2, noRat]) rfl ?_
  rw [← HO.out]
  exact OutPost.err rfl (by omega) (by omega) HBB.out
set_option maxHeartbeats 2000000 in
set_option maxRecDepth 100000 in
theorem nroot_even (s1 : Bool) (N1' D1' : Nat) (k p : Nat) (h2 : 2 ≤ k) (h8 : k ≤ 8) (hp : p ≤ 256) (up : Bool) (hs : ng (ratOf s1 N1' D1') = true) (he : k % 2 = 0) (w : World) (v1 : Value) (h1 : RawV w v1 s1 N1' D1') (hT : Tab w) (q : Rat) (hq : ratOf s1 N1' D1' = q) (hL : largeB s1 N1' D1' = false) :
    Calls Tryd.prog 96 #[v1, .int .i64 (k : Int), .int .i64 (p : Int), .bool up] w (OutPost w (Out.err 5)) := by
  have H1 := Lib.hid h1
  have HT := Lib.hid hT
  obtain ⟨A1, n1, c1, A1', n1', c1', rfl⟩ := h1.shape
  clear h1 hT
  obtain ⟨M, hM, k1, k3, bM⟩ := start1 w (.bool s1) (.slice A1 n1 c1) (.slice A1' n1' c1') (.bool false) (.slice none 0 0) (.slice none 0 0) 24 24
  have HX := Lib.hid k1
  have HR := Lib.hid (show Res M (w.heap.size + 1) 24 from ⟨_, _, _, NI.bool _, NI.slice _ _ _, NI.slice _ _ _, k3⟩)
  have BM := Lib.hid bM
  replace H1 := Lib.hid (H1.out.below bM)
  replace HT := Lib.hid (HT.out.below bM)
  have HQ := Lib.hid hq
  have HL := Lib.hid hL
  have hp1 : decide ((k : Int) < 2) = false := decide_eq_false (by omega)
  have hp1' : decide (k < 2) = false := decide_eq_false (by omega)
  have hp2 : decide (8 < (k : Int)) = false := decide_eq_false (by omega)
  have hp2' : decide (8 < k) = false := decide_eq_false (by omega)
  have hp3 : decide ((p : Int) < 0) = false := decide_eq_false (by omega)
  have hp4 : decide (256 < (p : Int)) = false := decide_eq_false (by omega)
  have hp4' : decide (256 < p) = false := decide_eq_false (by omega)
  have hm := tmod_two k
  have hm2 : IntKind.i64.wrap ((k % 2 : Nat) : Int) = ((k % 2 : Nat) : Int) := wraps_i64 _ (by omega) (by omega)
  have HK2 := Lib.hid h2
  have HK8 := Lib.hid h8
  have HP := Lib.hid hp
  rw [hq] at hs
  have HNG := Lib.hid hs
  clear hs
  rw [he] at hm hm2
  clear he
  obtain ⟨o, ho⟩ : ∃ o, Out.err 5 = o := ⟨_, rfl⟩
  have HO := Lib.hid ho
  rw [ho]
  clear hq hL k1 k3 bM ho
  go_enter Tryd.func96, Tryd.ntmps96
  go_upto_region 1 with (fail)
  rw [← hM]
  clear hM
  obtain ⟨x1, x2, x3, _, _, _⟩ := HX.out.cells
  go_wp2_with fail
  refine (readV _ s1 N1' D1' _ H1.out HT.out).mono ?_
  rw [HL.out, Bool.not_false]
  rintro e wa ⟨t1, B1, m1, d1, B1', m1', d1', rfl, f1, ba⟩
  have bb := below_step ba ba.size (below_alloc wa (.cells #[.bool t1, .slice B1 m1 d1, .slice B1' m1' d1'] 60))
  have hf1 := Box.new wa (.bool t1) (.slice B1 m1 d1) (.slice B1' m1' d1') 60
  have szw : w.heap.size + 1 < wa.heap.size := Nat.lt_of_lt_of_le (by obtain ⟨_, _, _, _, _, _, hh⟩ := HR.out; exact hh.lt) ba.size
  have TA : Hid (N1 w (wa.alloc (.cells #[.bool t1, .slice B1 m1 d1, .slice B1' m1' d1'] 60)) (w.heap.size + 1) wa.heap.size t1 B1 m1 d1 B1' m1' d1') :=
    Lib.hid ⟨HR.out.below bb, hf1, HT.out.below bb, below_step BM.out BM.out.size bb, by omega, by omega⟩
  have F1 : Hid (IsF (wa.alloc (.cells #[.bool t1, .slice B1 m1 d1, .slice B1' m1' d1'] 60)) (.agg #[.bool t1, .slice B1 m1 d1, .slice B1' m1' d1']) q) := Lib.hid (by rw [← HQ.out]; exact (f1.out rfl).below (below_alloc _ _))
  obtain ⟨w2, hw2⟩ : ∃ w2, wa.alloc (.cells #[.bool t1, .slice B1 m1 d1, .slice B1' m1' d1'] 60) = w2 := ⟨_, rfl⟩
  obtain ⟨gf, hgf⟩ : ∃ gf, wa.heap.size = gf := ⟨_, rfl⟩
  clear x1 x2 x3 ba bb f1 hf1 szw HR BM HX H1 HT
  go_upto_region 2 with (fail)
  rw [hw2] at TA F1
  try rw [hw2]
  rw [hgf] at TA
  try rw [hgf]
  clear hw2 hgf
  obtain ⟨y1, y2, y3, _⟩ := TA.out.box.cells
  obtain ⟨ht, a1, a2⟩ := F1.out.at_
  obtain rfl : t1 = true := ht.trans HNG.out
  have NA := Lib.hid a1
  have NB := Lib.hid a2
  clear ht a1 a2
  obtain ⟨z1, z2, z3, hy1, hy2, hy3, f1, f2, f3⟩ := TA.out.res.cells
  obtain ⟨q0, q1, q2, hs, hb⟩ := OutIs.stored (o := .err 5) (k := 5) (s := false) (A1 := none) (A2 := none) (n1 := 0) (c1 := 0) (n2 := 0) (c2 := 0) ⟨rfl, rfl, by omega, by omega⟩ TA.out.res TA.out.bel TA.out.n3
  have Q := Lib.hid (And.intro q0 (And.intro q1 q2))
  have HBB := Lib.hid hb
  clear q0 q1 q2 hs hb
  go_wp2_with fail
  obtain ⟨q0, q1, q2⟩ := Q.out
  refine bodyPost_ret (v := .tuple #[noRat, .int .i64 5]) (by simp [results, Tryd.results96, go_sem, q0, q1, q2, noRat]) rfl ?_
  rw [← HO.out]
  exact OutPost.err rfl (by omega) (by omega) HBB.out
set_option maxHeartbeats 2000000 in
set_option maxRecDepth 100000 in
theorem nroot_false_false_same (s1 : Bool) (N1' D1' : Nat) (k p : Nat) (h2 : 2 ≤ k) (h8 : k ≤ 8) (hp : p ≤ 256) (hs : ng (ratOf s1 N1' D1') = false) (r : Rat) (hr : grtQ (ratOf s1 N1' D1') k p false = r) (w : World) (v1 : Value) (h1 : RawV w v1 s1 N1' D1') (hT : Tab w) (q : Rat) (hq : ratOf s1 N1' D1' = q) (hL : largeB s1 N1' D1' = false) :
    Calls Tryd.prog 96 #[v1, .int .i64 (k : Int), .int .i64 (p : Int), .bool false] w (OutPost w (give r)) := by
  have H1 := Lib.hid h1
  have HT := Lib.hid hT
  obtain ⟨A1, n1, c1, A1', n1', c1', rfl⟩ := h1.shape
  clear h1 hT
  obtain ⟨M, hM, k1, k3, bM⟩ := start1 w (.bool s1) (.slice A1 n1 c1) (.slice A1' n1' c1') (.bool false) (.slice none 0 0) (.slice none 0 0) 24 24
  have HX := Lib.hid k1
  have HR := Lib.hid (show Res M (w.heap.size + 1) 24 from ⟨_, _, _, NI.bool _, NI.slice _ _ _, NI.slice _ _ _, k3⟩)
  have BM := Lib.hid bM
  replace H1 := Lib.hid (H1.out.below bM)
  replace HT := Lib.hid (HT.out.below bM)
  have HQ := Lib.hid hq
  have HL := Lib.hid hL
  have hf := (largeB_false hL).2.2
  rw [hq] at hf
  have HF := Lib.hid hf
  clear hf
  have hp1 : decide ((k : Int) < 2) = false := decide_eq_false (by omega)
  have hp1' : decide (k < 2) = false := decide_eq_false (by omega)
  have hp2 : decide (8 < (k : Int)) = false := decide_eq_false (by omega)
  have hp2' : decide (8 < k) = false := decide_eq_false (by omega)
  have hp3 : decide ((p : Int) < 0) = false := decide_eq_false (by omega)
  have hp4 : decide (256 < (p : Int)) = false := decide_eq_false (by omega)
  have hp4' : decide (256 < p) = false := decide_eq_false (by omega)
  have hm := tmod_two k
  have hm2 : IntKind.i64.wrap ((k % 2 : Nat) : Int) = ((k % 2 : Nat) : Int) := wraps_i64 _ (by omega) (by omega)
  have HK2 := Lib.hid h2
  have HK8 := Lib.hid h8
  have HP := Lib.hid hp
  rw [hq] at hs
  have HNG := Lib.hid hs
  clear hs
  rw [hq] at hr
  have HR2 := Lib.hid hr
  obtain ⟨m, hmk⟩ : ∃ m, p * k = m := ⟨_, rfl⟩
  have hmi : (p : Int) * (k : Int) = (m : Int) := by rw [← hmk]; push_cast; rfl
  have hmb : m ≤ 2048 := by rw [← hmk]; exact Nat.mul_le_mul hp h8
  have HMK := Lib.hid hmk
  have u1 : IntKind.i64.wrap (m : Int) = (m : Int) := wrap_i64 _ (by omega) (by omega)
  have u2 : wrap64 (m : Int) = (m : Int) := by unfold wrap64; omega
  have u3 : IntKind.i64.wrap (p : Int) = (p : Int) := wrap_i64 _ (by omega) (by omega)
  have HXL := Lib.hid (show (W (q.num.natAbs * 2 ^ m)).length ≤ 200 by
    have e1 := W_mul_length q.num.natAbs (2 ^ m)
    have e2 := W_two_pow m
    have := HF.out.1
    omega)
  have HD := Lib.hid q.den_nz
  clear hr hmk
  obtain ⟨bx, hx⟩ : ∃ b, decide (irt k (q.num.natAbs * 2 ^ m / q.den) ^ k = q.num.natAbs * 2 ^ m / q.den) = b := ⟨_, rfl⟩
  have HEX := Lib.hid hx
  clear hx
  have HFIN := Lib.hid (show mkRat (sg false (irt k (q.num.natAbs * 2 ^ m / q.den))) (1 * 2 ^ p) = r by
    rw [← HR2.out]
    unfold grtQ rootN
    rw [HNG.out, HMK.out, Nat.one_mul]
    rw [if_neg (by simp)]
    rw [Nat.add_zero])
  obtain ⟨o, ho⟩ : ∃ o, give r = o := ⟨_, rfl⟩
  have HO := Lib.hid ho
  rw [ho]
  clear hq hL k1 k3 bM ho
  go_enter Tryd.func96, Tryd.ntmps96
  go_upto_region 1 with (fail)
  rw [← hM]
  clear hM
  obtain ⟨x1, x2, x3, _, _, _⟩ := HX.out.cells
  go_wp2_with fail
  refine (readV _ s1 N1' D1' _ H1.out HT.out).mono ?_
  rw [HL.out, Bool.not_false]
  rintro e wa ⟨t1, B1, m1, d1, B1', m1', d1', rfl, f1, ba⟩
  have bb := below_step ba ba.size (below_alloc wa (.cells #[.bool t1, .slice B1 m1 d1, .slice B1' m1' d1'] 60))
  have hf1 := Box.new wa (.bool t1) (.slice B1 m1 d1) (.slice B1' m1' d1') 60
  have szw : w.heap.size + 1 < wa.heap.size := Nat.lt_of_lt_of_le (by obtain ⟨_, _, _, _, _, _, hh⟩ := HR.out; exact hh.lt) ba.size
  have TA : Hid (N1 w (wa.alloc (.cells #[.bool t1, .slice B1 m1 d1, .slice B1' m1' d1'] 60)) (w.heap.size + 1) wa.heap.size t1 B1 m1 d1 B1' m1' d1') :=
    Lib.hid ⟨HR.out.below bb, hf1, HT.out.below bb, below_step BM.out BM.out.size bb, by omega, by omega⟩
  have F1 : Hid (IsF (wa.alloc (.cells #[.bool t1, .slice B1 m1 d1, .slice B1' m1' d1'] 60)) (.agg #[.bool t1, .slice B1 m1 d1, .slice B1' m1' d1']) q) := Lib.hid (by rw [← HQ.out]; exact (f1.out rfl).below (below_alloc _ _))
  obtain ⟨w2, hw2⟩ : ∃ w2, wa.alloc (.cells #[.bool t1, .slice B1 m1 d1, .slice B1' m1' d1'] 60) = w2 := ⟨_, rfl⟩
  obtain ⟨gf, hgf⟩ : ∃ gf, wa.heap.size = gf := ⟨_, rfl⟩
  clear x1 x2 x3 ba bb f1 hf1 szw HR BM HX H1 HT
  go_upto_region 2 with (fail)
  rw [hw2] at TA F1
  try rw [hw2]
  rw [hgf] at TA
  try rw [hgf]
  clear hw2 hgf
  obtain ⟨y1, y2, y3, _⟩ := TA.out.box.cells
  obtain ⟨ht, a1, a2⟩ := F1.out.at_
  obtain rfl : t1 = false := ht.trans HNG.out
  have NA := Lib.hid a1
  have NB := Lib.hid a2
  clear ht a1 a2
  have T0 := Lib.hid (show NF w w2 (w.heap.size + 1) gf false B1 m1 d1 B1' m1' d1' q B1 m1 d1 q.num.natAbs from ⟨TA.out, NA.out, NB.out, NA.out, by omega⟩)
  go_wp2_with fail
  go_region_held3 (fun W' => (World.cell? W' ⟨gf, 0, none⟩ = some (.bool false) ∧ World.cell? W' ⟨gf, 1, none⟩ = some (.slice B1 m1 d1) ∧ World.cell? W' ⟨gf, 2, none⟩ = some (.slice B1' m1' d1') ∧ Hid (NF w W' (w.heap.size + 1) gf false B1 m1 d1 B1' m1' d1' q B1 m1 d1 (q.num.natAbs))))
    (with_reducible (first | assumption | exact T0.out.drew.cells | exact NF.next (by assumption) (by assumption) | exact NF.nextS (by assumption)))
    (first
       | (go_at_call 59
          refine (aShl _ m _ _ _ _ (NF.of (by assumption)).a (Nat.le_trans HF.out.1 (by omega)) (by omega)).mono ?_
          rintro e wb ⟨C1, x1, z1, rfl, i1, b1⟩)
       | (go_at_call 114
          refine (aDiv _ _ _ _ _ _ _ _ _ i1.out (NF.of (by assumption)).b (Nat.le_trans HXL.out (by omega)) (Nat.pos_of_ne_zero HD.out)).mono ?_
          rintro e wc ⟨C2, x2, z2, C3, x3, z3, rfl, i2, i3, b2⟩
          have hh := Lib.hid ((NF.of (by assumption)).below b2)))
  replace TA := Lib.hid hh.out.v
  replace NA := Lib.hid hh.out.a
  replace NB := Lib.hid hh.out.b
  clear hh T0 y1 y2 y3
  obtain ⟨y1, y2, y3, _⟩ := TA.out.box.cells
  go_wp2_with fail
  refine (aRoot _ k _ _ _ _ i2.out (Nat.le_trans (dig_length_mono B32_two (Nat.div_le_self _ _)) (Nat.le_trans HXL.out (by omega))) HK2.out (Nat.le_trans HK8.out (by omega))).mono ?_
  rw [HEX.out]
  rintro e wb ⟨C4, x4, z4, rfl, i4, bb⟩
  replace TA := Lib.hid (TA.out.below bb)
  replace NA := Lib.hid (NA.out.below bb)
  replace NB := Lib.hid (NB.out.below bb)
  replace i3 := Lib.hid (i3.out.below bb)
  clear bb y1 y2 y3
  obtain ⟨y1, y2, y3, _⟩ := TA.out.box.cells
  have LR := Lib.hid (show (W (irt k (q.num.natAbs * 2 ^ m / q.den))).length ≤ 200 from Nat.le_trans (dig_length_mono B32_two (Nat.le_trans (irt_self (Nat.lt_of_lt_of_le (by omega) HK2.out) _) (Nat.div_le_self _ _))) HXL.out)
  have L1 := Lib.hid (show (W 1).length ≤ 1 from (dig_length_le B32_two _ _).2 (by unfold B32; omega))
  have LQ := Lib.hid (show (W (irt k (q.num.natAbs * 2 ^ m / q.den))).length ≤ 300 by
    have e1 := LR.out
    have e2 := L1.out
    skip
    omega)
  have LP := Lib.hid (show (W (1 * 2 ^ p)).length ≤ 300 by
    have e2 := W_two_pow p
    have := HP.out
    rw [Nat.one_mul]
    omega)
  obtain ⟨rn, hrn⟩ : ∃ x, irt k (q.num.natAbs * 2 ^ m / q.den) = x := ⟨_, rfl⟩
  rw [hrn] at i4 LQ HFIN
  have T0 := Lib.hid (show NF w _ (w.heap.size + 1) gf false B1 m1 d1 B1' m1' d1' q C4 x4 z4 rn from ⟨TA.out, NA.out, NB.out, i4.out, by omega⟩)
  go_wp2_with fail
  go_region_held3 (fun W' => (World.cell? W' ⟨gf, 0, none⟩ = some (.bool false) ∧ World.cell? W' ⟨gf, 1, none⟩ = some (.slice B1 m1 d1) ∧ World.cell? W' ⟨gf, 2, none⟩ = some (.slice B1' m1' d1') ∧ Hid (NF w W' (w.heap.size + 1) gf false B1 m1 d1 B1' m1' d1' q C4 x4 z4 rn)))
    (with_reducible (first | assumption | exact T0.out.drew.cells | exact NF.next (by assumption) (by assumption) | exact NF.nextS (by assumption)))
    (first
       | (go_at_call 85
          refine (aSmall1 _).mono ?_
          rintro e wb ⟨C7, x7, z7, rfl, i7, b7⟩)
       | (go_at_call 59
          refine (aShl _ p _ _ _ _ i7.out (Nat.le_trans L1.out (by omega)) (Nat.le_trans HP.out (by omega))).mono ?_
          rintro e wc ⟨C8, x8, z8, rfl, i8, b8⟩)
       | (go_at_call 58
          refine (aReduce false _ _ _ _ _ _ _ _ _ (NF.of (by assumption)).c i8.out (by rw [Nat.one_mul]; exact Nat.ne_of_gt (Nat.two_pow_pos p)) (Nat.le_trans LQ.out (by omega)) (Nat.le_trans LP.out (by omega)) (NF.of (by assumption)).v.tab r HFIN.out).mono ?_
          rintro e wd ⟨t9, B9, m9, d9, B9', m9', d9', rfl, i9, b9⟩)
       | (go_at_call 80
          refine (giveF _ _ _ i9.out).mono ?_
          rintro e we ⟨s9, A9, n9, c9, A9', n9', c9', k9, rfl, h9, b10⟩
          have hh := (NF.of (by assumption)).below b10
          obtain ⟨z1, z2, z3, hz1, hz2, hz3, k1, k2, k3⟩ := hh.v.res.cells))
  obtain ⟨q0, q1, q2, hs, hb⟩ := OutIs.stored h9 hh.v.res hh.v.bel hh.v.n3
  have Q := Lib.hid (And.intro q0 (And.intro q1 q2))
  have HS := Lib.hid hs
  have HBB := Lib.hid hb
  clear q0 q1 q2 hs hb h9
  go_wp2
  obtain ⟨q0, q1, q2⟩ := Q.out
  refine bodyPost_ret (v := .tuple #[.agg #[.bool s9, .slice A9 n9 c9, .slice A9' n9' c9'], .int .i64 k9]) (by simp [results, Tryd.results96, go_sem, q0, q1, q2]) rfl ?_
  rw [← HO.out]
  exact ⟨_, _, _, _, _, _, _, _, rfl, HS.out, HBB.out⟩
set_option maxHeartbeats 2000000 in
set_option maxRecDepth 100000 in
theorem nroot_false_true_exact (s1 : Bool) (N1' D1' : Nat) (k p : Nat) (h2 : 2 ≤ k) (h8 : k ≤ 8) (hp : p ≤ 256) (hs : ng (ratOf s1 N1' D1') = false) (x1 : decide (irt k ((ratOf s1 N1' D1').num.natAbs * 2 ^ (p * k) / (ratOf s1 N1' D1').den) ^ k = (ratOf s1 N1' D1').num.natAbs * 2 ^ (p * k) / (ratOf s1 N1' D1').den) = true) (x2 : decide ((ratOf s1 N1' D1').num.natAbs * 2 ^ (p * k) % (ratOf s1 N1' D1').den = 0) = true) (r : Rat) (hr : grtQ (ratOf s1 N1' D1') k p true = r) (w : World) (v1 : Value) (h1 : RawV w v1 s1 N1' D1') (hT : Tab w) (q : Rat) (hq : ratOf s1 N1' D1' = q) (hL : largeB s1 N1' D1' = false) :
    Calls Tryd.prog 96 #[v1, .int .i64 (k : Int), .int .i64 (p : Int), .bool true] w (OutPost w (give r)) := by
  have H1 := Lib.hid h1
  have HT := Lib.hid hT
  obtain ⟨A1, n1, c1, A1', n1', c1', rfl⟩ := h1.shape
  clear h1 hT
  obtain ⟨M, hM, k1, k3, bM⟩ := start1 w (.bool s1) (.slice A1 n1 c1) (.slice A1' n1' c1') (.bool false) (.slice none 0 0) (.slice none 0 0) 24 24
  have HX := Lib.hid k1
  have HR := Lib.hid (show Res M (w.heap.size + 1) 24 from ⟨_, _, _, NI.bool _, NI.slice _ _ _, NI.slice _ _ _, k3⟩)
  have BM := Lib.hid bM
  replace H1 := Lib.hid (H1.out.below bM)
  replace HT := Lib.hid (HT.out.below bM)
  have HQ := Lib.hid hq
  have HL := Lib.hid hL
  have hf := (largeB_false hL).2.2
  rw [hq] at hf
  have HF := Lib.hid hf
  clear hf
  have hp1 : decide ((k : Int) < 2) = false := decide_eq_false (by omega)
  have hp1' : decide (k < 2) = false := decide_eq_false (by omega)
  have hp2 : decide (8 < (k : Int)) = false := decide_eq_false (by omega)
  have hp2' : decide (8 < k) = false := decide_eq_false (by omega)
  have hp3 : decide ((p : Int) < 0) = false := decide_eq_false (by omega)
  have hp4 : decide (256 < (p : Int)) = false := decide_eq_false (by omega)
  have hp4' : decide (256 < p) = false := decide_eq_false (by omega)
  have hm := tmod_two k
  have hm2 : IntKind.i64.wrap ((k % 2 : Nat) : Int) = ((k % 2 : Nat) : Int) := wraps_i64 _ (by omega) (by omega)
  have HK2 := Lib.hid h2
  have HK8 := Lib.hid h8
  have HP := Lib.hid hp
  rw [hq] at hs
  have HNG := Lib.hid hs
  clear hs
  rw [hq] at hr
  have HR2 := Lib.hid hr
  obtain ⟨m, hmk⟩ : ∃ m, p * k = m := ⟨_, rfl⟩
  have hmi : (p : Int) * (k : Int) = (m : Int) := by rw [← hmk]; push_cast; rfl
  have hmb : m ≤ 2048 := by rw [← hmk]; exact Nat.mul_le_mul hp h8
  have HMK := Lib.hid hmk
  have u1 : IntKind.i64.wrap (m : Int) = (m : Int) := wrap_i64 _ (by omega) (by omega)
  have u2 : wrap64 (m : Int) = (m : Int) := by unfold wrap64; omega
  have u3 : IntKind.i64.wrap (p : Int) = (p : Int) := wrap_i64 _ (by omega) (by omega)
  have HXL := Lib.hid (show (W (q.num.natAbs * 2 ^ m)).length ≤ 200 by
    have e1 := W_mul_length q.num.natAbs (2 ^ m)
    have e2 := W_two_pow m
    have := HF.out.1
    omega)
  have HD := Lib.hid q.den_nz
  clear hr hmk
  rw [hq, HMK.out] at x1
  have HEX := Lib.hid x1
  clear x1
  rw [hq, HMK.out] at x2
  have HRE := Lib.hid x2
  clear x2
  have HFIN := Lib.hid (show mkRat (sg false (irt k (q.num.natAbs * 2 ^ m / q.den))) (1 * 2 ^ p) = r by
    rw [← HR2.out]
    unfold grtQ rootN
    rw [HNG.out, HMK.out, Nat.one_mul]
    have e1 := of_decide_eq_true HEX.out
    have e2 := of_decide_eq_true HRE.out
    rw [if_neg (by rw [e1, e2]; simp)]
    rw [Nat.add_zero])
  obtain ⟨o, ho⟩ : ∃ o, give r = o := ⟨_, rfl⟩
  have HO := Lib.hid ho
  rw [ho]
  clear hq hL k1 k3 bM ho
  go_enter Tryd.func96, Tryd.ntmps96
  go_upto_region 1 with (fail)
  rw [← hM]
  clear hM
  obtain ⟨x1, x2, x3, _, _, _⟩ := HX.out.cells
  go_wp2_with fail
  refine (readV _ s1 N1' D1' _ H1.out HT.out).mono ?_
  rw [HL.out, Bool.not_false]
  rintro e wa ⟨t1, B1, m1, d1, B1', m1', d1', rfl, f1, ba⟩
  have bb := below_step ba ba.size (below_alloc wa (.cells #[.bool t1, .slice B1 m1 d1, .slice B1' m1' d1'] 60))
  have hf1 := Box.new wa (.bool t1) (.slice B1 m1 d1) (.slice B1' m1' d1') 60
  have szw : w.heap.size + 1 < wa.heap.size := Nat.lt_of_lt_of_le (by obtain ⟨_, _, _, _, _, _, hh⟩ := HR.out; exact hh.lt) ba.size
  have TA : Hid (N1 w (wa.alloc (.cells #[.bool t1, .slice B1 m1 d1, .slice B1' m1' d1'] 60)) (w.heap.size + 1) wa.heap.size t1 B1 m1 d1 B1' m1' d1') :=
    Lib.hid ⟨HR.out.below bb, hf1, HT.out.below bb, below_step BM.out BM.out.size bb, by omega, by omega⟩
  have F1 : Hid (IsF (wa.alloc (.cells #[.bool t1, .slice B1 m1 d1, .slice B1' m1' d1'] 60)) (.agg #[.bool t1, .slice B1 m1 d1, .slice B1' m1' d1']) q) := Lib.hid (by rw [← HQ.out]; exact (f1.out rfl).below (below_alloc _ _))
  obtain ⟨w2, hw2⟩ : ∃ w2, wa.alloc (.cells #[.bool t1, .slice B1 m1 d1, .slice B1' m1' d1'] 60) = w2 := ⟨_, rfl⟩
  obtain ⟨gf, hgf⟩ : ∃ gf, wa.heap.size = gf := ⟨_, rfl⟩
  clear x1 x2 x3 ba bb f1 hf1 szw HR BM HX H1 HT
  go_upto_region 2 with (fail)
  rw [hw2] at TA F1
  try rw [hw2]
  rw [hgf] at TA
  try rw [hgf]
  clear hw2 hgf
  obtain ⟨y1, y2, y3, _⟩ := TA.out.box.cells
  obtain ⟨ht, a1, a2⟩ := F1.out.at_
  obtain rfl : t1 = false := ht.trans HNG.out
  have NA := Lib.hid a1
  have NB := Lib.hid a2
  clear ht a1 a2
  have T0 := Lib.hid (show NF w w2 (w.heap.size + 1) gf false B1 m1 d1 B1' m1' d1' q B1 m1 d1 q.num.natAbs from ⟨TA.out, NA.out, NB.out, NA.out, by omega⟩)
  go_wp2_with fail
  go_region_held3 (fun W' => (World.cell? W' ⟨gf, 0, none⟩ = some (.bool false) ∧ World.cell? W' ⟨gf, 1, none⟩ = some (.slice B1 m1 d1) ∧ World.cell? W' ⟨gf, 2, none⟩ = some (.slice B1' m1' d1') ∧ Hid (NF w W' (w.heap.size + 1) gf false B1 m1 d1 B1' m1' d1' q B1 m1 d1 (q.num.natAbs))))
    (with_reducible (first | assumption | exact T0.out.drew.cells | exact NF.next (by assumption) (by assumption) | exact NF.nextS (by assumption)))
    (first
       | (go_at_call 59
          refine (aShl _ m _ _ _ _ (NF.of (by assumption)).a (Nat.le_trans HF.out.1 (by omega)) (by omega)).mono ?_
          rintro e wb ⟨C1, x1, z1, rfl, i1, b1⟩)
       | (go_at_call 114
          refine (aDiv _ _ _ _ _ _ _ _ _ i1.out (NF.of (by assumption)).b (Nat.le_trans HXL.out (by omega)) (Nat.pos_of_ne_zero HD.out)).mono ?_
          rintro e wc ⟨C2, x2, z2, C3, x3, z3, rfl, i2, i3, b2⟩
          have hh := Lib.hid ((NF.of (by assumption)).below b2)))
  replace TA := Lib.hid hh.out.v
  replace NA := Lib.hid hh.out.a
  replace NB := Lib.hid hh.out.b
  clear hh T0 y1 y2 y3
  obtain ⟨y1, y2, y3, _⟩ := TA.out.box.cells
  go_wp2_with fail
  refine (aRoot _ k _ _ _ _ i2.out (Nat.le_trans (dig_length_mono B32_two (Nat.div_le_self _ _)) (Nat.le_trans HXL.out (by omega))) HK2.out (Nat.le_trans HK8.out (by omega))).mono ?_
  rw [HEX.out]
  rintro e wb ⟨C4, x4, z4, rfl, i4, bb⟩
  replace TA := Lib.hid (TA.out.below bb)
  replace NA := Lib.hid (NA.out.below bb)
  replace NB := Lib.hid (NB.out.below bb)
  replace i3 := Lib.hid (i3.out.below bb)
  clear bb y1 y2 y3
  obtain ⟨y1, y2, y3, _⟩ := TA.out.box.cells
  go_wp2_with fail
  refine (aZero _ _ _ _ _ i3.out).mono ?_
  rw [HRE.out]
  rintro e wb ⟨rfl, rfl⟩
  have LR := Lib.hid (show (W (irt k (q.num.natAbs * 2 ^ m / q.den))).length ≤ 200 from Nat.le_trans (dig_length_mono B32_two (Nat.le_trans (irt_self (Nat.lt_of_lt_of_le (by omega) HK2.out) _) (Nat.div_le_self _ _))) HXL.out)
  have L1 := Lib.hid (show (W 1).length ≤ 1 from (dig_length_le B32_two _ _).2 (by unfold B32; omega))
  have LQ := Lib.hid (show (W (irt k (q.num.natAbs * 2 ^ m / q.den))).length ≤ 300 by
    have e1 := LR.out
    have e2 := L1.out
    skip
    omega)
  have LP := Lib.hid (show (W (1 * 2 ^ p)).length ≤ 300 by
    have e2 := W_two_pow p
    have := HP.out
    rw [Nat.one_mul]
    omega)
  obtain ⟨rn, hrn⟩ : ∃ x, irt k (q.num.natAbs * 2 ^ m / q.den) = x := ⟨_, rfl⟩
  rw [hrn] at i4 LQ HFIN
  have T0 := Lib.hid (show NF w _ (w.heap.size + 1) gf false B1 m1 d1 B1' m1' d1' q C4 x4 z4 rn from ⟨TA.out, NA.out, NB.out, i4.out, by omega⟩)
  go_wp2_with fail
  go_region_held3 (fun W' => (World.cell? W' ⟨gf, 0, none⟩ = some (.bool false) ∧ World.cell? W' ⟨gf, 1, none⟩ = some (.slice B1 m1 d1) ∧ World.cell? W' ⟨gf, 2, none⟩ = some (.slice B1' m1' d1') ∧ Hid (NF w W' (w.heap.size + 1) gf false B1 m1 d1 B1' m1' d1' q C4 x4 z4 rn)))
    (with_reducible (first | assumption | exact T0.out.drew.cells | exact NF.next (by assumption) (by assumption) | exact NF.nextS (by assumption)))
    (first
       | (go_at_call 85
          refine (aSmall1 _).mono ?_
          rintro e wb ⟨C7, x7, z7, rfl, i7, b7⟩)
       | (go_at_call 59
          refine (aShl _ p _ _ _ _ i7.out (Nat.le_trans L1.out (by omega)) (Nat.le_trans HP.out (by omega))).mono ?_
          rintro e wc ⟨C8, x8, z8, rfl, i8, b8⟩)
       | (go_at_call 58
          refine (aReduce false _ _ _ _ _ _ _ _ _ (NF.of (by assumption)).c i8.out (by rw [Nat.one_mul]; exact Nat.ne_of_gt (Nat.two_pow_pos p)) (Nat.le_trans LQ.out (by omega)) (Nat.le_trans LP.out (by omega)) (NF.of (by assumption)).v.tab r HFIN.out).mono ?_
          rintro e wd ⟨t9, B9, m9, d9, B9', m9', d9', rfl, i9, b9⟩)
       | (go_at_call 80
          refine (giveF _ _ _ i9.out).mono ?_
          rintro e we ⟨s9, A9, n9, c9, A9', n9', c9', k9, rfl, h9, b10⟩
          have hh := (NF.of (by assumption)).below b10
          obtain ⟨z1, z2, z3, hz1, hz2, hz3, k1, k2, k3⟩ := hh.v.res.cells))
  obtain ⟨q0, q1, q2, hs, hb⟩ := OutIs.stored h9 hh.v.res hh.v.bel hh.v.n3
  have Q := Lib.hid (And.intro q0 (And.intro q1 q2))
  have HS := Lib.hid hs
  have HBB := Lib.hid hb
  clear q0 q1 q2 hs hb h9
  go_wp2
  obtain ⟨q0, q1, q2⟩ := Q.out
  refine bodyPost_ret (v := .tuple #[.agg #[.bool s9, .slice A9 n9 c9, .slice A9' n9' c9'], .int .i64 k9]) (by simp [results, Tryd.results96, go_sem, q0, q1, q2]) rfl ?_
  rw [← HO.out]
  exact ⟨_, _, _, _, _, _, _, _, rfl, HS.out, HBB.out⟩
set_option maxHeartbeats 2000000 in
set_option maxRecDepth 100000 in
theorem nroot_false_true_rest (s1 : Bool) (N1' D1' : Nat) (k p : Nat) (h2 : 2 ≤ k) (h8 : k ≤ 8) (hp : p ≤ 256) (hs : ng (ratOf s1 N1' D1') = false) (x1 : decide (irt k ((ratOf s1 N1' D1').num.natAbs * 2 ^ (p * k) / (ratOf s1 N1' D1').den) ^ k = (ratOf s1 N1' D1').num.natAbs * 2 ^ (p * k) / (ratOf s1 N1' D1').den) = true) (x2 : decide ((ratOf s1 N1' D1').num.natAbs * 2 ^ (p * k) % (ratOf s1 N1' D1').den = 0) = false) (r : Rat) (hr : grtQ (ratOf s1 N1' D1') k p true = r) (w : World) (v1 : Value) (h1 : RawV w v1 s1 N1' D1') (hT : Tab w) (q : Rat) (hq : ratOf s1 N1' D1' = q) (hL : largeB s1 N1' D1' = false) :
    Calls Tryd.prog 96 #[v1, .int .i64 (k : Int), .int .i64 (p : Int), .bool true] w (OutPost w (give r)) := by
  have H1 := Lib.hid h1
  have HT := Lib.hid hT
  obtain ⟨A1, n1, c1, A1', n1', c1', rfl⟩ := h1.shape
  clear h1 hT
  obtain ⟨M, hM, k1, k3, bM⟩ := start1 w (.bool s1) (.slice A1 n1 c1) (.slice A1' n1' c1') (.bool false) (.slice none 0 0) (.slice none 0 0) 24 24
  have HX := Lib.hid k1
  have HR := Lib.hid (show Res M (w.heap.size + 1) 24 from ⟨_, _, _, NI.bool _, NI.slice _ _ _, NI.slice _ _ _, k3⟩)
  have BM := Lib.hid bM
  replace H1 := Lib.hid (H1.out.below bM)
  replace HT := Lib.hid (HT.out.below bM)
  have HQ := Lib.hid hq
  have HL := Lib.hid hL
  have hf := (largeB_false hL).2.2
  rw [hq] at hf
  have HF := Lib.hid hf
  clear hf
  have hp1 : decide ((k : Int) < 2) = false := decide_eq_false (by omega)
  have hp1' : decide (k < 2) = false := decide_eq_false (by omega)
  have hp2 : decide (8 < (k : Int)) = false := decide_eq_false (by omega)
  have hp2' : decide (8 < k) = false := decide_eq_false (by omega)
  have hp3 : decide ((p : Int) < 0) = false := decide_eq_false (by omega)
  have hp4 : decide (256 < (p : Int)) = false := decide_eq_false (by omega)
  have hp4' : decide (256 < p) = false := decide_eq_false (by omega)
  have hm := tmod_two k
  have hm2 : IntKind.i64.wrap ((k % 2 : Nat) : Int) = ((k % 2 : Nat) : Int) := wraps_i64 _ (by omega) (by omega)
  have HK2 := Lib.hid h2
  have HK8 := Lib.hid h8
  have HP := Lib.hid hp
  rw [hq] at hs
  have HNG := Lib.hid hs
  clear hs
  rw [hq] at hr
  have HR2 := Lib.hid hr
  obtain ⟨m, hmk⟩ : ∃ m, p * k = m := ⟨_, rfl⟩
  have hmi : (p : Int) * (k : Int) = (m : Int) := by rw [← hmk]; push_cast; rfl
  have hmb : m ≤ 2048 := by rw [← hmk]; exact Nat.mul_le_mul hp h8
  have HMK := Lib.hid hmk
  have u1 : IntKind.i64.wrap (m : Int) = (m : Int) := wrap_i64 _ (by omega) (by omega)
  have u2 : wrap64 (m : Int) = (m : Int) := by unfold wrap64; omega
  have u3 : IntKind.i64.wrap (p : Int) = (p : Int) := wrap_i64 _ (by omega) (by omega)
  have HXL := Lib.hid (show (W (q.num.natAbs * 2 ^ m)).length ≤ 200 by
    have e1 := W_mul_length q.num.natAbs (2 ^ m)
    have e2 := W_two_pow m
    have := HF.out.1
    omega)
  have HD := Lib.hid q.den_nz
  clear hr hmk
  rw [hq, HMK.out] at x1
  have HEX := Lib.hid x1
  clear x1
  rw [hq, HMK.out] at x2
  have HRE := Lib.hid x2
  clear x2
  have HFIN := Lib.hid (show mkRat (sg false (irt k (q.num.natAbs * 2 ^ m / q.den) + 1)) (1 * 2 ^ p) = r by
    rw [← HR2.out]
    unfold grtQ rootN
    rw [HNG.out, HMK.out, Nat.one_mul]
    have e1 := of_decide_eq_true HEX.out
    have e2 := of_decide_eq_false HRE.out
    rw [if_pos ⟨rfl, by simp [e2]⟩])
  obtain ⟨o, ho⟩ : ∃ o, give r = o := ⟨_, rfl⟩
  have HO := Lib.hid ho
  rw [ho]
  clear hq hL k1 k3 bM ho
  go_enter Tryd.func96, Tryd.ntmps96
  go_upto_region 1 with (fail)
  rw [← hM]
  clear hM
  obtain ⟨x1, x2, x3, _, _, _⟩ := HX.out.cells
  go_wp2_with fail
  refine (readV _ s1 N1' D1' _ H1.out HT.out).mono ?_
  rw [HL.out, Bool.not_false]
  rintro e wa ⟨t1, B1, m1, d1, B1', m1', d1', rfl, f1, ba⟩
  have bb := below_step ba ba.size (below_alloc wa (.cells #[.bool t1, .slice B1 m1 d1, .slice B1' m1' d1'] 60))
  have hf1 := Box.new wa (.bool t1) (.slice B1 m1 d1) (.slice B1' m1' d1') 60
  have szw : w.heap.size + 1 < wa.heap.size := Nat.lt_of_lt_of_le (by obtain ⟨_, _, _, _, _, _, hh⟩ := HR.out; exact hh.lt) ba.size
  have TA : Hid (N1 w (wa.alloc (.cells #[.bool t1, .slice B1 m1 d1, .slice B1' m1' d1'] 60)) (w.heap.size + 1) wa.heap.size t1 B1 m1 d1 B1' m1' d1') :=
    Lib.hid ⟨HR.out.below bb, hf1, HT.out.below bb, below_step BM.out BM.out.size bb, by omega, by omega⟩
  have F1 : Hid (IsF (wa.alloc (.cells #[.bool t1, .slice B1 m1 d1, .slice B1' m1' d1'] 60)) (.agg #[.bool t1, .slice B1 m1 d1, .slice B1' m1' d1']) q) := Lib.hid (by rw [← HQ.out]; exact (f1.out rfl).below (below_alloc _ _))
  obtain ⟨w2, hw2⟩ : ∃ w2, wa.alloc (.cells #[.bool t1, .slice B1 m1 d1, .slice B1' m1' d1'] 60) = w2 := ⟨_, rfl⟩
  obtain ⟨gf, hgf⟩ : ∃ gf, wa.heap.size = gf := ⟨_, rfl⟩
  clear x1 x2 x3 ba bb f1 hf1 szw HR BM HX H1 HT
  go_upto_region 2 with (fail)
  rw [hw2] at TA F1
  try rw [hw2]
  rw [hgf] at TA
  try rw [hgf]
  clear hw2 hgf
  obtain ⟨y1, y2, y3, _⟩ := TA.out.box.cells
  obtain ⟨ht, a1, a2⟩ := F1.out.at_
  obtain rfl : t1 = false := ht.trans HNG.out
  have NA := Lib.hid a1
  have NB := Lib.hid a2
  clear ht a1 a2
  have T0 := Lib.hid (show NF w w2 (w.heap.size + 1) gf false B1 m1 d1 B1' m1' d1' q B1 m1 d1 q.num.natAbs from ⟨TA.out, NA.out, NB.out, NA.out, by omega⟩)
  go_wp2_with fail
  go_region_held3 (fun W' => (World.cell? W' ⟨gf, 0, none⟩ = some (.bool false) ∧ World.cell? W' ⟨gf, 1, none⟩ = some (.slice B1 m1 d1) ∧ World.cell? W' ⟨gf, 2, none⟩ = some (.slice B1' m1' d1') ∧ Hid (NF w W' (w.heap.size + 1) gf false B1 m1 d1 B1' m1' d1' q B1 m1 d1 (q.num.natAbs))))
    (with_reducible (first | assumption | exact T0.out.drew.cells | exact NF.next (by assumption) (by assumption) | exact NF.nextS (by assumption)))
    (first
       | (go_at_call 59
          refine (aShl _ m _ _ _ _ (NF.of (by assumption)).a (Nat.le_trans HF.out.1 (by omega)) (by omega)).mono ?_
          rintro e wb ⟨C1, x1, z1, rfl, i1, b1⟩)
       | (go_at_call 114
          refine (aDiv _ _ _ _ _ _ _ _ _ i1.out (NF.of (by assumption)).b (Nat.le_trans HXL.out (by omega)) (Nat.pos_of_ne_zero HD.out)).mono ?_
          rintro e wc ⟨C2, x2, z2, C3, x3, z3, rfl, i2, i3, b2⟩
          have hh := Lib.hid ((NF.of (by assumption)).below b2)))
  replace TA := Lib.hid hh.out.v
  replace NA := Lib.hid hh.out.a
  replace NB := Lib.hid hh.out.b
  clear hh T0 y1 y2 y3
  obtain ⟨y1, y2, y3, _⟩ := TA.out.box.cells
  go_wp2_with fail
  refine (aRoot _ k _ _ _ _ i2.out (Nat.le_trans (dig_length_mono B32_two (Nat.div_le_self _ _)) (Nat.le_trans HXL.out (by omega))) HK2.out (Nat.le_trans HK8.out (by omega))).mono ?_
  rw [HEX.out]
  rintro e wb ⟨C4, x4, z4, rfl, i4, bb⟩
  replace TA := Lib.hid (TA.out.below bb)
  replace NA := Lib.hid (NA.out.below bb)
  replace NB := Lib.hid (NB.out.below bb)
  replace i3 := Lib.hid (i3.out.below bb)
  clear bb y1 y2 y3
  obtain ⟨y1, y2, y3, _⟩ := TA.out.box.cells
  go_wp2_with fail
  refine (aZero _ _ _ _ _ i3.out).mono ?_
  rw [HRE.out]
  rintro e wb ⟨rfl, rfl⟩
  have LR := Lib.hid (show (W (irt k (q.num.natAbs * 2 ^ m / q.den))).length ≤ 200 from Nat.le_trans (dig_length_mono B32_two (Nat.le_trans (irt_self (Nat.lt_of_lt_of_le (by omega) HK2.out) _) (Nat.div_le_self _ _))) HXL.out)
  have L1 := Lib.hid (show (W 1).length ≤ 1 from (dig_length_le B32_two _ _).2 (by unfold B32; omega))
  go_wp2_with fail
  refine (aSmall1 _).mono ?_
  rintro e wb ⟨C5, x5, z5, rfl, i5, bb⟩
  replace TA := Lib.hid (TA.out.below bb)
  replace NA := Lib.hid (NA.out.below bb)
  replace NB := Lib.hid (NB.out.below bb)
  replace i4 := Lib.hid (i4.out.below bb)
  clear bb y1 y2 y3
  obtain ⟨y1, y2, y3, _⟩ := TA.out.box.cells
  go_wp2_with fail
  refine (aAdd _ _ _ _ _ _ _ _ _ i4.out i5.out (Nat.le_trans LR.out (by omega)) (Nat.le_trans L1.out (by omega))).mono ?_
  rintro e wb ⟨C6, x6, z6, rfl, i6, bb⟩
  replace TA := Lib.hid (TA.out.below bb)
  replace NA := Lib.hid (NA.out.below bb)
  replace NB := Lib.hid (NB.out.below bb)
  clear bb y1 y2 y3
  obtain ⟨y1, y2, y3, _⟩ := TA.out.box.cells
  have LQ := Lib.hid (show (W (irt k (q.num.natAbs * 2 ^ m / q.den) + 1)).length ≤ 300 by
    have e1 := LR.out
    have e2 := L1.out
    have e3 := W_add_length (irt k (q.num.natAbs * 2 ^ m / q.den)) 1
    omega)
  have LP := Lib.hid (show (W (1 * 2 ^ p)).length ≤ 300 by
    have e2 := W_two_pow p
    have := HP.out
    rw [Nat.one_mul]
    omega)
  obtain ⟨rn, hrn⟩ : ∃ x, irt k (q.num.natAbs * 2 ^ m / q.den) + 1 = x := ⟨_, rfl⟩
  rw [hrn] at i6 LQ HFIN
  have T0 := Lib.hid (show NF w _ (w.heap.size + 1) gf false B1 m1 d1 B1' m1' d1' q C6 x6 z6 rn from ⟨TA.out, NA.out, NB.out, i6.out, by omega⟩)
  go_wp2_with fail
  go_region_held3 (fun W' => (World.cell? W' ⟨gf, 0, none⟩ = some (.bool false) ∧ World.cell? W' ⟨gf, 1, none⟩ = some (.slice B1 m1 d1) ∧ World.cell? W' ⟨gf, 2, none⟩ = some (.slice B1' m1' d1') ∧ Hid (NF w W' (w.heap.size + 1) gf false B1 m1 d1 B1' m1' d1' q C6 x6 z6 rn)))
    (with_reducible (first | assumption | exact T0.out.drew.cells | exact NF.next (by assumption) (by assumption) | exact NF.nextS (by assumption)))
    (first
       | (go_at_call 85
          refine (aSmall1 _).mono ?_
          rintro e wb ⟨C7, x7, z7, rfl, i7, b7⟩)
       | (go_at_call 59
          refine (aShl _ p _ _ _ _ i7.out (Nat.le_trans L1.out (by omega)) (Nat.le_trans HP.out (by omega))).mono ?_
          rintro e wc ⟨C8, x8, z8, rfl, i8, b8⟩)
       | (go_at_call 58
          refine (aReduce false _ _ _ _ _ _ _ _ _ (NF.of (by assumption)).c i8.out (by rw [Nat.one_mul]; exact Nat.ne_of_gt (Nat.two_pow_pos p)) (Nat.le_trans LQ.out (by omega)) (Nat.le_trans LP.out (by omega)) (NF.of (by assumption)).v.tab r HFIN.out).mono ?_
          rintro e wd ⟨t9, B9, m9, d9, B9', m9', d9', rfl, i9, b9⟩)
       | (go_at_call 80
          refine (giveF _ _ _ i9.out).mono ?_
          rintro e we ⟨s9, A9, n9, c9, A9', n9', c9', k9, rfl, h9, b10⟩
          have hh := (NF.of (by assumption)).below b10
          obtain ⟨z1, z2, z3, hz1, hz2, hz3, k1, k2, k3⟩ := hh.v.res.cells))
  obtain ⟨q0, q1, q2, hs, hb⟩ := OutIs.stored h9 hh.v.res hh.v.bel hh.v.n3
  have Q := Lib.hid (And.intro q0 (And.intro q1 q2))
  have HS := Lib.hid hs
  have HBB := Lib.hid hb
  clear q0 q1 q2 hs hb h9
  go_wp2
  obtain ⟨q0, q1, q2⟩ := Q.out
  refine bodyPost_ret (v := .tuple #[.agg #[.bool s9, .slice A9 n9 c9, .slice A9' n9' c9'], .int .i64 k9]) (by simp [results, Tryd.results96, go_sem, q0, q1, q2]) rfl ?_
  rw [← HO.out]
  exact ⟨_, _, _, _, _, _, _, _, rfl, HS.out, HBB.out⟩
set_option maxHeartbeats 2000000 in
set_option maxRecDepth 100000 in
theorem nroot_false_true_inexact (s1 : Bool) (N1' D1' : Nat) (k p : Nat) (h2 : 2 ≤ k) (h8 : k ≤ 8) (hp : p ≤ 256) (hs : ng (ratOf s1 N1' D1') = false) (x1 : decide (irt k ((ratOf s1 N1' D1').num.natAbs * 2 ^ (p * k) / (ratOf s1 N1' D1').den) ^ k = (ratOf s1 N1' D1').num.natAbs * 2 ^ (p * k) / (ratOf s1 N1' D1').den) = false) (r : Rat) (hr : grtQ (ratOf s1 N1' D1') k p true = r) (w : World) (v1 : Value) (h1 : RawV w v1 s1 N1' D1') (hT : Tab w) (q : Rat) (hq : ratOf s1 N1' D1' = q) (hL : largeB s1 N1' D1' = false) :
    Calls Tryd.prog 96 #[v1, .int .i64 (k : Int), .int .i64 (p : Int), .bool true] w (OutPost w (give r)) := by
  have H1 := Lib.hid h1
  have HT := Lib.hid hT
  obtain ⟨A1, n1, c1, A1', n1', c1', rfl⟩ := h1.shape
  clear h1 hT
  obtain ⟨M, hM, k1, k3, bM⟩ := start1 w (.bool s1) (.slice A1 n1 c1) (.slice A1' n1' c1') (.bool false) (.slice none 0 0) (.slice none 0 0) 24 24
  have HX := Lib.hid k1
  have HR := Lib.hid (show Res M (w.heap.size + 1) 24 from ⟨_, _, _, NI.bool _, NI.slice _ _ _, NI.slice _ _ _, k3⟩)
  have BM := Lib.hid bM
  replace H1 := Lib.hid (H1.out.below bM)
  replace HT := Lib.hid (HT.out.below bM)
  have HQ := Lib.hid hq
  have HL := Lib.hid hL
  have hf := (largeB_false hL).2.2
  rw [hq] at hf
  have HF := Lib.hid hf
  clear hf
  have hp1 : decide ((k : Int) < 2) = false := decide_eq_false (by omega)
  have hp1' : decide (k < 2) = false := decide_eq_false (by omega)
  have hp2 : decide (8 < (k : Int)) = false := decide_eq_false (by omega)
  have hp2' : decide (8 < k) = false := decide_eq_false (by omega)
  have hp3 : decide ((p : Int) < 0) = false := decide_eq_false (by omega)
  have hp4 : decide (256 < (p : Int)) = false := decide_eq_false (by omega)
  have hp4' : decide (256 < p) = false := decide_eq_false (by omega)
  have hm := tmod_two k
  have hm2 : IntKind.i64.wrap ((k % 2 : Nat) : Int) = ((k % 2 : Nat) : Int) := wraps_i64 _ (by omega) (by omega)
  have HK2 := Lib.hid h2
  have HK8 := Lib.hid h8
  have HP := Lib.hid hp
  rw [hq] at hs
  have HNG := Lib.hid hs
  clear hs
  rw [hq] at hr
  have HR2 := Lib.hid hr
  obtain ⟨m, hmk⟩ : ∃ m, p * k = m := ⟨_, rfl⟩
  have hmi : (p : Int) * (k : Int) = (m : Int) := by rw [← hmk]; push_cast; rfl
  have hmb : m ≤ 2048 := by rw [← hmk]; exact Nat.mul_le_mul hp h8
  have HMK := Lib.hid hmk
  have u1 : IntKind.i64.wrap (m : Int) = (m : Int) := wrap_i64 _ (by omega) (by omega)
  have u2 : wrap64 (m : Int) = (m : Int) := by unfold wrap64; omega
  have u3 : IntKind.i64.wrap (p : Int) = (p : Int) := wrap_i64 _ (by omega) (by omega)
  have HXL := Lib.hid (show (W (q.num.natAbs * 2 ^ m)).length ≤ 200 by
    have e1 := W_mul_length q.num.natAbs (2 ^ m)
    have e2 := W_two_pow m
    have := HF.out.1
    omega)
  have HD := Lib.hid q.den_nz
  clear hr hmk
  rw [hq, HMK.out] at x1
  have HEX := Lib.hid x1
  clear x1
  have HFIN := Lib.hid (show mkRat (sg false (irt k (q.num.natAbs * 2 ^ m / q.den) + 1)) (1 * 2 ^ p) = r by
    rw [← HR2.out]
    unfold grtQ rootN
    rw [HNG.out, HMK.out, Nat.one_mul]
    have e1 := of_decide_eq_false HEX.out
    rw [if_pos ⟨rfl, by simp [e1]⟩])
  obtain ⟨o, ho⟩ : ∃ o, give r = o := ⟨_, rfl⟩
  have HO := Lib.hid ho
  rw [ho]
  clear hq hL k1 k3 bM ho
  go_enter Tryd.func96, Tryd.ntmps96
  go_upto_region 1 with (fail)
  rw [← hM]
  clear hM
  obtain ⟨x1, x2, x3, _, _, _⟩ := HX.out.cells
  go_wp2_with fail
  refine (readV _ s1 N1' D1' _ H1.out HT.out).mono ?_
  rw [HL.out, Bool.not_false]
  rintro e wa ⟨t1, B1, m1, d1, B1', m1', d1', rfl, f1, ba⟩
  have bb := below_step ba ba.size (below_alloc wa (.cells #[.bool t1, .slice B1 m1 d1, .slice B1' m1' d1'] 60))
  have hf1 := Box.new wa (.bool t1) (.slice B1 m1 d1) (.slice B1' m1' d1') 60
  have szw : w.heap.size + 1 < wa.heap.size := Nat.lt_of_lt_of_le (by obtain ⟨_, _, _, _, _, _, hh⟩ := HR.out; exact hh.lt) ba.size
  have TA : Hid (N1 w (wa.alloc (.cells #[.bool t1, .slice B1 m1 d1, .slice B1' m1' d1'] 60)) (w.heap.size + 1) wa.heap.size t1 B1 m1 d1 B1' m1' d1') :=
    Lib.hid ⟨HR.out.below bb, hf1, HT.out.below bb, below_step BM.out BM.out.size bb, by omega, by omega⟩
  have F1 : Hid (IsF (wa.alloc (.cells #[.bool t1, .slice B1 m1 d1, .slice B1' m1' d1'] 60)) (.agg #[.bool t1, .slice B1 m1 d1, .slice B1' m1' d1']) q) := Lib.hid (by rw [← HQ.out]; exact (f1.out rfl).below (below_alloc _ _))
  obtain ⟨w2, hw2⟩ : ∃ w2, wa.alloc (.cells #[.bool t1, .slice B1 m1 d1, .slice B1' m1' d1'] 60) = w2 := ⟨_, rfl⟩
  obtain ⟨gf, hgf⟩ : ∃ gf, wa.heap.size = gf := ⟨_, rfl⟩
  clear x1 x2 x3 ba bb f1 hf1 szw HR BM HX H1 HT
  go_upto_region 2 with (fail)
  rw [hw2] at TA F1
  try rw [hw2]
  rw [hgf] at TA
  try rw [hgf]
  clear hw2 hgf
  obtain ⟨y1, y2, y3, _⟩ := TA.out.box.cells
  obtain ⟨ht, a1, a2⟩ := F1.out.at_
  obtain rfl : t1 = false := ht.trans HNG.out
  have NA := Lib.hid a1
  have NB := Lib.hid a2
  clear ht a1 a2
  have T0 := Lib.hid (show NF w w2 (w.heap.size + 1) gf false B1 m1 d1 B1' m1' d1' q B1 m1 d1 q.num.natAbs from ⟨TA.out, NA.out, NB.out, NA.out, by omega⟩)
  go_wp2_with fail
  go_region_held3 (fun W' => (World.cell? W' ⟨gf, 0, none⟩ = some (.bool false) ∧ World.cell? W' ⟨gf, 1, none⟩ = some (.slice B1 m1 d1) ∧ World.cell? W' ⟨gf, 2, none⟩ = some (.slice B1' m1' d1') ∧ Hid (NF w W' (w.heap.size + 1) gf false B1 m1 d1 B1' m1' d1' q B1 m1 d1 (q.num.natAbs))))
    (with_reducible (first | assumption | exact T0.out.drew.cells | exact NF.next (by assumption) (by assumption) | exact NF.nextS (by assumption)))
    (first
       | (go_at_call 59
          refine (aShl _ m _ _ _ _ (NF.of (by assumption)).a (Nat.le_trans HF.out.1 (by omega)) (by omega)).mono ?_
          rintro e wb ⟨C1, x1, z1, rfl, i1, b1⟩)
       | (go_at_call 114
          refine (aDiv _ _ _ _ _ _ _ _ _ i1.out (NF.of (by assumption)).b (Nat.le_trans HXL.out (by omega)) (Nat.pos_of_ne_zero HD.out)).mono ?_
          rintro e wc ⟨C2, x2, z2, C3, x3, z3, rfl, i2, i3, b2⟩
          have hh := Lib.hid ((NF.of (by assumption)).below b2)))
  replace TA := Lib.hid hh.out.v
  replace NA := Lib.hid hh.out.a
  replace NB := Lib.hid hh.out.b
  clear hh T0 y1 y2 y3
  obtain ⟨y1, y2, y3, _⟩ := TA.out.box.cells
  go_wp2_with fail
  refine (aRoot _ k _ _ _ _ i2.out (Nat.le_trans (dig_length_mono B32_two (Nat.div_le_self _ _)) (Nat.le_trans HXL.out (by omega))) HK2.out (Nat.le_trans HK8.out (by omega))).mono ?_
  rw [HEX.out]
  rintro e wb ⟨C4, x4, z4, rfl, i4, bb⟩
  replace TA := Lib.hid (TA.out.below bb)
  replace NA := Lib.hid (NA.out.below bb)
  replace NB := Lib.hid (NB.out.below bb)
  replace i3 := Lib.hid (i3.out.below bb)
  clear bb y1 y2 y3
  obtain ⟨y1, y2, y3, _⟩ := TA.out.box.cells
  have LR := Lib.hid (show (W (irt k (q.num.natAbs * 2 ^ m / q.den))).length ≤ 200 from Nat.le_trans (dig_length_mono B32_two (Nat.le_trans (irt_self (Nat.lt_of_lt_of_le (by omega) HK2.out) _) (Nat.div_le_self _ _))) HXL.out)
  have L1 := Lib.hid (show (W 1).length ≤ 1 from (dig_length_le B32_two _ _).2 (by unfold B32; omega))
  go_wp2_with fail
  refine (aSmall1 _).mono ?_
  rintro e wb ⟨C5, x5, z5, rfl, i5, bb⟩
  replace TA := Lib.hid (TA.out.below bb)
  replace NA := Lib.hid (NA.out.below bb)
  replace NB := Lib.hid (NB.out.below bb)
  replace i4 := Lib.hid (i4.out.below bb)
  clear bb y1 y2 y3
  obtain ⟨y1, y2, y3, _⟩ := TA.out.box.cells
  go_wp2_with fail
  refine (aAdd _ _ _ _ _ _ _ _ _ i4.out i5.out (Nat.le_trans LR.out (by omega)) (Nat.le_trans L1.out (by omega))).mono ?_
  rintro e wb ⟨C6, x6, z6, rfl, i6, bb⟩
  replace TA := Lib.hid (TA.out.below bb)
  replace NA := Lib.hid (NA.out.below bb)
  replace NB := Lib.hid (NB.out.below bb)
  clear bb y1 y2 y3
  obtain ⟨y1, y2, y3, _⟩ := TA.out.box.cells
  have LQ := Lib.hid (show (W (irt k (q.num.natAbs * 2 ^ m / q.den) + 1)).length ≤ 300 by
    have e1 := LR.out
    have e2 := L1.out
    have e3 := W_add_length (irt k (q.num.natAbs * 2 ^ m / q.den)) 1
    omega)
  have LP := Lib.hid (show (W (1 * 2 ^ p)).length ≤ 300 by
    have e2 := W_two_pow p
    have := HP.out
    rw [Nat.one_mul]
    omega)
  obtain ⟨rn, hrn⟩ : ∃ x, irt k (q.num.natAbs * 2 ^ m / q.den) + 1 = x := ⟨_, rfl⟩
  rw [hrn] at i6 LQ HFIN
  have T0 := Lib.hid (show NF w _ (w.heap.size + 1) gf false B1 m1 d1 B1' m1' d1' q C6 x6 z6 rn from ⟨TA.out, NA.out, NB.out, i6.out, by omega⟩)
  go_wp2_with fail
  go_region_held3 (fun W' => (World.cell? W' ⟨gf, 0, none⟩ = some (.bool false) ∧ World.cell? W' ⟨gf, 1, none⟩ = some (.slice B1 m1 d1) ∧ World.cell? W' ⟨gf, 2, none⟩ = some (.slice B1' m1' d1') ∧ Hid (NF w W' (w.heap.size + 1) gf false B1 m1 d1 B1' m1' d1' q C6 x6 z6 rn)))
    (with_reducible (first | assumption | exact T0.out.drew.cells | exact NF.next (by assumption) (by assumption) | exact NF.nextS (by assumption)))
    (first
       | (go_at_call 85
          refine (aSmall1 _).mono ?_
          rintro e wb ⟨C7, x7, z7, rfl, i7, b7⟩)
       | (go_at_call 59
          refine (aShl _ p _ _ _ _ i7.out (Nat.le_trans L1.out (by omega)) (Nat.le_trans HP.out (by omega))).mono ?_
          rintro e wc ⟨C8, x8, z8, rfl, i8, b8⟩)
       | (go_at_call 58
          refine (aReduce false _ _ _ _ _ _ _ _ _ (NF.of (by assumption)).c i8.out (by rw [Nat.one_mul]; exact Nat.ne_of_gt (Nat.two_pow_pos p)) (Nat.le_trans LQ.out (by omega)) (Nat.le_trans LP.out (by omega)) (NF.of (by assumption)).v.tab r HFIN.out).mono ?_
          rintro e wd ⟨t9, B9, m9, d9, B9', m9', d9', rfl, i9, b9⟩)
       | (go_at_call 80
          refine (giveF _ _ _ i9.out).mono ?_
          rintro e we ⟨s9, A9, n9, c9, A9', n9', c9', k9, rfl, h9, b10⟩
          have hh := (NF.of (by assumption)).below b10
          obtain ⟨z1, z2, z3, hz1, hz2, hz3, k1, k2, k3⟩ := hh.v.res.cells))
  obtain ⟨q0, q1, q2, hs, hb⟩ := OutIs.stored h9 hh.v.res hh.v.bel hh.v.n3
  have Q := Lib.hid (And.intro q0 (And.intro q1 q2))
  have HS := Lib.hid hs
  have HBB := Lib.hid hb
  clear q0 q1 q2 hs hb h9
  go_wp2
  obtain ⟨q0, q1, q2⟩ := Q.out
  refine bodyPost_ret (v := .tuple #[.agg #[.bool s9, .slice A9 n9 c9, .slice A9' n9' c9'], .int .i64 k9]) (by simp [results, Tryd.results96, go_sem, q0, q1, q2]) rfl ?_
  rw [← HO.out]
  exact ⟨_, _, _, _, _, _, _, _, rfl, HS.out, HBB.out⟩
set_option maxHeartbeats 2000000 in
set_option maxRecDepth 100000 in
theorem nroot_true_false_exact (s1 : Bool) (N1' D1' : Nat) (k p : Nat) (h2 : 2 ≤ k) (h8 : k ≤ 8) (hp : p ≤ 256) (hs : ng (ratOf s1 N1' D1') = true) (ho : k % 2 = 1) (x1 : decide (irt k ((ratOf s1 N1' D1').num.natAbs * 2 ^ (p * k) / (ratOf s1 N1' D1').den) ^ k = (ratOf s1 N1' D1').num.natAbs * 2 ^ (p * k) / (ratOf s1 N1' D1').den) = true) (x2 : decide ((ratOf s1 N1' D1').num.natAbs * 2 ^ (p * k) % (ratOf s1 N1' D1').den = 0) = true) (r : Rat) (hr : grtQ (ratOf s1 N1' D1') k p false = r) (w : World) (v1 : Value) (h1 : RawV w v1 s1 N1' D1') (hT : Tab w) (q : Rat) (hq : ratOf s1 N1' D1' = q) (hL : largeB s1 N1' D1' = false) :
    Calls Tryd.prog 96 #[v1, .int .i64 (k : Int), .int .i64 (p : Int), .bool false] w (OutPost w (give r)) := by
  have H1 := Lib.hid h1
  have HT := Lib.hid hT
  obtain ⟨A1, n1, c1, A1', n1', c1', rfl⟩ := h1.shape
  clear h1 hT
  obtain ⟨M, hM, k1, k3, bM⟩ := start1 w (.bool s1) (.slice A1 n1 c1) (.slice A1' n1' c1') (.bool false) (.slice none 0 0) (.slice none 0 0) 24 24
  have HX := Lib.hid k1
  have HR := Lib.hid (show Res M (w.heap.size + 1) 24 from ⟨_, _, _, NI.bool _, NI.slice _ _ _, NI.slice _ _ _, k3⟩)
  have BM := Lib.hid bM
  replace H1 := Lib.hid (H1.out.below bM)
  replace HT := Lib.hid (HT.out.below bM)
  have HQ := Lib.hid hq
  have HL := Lib.hid hL
  have hf := (largeB_false hL).2.2
  rw [hq] at hf
  have HF := Lib.hid hf
  clear hf
  have hp1 : decide ((k : Int) < 2) = false := decide_eq_false (by omega)
  have hp1' : decide (k < 2) = false := decide_eq_false (by omega)
  have hp2 : decide (8 < (k : Int)) = false := decide_eq_false (by omega)
  have hp2' : decide (8 < k) = false := decide_eq_false (by omega)
  have hp3 : decide ((p : Int) < 0) = false := decide_eq_false (by omega)
  have hp4 : decide (256 < (p : Int)) = false := decide_eq_false (by omega)
  have hp4' : decide (256 < p) = false := decide_eq_false (by omega)
  have hm := tmod_two k
  have hm2 : IntKind.i64.wrap ((k % 2 : Nat) : Int) = ((k % 2 : Nat) : Int) := wraps_i64 _ (by omega) (by omega)
  have HK2 := Lib.hid h2
  have HK8 := Lib.hid h8
  have HP := Lib.hid hp
  rw [hq] at hs
  have HNG := Lib.hid hs
  clear hs
  rw [ho] at hm hm2
  clear ho
  rw [hq] at hr
  have HR2 := Lib.hid hr
  obtain ⟨m, hmk⟩ : ∃ m, p * k = m := ⟨_, rfl⟩
  have hmi : (p : Int) * (k : Int) = (m : Int) := by rw [← hmk]; push_cast; rfl
  have hmb : m ≤ 2048 := by rw [← hmk]; exact Nat.mul_le_mul hp h8
  have HMK := Lib.hid hmk
  have u1 : IntKind.i64.wrap (m : Int) = (m : Int) := wrap_i64 _ (by omega) (by omega)
  have u2 : wrap64 (m : Int) = (m : Int) := by unfold wrap64; omega
  have u3 : IntKind.i64.wrap (p : Int) = (p : Int) := wrap_i64 _ (by omega) (by omega)
  have HXL := Lib.hid (show (W (q.num.natAbs * 2 ^ m)).length ≤ 200 by
    have e1 := W_mul_length q.num.natAbs (2 ^ m)
    have e2 := W_two_pow m
    have := HF.out.1
    omega)
  have HD := Lib.hid q.den_nz
  clear hr hmk
  rw [hq, HMK.out] at x1
  have HEX := Lib.hid x1
  clear x1
  rw [hq, HMK.out] at x2
  have HRE := Lib.hid x2
  clear x2
  have HFIN := Lib.hid (show mkRat (sg true (irt k (q.num.natAbs * 2 ^ m / q.den))) (1 * 2 ^ p) = r by
    rw [← HR2.out]
    unfold grtQ rootN
    rw [HNG.out, HMK.out, Nat.one_mul]
    have e1 := of_decide_eq_true HEX.out
    have e2 := of_decide_eq_true HRE.out
    rw [if_neg (by rw [e1, e2]; simp)]
    rw [Nat.add_zero])
  obtain ⟨o, ho⟩ : ∃ o, give r = o := ⟨_, rfl⟩
  have HO := Lib.hid ho
  rw [ho]
  clear hq hL k1 k3 bM ho
  go_enter Tryd.func96, Tryd.ntmps96
  go_upto_region 1 with (fail)
  rw [← hM]
  clear hM
  obtain ⟨x1, x2, x3, _, _, _⟩ := HX.out.cells
  go_wp2_with fail
  refine (readV _ s1 N1' D1' _ H1.out HT.out).mono ?_
  rw [HL.out, Bool.not_false]
  rintro e wa ⟨t1, B1, m1, d1, B1', m1', d1', rfl, f1, ba⟩
  have bb := below_step ba ba.size (below_alloc wa (.cells #[.bool t1, .slice B1 m1 d1, .slice B1' m1' d1'] 60))
  have hf1 := Box.new wa (.bool t1) (.slice B1 m1 d1) (.slice B1' m1' d1') 60
  have szw : w.heap.size + 1 < wa.heap.size := Nat.lt_of_lt_of_le (by obtain ⟨_, _, _, _, _, _, hh⟩ := HR.out; exact hh.lt) ba.size
  have TA : Hid (N1 w (wa.alloc (.cells #[.bool t1, .slice B1 m1 d1, .slice B1' m1' d1'] 60)) (w.heap.size + 1) wa.heap.size t1 B1 m1 d1 B1' m1' d1') :=
    Lib.hid ⟨HR.out.below bb, hf1, HT.out.below bb, below_step BM.out BM.out.size bb, by omega, by omega⟩
  have F1 : Hid (IsF (wa.alloc (.cells #[.bool t1, .slice B1 m1 d1, .slice B1' m1' d1'] 60)) (.agg #[.bool t1, .slice B1 m1 d1, .slice B1' m1' d1']) q) := Lib.hid (by rw [← HQ.out]; exact (f1.out rfl).below (below_alloc _ _))
  obtain ⟨w2, hw2⟩ : ∃ w2, wa.alloc (.cells #[.bool t1, .slice B1 m1 d1, .slice B1' m1' d1'] 60) = w2 := ⟨_, rfl⟩
  obtain ⟨gf, hgf⟩ : ∃ gf, wa.heap.size = gf := ⟨_, rfl⟩
  clear x1 x2 x3 ba bb f1 hf1 szw HR BM HX H1 HT
  go_upto_region 2 with (fail)
  rw [hw2] at TA F1
  try rw [hw2]
  rw [hgf] at TA
  try rw [hgf]
  clear hw2 hgf
  obtain ⟨y1, y2, y3, _⟩ := TA.out.box.cells
  obtain ⟨ht, a1, a2⟩ := F1.out.at_
  obtain rfl : t1 = true := ht.trans HNG.out
  have NA := Lib.hid a1
  have NB := Lib.hid a2
  clear ht a1 a2
  have T0 := Lib.hid (show NF w w2 (w.heap.size + 1) gf true B1 m1 d1 B1' m1' d1' q B1 m1 d1 q.num.natAbs from ⟨TA.out, NA.out, NB.out, NA.out, by omega⟩)
  go_wp2_with fail
  go_region_held3 (fun W' => (World.cell? W' ⟨gf, 0, none⟩ = some (.bool true) ∧ World.cell? W' ⟨gf, 1, none⟩ = some (.slice B1 m1 d1) ∧ World.cell? W' ⟨gf, 2, none⟩ = some (.slice B1' m1' d1') ∧ Hid (NF w W' (w.heap.size + 1) gf true B1 m1 d1 B1' m1' d1' q B1 m1 d1 (q.num.natAbs))))
    (with_reducible (first | assumption | exact T0.out.drew.cells | exact NF.next (by assumption) (by assumption) | exact NF.nextS (by assumption)))
    (first
       | (go_at_call 59
          refine (aShl _ m _ _ _ _ (NF.of (by assumption)).a (Nat.le_trans HF.out.1 (by omega)) (by omega)).mono ?_
          rintro e wb ⟨C1, x1, z1, rfl, i1, b1⟩)
       | (go_at_call 114
          refine (aDiv _ _ _ _ _ _ _ _ _ i1.out (NF.of (by assumption)).b (Nat.le_trans HXL.out (by omega)) (Nat.pos_of_ne_zero HD.out)).mono ?_
          rintro e wc ⟨C2, x2, z2, C3, x3, z3, rfl, i2, i3, b2⟩
          have hh := Lib.hid ((NF.of (by assumption)).below b2)))
  replace TA := Lib.hid hh.out.v
  replace NA := Lib.hid hh.out.a
  replace NB := Lib.hid hh.out.b
  clear hh T0 y1 y2 y3
  obtain ⟨y1, y2, y3, _⟩ := TA.out.box.cells
  go_wp2_with fail
  refine (aRoot _ k _ _ _ _ i2.out (Nat.le_trans (dig_length_mono B32_two (Nat.div_le_self _ _)) (Nat.le_trans HXL.out (by omega))) HK2.out (Nat.le_trans HK8.out (by omega))).mono ?_
  rw [HEX.out]
  rintro e wb ⟨C4, x4, z4, rfl, i4, bb⟩
  replace TA := Lib.hid (TA.out.below bb)
  replace NA := Lib.hid (NA.out.below bb)
  replace NB := Lib.hid (NB.out.below bb)
  replace i3 := Lib.hid (i3.out.below bb)
  clear bb y1 y2 y3
  obtain ⟨y1, y2, y3, _⟩ := TA.out.box.cells
  go_wp2_with fail
  refine (aZero _ _ _ _ _ i3.out).mono ?_
  rw [HRE.out]
  rintro e wb ⟨rfl, rfl⟩
  have LR := Lib.hid (show (W (irt k (q.num.natAbs * 2 ^ m / q.den))).length ≤ 200 from Nat.le_trans (dig_length_mono B32_two (Nat.le_trans (irt_self (Nat.lt_of_lt_of_le (by omega) HK2.out) _) (Nat.div_le_self _ _))) HXL.out)
  have L1 := Lib.hid (show (W 1).length ≤ 1 from (dig_length_le B32_two _ _).2 (by unfold B32; omega))
  have LQ := Lib.hid (show (W (irt k (q.num.natAbs * 2 ^ m / q.den))).length ≤ 300 by
    have e1 := LR.out
    have e2 := L1.out
    skip
    omega)
  have LP := Lib.hid (show (W (1 * 2 ^ p)).length ≤ 300 by
    have e2 := W_two_pow p
    have := HP.out
    rw [Nat.one_mul]
    omega)
  obtain ⟨rn, hrn⟩ : ∃ x, irt k (q.num.natAbs * 2 ^ m / q.den) = x := ⟨_, rfl⟩
  rw [hrn] at i4 LQ HFIN
  have T0 := Lib.hid (show NF w _ (w.heap.size + 1) gf true B1 m1 d1 B1' m1' d1' q C4 x4 z4 rn from ⟨TA.out, NA.out, NB.out, i4.out, by omega⟩)
  go_wp2_with fail
  go_region_held3 (fun W' => (World.cell? W' ⟨gf, 0, none⟩ = some (.bool true) ∧ World.cell? W' ⟨gf, 1, none⟩ = some (.slice B1 m1 d1) ∧ World.cell? W' ⟨gf, 2, none⟩ = some (.slice B1' m1' d1') ∧ Hid (NF w W' (w.heap.size + 1) gf true B1 m1 d1 B1' m1' d1' q C4 x4 z4 rn)))
    (with_reducible (first | assumption | exact T0.out.drew.cells | exact NF.next (by assumption) (by assumption) | exact NF.nextS (by assumption)))
    (first
       | (go_at_call 85
          refine (aSmall1 _).mono ?_
          rintro e wb ⟨C7, x7, z7, rfl, i7, b7⟩)
       | (go_at_call 59
          refine (aShl _ p _ _ _ _ i7.out (Nat.le_trans L1.out (by omega)) (Nat.le_trans HP.out (by omega))).mono ?_
          rintro e wc ⟨C8, x8, z8, rfl, i8, b8⟩)
       | (go_at_call 58
          refine (aReduce true _ _ _ _ _ _ _ _ _ (NF.of (by assumption)).c i8.out (by rw [Nat.one_mul]; exact Nat.ne_of_gt (Nat.two_pow_pos p)) (Nat.le_trans LQ.out (by omega)) (Nat.le_trans LP.out (by omega)) (NF.of (by assumption)).v.tab r HFIN.out).mono ?_
          rintro e wd ⟨t9, B9, m9, d9, B9', m9', d9', rfl, i9, b9⟩)
       | (go_at_call 80
          refine (giveF _ _ _ i9.out).mono ?_
          rintro e we ⟨s9, A9, n9, c9, A9', n9', c9', k9, rfl, h9, b10⟩
          have hh := (NF.of (by assumption)).below b10
          obtain ⟨z1, z2, z3, hz1, hz2, hz3, k1, k2, k3⟩ := hh.v.res.cells))
  obtain ⟨q0, q1, q2, hs, hb⟩ := OutIs.stored h9 hh.v.res hh.v.bel hh.v.n3
  have Q := Lib.hid (And.intro q0 (And.intro q1 q2))
  have HS := Lib.hid hs
  have HBB := Lib.hid hb
  clear q0 q1 q2 hs hb h9
  go_wp2
  obtain ⟨q0, q1, q2⟩ := Q.out
  refine bodyPost_ret (v := .tuple #[.agg #[.bool s9, .slice A9 n9 c9, .slice A9' n9' c9'], .int .i64 k9]) (by simp [results, Tryd.results96, go_sem, q0, q1, q2]) rfl ?_
  rw [← HO.out]
  exact ⟨_, _, _, _, _, _, _, _, rfl, HS.out, HBB.out⟩
set_option maxHeartbeats 2000000 in
set_option maxRecDepth 100000 in
theorem nroot_true_false_rest (s1 : Bool) (N1' D1' : Nat) (k p : Nat) (h2 : 2 ≤ k) (h8 : k ≤ 8) (hp : p ≤ 256) (hs : ng (ratOf s1 N1' D1') = true) (ho : k % 2 = 1) (x1 : decide (irt k ((ratOf s1 N1' D1').num.natAbs * 2 ^ (p * k) / (ratOf s1 N1' D1').den) ^ k = (ratOf s1 N1' D1').num.natAbs * 2 ^ (p * k) / (ratOf s1 N1' D1').den) = true) (x2 : decide ((ratOf s1 N1' D1').num.natAbs * 2 ^ (p * k) % (ratOf s1 N1' D1').den = 0) = false) (r : Rat) (hr : grtQ (ratOf s1 N1' D1') k p false = r) (w : World) (v1 : Value) (h1 : RawV w v1 s1 N1' D1') (hT : Tab w) (q : Rat) (hq : ratOf s1 N1' D1' = q) (hL : largeB s1 N1' D1' = false) :
    Calls Tryd.prog 96 #[v1, .int .i64 (k : Int), .int .i64 (p : Int), .bool false] w (OutPost w (give r)) := by
  have H1 := Lib.hid h1
  have HT := Lib.hid hT
  obtain ⟨A1, n1, c1, A1', n1', c1', rfl⟩ := h1.shape
  clear h1 hT
  obtain ⟨M, hM, k1, k3, bM⟩ := start1 w (.bool s1) (.slice A1 n1 c1) (.slice A1' n1' c1') (.bool false) (.slice none 0 0) (.slice none 0 0) 24 24
  have HX := Lib.hid k1
  have HR := Lib.hid (show Res M (w.heap.size + 1) 24 from ⟨_, _, _, NI.bool _, NI.slice _ _ _, NI.slice _ _ _, k3⟩)
  have BM := Lib.hid bM
  replace H1 := Lib.hid (H1.out.below bM)
  replace HT := Lib.hid (HT.out.below bM)
  have HQ := Lib.hid hq
  have HL := Lib.hid hL
  have hf := (largeB_false hL).2.2
  rw [hq] at hf
  have HF := Lib.hid hf
  clear hf
  have hp1 : decide ((k : Int) < 2) = false := decide_eq_false (by omega)
  have hp1' : decide (k < 2) = false := decide_eq_false (by omega)
  have hp2 : decide (8 < (k : Int)) = false := decide_eq_false (by omega)
  have hp2' : decide (8 < k) = false := decide_eq_false (by omega)
  have hp3 : decide ((p : Int) < 0) = false := decide_eq_false (by omega)
  have hp4 : decide (256 < (p : Int)) = false := decide_eq_false (by omega)
  have hp4' : decide (256 < p) = false := decide_eq_false (by omega)
  have hm := tmod_two k
  have hm2 : IntKind.i64.wrap ((k % 2 : Nat) : Int) = ((k % 2 : Nat) : Int) := wraps_i64 _ (by omega) (by omega)
  have HK2 := Lib.hid h2
  have HK8 := Lib.hid h8
  have HP := Lib.hid hp
  rw [hq] at hs
  have HNG := Lib.hid hs
  clear hs
  rw [ho] at hm hm2
  clear ho
  rw [hq] at hr
  have HR2 := Lib.hid hr
  obtain ⟨m, hmk⟩ : ∃ m, p * k = m := ⟨_, rfl⟩
  have hmi : (p : Int) * (k : Int) = (m : Int) := by rw [← hmk]; push_cast; rfl
  have hmb : m ≤ 2048 := by rw [← hmk]; exact Nat.mul_le_mul hp h8
  have HMK := Lib.hid hmk
  have u1 : IntKind.i64.wrap (m : Int) = (m : Int) := wrap_i64 _ (by omega) (by omega)
  have u2 : wrap64 (m : Int) = (m : Int) := by unfold wrap64; omega
  have u3 : IntKind.i64.wrap (p : Int) = (p : Int) := wrap_i64 _ (by omega) (by omega)
  have HXL := Lib.hid (show (W (q.num.natAbs * 2 ^ m)).length ≤ 200 by
    have e1 := W_mul_length q.num.natAbs (2 ^ m)
    have e2 := W_two_pow m
    have := HF.out.1
    omega)
  have HD := Lib.hid q.den_nz
  clear hr hmk
  rw [hq, HMK.out] at x1
  have HEX := Lib.hid x1
  clear x1
  rw [hq, HMK.out] at x2
  have HRE := Lib.hid x2
  clear x2
  have HFIN := Lib.hid (show mkRat (sg true (irt k (q.num.natAbs * 2 ^ m / q.den) + 1)) (1 * 2 ^ p) = r by
    rw [← HR2.out]
    unfold grtQ rootN
    rw [HNG.out, HMK.out, Nat.one_mul]
    have e1 := of_decide_eq_true HEX.out
    have e2 := of_decide_eq_false HRE.out
    rw [if_pos ⟨rfl, by simp [e2]⟩])
  obtain ⟨o, ho⟩ : ∃ o, give r = o := ⟨_, rfl⟩
  have HO := Lib.hid ho
  rw [ho]
  clear hq hL k1 k3 bM ho
  go_enter Tryd.func96, Tryd.ntmps96
  go_upto_region 1 with (fail)
  rw [← hM]
  clear hM
  obtain ⟨x1, x2, x3, _, _, _⟩ := HX.out.cells
  go_wp2_with fail
  refine (readV _ s1 N1' D1' _ H1.out HT.out).mono ?_
  rw [HL.out, Bool.not_false]
  rintro e wa ⟨t1, B1, m1, d1, B1', m1', d1', rfl, f1, ba⟩
  have bb := below_step ba ba.size (below_alloc wa (.cells #[.bool t1, .slice B1 m1 d1, .slice B1' m1' d1'] 60))
  have hf1 := Box.new wa (.bool t1) (.slice B1 m1 d1) (.slice B1' m1' d1') 60
  have szw : w.heap.size + 1 < wa.heap.size := Nat.lt_of_lt_of_le (by obtain ⟨_, _, _, _, _, _, hh⟩ := HR.out; exact hh.lt) ba.size
  have TA : Hid (N1 w (wa.alloc (.cells #[.bool t1, .slice B1 m1 d1, .slice B1' m1' d1'] 60)) (w.heap.size + 1) wa.heap.size t1 B1 m1 d1 B1' m1' d1') :=
    Lib.hid ⟨HR.out.below bb, hf1, HT.out.below bb, below_step BM.out BM.out.size bb, by omega, by omega⟩
  have F1 : Hid (IsF (wa.alloc (.cells #[.bool t1, .slice B1 m1 d1, .slice B1' m1' d1'] 60)) (.agg #[.bool t1, .slice B1 m1 d1, .slice B1' m1' d1']) q) := Lib.hid (by rw [← HQ.out]; exact (f1.out rfl).below (below_alloc _ _))
  obtain ⟨w2, hw2⟩ : ∃ w2, wa.alloc (.cells #[.bool t1, .slice B1 m1 d1, .slice B1' m1' d1'] 60) = w2 := ⟨_, rfl⟩
  obtain ⟨gf, hgf⟩ : ∃ gf, wa.heap.size = gf := ⟨_, rfl⟩
  clear x1 x2 x3 ba bb f1 hf1 szw HR BM HX H1 HT
  go_upto_region 2 with (fail)
  rw [hw2] at TA F1
  try rw [hw2]
  rw [hgf] at TA
  try rw [hgf]
  clear hw2 hgf
  obtain ⟨y1, y2, y3, _⟩ := TA.out.box.cells
  obtain ⟨ht, a1, a2⟩ := F1.out.at_
  obtain rfl : t1 = true := ht.trans HNG.out
  have NA := Lib.hid a1
  have NB := Lib.hid a2
  clear ht a1 a2
  have T0 := Lib.hid (show NF w w2 (w.heap.size + 1) gf true B1 m1 d1 B1' m1' d1' q B1 m1 d1 q.num.natAbs from ⟨TA.out, NA.out, NB.out, NA.out, by omega⟩)
  go_wp2_with fail
  go_region_held3 (fun W' => (World.cell? W' ⟨gf, 0, none⟩ = some (.bool true) ∧ World.cell? W' ⟨gf, 1, none⟩ = some (.slice B1 m1 d1) ∧ World.cell? W' ⟨gf, 2, none⟩ = some (.slice B1' m1' d1') ∧ Hid (NF w W' (w.heap.size + 1) gf true B1 m1 d1 B1' m1' d1' q B1 m1 d1 (q.num.natAbs))))
    (with_reducible (first | assumption | exact T0.out.drew.cells | exact NF.next (by assumption) (by assumption) | exact NF.nextS (by assumption)))
    (first
       | (go_at_call 59
          refine (aShl _ m _ _ _ _ (NF.of (by assumption)).a (Nat.le_trans HF.out.1 (by omega)) (by omega)).mono ?_
          rintro e wb ⟨C1, x1, z1, rfl, i1, b1⟩)
       | (go_at_call 114
          refine (aDiv _ _ _ _ _ _ _ _ _ i1.out (NF.of (by assumption)).b (Nat.le_trans HXL.out (by omega)) (Nat.pos_of_ne_zero HD.out)).mono ?_
          rintro e wc ⟨C2, x2, z2, C3, x3, z3, rfl, i2, i3, b2⟩
          have hh := Lib.hid ((NF.of (by assumption)).below b2)))
  replace TA := Lib.hid hh.out.v
  replace NA := Lib.hid hh.out.a
  replace NB := Lib.hid hh.out.b
  clear hh T0 y1 y2 y3
  obtain ⟨y1, y2, y3, _⟩ := TA.out.box.cells
  go_wp2_with fail
  refine (aRoot _ k _ _ _ _ i2.out (Nat.le_trans (dig_length_mono B32_two (Nat.div_le_self _ _)) (Nat.le_trans HXL.out (by omega))) HK2.out (Nat.le_trans HK8.out (by omega))).mono ?_
  rw [HEX.out]
  rintro e wb ⟨C4, x4, z4, rfl, i4, bb⟩
  replace TA := Lib.hid (TA.out.below bb)
  replace NA := Lib.hid (NA.out.below bb)
  replace NB := Lib.hid (NB.out.below bb)
  replace i3 := Lib.hid (i3.out.below bb)
  clear bb y1 y2 y3
  obtain ⟨y1, y2, y3, _⟩ := TA.out.box.cells
  go_wp2_with fail
  refine (aZero _ _ _ _ _ i3.out).mono ?_
  rw [HRE.out]
  rintro e wb ⟨rfl, rfl⟩
  have LR := Lib.hid (show (W (irt k (q.num.natAbs * 2 ^ m / q.den))).length ≤ 200 from Nat.le_trans (dig_length_mono B32_two (Nat.le_trans (irt_self (Nat.lt_of_lt_of_le (by omega) HK2.out) _) (Nat.div_le_self _ _))) HXL.out)
  have L1 := Lib.hid (show (W 1).length ≤ 1 from (dig_length_le B32_two _ _).2 (by unfold B32; omega))
  go_wp2_with fail
  refine (aSmall1 _).mono ?_
  rintro e wb ⟨C5, x5, z5, rfl, i5, bb⟩
  replace TA := Lib.hid (TA.out.below bb)
  replace NA := Lib.hid (NA.out.below bb)
  replace NB := Lib.hid (NB.out.below bb)
  replace i4 := Lib.hid (i4.out.below bb)
  clear bb y1 y2 y3
  obtain ⟨y1, y2, y3, _⟩ := TA.out.box.cells
  go_wp2_with fail
  refine (aAdd _ _ _ _ _ _ _ _ _ i4.out i5.out (Nat.le_trans LR.out (by omega)) (Nat.le_trans L1.out (by omega))).mono ?_
  rintro e wb ⟨C6, x6, z6, rfl, i6, bb⟩
  replace TA := Lib.hid (TA.out.below bb)
  replace NA := Lib.hid (NA.out.below bb)
  replace NB := Lib.hid (NB.out.below bb)
  clear bb y1 y2 y3
  obtain ⟨y1, y2, y3, _⟩ := TA.out.box.cells
  have LQ := Lib.hid (show (W (irt k (q.num.natAbs * 2 ^ m / q.den) + 1)).length ≤ 300 by
    have e1 := LR.out
    have e2 := L1.out
    have e3 := W_add_length (irt k (q.num.natAbs * 2 ^ m / q.den)) 1
    omega)
  have LP := Lib.hid (show (W (1 * 2 ^ p)).length ≤ 300 by
    have e2 := W_two_pow p
    have := HP.out
    rw [Nat.one_mul]
    omega)
  obtain ⟨rn, hrn⟩ : ∃ x, irt k (q.num.natAbs * 2 ^ m / q.den) + 1 = x := ⟨_, rfl⟩
  rw [hrn] at i6 LQ HFIN
  have T0 := Lib.hid (show NF w _ (w.heap.size + 1) gf true B1 m1 d1 B1' m1' d1' q C6 x6 z6 rn from ⟨TA.out, NA.out, NB.out, i6.out, by omega⟩)
  go_wp2_with fail
  go_region_held3 (fun W' => (World.cell? W' ⟨gf, 0, none⟩ = some (.bool true) ∧ World.cell? W' ⟨gf, 1, none⟩ = some (.slice B1 m1 d1) ∧ World.cell? W' ⟨gf, 2, none⟩ = some (.slice B1' m1' d1') ∧ Hid (NF w W' (w.heap.size + 1) gf true B1 m1 d1 B1' m1' d1' q C6 x6 z6 rn)))
    (with_reducible (first | assumption | exact T0.out.drew.cells | exact NF.next (by assumption) (by assumption) | exact NF.nextS (by assumption)))
    (first
       | (go_at_call 85
          refine (aSmall1 _).mono ?_
          rintro e wb ⟨C7, x7, z7, rfl, i7, b7⟩)
       | (go_at_call 59
          refine (aShl _ p _ _ _ _ i7.out (Nat.le_trans L1.out (by omega)) (Nat.le_trans HP.out (by omega))).mono ?_
          rintro e wc ⟨C8, x8, z8, rfl, i8, b8⟩)
       | (go_at_call 58
          refine (aReduce true _ _ _ _ _ _ _ _ _ (NF.of (by assumption)).c i8.out (by rw [Nat.one_mul]; exact Nat.ne_of_gt (Nat.two_pow_pos p)) (Nat.le_trans LQ.out (by omega)) (Nat.le_trans LP.out (by omega)) (NF.of (by assumption)).v.tab r HFIN.out).mono ?_
          rintro e wd ⟨t9, B9, m9, d9, B9', m9', d9', rfl, i9, b9⟩)
       | (go_at_call 80
          refine (giveF _ _ _ i9.out).mono ?_
          rintro e we ⟨s9, A9, n9, c9, A9', n9', c9', k9, rfl, h9, b10⟩
          have hh := (NF.of (by assumption)).below b10
          obtain ⟨z1, z2, z3, hz1, hz2, hz3, k1, k2, k3⟩ := hh.v.res.cells))
  obtain ⟨q0, q1, q2, hs, hb⟩ := OutIs.stored h9 hh.v.res hh.v.bel hh.v.n3
  have Q := Lib.hid (And.intro q0 (And.intro q1 q2))
  have HS := Lib.hid hs
  have HBB := Lib.hid hb
  clear q0 q1 q2 hs hb h9
  go_wp2
  obtain ⟨q0, q1, q2⟩ := Q.out
  refine bodyPost_ret (v := .tuple #[.agg #[.bool s9, .slice A9 n9 c9, .slice A9' n9' c9'], .int .i64 k9]) (by simp [results, Tryd.results96, go_sem, q0, q1, q2]) rfl ?_
  rw [← HO.out]
  exact ⟨_, _, _, _, _, _, _, _, rfl, HS.out, HBB.out⟩
set_option maxHeartbeats 2000000 in
set_option maxRecDepth 100000 in
theorem nroot_true_false_inexact (s1 : Bool) (N1' D1' : Nat) (k p : Nat) (h2 : 2 ≤ k) (h8 : k ≤ 8) (hp : p ≤ 256) (hs : ng (ratOf s1 N1' D1') = true) (ho : k % 2 = 1) (x1 : decide (irt k ((ratOf s1 N1' D1').num.natAbs * 2 ^ (p * k) / (ratOf s1 N1' D1').den) ^ k = (ratOf s1 N1' D1').num.natAbs * 2 ^ (p * k) / (ratOf s1 N1' D1').den) = false) (r : Rat) (hr : grtQ (ratOf s1 N1' D1') k p false = r) (w : World) (v1 : Value) (h1 : RawV w v1 s1 N1' D1') (hT : Tab w) (q : Rat) (hq : ratOf s1 N1' D1' = q) (hL : largeB s1 N1' D1' = false) :
    Calls Tryd.prog 96 #[v1, .int .i64 (k : Int), .int .i64 (p : Int), .bool false] w (OutPost w (give r)) := by
  have H1 := Lib.hid h1
  have HT := Lib.hid hT
  obtain ⟨A1, n1, c1, A1', n1', c1', rfl⟩ := h1.shape
  clear h1 hT
  obtain ⟨M, hM, k1, k3, bM⟩ := start1 w (.bool s1) (.slice A1 n1 c1) (.slice A1' n1' c1') (.bool false) (.slice none 0 0) (.slice none 0 0) 24 24
  have HX := Lib.hid k1
  have HR := Lib.hid (show Res M (w.heap.size + 1) 24 from ⟨_, _, _, NI.bool _, NI.slice _ _ _, NI.slice _ _ _, k3⟩)
  have BM := Lib.hid bM
  replace H1 := Lib.hid (H1.out.below bM)
  replace HT := Lib.hid (HT.out.below bM)
  have HQ := Lib.hid hq
  have HL := Lib.hid hL
  have hf := (largeB_false hL).2.2
  rw [hq] at hf
  have HF := Lib.hid hf
  clear hf
  have hp1 : decide ((k : Int) < 2) = false := decide_eq_false (by omega)
  have hp1' : decide (k < 2) = false := decide_eq_false (by omega)
  have hp2 : decide (8 < (k : Int)) = false := decide_eq_false (by omega)
  have hp2' : decide (8 < k) = false := decide_eq_false (by omega)
  have hp3 : decide ((p : Int) < 0) = false := decide_eq_false (by omega)
  have hp4 : decide (256 < (p : Int)) = false := decide_eq_false (by omega)
  have hp4' : decide (256 < p) = false := decide_eq_false (by omega)
  have hm := tmod_two k
  have hm2 : IntKind.i64.wrap ((k % 2 : Nat) : Int) = ((k % 2 : Nat) : Int) := wraps_i64 _ (by omega) (by omega)
  have HK2 := Lib.hid h2
  have HK8 := Lib.hid h8
  have HP := Lib.hid hp
  rw [hq] at hs
  have HNG := Lib.hid hs
  clear hs
  rw [ho] at hm hm2
  clear ho
  rw [hq] at hr
  have HR2 := Lib.hid hr
  obtain ⟨m, hmk⟩ : ∃ m, p * k = m := ⟨_, rfl⟩
  have hmi : (p : Int) * (k : Int) = (m : Int) := by rw [← hmk]; push_cast; rfl
  have hmb : m ≤ 2048 := by rw [← hmk]; exact Nat.mul_le_mul hp h8
  have HMK := Lib.hid hmk
  have u1 : IntKind.i64.wrap (m : Int) = (m : Int) := wrap_i64 _ (by omega) (by omega)
  have u2 : wrap64 (m : Int) = (m : Int) := by unfold wrap64; omega
  have u3 : IntKind.i64.wrap (p : Int) = (p : Int) := wrap_i64 _ (by omega) (by omega)
  have HXL := Lib.hid (show (W (q.num.natAbs * 2 ^ m)).length ≤ 200 by
    have e1 := W_mul_length q.num.natAbs (2 ^ m)
    have e2 := W_two_pow m
    have := HF.out.1
    omega)
  have HD := Lib.hid q.den_nz
  clear hr hmk
  rw [hq, HMK.out] at x1
  have HEX := Lib.hid x1
  clear x1
  have HFIN := Lib.hid (show mkRat (sg true (irt k (q.num.natAbs * 2 ^ m / q.den) + 1)) (1 * 2 ^ p) = r by
    rw [← HR2.out]
    unfold grtQ rootN
    rw [HNG.out, HMK.out, Nat.one_mul]
    have e1 := of_decide_eq_false HEX.out
    rw [if_pos ⟨rfl, by simp [e1]⟩])
  obtain ⟨o, ho⟩ : ∃ o, give r = o := ⟨_, rfl⟩
  have HO := Lib.hid ho
  rw [ho]
  clear hq hL k1 k3 bM ho
  go_enter Tryd.func96, Tryd.ntmps96
  go_upto_region 1 with (fail)
  rw [← hM]
  clear hM
  obtain ⟨x1, x2, x3, _, _, _⟩ := HX.out.cells
  go_wp2_with fail
  refine (readV _ s1 N1' D1' _ H1.out HT.out).mono ?_
  rw [HL.out, Bool.not_false]
  rintro e wa ⟨t1, B1, m1, d1, B1', m1', d1', rfl, f1, ba⟩
  have bb := below_step ba ba.size (below_alloc wa (.cells #[.bool t1, .slice B1 m1 d1, .slice B1' m1' d1'] 60))
  have hf1 := Box.new wa (.bool t1) (.slice B1 m1 d1) (.slice B1' m1' d1') 60
  have szw : w.heap.size + 1 < wa.heap.size := Nat.lt_of_lt_of_le (by obtain ⟨_, _, _, _, _, _, hh⟩ := HR.out; exact hh.lt) ba.size
  have TA : Hid (N1 w (wa.alloc (.cells #[.bool t1, .slice B1 m1 d1, .slice B1' m1' d1'] 60)) (w.heap.size + 1) wa.heap.size t1 B1 m1 d1 B1' m1' d1') :=
    Lib.hid ⟨HR.out.below bb, hf1, HT.out.below bb, below_step BM.out BM.out.size bb, by omega, by omega⟩
  have F1 : Hid (IsF (wa.alloc (.cells #[.bool t1, .slice B1 m1 d1, .slice B1' m1' d1'] 60)) (.agg #[.bool t1, .slice B1 m1 d1, .slice B1' m1' d1']) q) := Lib.hid (by rw [← HQ.out]; exact (f1.out rfl).below (below_alloc _ _))
  obtain ⟨w2, hw2⟩ : ∃ w2, wa.alloc (.cells #[.bool t1, .slice B1 m1 d1, .slice B1' m1' d1'] 60) = w2 := ⟨_, rfl⟩
  obtain ⟨gf, hgf⟩ : ∃ gf, wa.heap.size = gf := ⟨_, rfl⟩
  clear x1 x2 x3 ba bb f1 hf1 szw HR BM HX H1 HT
  go_upto_region 2 with (fail)
  rw [hw2] at TA F1
  try rw [hw2]
  rw [hgf] at TA
  try rw [hgf]
  clear hw2 hgf
  obtain ⟨y1, y2, y3, _⟩ := TA.out.box.cells
  obtain ⟨ht, a1, a2⟩ := F1.out.at_
  obtain rfl : t1 = true := ht.trans HNG.out
  have NA := Lib.hid a1
  have NB := Lib.hid a2
  clear ht a1 a2
  have T0 := Lib.hid (show NF w w2 (w.heap.size + 1) gf true B1 m1 d1 B1' m1' d1' q B1 m1 d1 q.num.natAbs from ⟨TA.out, NA.out, NB.out, NA.out, by omega⟩)
  go_wp2_with fail
  go_region_held3 (fun W' => (World.cell? W' ⟨gf, 0, none⟩ = some (.bool true) ∧ World.cell? W' ⟨gf, 1, none⟩ = some (.slice B1 m1 d1) ∧ World.cell? W' ⟨gf, 2, none⟩ = some (.slice B1' m1' d1') ∧ Hid (NF w W' (w.heap.size + 1) gf true B1 m1 d1 B1' m1' d1' q B1 m1 d1 (q.num.natAbs))))
    (with_reducible (first | assumption | exact T0.out.drew.cells | exact NF.next (by assumption) (by assumption) | exact NF.nextS (by assumption)))
    (first
       | (go_at_call 59
          refine (aShl _ m _ _ _ _ (NF.of (by assumption)).a (Nat.le_trans HF.out.1 (by omega)) (by omega)).mono ?_
          rintro e wb ⟨C1, x1, z1, rfl, i1, b1⟩)
       | (go_at_call 114
          refine (aDiv _ _ _ _ _ _ _ _ _ i1.out (NF.of (by assumption)).b (Nat.le_trans HXL.out (by omega)) (Nat.pos_of_ne_zero HD.out)).mono ?_
          rintro e wc ⟨C2, x2, z2, C3, x3, z3, rfl, i2, i3, b2⟩
          have hh := Lib.hid ((NF.of (by assumption)).below b2)))
  replace TA := Lib.hid hh.out.v
  replace NA := Lib.hid hh.out.a
  replace NB := Lib.hid hh.out.b
  clear hh T0 y1 y2 y3
  obtain ⟨y1, y2, y3, _⟩ := TA.out.box.cells
  go_wp2_with fail
  refine (aRoot _ k _ _ _ _ i2.out (Nat.le_trans (dig_length_mono B32_two (Nat.div_le_self _ _)) (Nat.le_trans HXL.out (by omega))) HK2.out (Nat.le_trans HK8.out (by omega))).mono ?_
  rw [HEX.out]
  rintro e wb ⟨C4, x4, z4, rfl, i4, bb⟩
  replace TA := Lib.hid (TA.out.below bb)
  replace NA := Lib.hid (NA.out.below bb)
  replace NB := Lib.hid (NB.out.below bb)
  replace i3 := Lib.hid (i3.out.below bb)
  clear bb y1 y2 y3
  obtain ⟨y1, y2, y3, _⟩ := TA.out.box.cells
  have LR := Lib.hid (show (W (irt k (q.num.natAbs * 2 ^ m / q.den))).length ≤ 200 from Nat.le_trans (dig_length_mono B32_two (Nat.le_trans (irt_self (Nat.lt_of_lt_of_le (by omega) HK2.out) _) (Nat.div_le_self _ _))) HXL.out)
  have L1 := Lib.hid (show (W 1).length ≤ 1 from (dig_length_le B32_two _ _).2 (by unfold B32; omega))
  go_wp2_with fail
  refine (aSmall1 _).mono ?_
  rintro e wb ⟨C5, x5, z5, rfl, i5, bb⟩
  replace TA := Lib.hid (TA.out.below bb)
  replace NA := Lib.hid (NA.out.below bb)
  replace NB := Lib.hid (NB.out.below bb)
  replace i4 := Lib.hid (i4.out.below bb)
  clear bb y1 y2 y3
  obtain ⟨y1, y2, y3, _⟩ := TA.out.box.cells
  go_wp2_with fail
  refine (aAdd _ _ _ _ _ _ _ _ _ i4.out i5.out (Nat.le_trans LR.out (by omega)) (Nat.le_trans L1.out (by omega))).mono ?_
  rintro e wb ⟨C6, x6, z6, rfl, i6, bb⟩
  replace TA := Lib.hid (TA.out.below bb)
  replace NA := Lib.hid (NA.out.below bb)
  replace NB := Lib.hid (NB.out.below bb)
  clear bb y1 y2 y3
  obtain ⟨y1, y2, y3, _⟩ := TA.out.box.cells
  have LQ := Lib.hid (show (W (irt k (q.num.natAbs * 2 ^ m / q.den) + 1)).length ≤ 300 by
    have e1 := LR.out
    have e2 := L1.out
    have e3 := W_add_length (irt k (q.num.natAbs * 2 ^ m / q.den)) 1
    omega)
  have LP := Lib.hid (show (W (1 * 2 ^ p)).length ≤ 300 by
    have e2 := W_two_pow p
    have := HP.out
    rw [Nat.one_mul]
    omega)
  obtain ⟨rn, hrn⟩ : ∃ x, irt k (q.num.natAbs * 2 ^ m / q.den) + 1 = x := ⟨_, rfl⟩
  rw [hrn] at i6 LQ HFIN
  have T0 := Lib.hid (show NF w _ (w.heap.size + 1) gf true B1 m1 d1 B1' m1' d1' q C6 x6 z6 rn from ⟨TA.out, NA.out, NB.out, i6.out, by omega⟩)
  go_wp2_with fail
  go_region_held3 (fun W' => (World.cell? W' ⟨gf, 0, none⟩ = some (.bool true) ∧ World.cell? W' ⟨gf, 1, none⟩ = some (.slice B1 m1 d1) ∧ World.cell? W' ⟨gf, 2, none⟩ = some (.slice B1' m1' d1') ∧ Hid (NF w W' (w.heap.size + 1) gf true B1 m1 d1 B1' m1' d1' q C6 x6 z6 rn)))
    (with_reducible (first | assumption | exact T0.out.drew.cells | exact NF.next (by assumption) (by assumption) | exact NF.nextS (by assumption)))
    (first
       | (go_at_call 85
          refine (aSmall1 _).mono ?_
          rintro e wb ⟨C7, x7, z7, rfl, i7, b7⟩)
       | (go_at_call 59
          refine (aShl _ p _ _ _ _ i7.out (Nat.le_trans L1.out (by omega)) (Nat.le_trans HP.out (by omega))).mono ?_
          rintro e wc ⟨C8, x8, z8, rfl, i8, b8⟩)
       | (go_at_call 58
          refine (aReduce true _ _ _ _ _ _ _ _ _ (NF.of (by assumption)).c i8.out (by rw [Nat.one_mul]; exact Nat.ne_of_gt (Nat.two_pow_pos p)) (Nat.le_trans LQ.out (by omega)) (Nat.le_trans LP.out (by omega)) (NF.of (by assumption)).v.tab r HFIN.out).mono ?_
          rintro e wd ⟨t9, B9, m9, d9, B9', m9', d9', rfl, i9, b9⟩)
       | (go_at_call 80
          refine (giveF _ _ _ i9.out).mono ?_
          rintro e we ⟨s9, A9, n9, c9, A9', n9', c9', k9, rfl, h9, b10⟩
          have hh := (NF.of (by assumption)).below b10
          obtain ⟨z1, z2, z3, hz1, hz2, hz3, k1, k2, k3⟩ := hh.v.res.cells))
  obtain ⟨q0, q1, q2, hs, hb⟩ := OutIs.stored h9 hh.v.res hh.v.bel hh.v.n3
  have Q := Lib.hid (And.intro q0 (And.intro q1 q2))
  have HS := Lib.hid hs
  have HBB := Lib.hid hb
  clear q0 q1 q2 hs hb h9
  go_wp2
  obtain ⟨q0, q1, q2⟩ := Q.out
  refine bodyPost_ret (v := .tuple #[.agg #[.bool s9, .slice A9 n9 c9, .slice A9' n9' c9'], .int .i64 k9]) (by simp [results, Tryd.results96, go_sem, q0, q1, q2]) rfl ?_
  rw [← HO.out]
  exact ⟨_, _, _, _, _, _, _, _, rfl, HS.out, HBB.out⟩
set_option maxHeartbeats 2000000 in
set_option maxRecDepth 100000 in
theorem nroot_true_true_same (s1 : Bool) (N1' D1' : Nat) (k p : Nat) (h2 : 2 ≤ k) (h8 : k ≤ 8) (hp : p ≤ 256) (hs : ng (ratOf s1 N1' D1') = true) (ho : k % 2 = 1) (r : Rat) (hr : grtQ (ratOf s1 N1' D1') k p true = r) (w : World) (v1 : Value) (h1 : RawV w v1 s1 N1' D1') (hT : Tab w) (q : Rat) (hq : ratOf s1 N1' D1' = q) (hL : largeB s1 N1' D1' = false) :
    Calls Tryd.prog 96 #[v1, .int .i64 (k : Int), .int .i64 (p : Int), .bool true] w (OutPost w (give r)) := by
  have H1 := Lib.hid h1
  have HT := Lib.hid hT
  obtain ⟨A1, n1, c1, A1', n1', c1', rfl⟩ := h1.shape
  clear h1 hT
  obtain ⟨M, hM, k1, k3, bM⟩ := start1 w (.bool s1) (.slice A1 n1 c1) (.slice A1' n1' c1') (.bool false) (.slice none 0 0) (.slice none 0 0) 24 24
  have HX := Lib.hid k1
  have HR := Lib.hid (show Res M (w.heap.size + 1) 24 from ⟨_, _, _, NI.bool _, NI.slice _ _ _, NI.slice _ _ _, k3⟩)
  have BM := Lib.hid bM
  replace H1 := Lib.hid (H1.out.below bM)
  replace HT := Lib.hid (HT.out.below bM)
  have HQ := Lib.hid hq
  have HL := Lib.hid hL
  have hf := (largeB_false hL).2.2
  rw [hq] at hf
  have HF := Lib.hid hf
  clear hf
  have hp1 : decide ((k : Int) < 2) = false := decide_eq_false (by omega)
  have hp1' : decide (k < 2) = false := decide_eq_false (by omega)
  have hp2 : decide (8 < (k : Int)) = false := decide_eq_false (by omega)
  have hp2' : decide (8 < k) = false := decide_eq_false (by omega)
  have hp3 : decide ((p : Int) < 0) = false := decide_eq_false (by omega)
  have hp4 : decide (256 < (p : Int)) = false := decide_eq_false (by omega)
  have hp4' : decide (256 < p) = false := decide_eq_false (by omega)
  have hm := tmod_two k
  have hm2 : IntKind.i64.wrap ((k % 2 : Nat) : Int) = ((k % 2 : Nat) : Int) := wraps_i64 _ (by omega) (by omega)
  have HK2 := Lib.hid h2
  have HK8 := Lib.hid h8
  have HP := Lib.hid hp
  rw [hq] at hs
  have HNG := Lib.hid hs
  clear hs
  rw [ho] at hm hm2
  clear ho
  rw [hq] at hr
  have HR2 := Lib.hid hr
  obtain ⟨m, hmk⟩ : ∃ m, p * k = m := ⟨_, rfl⟩
  have hmi : (p : Int) * (k : Int) = (m : Int) := by rw [← hmk]; push_cast; rfl
  have hmb : m ≤ 2048 := by rw [← hmk]; exact Nat.mul_le_mul hp h8
  have HMK := Lib.hid hmk
  have u1 : IntKind.i64.wrap (m : Int) = (m : Int) := wrap_i64 _ (by omega) (by omega)
  have u2 : wrap64 (m : Int) = (m : Int) := by unfold wrap64; omega
  have u3 : IntKind.i64.wrap (p : Int) = (p : Int) := wrap_i64 _ (by omega) (by omega)
  have HXL := Lib.hid (show (W (q.num.natAbs * 2 ^ m)).length ≤ 200 by
    have e1 := W_mul_length q.num.natAbs (2 ^ m)
    have e2 := W_two_pow m
    have := HF.out.1
    omega)
  have HD := Lib.hid q.den_nz
  clear hr hmk
  obtain ⟨bx, hx⟩ : ∃ b, decide (irt k (q.num.natAbs * 2 ^ m / q.den) ^ k = q.num.natAbs * 2 ^ m / q.den) = b := ⟨_, rfl⟩
  have HEX := Lib.hid hx
  clear hx
  have HFIN := Lib.hid (show mkRat (sg true (irt k (q.num.natAbs * 2 ^ m / q.den))) (1 * 2 ^ p) = r by
    rw [← HR2.out]
    unfold grtQ rootN
    rw [HNG.out, HMK.out, Nat.one_mul]
    rw [if_neg (by simp)]
    rw [Nat.add_zero])
  obtain ⟨o, ho⟩ : ∃ o, give r = o := ⟨_, rfl⟩
  have HO := Lib.hid ho
  rw [ho]
  clear hq hL k1 k3 bM ho
  go_enter Tryd.func96, Tryd.ntmps96
  go_upto_region 1 with (fail)
  rw [← hM]
  clear hM
  obtain ⟨x1, x2, x3, _, _, _⟩ := HX.out.cells
  go_wp2_with fail
  refine (readV _ s1 N1' D1' _ H1.out HT.out).mono ?_
  rw [HL.out, Bool.not_false]
  rintro e wa ⟨t1, B1, m1, d1, B1', m1', d1', rfl, f1, ba⟩
  have bb := below_step ba ba.size (below_alloc wa (.cells #[.bool t1, .slice B1 m1 d1, .slice B1' m1' d1'] 60))
  have hf1 := Box.new wa (.bool t1) (.slice B1 m1 d1) (.slice B1' m1' d1') 60
  have szw : w.heap.size + 1 < wa.heap.size := Nat.lt_of_lt_of_le (by obtain ⟨_, _, _, _, _, _, hh⟩ := HR.out; exact hh.lt) ba.size
  have TA : Hid (N1 w (wa.alloc (.cells #[.bool t1, .slice B1 m1 d1, .slice B1' m1' d1'] 60)) (w.heap.size + 1) wa.heap.size t1 B1 m1 d1 B1' m1' d1') :=
    Lib.hid ⟨HR.out.below bb, hf1, HT.out.below bb, below_step BM.out BM.out.size bb, by omega, by omega⟩
  have F1 : Hid (IsF (wa.alloc (.cells #[.bool t1, .slice B1 m1 d1, .slice B1' m1' d1'] 60)) (.agg #[.bool t1, .slice B1 m1 d1, .slice B1' m1' d1']) q) := Lib.hid (by rw [← HQ.out]; exact (f1.out rfl).below (below_alloc _ _))
  obtain ⟨w2, hw2⟩ : ∃ w2, wa.alloc (.cells #[.bool t1, .slice B1 m1 d1, .slice B1' m1' d1'] 60) = w2 := ⟨_, rfl⟩
  obtain ⟨gf, hgf⟩ : ∃ gf, wa.heap.size = gf := ⟨_, rfl⟩
  clear x1 x2 x3 ba bb f1 hf1 szw HR BM HX H1 HT
  go_upto_region 2 with (fail)
  rw [hw2] at TA F1
  try rw [hw2]
  rw [hgf] at TA
  try rw [hgf]
  clear hw2 hgf
  obtain ⟨y1, y2, y3, _⟩ := TA.out.box.cells
  obtain ⟨ht, a1, a2⟩ := F1.out.at_
  obtain rfl : t1 = true := ht.trans HNG.out
  have NA := Lib.hid a1
  have NB := Lib.hid a2
  clear ht a1 a2
  have T0 := Lib.hid (show NF w w2 (w.heap.size + 1) gf true B1 m1 d1 B1' m1' d1' q B1 m1 d1 q.num.natAbs from ⟨TA.out, NA.out, NB.out, NA.out, by omega⟩)
  go_wp2_with fail
  go_region_held3 (fun W' => (World.cell? W' ⟨gf, 0, none⟩ = some (.bool true) ∧ World.cell? W' ⟨gf, 1, none⟩ = some (.slice B1 m1 d1) ∧ World.cell? W' ⟨gf, 2, none⟩ = some (.slice B1' m1' d1') ∧ Hid (NF w W' (w.heap.size + 1) gf true B1 m1 d1 B1' m1' d1' q B1 m1 d1 (q.num.natAbs))))
    (with_reducible (first | assumption | exact T0.out.drew.cells | exact NF.next (by assumption) (by assumption) | exact NF.nextS (by assumption)))
    (first
       | (go_at_call 59
          refine (aShl _ m _ _ _ _ (NF.of (by assumption)).a (Nat.le_trans HF.out.1 (by omega)) (by omega)).mono ?_
          rintro e wb ⟨C1, x1, z1, rfl, i1, b1⟩)
       | (go_at_call 114
          refine (aDiv _ _ _ _ _ _ _ _ _ i1.out (NF.of (by assumption)).b (Nat.le_trans HXL.out (by omega)) (Nat.pos_of_ne_zero HD.out)).mono ?_
          rintro e wc ⟨C2, x2, z2, C3, x3, z3, rfl, i2, i3, b2⟩
          have hh := Lib.hid ((NF.of (by assumption)).below b2)))
  replace TA := Lib.hid hh.out.v
  replace NA := Lib.hid hh.out.a
  replace NB := Lib.hid hh.out.b
  clear hh T0 y1 y2 y3
  obtain ⟨y1, y2, y3, _⟩ := TA.out.box.cells
  go_wp2_with fail
  refine (aRoot _ k _ _ _ _ i2.out (Nat.le_trans (dig_length_mono B32_two (Nat.div_le_self _ _)) (Nat.le_trans HXL.out (by omega))) HK2.out (Nat.le_trans HK8.out (by omega))).mono ?_
  rw [HEX.out]
  rintro e wb ⟨C4, x4, z4, rfl, i4, bb⟩
  replace TA := Lib.hid (TA.out.below bb)
  replace NA := Lib.hid (NA.out.below bb)
  replace NB := Lib.hid (NB.out.below bb)
  replace i3 := Lib.hid (i3.out.below bb)
  clear bb y1 y2 y3
  obtain ⟨y1, y2, y3, _⟩ := TA.out.box.cells
  have LR := Lib.hid (show (W (irt k (q.num.natAbs * 2 ^ m / q.den))).length ≤ 200 from Nat.le_trans (dig_length_mono B32_two (Nat.le_trans (irt_self (Nat.lt_of_lt_of_le (by omega) HK2.out) _) (Nat.div_le_self _ _))) HXL.out)
  have L1 := Lib.hid (show (W 1).length ≤ 1 from (dig_length_le B32_two _ _).2 (by unfold B32; omega))
  have LQ := Lib.hid (show (W (irt k (q.num.natAbs * 2 ^ m / q.den))).length ≤ 300 by
    have e1 := LR.out
    have e2 := L1.out
    skip
    omega)
  have LP := Lib.hid (show (W (1 * 2 ^ p)).length ≤ 300 by
    have e2 := W_two_pow p
    have := HP.out
    rw [Nat.one_mul]
    omega)
  obtain ⟨rn, hrn⟩ : ∃ x, irt k (q.num.natAbs * 2 ^ m / q.den) = x := ⟨_, rfl⟩
  rw [hrn] at i4 LQ HFIN
  have T0 := Lib.hid (show NF w _ (w.heap.size + 1) gf true B1 m1 d1 B1' m1' d1' q C4 x4 z4 rn from ⟨TA.out, NA.out, NB.out, i4.out, by omega⟩)
  go_wp2_with fail
  go_region_held3 (fun W' => (World.cell? W' ⟨gf, 0, none⟩ = some (.bool true) ∧ World.cell? W' ⟨gf, 1, none⟩ = some (.slice B1 m1 d1) ∧ World.cell? W' ⟨gf, 2, none⟩ = some (.slice B1' m1' d1') ∧ Hid (NF w W' (w.heap.size + 1) gf true B1 m1 d1 B1' m1' d1' q C4 x4 z4 rn)))
    (with_reducible (first | assumption | exact T0.out.drew.cells | exact NF.next (by assumption) (by assumption) | exact NF.nextS (by assumption)))
    (first
       | (go_at_call 85
          refine (aSmall1 _).mono ?_
          rintro e wb ⟨C7, x7, z7, rfl, i7, b7⟩)
       | (go_at_call 59
          refine (aShl _ p _ _ _ _ i7.out (Nat.le_trans L1.out (by omega)) (Nat.le_trans HP.out (by omega))).mono ?_
          rintro e wc ⟨C8, x8, z8, rfl, i8, b8⟩)
       | (go_at_call 58
          refine (aReduce true _ _ _ _ _ _ _ _ _ (NF.of (by assumption)).c i8.out (by rw [Nat.one_mul]; exact Nat.ne_of_gt (Nat.two_pow_pos p)) (Nat.le_trans LQ.out (by omega)) (Nat.le_trans LP.out (by omega)) (NF.of (by assumption)).v.tab r HFIN.out).mono ?_
          rintro e wd ⟨t9, B9, m9, d9, B9', m9', d9', rfl, i9, b9⟩)
       | (go_at_call 80
          refine (giveF _ _ _ i9.out).mono ?_
          rintro e we ⟨s9, A9, n9, c9, A9', n9', c9', k9, rfl, h9, b10⟩
          have hh := (NF.of (by assumption)).below b10
          obtain ⟨z1, z2, z3, hz1, hz2, hz3, k1, k2, k3⟩ := hh.v.res.cells))
  obtain ⟨q0, q1, q2, hs, hb⟩ := OutIs.stored h9 hh.v.res hh.v.bel hh.v.n3
  have Q := Lib.hid (And.intro q0 (And.intro q1 q2))
  have HS := Lib.hid hs
  have HBB := Lib.hid hb
  clear q0 q1 q2 hs hb h9
  go_wp2
  obtain ⟨q0, q1, q2⟩ := Q.out
  refine bodyPost_ret (v := .tuple #[.agg #[.bool s9, .slice A9 n9 c9, .slice A9' n9' c9'], .int .i64 k9]) (by simp [results, Tryd.results96, go_sem, q0, q1, q2]) rfl ?_
  rw [← HO.out]
  exact ⟨_, _, _, _, _, _, _, _, rfl, HS.out, HBB.out⟩
theorem nroot (s1 : Bool) (N1' D1' : Nat) (n p : Int) (up : Bool) (w : World) (v1 : Value) (h1 : RawV w v1 s1 N1' D1') (hT : Tab w) :
    Calls Tryd.prog 96 #[v1, .int .i64 n, .int .i64 p, .bool up] w (OutPost w (grootOut (largeB s1 N1' D1') n p up (ratOf s1 N1' D1'))) := by
  unfold grootOut
  by_cases h : largeB s1 N1' D1' = true
  · rw [if_pos h]; exact nroot_large s1 N1' D1' n p up w v1 h1 hT _ rfl h
  · rw [if_neg h]
    have h' : largeB s1 N1' D1' = false := by simpa using h
    by_cases c1 : n < 2
    · rw [if_pos (Or.inl c1)]; exact nroot_n2 s1 N1' D1' n p up c1 w v1 h1 hT _ rfl h'
    · by_cases c2 : 8 < n
      · rw [if_pos (Or.inr (Or.inl c2))]; exact nroot_n8 s1 N1' D1' n p up c2 w v1 h1 hT _ rfl h'
      · by_cases c3 : p < 0
        · rw [if_pos (Or.inr (Or.inr (Or.inl c3)))]; exact nroot_p0 s1 N1' D1' n p up (by omega) (by omega) c3 w v1 h1 hT _ rfl h'
        · by_cases c4 : 256 < p
          · rw [if_pos (Or.inr (Or.inr (Or.inr c4)))]; exact nroot_p256 s1 N1' D1' n p up (by omega) (by omega) c4 w v1 h1 hT _ rfl h'
          · rw [if_neg (by omega)]
            obtain ⟨k, rfl⟩ : ∃ k : Nat, n = (k : Int) := ⟨n.toNat, by omega⟩
            obtain ⟨j, rfl⟩ : ∃ j : Nat, p = (j : Int) := ⟨p.toNat, by omega⟩
            rw [Int.toNat_natCast, Int.toNat_natCast]
            have h2 : 2 ≤ k := by omega
            have h8 : k ≤ 8 := by omega
            have hj : j ≤ 256 := by omega
            by_cases he : ng (ratOf s1 N1' D1') = true ∧ k % 2 = 0
            · rw [if_pos he]; exact nroot_even s1 N1' D1' k j h2 h8 hj up he.1 he.2 w v1 h1 hT _ rfl h'
            · rw [if_neg he]
              cases hs : ng (ratOf s1 N1' D1')
              · cases up
                · exact nroot_false_false_same s1 N1' D1' k j h2 h8 hj hs _ rfl w v1 h1 hT _ rfl h'
                · cases x1 : decide (irt k ((ratOf s1 N1' D1').num.natAbs * 2 ^ (j * k) / (ratOf s1 N1' D1').den) ^ k = (ratOf s1 N1' D1').num.natAbs * 2 ^ (j * k) / (ratOf s1 N1' D1').den)
                  · exact nroot_false_true_inexact s1 N1' D1' k j h2 h8 hj hs x1 _ rfl w v1 h1 hT _ rfl h'
                  · cases x2 : decide ((ratOf s1 N1' D1').num.natAbs * 2 ^ (j * k) % (ratOf s1 N1' D1').den = 0)
                    · exact nroot_false_true_rest s1 N1' D1' k j h2 h8 hj hs x1 x2 _ rfl w v1 h1 hT _ rfl h'
                    · exact nroot_false_true_exact s1 N1' D1' k j h2 h8 hj hs x1 x2 _ rfl w v1 h1 hT _ rfl h'
              · have ho : k % 2 = 1 := by
                  have : ¬ k % 2 = 0 := fun h0 => he ⟨hs, h0⟩
                  omega
                cases up
                · cases x1 : decide (irt k ((ratOf s1 N1' D1').num.natAbs * 2 ^ (j * k) / (ratOf s1 N1' D1').den) ^ k = (ratOf s1 N1' D1').num.natAbs * 2 ^ (j * k) / (ratOf s1 N1' D1').den)
                  · exact nroot_true_false_inexact s1 N1' D1' k j h2 h8 hj hs ho x1 _ rfl w v1 h1 hT _ rfl h'
                  · cases x2 : decide ((ratOf s1 N1' D1').num.natAbs * 2 ^ (j * k) % (ratOf s1 N1' D1').den = 0)
                    · exact nroot_true_false_rest s1 N1' D1' k j h2 h8 hj hs ho x1 x2 _ rfl w v1 h1 hT _ rfl h'
                    · exact nroot_true_false_exact s1 N1' D1' k j h2 h8 hj hs ho x1 x2 _ rfl w v1 h1 hT _ rfl h'
                · exact nroot_true_true_same s1 N1' D1' k j h2 h8 hj hs ho _ rfl w v1 h1 hT _ rfl h'
set_option maxHeartbeats 1000000 in
set_option maxRecDepth 100000 in
theorem nRootDown (s1 : Bool) (N1 D1 : Nat) (n p : Int) (w : World) (v1 : Value) (h1 : RawV w v1 s1 N1 D1) (hT : Tab w) :
    Calls Tryd.prog 44 #[v1, .int .i64 n, .int .i64 p] w (OutPost w (grootOut (largeB s1 N1 D1) n p false (ratOf s1 N1 D1))) := by
  have H1 := Lib.hid h1
  have HT := Lib.hid hT
  obtain ⟨A1, n1, c1, A1', n1', c1', rfl⟩ := h1.shape
  clear h1 hT
  obtain ⟨M, hM, k1, k3, bM⟩ := start1 w (.bool s1) (.slice A1 n1 c1) (.slice A1' n1' c1') (.bool false) (.slice none 0 0) (.slice none 0 0) 24 24
  have HX := Lib.hid k1
  have HR := Lib.hid (show Res M (w.heap.size + 1) 24 from ⟨_, _, _, NI.bool _, NI.slice _ _ _, NI.slice _ _ _, k3⟩)
  have BM := Lib.hid bM
  replace H1 := Lib.hid (H1.out.below bM)
  replace HT := Lib.hid (HT.out.below bM)
  have C := Lib.hid (nroot s1 N1 D1 n p false M _ H1.out HT.out)
  obtain ⟨o, ho⟩ : ∃ o, grootOut (largeB s1 N1 D1) n p false (ratOf s1 N1 D1) = o := ⟨_, rfl⟩
  rw [ho] at C
  rw [ho]
  clear k1 k3 bM ho
  go_enter Tryd.func44, Tryd.ntmps44
  go_upto_region 1 with (fail)
  rw [← hM]
  clear hM
  obtain ⟨x1, x2, x3, _, _, _⟩ := HX.out.cells
  go_wp2_with fail
  refine C.out.mono ?_
  rintro e we ⟨s9, A9, n9, c9, A9', n9', c9', k9, rfl, h9, b9⟩
  replace HR := Lib.hid (HR.out.below b9)
  have BE := Lib.hid (below_step BM.out BM.out.size b9)
  obtain ⟨q0, q1, q2, hs, hb⟩ := OutIs.stored h9 HR.out BE.out (by omega)
  have Q := Lib.hid (And.intro q0 (And.intro q1 q2))
  have HS := Lib.hid hs
  have HB := Lib.hid hb
  clear b9 h9 q0 q1 q2 hs hb x1 x2 x3
  obtain ⟨r1, r2, r3, hr1, hr2, hr3, _, _, _⟩ := HR.out.cells
  go_wp2_with fail
  obtain ⟨q0, q1, q2⟩ := Q.out
  refine bodyPost_ret (v := .tuple #[.agg #[.bool s9, .slice A9 n9 c9, .slice A9' n9' c9'], .int .i64 k9]) (by simp [results, Tryd.results44, go_sem, q0, q1, q2]) rfl ?_
  exact ⟨_, _, _, _, _, _, _, _, rfl, HS.out, HB.out⟩
set_option maxHeartbeats 1000000 in
set_option maxRecDepth 100000 in
theorem nRootUp (s1 : Bool) (N1 D1 : Nat) (n p : Int) (w : World) (v1 : Value) (h1 : RawV w v1 s1 N1 D1) (hT : Tab w) :
    Calls Tryd.prog 45 #[v1, .int .i64 n, .int .i64 p] w (OutPost w (grootOut (largeB s1 N1 D1) n p true (ratOf s1 N1 D1))) := by
  have H1 := Lib.hid h1
  have HT := Lib.hid hT
  obtain ⟨A1, n1, c1, A1', n1', c1', rfl⟩ := h1.shape
  clear h1 hT
  obtain ⟨M, hM, k1, k3, bM⟩ := start1 w (.bool s1) (.slice A1 n1 c1) (.slice A1' n1' c1') (.bool false) (.slice none 0 0) (.slice none 0 0) 24 24
  have HX := Lib.hid k1
  have HR := Lib.hid (show Res M (w.heap.size + 1) 24 from ⟨_, _, _, NI.bool _, NI.slice _ _ _, NI.slice _ _ _, k3⟩)
  have BM := Lib.hid bM
  replace H1 := Lib.hid (H1.out.below bM)
  replace HT := Lib.hid (HT.out.below bM)
  have C := Lib.hid (nroot s1 N1 D1 n p true M _ H1.out HT.out)
  obtain ⟨o, ho⟩ : ∃ o, grootOut (largeB s1 N1 D1) n p true (ratOf s1 N1 D1) = o := ⟨_, rfl⟩
  rw [ho] at C
  rw [ho]
  clear k1 k3 bM ho
  go_enter Tryd.func45, Tryd.ntmps45
  go_upto_region 1 with (fail)
  rw [← hM]
  clear hM
  obtain ⟨x1, x2, x3, _, _, _⟩ := HX.out.cells
  go_wp2_with fail
  refine C.out.mono ?_
  rintro e we ⟨s9, A9, n9, c9, A9', n9', c9', k9, rfl, h9, b9⟩
  replace HR := Lib.hid (HR.out.below b9)
  have BE := Lib.hid (below_step BM.out BM.out.size b9)
  obtain ⟨q0, q1, q2, hs, hb⟩ := OutIs.stored h9 HR.out BE.out (by omega)
  have Q := Lib.hid (And.intro q0 (And.intro q1 q2))
  have HS := Lib.hid hs
  have HB := Lib.hid hb
  clear b9 h9 q0 q1 q2 hs hb x1 x2 x3
  obtain ⟨r1, r2, r3, hr1, hr2, hr3, _, _, _⟩ := HR.out.cells
  go_wp2_with fail
  obtain ⟨q0, q1, q2⟩ := Q.out
  refine bodyPost_ret (v := .tuple #[.agg #[.bool s9, .slice A9 n9 c9, .slice A9' n9' c9'], .int .i64 k9]) (by simp [results, Tryd.results45, go_sem, q0, q1, q2]) rfl ?_
  exact ⟨_, _, _, _, _, _, _, _, rfl, HS.out, HB.out⟩
end Go.Proofs.YtfmhplcpejmkhaaDoor

namespace Go.Proofs.YtfmhplcpejmkhaaDoor
open Go.RowKit Dig
set_option linter.unusedVariables false
set_option linter.unusedSimpArgs false
theorem Vl.grown {w w' : World} {v : Value} {L : Bool} {q : Rat} {g : Nat} {x y z : Value} {t : TypeId} (h : Vl w v L q) (hb : Box w g x y z t) (hx : NI x) (hy : NI y) (hz : NI z) (hg : w.grownBy w' (some g)) : Vl w' v L q := by
  obtain ⟨s, N, D, h1, h2, h3⟩ := h
  exact ⟨s, N, D, h1.grown hb hx hy hz hg, h2, h3⟩
theorem Vl.fit {w : World} {v : Value} {q : Rat} (h : Vl w v false q) : fitQ q := by
  obtain ⟨s, N, D, _, h2, h3⟩ := h
  have := (largeB_false h2).2.2
  rwa [h3] at this
theorem give_ok {q r : Rat} (h : give q = .ok r) : r = q := by
  unfold give at h
  split at h
  · exact (Out.ok.inj h).symm
  · cases h
theorem vPow (L : Bool) (q : Rat) (k : Nat) (hk : k ≤ 32) (w : World) (v : Value) (h : Vl w v L q) (hT : Tab w) : Calls Tryd.prog 36 #[v, .int .i64 k] w (VPost w (fun t => L = false ∧ t = powN q k)) := by
  obtain ⟨s1, N1, D1, r1, rfl, rfl⟩ := h
  refine (nPow _ _ _ (k : Int) w _ r1 hT).mono fun e w' h => h.vp fun q hq => ?_
  unfold powOut at hq
  cases hL : largeB s1 N1 D1
  · rw [hL] at hq
    simp only [Bool.false_eq_true, if_false] at hq
    rw [if_neg (by omega), if_neg (by omega), powZ, if_neg (by omega)] at hq
    have e : ((k : Int)).natAbs = k := by omega
    rw [e] at hq
    exact ⟨rfl, give_ok hq⟩
  · rw [hL] at hq; simp at hq
theorem vRootPow (x : Rat) (k : Nat) (h2 : 2 ≤ k) (h8 : k ≤ 8) (w : World) (v : Value) (h : Vl w v false (powN x k)) (hT : Tab w) : Calls Tryd.prog 42 #[v, .int .i64 k] w fun e w' => ∃ s A n c A' n' c', e = .returned (.tuple #[.agg #[.bool s, .slice A n c, .slice A' n' c'], .bool true, .int .i64 0]) ∧ Hid (Vl w' (.agg #[.bool s, .slice A n c, .slice A' n' c']) false (if k % 2 = 1 then x else absQ x)) ∧ Below w.heap.size w w' := by
  obtain ⟨s1, N1, D1, r1, hL, hq⟩ := h
  have e0 : rootOut (largeB s1 N1 D1) (k : Int) (ratOf s1 N1 D1) = (.ok (if k % 2 = 1 then x else absQ x), true) := by
    unfold rootOut
    rw [hL, hq, if_neg (by simp), if_neg (by omega), Int.toNat_natCast]
    have f1 := (powN_facts x k).1
    rw [if_neg (by
      rintro ⟨a, b⟩
      rw [f1, decide_eq_false (by omega), Bool.and_false] at a
      cases a), if_pos (isRt_pow x (by omega)), rt_pow x (by omega)]
  refine (nRoot _ _ _ (k : Int) w _ r1 hT).mono ?_
  rw [e0]
  rintro e w' ⟨s, A, n, c, A', n', c', j, rfl, ho, hb⟩
  obtain rfl : j = 0 := ho.1
  exact ⟨s, A, n, c, A', n', c', rfl, ho.vl, hb⟩
theorem absQ_fit {q : Rat} (h : fitQ q) : fitQ (absQ q) := by
  obtain ⟨_, e2, e3⟩ := absQ_facts q
  unfold fitQ
  rw [e2, e3]
  exact h
theorem vAbs (q : Rat) (w : World) (v : Value) (h : Vl w v false q) (hT : Tab w) : Calls Tryd.prog 43 #[v] w fun e w' => ∃ s A n c A' n' c', e = .returned (.tuple #[.agg #[.bool s, .slice A n c, .slice A' n' c'], .int .i64 0]) ∧ Hid (Vl w' (.agg #[.bool s, .slice A n c, .slice A' n' c']) false (absQ q)) ∧ Below w.heap.size w w' := by
  have hf := h.fit
  obtain ⟨s1, N1, D1, r1, hL, rfl⟩ := h
  refine (nAbs _ _ _ w _ r1 hT).mono ?_
  rw [hL, if_neg (by simp), give, if_pos (absQ_fit hf)]
  rintro e w' ⟨s, A, n, c, A', n', c', j, rfl, ho, hb⟩
  obtain rfl : j = 0 := ho.1
  exact ⟨s, A, n, c, A', n', c', rfl, ho.vl, hb⟩
theorem vCanon (q : Rat) (w : World) (v : Value) (h : Vl w v false q) (hT : Tab w) : Calls Tryd.prog 27 #[v] w fun e w' => ∃ s A n c A' n' c', e = .returned (.tuple #[.agg #[.bool s, .slice A n c, .slice A' n' c'], .int .i64 0]) ∧ Hid (Vl w' (.agg #[.bool s, .slice A n c, .slice A' n' c']) false q) ∧ Below w.heap.size w w' := by
  have hf := h.fit
  obtain ⟨s1, N1, D1, r1, hL, rfl⟩ := h
  refine (nCanon _ _ _ w _ r1 hT).mono ?_
  rw [hL, if_neg (by simp), give, if_pos hf]
  rintro e w' ⟨s, A, n, c, A', n', c', j, rfl, ho, hb⟩
  obtain rfl : j = 0 := ho.1
  exact ⟨s, A, n, c, A', n', c', rfl, ho.vl, hb⟩
theorem vRootDown (L : Bool) (q : Rat) (k p : Nat) (h2 : 2 ≤ k) (h8 : k ≤ 8) (hp : p ≤ 256) (w : World) (v : Value) (h : Vl w v L q) (hT : Tab w) : Calls Tryd.prog 44 #[v, .int .i64 k, .int .i64 p] w (VPost w (fun t => L = false ∧ (ng q = true → k % 2 = 1) ∧ t = grtQ q k p false)) := by
  obtain ⟨s1, N1, D1, r1, rfl, rfl⟩ := h
  refine (nRootDown _ _ _ (k : Int) (p : Int) w _ r1 hT).mono fun e w' h => h.vp fun q hq => ?_
  unfold grootOut at hq
  cases hL : largeB s1 N1 D1
  · rw [hL, if_neg (by simp), if_neg (by omega), Int.toNat_natCast, Int.toNat_natCast] at hq
    split at hq
    · cases hq
    · rename_i hn
      refine ⟨rfl, fun h => ?_, give_ok hq⟩
      have : ¬ k % 2 = 0 := fun h0 => hn ⟨h, h0⟩
      omega
  · rw [hL] at hq; simp at hq
theorem vRootUp (L : Bool) (q : Rat) (k p : Nat) (h2 : 2 ≤ k) (h8 : k ≤ 8) (hp : p ≤ 256) (w : World) (v : Value) (h : Vl w v L q) (hT : Tab w) : Calls Tryd.prog 45 #[v, .int .i64 k, .int .i64 p] w (VPost w (fun t => L = false ∧ (ng q = true → k % 2 = 1) ∧ t = grtQ q k p true)) := by
  obtain ⟨s1, N1, D1, r1, rfl, rfl⟩ := h
  refine (nRootUp _ _ _ (k : Int) (p : Int) w _ r1 hT).mono fun e w' h => h.vp fun q hq => ?_
  unfold grootOut at hq
  cases hL : largeB s1 N1 D1
  · rw [hL, if_neg (by simp), if_neg (by omega), Int.toNat_natCast, Int.toNat_natCast] at hq
    split at hq
    · cases hq
    · rename_i hn
      refine ⟨rfl, fun h => ?_, give_ok hq⟩
      have : ¬ k % 2 = 0 := fun h0 => hn ⟨h, h0⟩
      omega
  · rw [hL] at hq; simp at hq
theorem vCompare (q1 q2 : Rat) (c : Int) (hc : cmpQ q1 q2 = c) (w : World) (v1 v2 : Value) (h1 : Vl w v1 false q1) (h2 : Vl w v2 false q2) (hT : Tab w) : Calls Tryd.prog 46 #[v1, v2] w fun e w' => e = .returned (.tuple #[.int .i64 c, .int .i64 0]) ∧ Below w.heap.size w w' := by
  obtain ⟨s1, N1, D1, r1, hL1, rfl⟩ := h1
  obtain ⟨s2, N2, D2, r2, hL2, rfl⟩ := h2
  exact nCompare _ _ _ _ _ _ w _ _ r1 r2 hT c 0 (by rw [hL1, hL2]; simpa using hc) (by rw [hL1, hL2]; rfl)
end Go.Proofs.YtfmhplcpejmkhaaDoor

namespace Go.Proofs.YtfmhplcpejmkhaaDoor
open Go.RowKit Dig
set_option linter.unusedVariables false
set_option linter.unusedSimpArgs false
theorem W_single {n : Nat} (h0 : n ≠ 0) (h : n < 4294967296) : W n = [(n : Int)] := by
  unfold W
  rw [dig_pos B32_two h0]
  have h1 : n < B32 := by unfold B32; exact h
  rw [Nat.div_eq_of_lt h1, dig_zero, Nat.mod_eq_of_lt h1]
theorem half_third : ratOf false 1 2 + ratOf false 1 3 = mkRat 5 6 := by
  show mkRat 1 2 + mkRat 1 3 = mkRat 5 6
  rw [Rat.mkRat_add_mkRat _ _ (by omega) (by omega)]
  rfl
theorem five_sixths : ng (mkRat 5 6) = false ∧ (mkRat 5 6).num.natAbs = 5 ∧ (mkRat 5 6).den = 6 := by
  have h1 : (mkRat 5 6).num = 5 := by rw [Rat.num_mkRat, if_neg (by omega)]; rfl
  have h2 : (mkRat 5 6).den = 6 := by rw [Rat.den_mkRat, if_neg (by omega)]; rfl
  refine ⟨?_, ?_, h2⟩
  · unfold ng; rw [h1]; rfl
  · rw [h1]; rfl
theorem fit_half (d : Nat) (h0 : d ≠ 0) (h : d < 4294967296) : fitQ (ratOf false 1 d) := by
  have e : ratOf false 1 d = mkRat 1 d := by unfold ratOf sg; rw [if_neg h0]; rfl
  rw [e]
  have h1 : (mkRat 1 d).num.natAbs ≤ 1 := by
    rw [Rat.num_mkRat, if_neg h0]; simp
  have h2 : (mkRat 1 d).den ≤ d := by
    rw [Rat.den_mkRat, if_neg h0]; exact Nat.div_le_self _ _
  exact ⟨Nat.le_trans (W_le_one (by omega)) (by omega), Nat.le_trans (W_le_one (by omega)) (by omega)⟩
theorem small_large (d : Nat) (h0 : d ≠ 0) (h : d < 4294967296) : largeB false 1 d = false := by
  unfold largeB
  rw [decide_eq_true ⟨Nat.le_trans (W_le_one (by omega)) (by omega), Nat.le_trans (W_le_one (by omega)) (by omega), fit_half d h0 h⟩]
  rfl
theorem rd_one (w : World) (g : Nat) (x : Int) (h : w.cell? ⟨g, 0, none⟩ = some (.int .u32 x)) : Rd w (some ⟨g, 0, none⟩) 1 [x] :=
  ⟨by simp, by omega, fun j hj => by
    have : j = 0 := by simpa using hj
    subst this
    exact ⟨_, rfl, by simpa [Addr.add, rd] using h⟩⟩
theorem raw_one {w : World} {g g' : Nat} {d : Nat} (h1 : w.cell? ⟨g, 0, none⟩ = some (.int .u32 1)) (h2 : w.cell? ⟨g', 0, none⟩ = some (.int .u32 d)) (h : d < 4294967296) :
    RawV w (.agg #[.bool false, .slice (some ⟨g, 0, none⟩) 1 1, .slice (some ⟨g', 0, none⟩) 1 1]) false 1 d := by
  refine ⟨_, _, [1], _, _, [(d : Int)], rfl, rd_one _ _ _ h1, rd_one _ _ _ h2, ?_, ?_, by simp [val], by simp [val], by simp, by simp⟩
  · exact Ok.cons (by omega) (by rw [B32_cast]; omega) (Ok.nil _)
  · exact Ok.cons (by omega) (by rw [B32_cast]; omega) (Ok.nil _)
theorem four_new (w : World) (a b c d : Value) (t : TypeId) : ∃ M, M = ((((w.alloc (.cells #[a] t)).alloc (.cells #[b] t)).alloc (.cells #[c] t)).alloc (.cells #[d] t)) ∧
    M.cell? ⟨w.heap.size, 0, none⟩ = some a ∧ M.cell? ⟨w.heap.size + 1, 0, none⟩ = some b ∧ M.cell? ⟨w.heap.size + 1 + 1, 0, none⟩ = some c ∧ M.cell? ⟨w.heap.size + 1 + 1 + 1, 0, none⟩ = some d ∧ Below w.heap.size w M := by
  refine ⟨_, rfl, ?_⟩
  have key : ∀ (w : World) (x : Value), (w.alloc (.cells #[x] t)).cell? ⟨w.heap.size, 0, none⟩ = some x ∧ Below w.heap.size w (w.alloc (.cells #[x] t)) ∧ (w.alloc (.cells #[x] t)).heap.size = w.heap.size + 1 := by
    intro w x
    refine ⟨?_, below_alloc _ _, by simp⟩
    exact (cell_of_row _ _ 0 _ _ (0, 0) (heap_alloc_new w (.cells #[x] t))).trans rfl
  obtain ⟨a1, b1, s1⟩ := key w a
  generalize w.alloc (.cells #[a] t) = w1 at *
  obtain ⟨a2, b2, s2⟩ := key w1 b
  generalize w1.alloc (.cells #[b] t) = w2 at *
  obtain ⟨a3, b3, s3⟩ := key w2 c
  generalize w2.alloc (.cells #[c] t) = w3 at *
  obtain ⟨a4, b4, s4⟩ := key w3 d
  generalize w3.alloc (.cells #[d] t) = w4 at *
  rw [s1] at a2 s2
  rw [s2] at a3 s3
  rw [s3] at a4
  exact ⟨cell_later b4 (cell_later b3 (cell_later b2 a1)), cell_later b4 (cell_later b3 a2), cell_later b4 a3, a4, below_step b1 b1.size (below_step b2 b2.size (below_step b3 b3.size b4))⟩
set_option maxHeartbeats 1000000 in
set_option maxRecDepth 100000 in
theorem lAwake (w : World) (hT : Tab w) : Calls Tryd.prog 18 #[] w fun e w' => e = .returned (.bool true) ∧ Below w.heap.size w w' := by
  obtain ⟨M, hM, k1, k2, k3, k4, bM⟩ := four_new w (.int .u32 1) (.int .u32 2) (.int .u32 1) (.int .u32 3) 68
  have C := Lib.hid (nAdd false 1 2 false 1 3 M _ _ (raw_one k1 k2 (by omega)) (raw_one k3 k4 (by omega)) (hT.below bM))
  rw [small_large 2 (by omega) (by omega), small_large 3 (by omega) (by omega), half_third] at C
  have BM := Lib.hid bM
  clear k1 k2 k3 k4 bM hT
  go_enter Tryd.func18, Tryd.ntmps18
  go_wp2_with fail
  rw [← hM]
  clear hM
  refine C.out.mono ?_
  rintro e wa ⟨s9, A9, n9, c9, A9', n9', c9', k9, rfl, h9, b9⟩
  have BA := Lib.hid (below_step BM.out BM.out.size b9)
  have hf : fitQ (mkRat 5 6) := by
    obtain ⟨_, h2, h3⟩ := five_sixths
    unfold fitQ
    rw [h2, h3]
    exact ⟨Nat.le_trans (W_le_one (by omega)) (by omega), Nat.le_trans (W_le_one (by omega)) (by omega)⟩
  have hg : (if (false || false) = true then Out.err 1 else give (mkRat 5 6)) = .ok (mkRat 5 6) := by
    show give (mkRat 5 6) = _
    unfold give
    rw [if_pos hf]
  rw [hg] at h9
  obtain ⟨rfl, ⟨B1, b1, B2, b2, e, r1, r2⟩, _⟩ := h9
  obtain ⟨h1, h2, h3⟩ := five_sixths
  rw [h1, h2, h3] at e
  rw [h2, W_single (by omega) (by omega)] at r1
  rw [h3, DW, if_neg (by omega), W_single (by omega) (by omega)] at r2
  rw [W_single (by omega) (by omega), DW, if_neg (by omega), W_single (by omega) (by omega)] at e
  obtain ⟨p1, rfl⟩ := r1.some_ (by simp)
  obtain ⟨p2, rfl⟩ := r2.some_ (by simp)
  simp only [Value.agg.injEq, Array.mk.injEq, List.cons.injEq, Value.bool.injEq, Value.slice.injEq, and_true, List.length_cons, List.length_nil] at e
  obtain ⟨rfl, ⟨rfl, rfl, rfl⟩, rfl, rfl, rfl⟩ := e
  have q1 := r1.cell 0 (by simp)
  have q2 := r2.cell 0 (by simp)
  have e1 := r1.le
  have e2 := r2.le
  have e3 := r1.max
  have e4 := r2.max
  replace q1 : wa.cell? p1 = some (.int .u32 5) := by simpa [Addr.add, rd] using q1
  replace q2 : wa.cell? p2 = some (.int .u32 6) := by simpa [Addr.add, rd] using q2
  simp only [List.length_cons, List.length_nil] at e1 e2
  have ba := below_alloc wa (.cells #[.bool false, .slice (some p1) 1 c9, .slice (some p2) 1 c9'] 24)
  have q3 := cell_later ba q1
  have q4 := cell_later ba q2
  have BB := Lib.hid (below_step BA.out BA.out.size ba)
  clear r1 r2 ba C
  go_wp2
  go_ret
  exact ⟨rfl, BB.out⟩
end Go.Proofs.YtfmhplcpejmkhaaDoor

namespace Go.Proofs.YtfmhplcpejmkhaaDoor
open Go.RowKit Dig
set_option linter.unusedVariables false
set_option linter.unusedSimpArgs false
set_option maxHeartbeats 8000000 in
set_option maxRecDepth 100000 in
theorem wNumberPowers (s1 : Bool) (N1 D1 : Nat) (j p : Nat) (hj : j ≤ 255) (hp : p ≤ 255) (w : World) (v1 : Value) (h1 : RawV w v1 s1 N1 D1) (hT : Tab w) :
    Calls Tryd.prog 10 #[v1, .int .u8 j, .int .u8 p] w fun e w' => e = .returned (.bool true) ∧ Below w.heap.size w w' := by
  obtain ⟨A1, n1, c1, A1', n1', c1', rfl⟩ := h1.shape
  obtain ⟨M, hM, k1, bM⟩ : ∃ M, M = w.alloc (.cells #[.bool s1, .slice A1 n1 c1, .slice A1' n1' c1'] 24) ∧ Box M w.heap.size (.bool s1) (.slice A1 n1 c1) (.slice A1' n1' c1') 24 ∧ Below w.heap.size w M := ⟨_, rfl, Box.new _ _ _ _ _, below_alloc _ _⟩
  obtain ⟨q, hq⟩ : ∃ t, ratOf s1 N1 D1 = t := ⟨_, rfl⟩
  obtain ⟨Lx, hL⟩ : ∃ t, largeB s1 N1 D1 = t := ⟨_, rfl⟩
  have Zx := Lib.hid k1
  have Vx := Lib.hid (show Vl M (.agg #[.bool s1, .slice A1 n1 c1, .slice A1' n1' c1']) Lx q from ⟨s1, N1, D1, h1.below bM, hL, hq⟩)
  have HT := Lib.hid (hT.below bM)
  have BM := Lib.hid bM
  obtain ⟨k, hk⟩ : ∃ k, 2 + j % 7 = k := ⟨_, rfl⟩
  have hki : (2 : Int) + (j : Int) % 7 = (k : Int) := by omega
  have HK2 := Lib.hid (show 2 ≤ k by omega)
  have HK8 := Lib.hid (show k ≤ 8 by omega)
  have hk8 : k ≤ 8 := HK8.out
  have HP := Lib.hid (show p ≤ 256 by omega)
  have hm := tmod_two k
  have hm2 : IntKind.i64.wrap ((k % 2 : Nat) : Int) = ((k % 2 : Nat) : Int) := wraps_i64 _ (by omega) (by omega)
  have u1 : IntKind.i64.wrap (k : Int) = (k : Int) := wrap_i64 _ (by omega) (by omega)
  have u2 : IntKind.i64.wrap (p : Int) = (p : Int) := wrap_i64 _ (by omega) (by omega)
  clear hT h1 k1 bM hq hL hk
  go_enter Tryd.func10, Tryd.ntmps10
  go_upto_region 2 with (fail)
  rw [← hM]
  clear hM
  obtain ⟨x0, y0, z0, f01, f02, f03⟩ := Zx.out.cells
  go_wp2_with fail
  refine (vPow Lx q k (Nat.le_trans HK8.out (by omega)) _ _ Vx.out HT.out).mono ?_
  rintro e wy ⟨py, Py, my, dy, Py', my', dy', ky, ty, rfl, hvy, Fy, bw⟩
  have bq := below_step bw bw.size (below_alloc wy (.cells #[.bool py, .slice Py my dy, .slice Py' my' dy'] 24))
  have Vy := Lib.hid (hvy.out.below (below_alloc wy (.cells #[.bool py, .slice Py my dy, .slice Py' my' dy'] 24)))
  have Zy := Lib.hid (Box.new wy (.bool py) (.slice Py my dy) (.slice Py' my' dy') 24)
  replace HT := Lib.hid (HT.out.below bq)
  replace Zx := Lib.hid (Zx.out.below bq)
  replace Vx := Lib.hid (Vx.out.below bq)
  replace BM := Lib.hid (below_step BM.out BM.out.size bq)
  obtain ⟨wv, hv⟩ : ∃ v, wy.alloc (.cells #[.bool py, .slice Py my dy, .slice Py' my' dy'] 24) = v := ⟨_, rfl⟩
  clear bq bw hvy x0 y0 z0 f01 f02 f03
  go_upto_if 36 with (fail)
  rw [hv] at BM HT Zx Vx Vy Zy
  try rw [hv]
  clear hv
  go_cut [] (fun wc => Hid (Below wv.heap.size wv wc))
  case first =>
    by_cases hky : ky = 0
    · subst hky
      obtain ⟨rfl, rfl⟩ := Fy.out rfl
      clear Fy
      have B0 := Lib.hid (Below.refl wv.heap.size wv)
      have SZ := Lib.hid (Nat.le_refl wv.heap.size)
      obtain ⟨w0, hw0⟩ : ∃ x, wv = x := ⟨_, rfl⟩
      rw [hw0] at B0 SZ
      have B0 := Lib.hid (show Below w0.heap.size w0 wv by rw [hw0]; exact Below.refl _ _)
      have HW0 := Lib.hid hw0
      clear hw0
      obtain ⟨x0, y0, z0, f01, f02, f03⟩ := Zy.out.cells
      go_wp2_with fail
      refine (vRootPow q k HK2.out HK8.out _ _ Vy.out HT.out).mono ?_
      rintro e wr ⟨pr, Pr, mr, dr, Pr', mr', dr', rfl, hvr, bw⟩
      have bq := below_step bw bw.size (below_alloc wr (.cells #[.bool pr, .slice Pr mr dr, .slice Pr' mr' dr'] 24))
      have Vr := Lib.hid (hvr.out.below (below_alloc wr (.cells #[.bool pr, .slice Pr mr dr, .slice Pr' mr' dr'] 24)))
      have Zr := Lib.hid (Box.new wr (.bool pr) (.slice Pr mr dr) (.slice Pr' mr' dr') 24)
      replace HT := Lib.hid (HT.out.below bq)
      replace Zx := Lib.hid (Zx.out.below bq)
      replace Vx := Lib.hid (Vx.out.below bq)
      replace Vy := Lib.hid (Vy.out.below bq)
      replace Zy := Lib.hid (Zy.out.below bq)
      replace B0 := Lib.hid (below_step B0.out B0.out.size bq)
      obtain ⟨wv, hv⟩ : ∃ v, wr.alloc (.cells #[.bool pr, .slice Pr mr dr, .slice Pr' mr' dr'] 24) = v := ⟨_, rfl⟩
      clear bq bw hvr x0 y0 z0 f01 f02 f03
      go_upto_region 5 with (fail)
      rw [hv] at B0 HT Zx Vx Vy Zy Vr Zr
      try rw [hv]
      clear hv
      obtain ⟨x0, y0, z0, f01, f02, f03⟩ := Zx.out.cells
      go_wp2_with fail
      refine (vAbs q _ _ Vx.out HT.out).mono ?_
      rintro e wa ⟨pa, Pa, ma, da, Pa', ma', da', rfl, hva, bw⟩
      have NE := Lib.hid (show wr.heap.size ≠ wa.heap.size by have := Zr.out.lt; have := bw.size; omega)
      have SA := Lib.hid (show w0.heap.size ≤ wa.heap.size by have := B0.out.size; have := bw.size; omega)
      have bq := below_step bw bw.size (below_alloc wa (.cells #[.bool pa, .slice Pa ma da, .slice Pa' ma' da'] 24))
      have Va := Lib.hid (hva.out.below (below_alloc wa (.cells #[.bool pa, .slice Pa ma da, .slice Pa' ma' da'] 24)))
      have Za := Lib.hid (Box.new wa (.bool pa) (.slice Pa ma da) (.slice Pa' ma' da') 24)
      replace HT := Lib.hid (HT.out.below bq)
      replace Zx := Lib.hid (Zx.out.below bq)
      replace Vx := Lib.hid (Vx.out.below bq)
      replace Vy := Lib.hid (Vy.out.below bq)
      replace Zy := Lib.hid (Zy.out.below bq)
      replace Vr := Lib.hid (Vr.out.below bq)
      replace Zr := Lib.hid (Zr.out.below bq)
      replace B0 := Lib.hid (below_step B0.out B0.out.size bq)
      obtain ⟨wv, hv⟩ : ∃ v, wa.alloc (.cells #[.bool pa, .slice Pa ma da, .slice Pa' ma' da'] 24) = v := ⟨_, rfl⟩
      clear bq bw hva x0 y0 z0 f01 f02 f03
      go_upto_region 6 with (fail)
      rw [hv] at B0 HT Zx Vx Vy Zy Vr Zr Va Za
      try rw [hv]
      clear hv
      by_cases ho : k % 2 = 1
      · rw [ho] at hm hm2
        rw [if_pos ho] at Vr
        clear ho
        obtain ⟨x0, y0, z0, f01, f02, f03⟩ := Zx.out.cells
        obtain ⟨a0, b0, c0, g01, g02, g03⟩ := Za.out.cells
        go_wp2_with fail
        refine (vCanon q _ _ Vx.out HT.out).mono ?_
        rintro e wn ⟨pn, Pn, mn, dn, Pn', mn', dn', rfl, hvn, bw⟩
        have hvn := hvn.out
        replace HT := Lib.hid (HT.out.below bw)
        replace Zx := Lib.hid (Zx.out.below bw)
        replace Vx := Lib.hid (Vx.out.below bw)
        replace Vy := Lib.hid (Vy.out.below bw)
        replace Zy := Lib.hid (Zy.out.below bw)
        replace Vr := Lib.hid (Vr.out.below bw)
        replace Zr := Lib.hid (Zr.out.below bw)
        replace Va := Lib.hid (Va.out.below bw)
        replace Za := Lib.hid (Za.out.below bw)
        replace B0 := Lib.hid (below_step B0.out B0.out.size bw)
        clear bw x0 y0 z0 f01 f02 f03 a0 b0 c0 g01 g02 g03
        have hg := grown_set3 wn wa.heap.size (.bool pn) (.slice Pn mn dn) (.slice Pn' mn' dn')
        have VN := Lib.hid (hvn.grown Za.out (NI.bool _) (NI.slice _ _ _) (NI.slice _ _ _) hg)
        have VR := Lib.hid (Vr.out.grown Za.out (NI.bool _) (NI.slice _ _ _) (NI.slice _ _ _) hg)
        have ZN := Lib.hid (Za.out.set3 (.bool pn) (.slice Pn mn dn) (.slice Pn' mn' dn'))
        have ZR := Lib.hid (show Box _ wr.heap.size (.bool pr) (.slice Pr mr dr) (.slice Pr' mr' dr') 24 from (hg.block _ Zr.out.lt (fun e => NE.out (Option.some.inj e))).trans Zr.out)
        have BN := Lib.hid (below_set3 B0.out SA.out (.bool pn) (.slice Pn mn dn) (.slice Pn' mn' dn'))
        obtain ⟨a0, b0, c0, g01, g02, g03⟩ := Za.out.cells
        clear hg hvn
        obtain ⟨w8, hw8⟩ : ∃ x, (((wn.setCell ⟨wa.heap.size, 0, none⟩ (.bool pn)).setCell ⟨wa.heap.size, 1, none⟩ (.slice Pn mn dn)).setCell ⟨wa.heap.size, 2, none⟩ (.slice Pn' mn' dn')) = x := ⟨_, rfl⟩
        go_upto_region 8 with (fail)
        rw [hw8] at VN VR ZN ZR BN
        try rw [hw8]
        clear hw8 a0 b0 c0 g01 g02 g03 Va Za Vr Zr B0
        obtain ⟨x0, y0, z0, f01, f02, f03⟩ := ZR.out.cells
        obtain ⟨x1, y1, z1, f11, f12, f13⟩ := ZN.out.cells
        go_wp2_with fail
        refine (vEqual false false q q _ _ _ VR.out VN.out rfl).mono ?_
        rintro e we ⟨rfl, be⟩
        replace BN := Lib.hid (below_step BN.out BN.out.size be)
        clear be
        go_wp2_with fail
        go_meet
        case rel => rw [HW0.out]; exact BN
      · have ho2 : k % 2 = 0 := by omega
        rw [ho2] at hm hm2
        rw [if_neg ho] at Vr
        clear ho ho2
        obtain ⟨x0, y0, z0, f01, f02, f03⟩ := Zr.out.cells
        obtain ⟨x1, y1, z1, f11, f12, f13⟩ := Za.out.cells
        go_wp2_with fail
        refine (vEqual false false _ _ _ _ _ Vr.out Va.out rfl).mono ?_
        rintro e we ⟨rfl, be⟩
        replace B0 := Lib.hid (below_step B0.out B0.out.size be)
        clear be
        go_wp2_with fail
        go_meet
        case rel => rw [HW0.out]; exact B0
    · have f1 : (ky == 0) = false := beq_eq_false_iff_ne.2 hky
      have f2 : decide (ky = 0) = false := decide_eq_false hky
      clear hky
      go_wp2_with fail
      go_meet
      case rel => exact Lib.hid (Below.refl _ _)
  case rest =>
    have bq := hcut.out
    clear Fy Vy Zy hcut
    replace HT := Lib.hid (HT.out.below bq)
    replace Zx := Lib.hid (Zx.out.below bq)
    replace Vx := Lib.hid (Vx.out.below bq)
    replace BM := Lib.hid (below_step BM.out BM.out.size bq)
    clear bq
    obtain ⟨x0, y0, z0, f01, f02, f03⟩ := Zx.out.cells
    go_wp2_with fail
    refine (vRootDown Lx q k p HK2.out HK8.out HP.out _ _ Vx.out HT.out).mono ?_
    rintro e wa ⟨pa, Pa, ma, da, Pa', ma', da', ka, ta, rfl, hva, Fa, bw⟩
    have bq := below_step bw bw.size (below_alloc wa (.cells #[.bool pa, .slice Pa ma da, .slice Pa' ma' da'] 24))
    have Va := Lib.hid (hva.out.below (below_alloc wa (.cells #[.bool pa, .slice Pa ma da, .slice Pa' ma' da'] 24)))
    have Za := Lib.hid (Box.new wa (.bool pa) (.slice Pa ma da) (.slice Pa' ma' da') 24)
    replace HT := Lib.hid (HT.out.below bq)
    replace Zx := Lib.hid (Zx.out.below bq)
    replace Vx := Lib.hid (Vx.out.below bq)
    replace BM := Lib.hid (below_step BM.out BM.out.size bq)
    obtain ⟨wv, hv⟩ : ∃ v, wa.alloc (.cells #[.bool pa, .slice Pa ma da, .slice Pa' ma' da'] 24) = v := ⟨_, rfl⟩
    clear bq bw hva x0 y0 z0 f01 f02 f03
    go_upto_region 11 with (fail)
    rw [hv] at BM HT Zx Vx Va Za
    try rw [hv]
    clear hv
    obtain ⟨x0, y0, z0, f01, f02, f03⟩ := Zx.out.cells
    go_wp2_with fail
    refine (vRootUp Lx q k p HK2.out HK8.out HP.out _ _ Vx.out HT.out).mono ?_
    rintro e wb ⟨pb, Pb, mb, db, Pb', mb', db', kb, tb, rfl, hvb, Fb, bw⟩
    have bq := below_step bw bw.size (below_alloc wb (.cells #[.bool pb, .slice Pb mb db, .slice Pb' mb' db'] 24))
    have Vb := Lib.hid (hvb.out.below (below_alloc wb (.cells #[.bool pb, .slice Pb mb db, .slice Pb' mb' db'] 24)))
    have Zb := Lib.hid (Box.new wb (.bool pb) (.slice Pb mb db) (.slice Pb' mb' db') 24)
    replace HT := Lib.hid (HT.out.below bq)
    replace Zx := Lib.hid (Zx.out.below bq)
    replace Vx := Lib.hid (Vx.out.below bq)
    replace Va := Lib.hid (Va.out.below bq)
    replace Za := Lib.hid (Za.out.below bq)
    replace BM := Lib.hid (below_step BM.out BM.out.size bq)
    obtain ⟨wv, hv⟩ : ∃ v, wb.alloc (.cells #[.bool pb, .slice Pb mb db, .slice Pb' mb' db'] 24) = v := ⟨_, rfl⟩
    clear bq bw hvb x0 y0 z0 f01 f02 f03
    go_upto_region 12 with (fail)
    rw [hv] at BM HT Zx Vx Va Za Vb Zb
    try rw [hv]
    clear hv
    by_cases hka : ka = 0
    · subst hka
      by_cases hkb : kb = 0
      · subst hkb
        obtain ⟨rfl, hodd, ea⟩ := Fa.out rfl
        obtain ⟨_, _, eb⟩ := Fb.out rfl
        have bt := grt_between q (k := k) (p := p) (by have := HK2.out; omega) hodd
        rw [← ea, ← eb] at bt
        have BT := Lib.hid bt
        clear Fa Fb hodd ea eb bt
        obtain ⟨x0, y0, z0, f01, f02, f03⟩ := Za.out.cells
        go_wp2_with fail
        refine (vPow false ta k (Nat.le_trans HK8.out (by omega)) _ _ Va.out HT.out).mono ?_
        rintro e wc ⟨pc, Pc, mc, dc, Pc', mc', dc', kc, tc, rfl, hvc, Fc, bw⟩
        have bq := below_step bw bw.size (below_alloc wc (.cells #[.bool pc, .slice Pc mc dc, .slice Pc' mc' dc'] 24))
        have Vc := Lib.hid (hvc.out.below (below_alloc wc (.cells #[.bool pc, .slice Pc mc dc, .slice Pc' mc' dc'] 24)))
        have Zc := Lib.hid (Box.new wc (.bool pc) (.slice Pc mc dc) (.slice Pc' mc' dc') 24)
        replace HT := Lib.hid (HT.out.below bq)
        replace Zx := Lib.hid (Zx.out.below bq)
        replace Vx := Lib.hid (Vx.out.below bq)
        replace Va := Lib.hid (Va.out.below bq)
        replace Za := Lib.hid (Za.out.below bq)
        replace Vb := Lib.hid (Vb.out.below bq)
        replace Zb := Lib.hid (Zb.out.below bq)
        replace BM := Lib.hid (below_step BM.out BM.out.size bq)
        obtain ⟨wv, hv⟩ : ∃ v, wc.alloc (.cells #[.bool pc, .slice Pc mc dc, .slice Pc' mc' dc'] 24) = v := ⟨_, rfl⟩
        clear bq bw hvc x0 y0 z0 f01 f02 f03
        go_upto_region 15 with (fail)
        rw [hv] at BM HT Zx Vx Va Za Vb Zb Vc Zc
        try rw [hv]
        clear hv
        obtain ⟨x0, y0, z0, f01, f02, f03⟩ := Zb.out.cells
        go_wp2_with fail
        refine (vPow false tb k (Nat.le_trans HK8.out (by omega)) _ _ Vb.out HT.out).mono ?_
        rintro e wd ⟨pd, Pd, md, dd, Pd', md', dd', kd, td, rfl, hvd, Fd, bw⟩
        have bq := below_step bw bw.size (below_alloc wd (.cells #[.bool pd, .slice Pd md dd, .slice Pd' md' dd'] 24))
        have Vd := Lib.hid (hvd.out.below (below_alloc wd (.cells #[.bool pd, .slice Pd md dd, .slice Pd' md' dd'] 24)))
        have Zd := Lib.hid (Box.new wd (.bool pd) (.slice Pd md dd) (.slice Pd' md' dd') 24)
        replace HT := Lib.hid (HT.out.below bq)
        replace Zx := Lib.hid (Zx.out.below bq)
        replace Vx := Lib.hid (Vx.out.below bq)
        replace Va := Lib.hid (Va.out.below bq)
        replace Za := Lib.hid (Za.out.below bq)
        replace Vb := Lib.hid (Vb.out.below bq)
        replace Zb := Lib.hid (Zb.out.below bq)
        replace Vc := Lib.hid (Vc.out.below bq)
        replace Zc := Lib.hid (Zc.out.below bq)
        replace BM := Lib.hid (below_step BM.out BM.out.size bq)
        obtain ⟨wv, hv⟩ : ∃ v, wd.alloc (.cells #[.bool pd, .slice Pd md dd, .slice Pd' md' dd'] 24) = v := ⟨_, rfl⟩
        clear bq bw hvd x0 y0 z0 f01 f02 f03
        go_upto_region 16 with (fail)
        rw [hv] at BM HT Zx Vx Va Za Vb Zb Vc Zc Vd Zd
        try rw [hv]
        clear hv
        obtain ⟨lo, hlo⟩ : ∃ c, cmpQ tc q = c := ⟨_, rfl⟩
        obtain ⟨hi, hhi⟩ : ∃ c, cmpQ q td = c := ⟨_, rfl⟩
        have HLO := Lib.hid hlo
        have HHI := Lib.hid hhi
        clear hlo hhi
        obtain ⟨x0, y0, z0, f01, f02, f03⟩ := Zc.out.cells
        obtain ⟨x1, y1, z1, f11, f12, f13⟩ := Zx.out.cells
        go_wp2_with fail
        refine (vCompare tc q lo HLO.out _ _ _ Vc.out Vx.out HT.out).mono ?_
        rintro e we ⟨rfl, be⟩
        replace HT := Lib.hid (HT.out.below be)
        replace Zx := Lib.hid (Zx.out.below be)
        replace Vx := Lib.hid (Vx.out.below be)
        replace Va := Lib.hid (Va.out.below be)
        replace Za := Lib.hid (Za.out.below be)
        replace Vb := Lib.hid (Vb.out.below be)
        replace Zb := Lib.hid (Zb.out.below be)
        replace Vc := Lib.hid (Vc.out.below be)
        replace Zc := Lib.hid (Zc.out.below be)
        replace Vd := Lib.hid (Vd.out.below be)
        replace Zd := Lib.hid (Zd.out.below be)
        replace BM := Lib.hid (below_step BM.out BM.out.size be)
        clear be x0 y0 z0 f01 f02 f03 x1 y1 z1 f11 f12 f13
        obtain ⟨x0, y0, z0, f01, f02, f03⟩ := Zx.out.cells
        obtain ⟨x1, y1, z1, f11, f12, f13⟩ := Zd.out.cells
        go_wp2_with fail
        refine (vCompare q td hi HHI.out _ _ _ Vx.out Vd.out HT.out).mono ?_
        rintro e we ⟨rfl, be⟩
        replace HT := Lib.hid (HT.out.below be)
        replace Zx := Lib.hid (Zx.out.below be)
        replace Vx := Lib.hid (Vx.out.below be)
        replace Va := Lib.hid (Va.out.below be)
        replace Za := Lib.hid (Za.out.below be)
        replace Vb := Lib.hid (Vb.out.below be)
        replace Zb := Lib.hid (Zb.out.below be)
        replace Vc := Lib.hid (Vc.out.below be)
        replace Zc := Lib.hid (Zc.out.below be)
        replace Vd := Lib.hid (Vd.out.below be)
        replace Zd := Lib.hid (Zd.out.below be)
        replace BM := Lib.hid (below_step BM.out BM.out.size be)
        clear be x0 y0 z0 f01 f02 f03 x1 y1 z1 f11 f12 f13
        go_upto_region 18 with (fail)
        by_cases hkc : kc = 0
        · subst hkc
          by_cases hkd : kd = 0
          · subst hkd
            have l1 : decide (lo ≤ 0) = true := decide_eq_true (by rw [← HLO.out, (Fc.out rfl).2]; exact BT.out.1)
            have l2 : decide (hi ≤ 0) = true := decide_eq_true (by rw [← HHI.out, (Fd.out rfl).2]; exact BT.out.2)
            clear Fc Fd BT HLO HHI
            go_wp2_with fail
            refine (lAwake _ HT.out).mono ?_
            rintro e w9 ⟨rfl, b9⟩
            replace BM := Lib.hid (below_step BM.out BM.out.size b9)
            clear b9
            go_wp2
            go_ret
            exact ⟨rfl, BM.out⟩
          · have f1d : (kd == 0) = false := beq_eq_false_iff_ne.2 hkd
            have f2d : decide (kd = 0) = false := decide_eq_false hkd
            have f3d : (kd != 0) = true := by simp [bne, f1d]
            clear hkd
            have l1 : decide (lo ≤ 0) = true := decide_eq_true (by rw [← HLO.out, (Fc.out rfl).2]; exact BT.out.1)
            clear Fc Fd BT HLO HHI
            go_wp2_with fail
            refine (lAwake _ HT.out).mono ?_
            rintro e w9 ⟨rfl, b9⟩
            replace BM := Lib.hid (below_step BM.out BM.out.size b9)
            clear b9
            go_wp2
            go_ret
            exact ⟨rfl, BM.out⟩
        · have f1c : (kc == 0) = false := beq_eq_false_iff_ne.2 hkc
          have f2c : decide (kc = 0) = false := decide_eq_false hkc
          have f3c : (kc != 0) = true := by simp [bne, f1c]
          clear hkc
          by_cases hkd : kd = 0
          · subst hkd
            have l2 : decide (hi ≤ 0) = true := decide_eq_true (by rw [← HHI.out, (Fd.out rfl).2]; exact BT.out.2)
            clear Fc Fd BT HLO HHI
            go_wp2_with fail
            refine (lAwake _ HT.out).mono ?_
            rintro e w9 ⟨rfl, b9⟩
            replace BM := Lib.hid (below_step BM.out BM.out.size b9)
            clear b9
            go_wp2
            go_ret
            exact ⟨rfl, BM.out⟩
          · have f1d : (kd == 0) = false := beq_eq_false_iff_ne.2 hkd
            have f2d : decide (kd = 0) = false := decide_eq_false hkd
            have f3d : (kd != 0) = true := by simp [bne, f1d]
            clear hkd
            clear Fc Fd BT HLO HHI
            go_wp2_with fail
            refine (lAwake _ HT.out).mono ?_
            rintro e w9 ⟨rfl, b9⟩
            replace BM := Lib.hid (below_step BM.out BM.out.size b9)
            clear b9
            go_wp2
            go_ret
            exact ⟨rfl, BM.out⟩
      · have f1 : (kb == 0) = false := beq_eq_false_iff_ne.2 hkb
        have f2 : decide (kb = 0) = false := decide_eq_false hkb
        have f3 : (kb != 0) = true := by simp [bne, f1]
        clear hkb
        go_wp2_with fail
        refine (lAwake _ HT.out).mono ?_
        rintro e w9 ⟨rfl, b9⟩
        replace BM := Lib.hid (below_step BM.out BM.out.size b9)
        clear b9
        go_wp2
        go_ret
        exact ⟨rfl, BM.out⟩
    · have f1 : (ka == 0) = false := beq_eq_false_iff_ne.2 hka
      have f2 : decide (ka = 0) = false := decide_eq_false hka
      have f3 : (ka != 0) = true := by simp [bne, f1]
      clear hka
      go_wp2_with fail
      refine (lAwake _ HT.out).mono ?_
      rintro e w9 ⟨rfl, b9⟩
      replace BM := Lib.hid (below_step BM.out BM.out.size b9)
      clear b9
      go_wp2
      go_ret
      exact ⟨rfl, BM.out⟩
theorem wNumberPowers8 (s1 : Bool) (N1 D1 : Nat) (n m : Int) (hn : (Lit.int .u8 n).wf = true) (hm : (Lit.int .u8 m).wf = true) (w : World) (v1 : Value) (h1 : RawV w v1 s1 N1 D1) (hT : Tab w) :
    Calls Tryd.prog 10 #[v1, .int .u8 n, .int .u8 m] w fun e w' => e = .returned (.bool true) ∧ Below w.heap.size w w' := by
  simp only [Lit.wf, Bool.and_eq_true, decide_eq_true_eq] at hn hm
  have e1 : IntKind.min .u8 = 0 := by decide
  have e2 : IntKind.max .u8 = 255 := by decide
  rw [e1, e2] at hn hm
  obtain ⟨k, rfl⟩ : ∃ k : Nat, n = (k : Int) := ⟨n.toNat, by omega⟩
  obtain ⟨j, rfl⟩ : ∃ j : Nat, m = (j : Int) := ⟨m.toNat, by omega⟩
  exact wNumberPowers s1 N1 D1 k j (by omega) (by omega) w v1 h1 hT
end Go.Proofs.YtfmhplcpejmkhaaDoor

namespace Go.Proofs.YtfmhplcpejmkhaaDoor
open Go.ChangeShapes Go.WideShapes Go.ChangeAt Go.RowKit Dig
set_option linter.unusedVariables false
set_option linter.unusedSimpArgs false
theorem own : ownKnob Tryd.prog.godebug = none := by kernel_rfl
theorem gTab : Tryd.prog.globalNamed "math/bits.deBruijn32tab" = some 0 := by kernel_rfl
theorem gTabType : (Tryd.prog.globals[0]?).map (·.type) = some 116 := by kernel_rfl
theorem cellsTab : Tryd.prog.cellsOf 116 = 32 := by kernel_rfl
theorem cellsU8 : Tryd.prog.cellsOf 5 = 1 := by kernel_rfl
theorem cellsU32 : Tryd.prog.cellsOf 68 = 1 := by kernel_rfl
theorem cellsRat : Tryd.prog.cellsOf 24 = 3 := by kernel_rfl
theorem laidOut : laidOutB Tryd.prog = true := by kernel_rfl
theorem tab_of {W : World} (h : laidMetH Tryd.prog [("math/bits.deBruijn32tab", Rows.laid_math_bits_deBruijn32tab)] W) : Tab W := by
  have t : Lib.TabIs Tryd.prog W "math/bits.deBruijn32tab" .u8 (Lib.deBruijn32tab.map Int.ofNat) :=
    Lib.tabIs_of_head (rest := []) gTab gTabType Tryd.underlying116 Tryd.underlying5 cellsU8 cellsTab h
  intro j hj
  have hc := t.cell gTab j (by simpa using hj)
  rw [hc]
  congr 2
  simp [List.getD, hj]
set_option maxRecDepth 100000 in
/-- a slice of words that comes in -/
theorem open_rd {H : Type} {enc : TypeId × Value → H} {W : World} {n : Nat} {v : Value} {y : DataW H × List MemPlace} (h : DataW.trod enc Tryd.prog W 0 (fun _ => true) true n 22 [v] = some y) :
    ∃ A c l, v = .slice A l.length c ∧ Rd W A c l ∧ Ok B32 l ∧ l.length < Rows.uptoBulk y.1 := by
  rcases open_ints Tryd.underlying22 Tryd.underlying68 cellsU32 h with ⟨e, rfl⟩ | ⟨a, len, cap, zs, e, _, hl, hm, hz, rfl, hc, hw⟩
  · obtain rfl : v = .slice none 0 0 := by simpa using e
    exact ⟨none, 0, [], rfl, ⟨Nat.le_refl _, Nat.zero_le _, fun j hj => absurd hj (Nat.not_lt_zero _)⟩, (fun x (hx : x ∈ []) => by simp at hx), by simp [Rows.uptoBulk]⟩
  · obtain rfl : v = .slice (some a) len cap := by simpa using e
    rw [if_pos rfl] at hz
    refine ⟨some a, cap, zs.take len, by simp [hz, Nat.min_eq_left hl], ⟨by simp [hz]; omega, by unfold maxLen at hm; omega, ?_⟩, ?_, ?_⟩
    · intro j hj
      have hj' : j < len := by simp [hz] at hj; omega
      refine ⟨a, rfl, ?_⟩
      rw [hc j (by omega)]
      have : j < zs.length := by omega
      simp [rd, List.getD, hj', List.getElem?_take]
    · intro x hx
      have := hw x (List.mem_of_mem_take hx)
      simp only [Lit.wf, Bool.and_eq_true, decide_eq_true_eq] at this
      have e1 : IntKind.min .u32 = 0 := by decide
      have e2 : IntKind.max .u32 = 4294967295 := by decide
      rw [e1, e2] at this
      unfold B32
      omega
    · have : ∀ l : List (DataW H), l.length ≤ Rows.uptoBulkAll l := by
        intro l
        induction l with
        | nil => simp [Rows.uptoBulkAll]
        | cons x r ih =>
          have h1 : 1 ≤ Rows.uptoBulk x := by
            cases x with
            | lit l => cases l <;> simp [Rows.uptoBulk]
            | _ => simp [Rows.uptoBulk]
          simp only [Rows.uptoBulkAll, List.length_cons]
          omega
      have h2 := this (lits (H := H) .u32 (zs.take len))
      have h3 : (lits (H := H) .u32 (zs.take len)).length = (zs.take len).length := by simp [lits]
      simp only [Rows.uptoBulk]
      omega
theorem fin_agg3 {H : Type} (a b c : DataW H) : Rows.uptoBulk b < Rows.uptoBulk (.agg [a, b, c]) ∧ Rows.uptoBulk c < Rows.uptoBulk (.agg [a, b, c]) := by
  have h1 : ∀ x : DataW H, 1 ≤ Rows.uptoBulk x := by
    intro x
    cases x with
    | lit l => cases l <;> simp [Rows.uptoBulk]
    | _ => simp [Rows.uptoBulk]
  have ha := h1 a
  have hb := h1 b
  have hc := h1 c
  simp only [Rows.uptoBulk, Rows.uptoBulkAll]
  omega
set_option maxRecDepth 100000 in
/-- a number that comes in, whatever its length -/
theorem open_rat {H : Type} {enc : TypeId × Value → H} {W : World} {b0 : Nat} {v : Value} {d : DataW H} {p : List MemPlace} (hv : Value.okWide Tryd.prog W .any b0 24 v) (h : DataW.Trod enc Tryd.prog W 0 (fun _ => true) true 24 v d p) :
    ∃ s A1 c1 l1 A2 c2 l2, v = .agg #[.bool s, .slice A1 l1.length c1, .slice A2 l2.length c2] ∧ Rd W A1 c1 l1 ∧ Rd W A2 c2 l2 ∧ Ok B32 l1 ∧ Ok B32 l2 ∧ l1.length + 1 < Rows.uptoBulk d ∧ l2.length + 1 < Rows.uptoBulk d := by
  obtain ⟨v0, v1, v2, y0, y1, y2, n, rfl, rfl, rfl, h0, h1, h2⟩ := Joins.open_agg3 Tryd.underlying24 (by kernel_rfl) cellsRat hv h
  obtain ⟨A1, c1, l1, rfl, r1, o1, k1⟩ := open_rd h1
  obtain ⟨A2, c2, l2, rfl, r2, o2, k2⟩ := open_rd h2
  have hb : ∃ s, v0 = .bool s := by
    obtain ⟨s, h', _⟩ := DataW.trod_bool Tryd.underlying4 h0
    exact ⟨s, by simpa using h'⟩
  obtain ⟨s, rfl⟩ := hb
  obtain ⟨q1, q2⟩ := fin_agg3 y0.1 y1.1 y2.1
  exact ⟨s, A1, c1, l1, A2, c2, l2, rfl, r1, r2, o1, o2, by omega, by omega⟩
set_option maxRecDepth 100000 in
theorem open_raw {H : Type} {enc : TypeId × Value → H} {W : World} {b0 : Nat} {v : Value} {d : DataW H} {p : List MemPlace} (hv : Value.okWide Tryd.prog W .any b0 24 v) (h : DataW.Trod enc Tryd.prog W 0 (fun _ => true) true 24 v d p)
    (hk : Rows.uptoBulk d ≤ 1048576) : ∃ s N D, RawV W v s N D := by
  obtain ⟨s, A1, c1, l1, A2, c2, l2, e, r1, r2, o1, o2, k1, k2⟩ := open_rat hv h
  obtain ⟨N, hN⟩ := Int.eq_ofNat_of_zero_le (val_nonneg o1)
  obtain ⟨D, hD⟩ := Int.eq_ofNat_of_zero_le (val_nonneg o2)
  exact ⟨s, N, D, A1, c1, l1, A2, c2, l2, e, r1, r2, o1, o2, hN, hD, by omega, by omega⟩
set_option maxRecDepth 100000 in
/-- the arguments read behind the call as they did -/
theorem stays {H : Type} {enc : TypeId × Value → H} {W W' : World} (hb : Below W.heap.size W W') {sp : Nat → Bool} :
    ∀ {ts : List TypeId} {vs : List Value} {ds : List (DataW H)} {ps : List MemPlace}, (∀ t ∈ ts, Tryd.prog.readableRec t = true ∧ t < Tryd.prog.types.size) →
      DataW.TrodAll enc Tryd.prog W 0 (fun _ => true) true ts vs ds ps → (∀ p ∈ ps, sp p.block = true) → DataW.TrodAll enc Tryd.prog W' 0 sp true ts vs ds ps
  | [], [], [], _, _, h, _ => h
  | _ :: _, _ :: _, _ :: _, _, hT, h, hs => by
    have hlt := h.lt
    obtain ⟨p, q, h1, h2, e⟩ := h
    refine ⟨p, q, ?_, stays hb (fun t ht => hT t (List.mem_cons.2 (Or.inr ht))) h2 (fun x hx => hs x (by rw [e]; exact List.mem_append_right _ hx)), e⟩
    exact WideElems.Trod_stays laidOut (hT _ (List.mem_cons.2 (Or.inl rfl))).1 (hT _ (List.mem_cons.2 (Or.inl rfl))).2 h1
      (fun x hx => hb.same (hlt x (by rw [e]; exact List.mem_append_left _ hx))) (fun x hx => hs x (by rw [e]; exact List.mem_append_left _ hx))
set_option maxRecDepth 100000 in
/-- what the answer true gives, where nothing old has turned -/
theorem said_true {H : Type} {enc : TypeId × Value → H} {f : Func} {s : ChangeSpec} {W W' : World} {args : Array Value} {ds gs : List (DataW H)} {before : List MemPlace}
    (hW : DataW.Whole enc Tryd.prog f.params.toList s.vars false W args.toList ds gs before) (hv : s.vars = []) (hT : ∀ t ∈ f.params.toList, Tryd.prog.readableRec t = true ∧ t < Tryd.prog.types.size)
    (hr : f.resultTypes = #[4]) (e1 : (s.fn H (ds ++ gs)).results = [.lit (.bool true)]) (e2 : (s.fn H (ds ++ gs)).args = ds) (e3 : (s.fn H (ds ++ gs)).vars = []) (hb : Below W.heap.size W W') :
    s.post enc Tryd.prog f false true false false W args (.bool true) W' := by
  have hW' := hW
  obtain ⟨p, q, hA, hV, rfl, _, _⟩ := hW'
  rw [hv] at hV
  obtain ⟨rfl, rfl⟩ := trodVars_none hV
  have lt := hW.lt
  have ok : ∀ (j : Nat) (t : TypeId) (r : Value), f.resultTypes[j]? = some t → ((Value.bool true).resultList f.resultTypes.size)[j]? = some r → Value.okWide Tryd.prog W' .any 0 t r := ok_one hr rfl (okWide_bool_mk Tryd.underlying4 _)
  have res : ∀ (b : Nat) (sp : Nat → Bool) (hd : Bool), DataW.TrodAll enc Tryd.prog W' b sp hd f.resultTypes.toList ((Value.bool true).resultList f.resultTypes.size) (s.fn H (ds ++ [])).results [] := fun _ _ _ => by
    rw [e1, hr]
    exact trodAll_mk1 (shut_bool Tryd.underlying4 _)
  have arg : ∀ sp : Nat → Bool, (∀ x ∈ p ++ [], sp x.block = true) → DataW.TrodAll enc Tryd.prog W' 0 sp true f.params.toList args.toList (s.fn H (ds ++ [])).args p := fun sp hs => by
    rw [e2]
    exact stays hb hT hA (fun x hx => hs x (by simpa using hx))
  have var : ∀ sp : Nat → Bool, DataW.TrodVars enc Tryd.prog W' sp s.vars (s.fn H (ds ++ [])).vars [] := fun _ => by
    rw [e3, hv]
    rfl
  have hold : ∀ x ∈ p ++ [], (fun b => decide (b < W.heap.size)) x.block = true := fun x hx => by simpa using lt x hx
  refine ⟨ds, [], p ++ [], [], p, [], hW, res _ _ _, arg _ hold, var _, hb.frame _, fun h => by cases h⟩
end Go.Proofs.YtfmhplcpejmkhaaDoor

namespace Go.Proofs.YtfmhplcpejmkhaaDoor.lawNumberPowers
open Go.ChangeShapes Go.WideShapes Go.ChangeAt Go.RowKit Dig
set_option linter.unusedVariables false
set_option linter.unusedSimpArgs false
set_option maxRecDepth 100000 in
theorem contract (H : Type) (enc : TypeId × Value → H) (W : World) (base : Nat) (args : Array Value) (ds gs : List (DataW H)) (before : List MemPlace)
    (hval : ∀ (j : Nat) t v, Tryd.f10.params[j]? = some t → args[j]? = some v → Value.okWide Tryd.prog W .any base t v)
    (hW : DataW.Whole enc Tryd.prog Tryd.f10.params.toList Rows.numberPowersSpec.vars false W args.toList ds gs before) (hL : laidMetH Tryd.prog Rows.numberPowersUptoRow.laid W)
    (hk : Rows.uptoBulkAll (ds ++ gs) ≤ 1048576) :
    Calls Tryd.prog 10 args W fun e W' => ∃ v, e = .returned v ∧ Rows.numberPowersSpec.post enc Tryd.prog Tryd.f10 false true false false W args v W' := by
  have hW' := hW
  obtain ⟨p, q, hA0, hV, rfl, hfz, hnd⟩ := hW
  have hA : DataW.TrodAll enc Tryd.prog W 0 (fun _ => true) true Tryd.f10.params.toList args.toList ds p := hA0
  rw [Tryd.params10] at hA hval
  obtain ⟨v0, vs0, d0, ds0, p0, q0, hv0, rfl, rfl, h0, r0⟩ := trodAll_cons hA
  obtain ⟨v1, vs1, d1, ds1, p1, q1, hv1, rfl, rfl, h1, r1⟩ := trodAll_cons r0
  obtain ⟨v2, vs2, d2, ds2, p2, q2, hv2, rfl, rfl, h2, r2⟩ := trodAll_cons r1
  obtain ⟨hn, rfl, rfl⟩ := trodAll_nil r2
  obtain rfl : args = #[v0, v1, v2] := by cases args; simp_all
  obtain ⟨rfl, rfl⟩ := trodVars_none hV
  have hT := tab_of hL
  simp only [List.append_nil, Rows.uptoBulkAll] at hk
  obtain ⟨s0, N0, D0, k0⟩ := open_raw (hval 0 24 v0 rfl rfl) h0 (by omega)
  obtain ⟨n1, rfl, rfl, x1, y1⟩ := open_int Tryd.underlying5 (hval 1 5 v1 rfl rfl) h1
  obtain ⟨n2, rfl, rfl, x2, y2⟩ := open_int Tryd.underlying5 (hval 2 5 v2 rfl rfl) h2
  refine (wNumberPowers8 s0 N0 D0 n1 n2 y1 y2 W _ k0 hT).mono fun e W' ⟨he, hb⟩ => ?_
  subst he
  exact ⟨_, rfl, said_true hW' rfl (by rw [Tryd.params10]; intro t ht; simp at ht; rcases ht with rfl | rfl <;> (exact ⟨by kernel_rfl, of_decide_eq_true (by kernel_rfl)⟩)) (by kernel_rfl) rfl rfl rfl hb⟩

noncomputable def laidWorld (os : Os) : World :=
  { World.holding Tryd.prog os ⟨#[], #[], []⟩ with heap := (World.holding Tryd.prog os ⟨#[], #[], []⟩).heap.modify 0 fun
      | .cells _ t frozen => .cells ((Lib.deBruijn32tab.map fun n => Value.int .u8 (Int.ofNat n)).toArray) t frozen
      | o => o }
theorem laid_met (os : Os) : laidMet Tryd.prog Rows.numberPowersUptoRow.laid ((laidWorld os).forCall (fun _ _ => 0) ⟨#[], #[.agg #[.bool false, .slice none 0 0, .slice none 0 0], .int .u8 0, .int .u8 0], []⟩).memory :=
  laidMet_of_run' 64 (by kernel_rfl) (by kernel_rfl)
theorem reads (os : Os) {H : Type} (enc : TypeId × Value → H) : ∃ places, DataW.whole enc Tryd.prog ((laidWorld os).forCall (fun _ _ => 0) ⟨#[], #[.agg #[.bool false, .slice none 0 0, .slice none 0 0], .int .u8 0, .int .u8 0], []⟩).memory Tryd.f10.params.toList Rows.numberPowersSpec.vars false (#[.agg #[.bool false, .slice none 0 0, .slice none 0 0], .int .u8 0, .int .u8 0] : Array Value).toList 64 = some ([.agg [.lit (.bool false), .nil, .nil], .lit (.int .u8 0), .lit (.int .u8 0)], [], places) :=
  ⟨[], by kernel_rfl⟩
set_option maxRecDepth 100000 in
theorem lifted (os : Os) (started : os.Started) (H : Type) (enc : TypeId × Value → H) (F : Stop.Interp) :
    ReturnsInHanded {} Tryd.checked os 10 .any ((Rows.OpenSpec.upto Rows.numberPowersSpec).preRow enc Tryd.prog Tryd.f10 Rows.numberPowersUptoRow.domain false Rows.numberPowersUptoRow.laid) (((Rows.OpenSpec.upto Rows.numberPowersSpec).at F).post enc Tryd.prog Tryd.f10 false true false false) := by
  obtain ⟨places, hx⟩ := reads os enc
  refine returnsInHanded_of_row (C := Tryd.checked) (s := Rows.OpenSpec.upto Rows.numberPowersSpec) own started (by kernel_rfl) Tryd.func10
    (witness_row_at (enc := enc) (C := Tryd.checked) false (laidWorld os) #[.agg #[.bool false, .slice none 0 0, .slice none 0 0], .int .u8 0, .int .u8 0] rfl (by kernel_rfl) (by kernel_rfl) (by kernel_rfl)
      (OpenSpec.preRow_of_cond 64 hx (by kernel_rfl) (fun k hk => by cases hk; kernel_rfl) (by kernel_rfl) (laid_met os))) ?_
  intro W base args ds gs before hval hW _ hcond hreach hL _ _
  exact contract H enc W base args ds gs before hval hW hL (by simpa [Rows.uptoSmall] using hcond _ rfl)
theorem said : Rows.NumberPowersUptoSaid :=
  OpenClaim.holds_of_cond 10 Tryd.f10 rfl rfl rfl rfl rfl rfl rfl ⟨rfl, rfl, rfl, rfl, rfl⟩ rfl rfl rfl rfl rfl (by kernel_rfl) Tryd.func10 (by kernel_rfl)
    (of_decide_eq_true (by kernel_rfl)) (by unfold Func.isWrapper; first | (rw [if_pos (by decide +kernel)]; kernel_rfl) | (rw [if_neg (by decide +kernel)]; exact ⟨rfl, rfl⟩))
    (fun os started H enc _ F => by rw [OpenClaim.pre_eq_preRow]; exact lifted os started H enc F)
theorem plain (f : FuncId) (fn : Func) (hf : Tryd.pinned.checked.prog.funcNamed "inequality/inequalitylaw01.NumberPowers" = some f) (hfn : Tryd.pinned.checked.prog.funcs[f]? = some fn) :
    false = Tryd.pinned.checked.prog.looks [] ∧ ∀ (j : Nat) t, fn.params[j]? = some t → Tryd.pinned.checked.prog.wantsStandIn t = false := by
  obtain rfl : f = 10 := Option.some.inj ((show Tryd.prog.funcNamed "inequality/inequalitylaw01.NumberPowers" = some 10 by kernel_rfl).symm.trans hf) |>.symm
  obtain rfl : fn = Tryd.f10 := (Option.some.inj (Tryd.func10.symm.trans hfn)).symm
  refine ⟨by kernel_rfl, fun j t ht => ?_⟩
  rw [Tryd.params10] at ht
  have hm := Array.mem_of_getElem? ht
  simp at hm
  rcases hm with rfl | rfl
  · exact (show Tryd.prog.wantsStandIn 24 = false by kernel_rfl)
  · exact (show Tryd.prog.wantsStandIn 5 = false by kernel_rfl)
theorem card : Rows.NumberPowersUptoCardSaid :=
  Claim7.holds_tied_plain_at .later [] _ _ _ _ said (fun _ h => by cases h) (by kernel_rfl) (fun _ h => by cases h) numberPowersUpto_row_tie rfl ⟨rfl, rfl⟩ (by kernel_rfl) rfl plain (by kernel_rfl)
end Go.Proofs.YtfmhplcpejmkhaaDoor.lawNumberPowers
