/-
  The walk of the statement NumberGridRoots. Under the premise that the table of math/bits lies as its initialiser lays it.
  From a row's reading to the walks' premises: a number as it comes in, the table of math/bits, and what an answer 'true' over untouched arguments gives.
  The statement NumberGridRootsUptoCardSaid: the row, and the card over it. Conditions: the walks' none but what the row's reading and its listed table give.
-/
import Derived.Test.YtfmhplcpejmkhabDoorCards
import Derived.Test.YtfmhplcpejmkhabDoorTie
import Derived.WalkKit
import Derived.ProofKit
import Derived.OpenShut
import Derived.Carry
import Derived.Deep.DeepHandedRow
import Derived.Lib.LaidTab
import Derived.Lib.SmallJoins
import Derived.ChangeSlices
import Derived.Test.YtfmhplcpejmkhabDoorPGridRootsE
namespace Go.Proofs.YtfmhplcpejmkhabDoor
open Go.RowKit Dig
set_option linter.unusedVariables false
set_option linter.unusedSimpArgs false
set_option maxHeartbeats 4000000 in
set_option maxRecDepth 100000 in
theorem wNumberGridRoots (s1 : Bool) (N1 D1 : Nat) (n p : Int) (w : World) (v1 : Value) (h1 : RawV w v1 s1 N1 D1) (hT : Tab w) :
    Calls Tryd.prog 8 #[v1, .int .i64 n, .int .i64 p] w fun e w' => e = .returned (.bool true) ∧ Below w.heap.size w w' := by
  have H1 := Lib.hid h1
  have HT := Lib.hid hT
  obtain ⟨A1, n1, c1, A1', n1', c1', rfl⟩ := h1.shape
  clear hT h1
  obtain ⟨M, hM, k1, bM⟩ : ∃ M, M = w.alloc (.cells #[.bool s1, .slice A1 n1 c1, .slice A1' n1' c1'] 24) ∧ Box M w.heap.size (.bool s1) (.slice A1 n1 c1) (.slice A1' n1' c1') 24 ∧ Below w.heap.size w M := ⟨_, rfl, Box.new _ _ _ _ _, below_alloc _ _⟩
  have HX1 := Lib.hid k1
  have BM := Lib.hid bM
  replace HT := Lib.hid (HT.out.below bM)
  replace H1 := Lib.hid (H1.out.below bM)
  have C1 := Lib.hid (fun (w : World) (h1 : RawV w (.agg #[.bool s1, .slice A1 n1 c1, .slice A1' n1' c1']) s1 N1 D1) (t : Tab w) => nRootDown s1 N1 D1 n p w _ h1 t)
  have C2 := Lib.hid (fun (w : World) (h1 : RawV w (.agg #[.bool s1, .slice A1 n1 c1, .slice A1' n1' c1']) s1 N1 D1) (t : Tab w) => nRootUp s1 N1 D1 n p w _ h1 t)
  have C3 := Lib.hid (fun (w : World) (h1 : RawV w (.agg #[.bool s1, .slice A1 n1 c1, .slice A1' n1' c1']) s1 N1 D1) (t : Tab w) => lGridRoot s1 N1 D1 n p false w _ h1)
  have C4 := Lib.hid (fun (w : World) (h1 : RawV w (.agg #[.bool s1, .slice A1 n1 c1, .slice A1' n1' c1']) s1 N1 D1) (t : Tab w) => lGridRoot s1 N1 D1 n p true w _ h1)
  obtain ⟨oA, hoA⟩ : ∃ o, grootOut (largeB s1 N1 D1) n p false (ratOf s1 N1 D1) = o := ⟨_, rfl⟩
  rw [hoA] at C1 C3
  clear hoA
  obtain ⟨oB, hoB⟩ : ∃ o, grootOut (largeB s1 N1 D1) n p true (ratOf s1 N1 D1) = o := ⟨_, rfl⟩
  rw [hoB] at C2 C4
  clear hoB
  clear bM k1
  go_enter Tryd.func8, Tryd.ntmps8
  go_upto_region 1 with (fail)
  rw [← hM]
  clear hM
  obtain ⟨x1, y1, z1, _, _, _⟩ := HX1.out.cells
  go_wp2_with fail
  refine (C1.out _ H1.out HT.out).mono ?_
  rintro e w1 ⟨p1, P1, m1, d1, P1', m1', d1', k1, rfl, h1, b1⟩
  have bb := below_step b1 b1.size (below_alloc w1 (.cells #[.bool p1, .slice P1 m1 d1, .slice P1' m1' d1'] 24))
  have HO1 := Lib.hid (h1.below (below_alloc w1 (.cells #[.bool p1, .slice P1 m1 d1, .slice P1' m1' d1'] 24)))
  have HZ1 := Lib.hid (Box.new w1 (.bool p1) (.slice P1 m1 d1) (.slice P1' m1' d1') 24)
  replace HT := Lib.hid (HT.out.below bb)
  replace H1 := Lib.hid (H1.out.below bb)
  replace HX1 := Lib.hid (HX1.out.below bb)
  have BM := Lib.hid (below_step BM.out BM.out.size bb)
  obtain ⟨v1, hv⟩ : ∃ v, w1.alloc (.cells #[.bool p1, .slice P1 m1 d1, .slice P1' m1' d1'] 24) = v := ⟨_, rfl⟩
  clear bb b1 h1
  clear x1 y1 z1
  go_upto_region 2 with (fail)
  rw [hv] at BM HT H1 HX1 HO1 HZ1
  try rw [hv]
  clear hv
  obtain ⟨x1, y1, z1, _, _, _⟩ := HX1.out.cells
  go_wp2_with fail
  refine (C2.out _ H1.out HT.out).mono ?_
  rintro e w2 ⟨p2, P2, m2, d2, P2', m2', d2', k2, rfl, h2, b2⟩
  have bb := below_step b2 b2.size (below_alloc w2 (.cells #[.bool p2, .slice P2 m2 d2, .slice P2' m2' d2'] 24))
  have HO2 := Lib.hid (h2.below (below_alloc w2 (.cells #[.bool p2, .slice P2 m2 d2, .slice P2' m2' d2'] 24)))
  have HZ2 := Lib.hid (Box.new w2 (.bool p2) (.slice P2 m2 d2) (.slice P2' m2' d2') 24)
  replace HT := Lib.hid (HT.out.below bb)
  replace H1 := Lib.hid (H1.out.below bb)
  replace HX1 := Lib.hid (HX1.out.below bb)
  replace HO1 := Lib.hid (HO1.out.below bb)
  replace HZ1 := Lib.hid (HZ1.out.below bb)
  have BM := Lib.hid (below_step BM.out BM.out.size bb)
  obtain ⟨v2, hv⟩ : ∃ v, w2.alloc (.cells #[.bool p2, .slice P2 m2 d2, .slice P2' m2' d2'] 24) = v := ⟨_, rfl⟩
  clear bb b2 h2
  clear x1 y1 z1
  go_upto_region 3 with (fail)
  rw [hv] at BM HT H1 HX1 HO1 HZ1 HO2 HZ2
  try rw [hv]
  clear hv
  obtain ⟨x1, y1, z1, _, _, _⟩ := HX1.out.cells
  go_wp2_with fail
  refine (C3.out _ H1.out HT.out).mono ?_
  rintro e w3 ⟨p3, P3, m3, d3, P3', m3', d3', k3, rfl, h3, b3⟩
  have bb := below_step b3 b3.size (below_alloc w3 (.cells #[.bool p3, .slice P3 m3 d3, .slice P3' m3' d3'] 24))
  have HO3 := Lib.hid (h3.below (below_alloc w3 (.cells #[.bool p3, .slice P3 m3 d3, .slice P3' m3' d3'] 24)))
  have HZ3 := Lib.hid (Box.new w3 (.bool p3) (.slice P3 m3 d3) (.slice P3' m3' d3') 24)
  replace HT := Lib.hid (HT.out.below bb)
  replace H1 := Lib.hid (H1.out.below bb)
  replace HX1 := Lib.hid (HX1.out.below bb)
  replace HO1 := Lib.hid (HO1.out.below bb)
  replace HZ1 := Lib.hid (HZ1.out.below bb)
  replace HO2 := Lib.hid (HO2.out.below bb)
  replace HZ2 := Lib.hid (HZ2.out.below bb)
  have BM := Lib.hid (below_step BM.out BM.out.size bb)
  obtain ⟨v3, hv⟩ : ∃ v, w3.alloc (.cells #[.bool p3, .slice P3 m3 d3, .slice P3' m3' d3'] 24) = v := ⟨_, rfl⟩
  clear bb b3 h3
  clear x1 y1 z1
  go_upto_region 4 with (fail)
  rw [hv] at BM HT H1 HX1 HO1 HZ1 HO2 HZ2 HO3 HZ3
  try rw [hv]
  clear hv
  obtain ⟨x1, y1, z1, _, _, _⟩ := HX1.out.cells
  go_wp2_with fail
  refine (C4.out _ H1.out HT.out).mono ?_
  rintro e w4 ⟨p4, P4, m4, d4, P4', m4', d4', k4, rfl, h4, b4⟩
  have bb := below_step b4 b4.size (below_alloc w4 (.cells #[.bool p4, .slice P4 m4 d4, .slice P4' m4' d4'] 24))
  have HO4 := Lib.hid (h4.below (below_alloc w4 (.cells #[.bool p4, .slice P4 m4 d4, .slice P4' m4' d4'] 24)))
  have HZ4 := Lib.hid (Box.new w4 (.bool p4) (.slice P4 m4 d4) (.slice P4' m4' d4') 24)
  replace HT := Lib.hid (HT.out.below bb)
  replace H1 := Lib.hid (H1.out.below bb)
  replace HX1 := Lib.hid (HX1.out.below bb)
  replace HO1 := Lib.hid (HO1.out.below bb)
  replace HZ1 := Lib.hid (HZ1.out.below bb)
  replace HO2 := Lib.hid (HO2.out.below bb)
  replace HZ2 := Lib.hid (HZ2.out.below bb)
  replace HO3 := Lib.hid (HO3.out.below bb)
  replace HZ3 := Lib.hid (HZ3.out.below bb)
  have BM := Lib.hid (below_step BM.out BM.out.size bb)
  obtain ⟨v4, hv⟩ : ∃ v, w4.alloc (.cells #[.bool p4, .slice P4 m4 d4, .slice P4' m4' d4'] 24) = v := ⟨_, rfl⟩
  clear bb b4 h4
  clear x1 y1 z1
  go_upto_region 5 with (fail)
  rw [hv] at BM HT H1 HX1 HO1 HZ1 HO2 HZ2 HO3 HZ3 HO4 HZ4
  try rw [hv]
  clear hv
  obtain ⟨x1, y1, z1, _, _, _⟩ := HZ1.out.cells
  obtain ⟨x2, y2, z2, _, _, _⟩ := HZ2.out.cells
  obtain ⟨x3, y3, z3, _, _, _⟩ := HZ3.out.cells
  obtain ⟨x4, y4, z4, _, _, _⟩ := HZ4.out.cells
  go_wp2_with fail
  refine (lIs_out oA _ _ _ _ _ _ _ _ _ _ _ _ _ _ _ _ _ HO1.out HO3.out).mono ?_
  rintro e w9 ⟨rfl, b9⟩
  replace HT := Lib.hid (HT.out.below b9)
  replace HO1 := Lib.hid (HO1.out.below b9)
  replace HO2 := Lib.hid (HO2.out.below b9)
  replace HO3 := Lib.hid (HO3.out.below b9)
  replace HO4 := Lib.hid (HO4.out.below b9)
  replace HZ1 := Lib.hid (HZ1.out.below b9)
  replace HZ2 := Lib.hid (HZ2.out.below b9)
  replace HZ3 := Lib.hid (HZ3.out.below b9)
  replace HZ4 := Lib.hid (HZ4.out.below b9)
  replace BM := Lib.hid (below_step BM.out BM.out.size b9)
  clear b9 x1 y1 z1 x2 y2 z2 x3 y3 z3 x4 y4 z4
  obtain ⟨x1, y1, z1, _, _, _⟩ := HZ1.out.cells
  obtain ⟨x2, y2, z2, _, _, _⟩ := HZ2.out.cells
  obtain ⟨x3, y3, z3, _, _, _⟩ := HZ3.out.cells
  obtain ⟨x4, y4, z4, _, _, _⟩ := HZ4.out.cells
  go_wp2_with fail
  refine (lIs_out oB _ _ _ _ _ _ _ _ _ _ _ _ _ _ _ _ _ HO2.out HO4.out).mono ?_
  rintro e w9 ⟨rfl, b9⟩
  replace HT := Lib.hid (HT.out.below b9)
  replace HO1 := Lib.hid (HO1.out.below b9)
  replace HO2 := Lib.hid (HO2.out.below b9)
  replace HO3 := Lib.hid (HO3.out.below b9)
  replace HO4 := Lib.hid (HO4.out.below b9)
  replace HZ1 := Lib.hid (HZ1.out.below b9)
  replace HZ2 := Lib.hid (HZ2.out.below b9)
  replace HZ3 := Lib.hid (HZ3.out.below b9)
  replace HZ4 := Lib.hid (HZ4.out.below b9)
  replace BM := Lib.hid (below_step BM.out BM.out.size b9)
  clear b9 x1 y1 z1 x2 y2 z2 x3 y3 z3 x4 y4 z4
  go_wp2_with fail
  refine (lAwake _ HT.out).mono ?_
  rintro e w9 ⟨rfl, b9⟩
  replace BM := Lib.hid (below_step BM.out BM.out.size b9)
  clear b9
  go_wp2
  go_ret
  exact ⟨rfl, BM.out⟩
end Go.Proofs.YtfmhplcpejmkhabDoor

namespace Go.Proofs.YtfmhplcpejmkhabDoor
open Go.ChangeShapes Go.WideShapes Go.ChangeAt Go.RowKit Dig
set_option linter.unusedVariables false
set_option linter.unusedSimpArgs false
theorem own : ownKnob Tryd.prog.godebug = none := by kernel_rfl
theorem gTab : Tryd.prog.globalNamed "math/bits.deBruijn32tab" = some 0 := by kernel_rfl
theorem gTabType : (Tryd.prog.globals[0]?).map (·.type) = some 131 := by kernel_rfl
theorem cellsTab : Tryd.prog.cellsOf 131 = 32 := by kernel_rfl
theorem cellsU8 : Tryd.prog.cellsOf 5 = 1 := by kernel_rfl
theorem cellsU32 : Tryd.prog.cellsOf 72 = 1 := by kernel_rfl
theorem cellsRat : Tryd.prog.cellsOf 24 = 3 := by kernel_rfl
theorem laidOut : laidOutB Tryd.prog = true := by kernel_rfl
theorem tab_of {W : World} (h : laidMetH Tryd.prog [("math/bits.deBruijn32tab", Rows.laid_math_bits_deBruijn32tab)] W) : Tab W := by
  have t : Lib.TabIs Tryd.prog W "math/bits.deBruijn32tab" .u8 (Lib.deBruijn32tab.map Int.ofNat) :=
    Lib.tabIs_of_head (rest := []) gTab gTabType Tryd.underlying131 Tryd.underlying5 cellsU8 cellsTab h
  intro j hj
  have hc := t.cell gTab j (by simpa using hj)
  rw [hc]
  congr 2
  simp [List.getD, hj]
set_option maxRecDepth 100000 in
/-- a slice of words that comes in -/
theorem open_rd {H : Type} {enc : TypeId × Value → H} {W : World} {n : Nat} {v : Value} {y : DataW H × List MemPlace} (h : DataW.trod enc Tryd.prog W 0 (fun _ => true) true n 22 [v] = some y) :
    ∃ A c l, v = .slice A l.length c ∧ Rd W A c l ∧ Ok B32 l ∧ l.length < Rows.uptoBulk y.1 := by
  rcases open_ints Tryd.underlying22 Tryd.underlying72 cellsU32 h with ⟨e, rfl⟩ | ⟨a, len, cap, zs, e, _, hl, hm, hz, rfl, hc, hw⟩
  · obtain rfl : v = .slice none 0 0 := by simpa using e
    exact ⟨none, 0, [], rfl, ⟨Nat.le_refl _, Nat.zero_le _, fun j hj => absurd hj (Nat.not_lt_zero _)⟩, (fun x (hx : x ∈ []) => by simp at hx), by simp [Rows.uptoBulk]⟩
  · obtain rfl : v = .slice (some a) len cap := by simpa using e
    rw [if_pos rfl] at hz
    refine ⟨some a, cap, zs.take len, by simp [hz, Nat.min_eq_left hl], ⟨by simp [hz]; omega, by unfold maxLen at hm; omega, ?_⟩, ?_, ?_⟩
    · intro j hj
      have hj' : j < len := by simp [hz] at hj; omega
      refine ⟨a, rfl, ?_⟩
      rw [hc j (by omega)]
      have : j < zs.length := by omega
      simp [rd, List.getD, hj', List.getElem?_take]
    · intro x hx
      have := hw x (List.mem_of_mem_take hx)
      simp only [Lit.wf, Bool.and_eq_true, decide_eq_true_eq] at this
      have e1 : IntKind.min .u32 = 0 := by decide
      have e2 : IntKind.max .u32 = 4294967295 := by decide
      rw [e1, e2] at this
      unfold B32
      omega
    · have : ∀ l : List (DataW H), l.length ≤ Rows.uptoBulkAll l := by
        intro l
        induction l with
        | nil => simp [Rows.uptoBulkAll]
        | cons x r ih =>
          have h1 : 1 ≤ Rows.uptoBulk x := by
            cases x with
            | lit l => cases l <;> simp [Rows.uptoBulk]
            | _ => simp [Rows.uptoBulk]
          simp only [Rows.uptoBulkAll, List.length_cons]
          omega
      have h2 := this (lits (H := H) .u32 (zs.take len))
      have h3 : (lits (H := H) .u32 (zs.take len)).length = (zs.take len).length := by simp [lits]
      simp only [Rows.uptoBulk]
      omega
theorem fin_agg3 {H : Type} (a b c : DataW H) : Rows.uptoBulk b < Rows.uptoBulk (.agg [a, b, c]) ∧ Rows.uptoBulk c < Rows.uptoBulk (.agg [a, b, c]) := by
  have h1 : ∀ x : DataW H, 1 ≤ Rows.uptoBulk x := by
    intro x
    cases x with
    | lit l => cases l <;> simp [Rows.uptoBulk]
    | _ => simp [Rows.uptoBulk]
  have ha := h1 a
  have hb := h1 b
  have hc := h1 c
  simp only [Rows.uptoBulk, Rows.uptoBulkAll]
  omega
set_option maxRecDepth 100000 in
/-- a number that comes in, whatever its length -/
theorem open_rat {H : Type} {enc : TypeId × Value → H} {W : World} {b0 : Nat} {v : Value} {d : DataW H} {p : List MemPlace} (hv : Value.okWide Tryd.prog W .any b0 24 v) (h : DataW.Trod enc Tryd.prog W 0 (fun _ => true) true 24 v d p) :
    ∃ s A1 c1 l1 A2 c2 l2, v = .agg #[.bool s, .slice A1 l1.length c1, .slice A2 l2.length c2] ∧ Rd W A1 c1 l1 ∧ Rd W A2 c2 l2 ∧ Ok B32 l1 ∧ Ok B32 l2 ∧ l1.length + 1 < Rows.uptoBulk d ∧ l2.length + 1 < Rows.uptoBulk d := by
  obtain ⟨v0, v1, v2, y0, y1, y2, n, rfl, rfl, rfl, h0, h1, h2⟩ := Joins.open_agg3 Tryd.underlying24 (by kernel_rfl) cellsRat hv h
  obtain ⟨A1, c1, l1, rfl, r1, o1, k1⟩ := open_rd h1
  obtain ⟨A2, c2, l2, rfl, r2, o2, k2⟩ := open_rd h2
  have hb : ∃ s, v0 = .bool s := by
    obtain ⟨s, h', _⟩ := DataW.trod_bool Tryd.underlying4 h0
    exact ⟨s, by simpa using h'⟩
  obtain ⟨s, rfl⟩ := hb
  obtain ⟨q1, q2⟩ := fin_agg3 y0.1 y1.1 y2.1
  exact ⟨s, A1, c1, l1, A2, c2, l2, rfl, r1, r2, o1, o2, by omega, by omega⟩
set_option maxRecDepth 100000 in
theorem open_raw {H : Type} {enc : TypeId × Value → H} {W : World} {b0 : Nat} {v : Value} {d : DataW H} {p : List MemPlace} (hv : Value.okWide Tryd.prog W .any b0 24 v) (h : DataW.Trod enc Tryd.prog W 0 (fun _ => true) true 24 v d p)
    (hk : Rows.uptoBulk d ≤ 1048576) : ∃ s N D, RawV W v s N D := by
  obtain ⟨s, A1, c1, l1, A2, c2, l2, e, r1, r2, o1, o2, k1, k2⟩ := open_rat hv h
  obtain ⟨N, hN⟩ := Int.eq_ofNat_of_zero_le (val_nonneg o1)
  obtain ⟨D, hD⟩ := Int.eq_ofNat_of_zero_le (val_nonneg o2)
  exact ⟨s, N, D, A1, c1, l1, A2, c2, l2, e, r1, r2, o1, o2, hN, hD, by omega, by omega⟩
set_option maxRecDepth 100000 in
/-- the arguments read behind the call as they did -/
theorem stays {H : Type} {enc : TypeId × Value → H} {W W' : World} (hb : Below W.heap.size W W') {sp : Nat → Bool} :
    ∀ {ts : List TypeId} {vs : List Value} {ds : List (DataW H)} {ps : List MemPlace}, (∀ t ∈ ts, Tryd.prog.readableRec t = true ∧ t < Tryd.prog.types.size) →
      DataW.TrodAll enc Tryd.prog W 0 (fun _ => true) true ts vs ds ps → (∀ p ∈ ps, sp p.block = true) → DataW.TrodAll enc Tryd.prog W' 0 sp true ts vs ds ps
  | [], [], [], _, _, h, _ => h
  | _ :: _, _ :: _, _ :: _, _, hT, h, hs => by
    have hlt := h.lt
    obtain ⟨p, q, h1, h2, e⟩ := h
    refine ⟨p, q, ?_, stays hb (fun t ht => hT t (List.mem_cons.2 (Or.inr ht))) h2 (fun x hx => hs x (by rw [e]; exact List.mem_append_right _ hx)), e⟩
    exact WideElems.Trod_stays laidOut (hT _ (List.mem_cons.2 (Or.inl rfl))).1 (hT _ (List.mem_cons.2 (Or.inl rfl))).2 h1
      (fun x hx => hb.same (hlt x (by rw [e]; exact List.mem_append_left _ hx))) (fun x hx => hs x (by rw [e]; exact List.mem_append_left _ hx))
set_option maxRecDepth 100000 in
/-- what the answer true gives, where nothing old has turned -/
theorem said_true {H : Type} {enc : TypeId × Value → H} {f : Func} {s : ChangeSpec} {W W' : World} {args : Array Value} {ds gs : List (DataW H)} {before : List MemPlace}
    (hW : DataW.Whole enc Tryd.prog f.params.toList s.vars false W args.toList ds gs before) (hv : s.vars = []) (hT : ∀ t ∈ f.params.toList, Tryd.prog.readableRec t = true ∧ t < Tryd.prog.types.size)
    (hr : f.resultTypes = #[4]) (e1 : (s.fn H (ds ++ gs)).results = [.lit (.bool true)]) (e2 : (s.fn H (ds ++ gs)).args = ds) (e3 : (s.fn H (ds ++ gs)).vars = []) (hb : Below W.heap.size W W') :
    s.post enc Tryd.prog f false true false false W args (.bool true) W' := by
  have hW' := hW
  obtain ⟨p, q, hA, hV, rfl, _, _⟩ := hW'
  rw [hv] at hV
  obtain ⟨rfl, rfl⟩ := trodVars_none hV
  have lt := hW.lt
  have ok : ∀ (j : Nat) (t : TypeId) (r : Value), f.resultTypes[j]? = some t → ((Value.bool true).resultList f.resultTypes.size)[j]? = some r → Value.okWide Tryd.prog W' .any 0 t r := ok_one hr rfl (okWide_bool_mk Tryd.underlying4 _)
  have res : ∀ (b : Nat) (sp : Nat → Bool) (hd : Bool), DataW.TrodAll enc Tryd.prog W' b sp hd f.resultTypes.toList ((Value.bool true).resultList f.resultTypes.size) (s.fn H (ds ++ [])).results [] := fun _ _ _ => by
    rw [e1, hr]
    exact trodAll_mk1 (shut_bool Tryd.underlying4 _)
  have arg : ∀ sp : Nat → Bool, (∀ x ∈ p ++ [], sp x.block = true) → DataW.TrodAll enc Tryd.prog W' 0 sp true f.params.toList args.toList (s.fn H (ds ++ [])).args p := fun sp hs => by
    rw [e2]
    exact stays hb hT hA (fun x hx => hs x (by simpa using hx))
  have var : ∀ sp : Nat → Bool, DataW.TrodVars enc Tryd.prog W' sp s.vars (s.fn H (ds ++ [])).vars [] := fun _ => by
    rw [e3, hv]
    rfl
  have hold : ∀ x ∈ p ++ [], (fun b => decide (b < W.heap.size)) x.block = true := fun x hx => by simpa using lt x hx
  refine ⟨ds, [], p ++ [], [], p, [], hW, res _ _ _, arg _ hold, var _, hb.frame _, fun h => by cases h⟩
end Go.Proofs.YtfmhplcpejmkhabDoor

namespace Go.Proofs.YtfmhplcpejmkhabDoor.lawNumberGridRoots
open Go.ChangeShapes Go.WideShapes Go.ChangeAt Go.RowKit Dig
set_option linter.unusedVariables false
set_option linter.unusedSimpArgs false
set_option maxRecDepth 100000 in
theorem contract (H : Type) (enc : TypeId × Value → H) (W : World) (base : Nat) (args : Array Value) (ds gs : List (DataW H)) (before : List MemPlace)
    (hval : ∀ (j : Nat) t v, Tryd.f8.params[j]? = some t → args[j]? = some v → Value.okWide Tryd.prog W .any base t v)
    (hW : DataW.Whole enc Tryd.prog Tryd.f8.params.toList Rows.numberGridRootsSpec.vars false W args.toList ds gs before) (hL : laidMetH Tryd.prog Rows.numberGridRootsUptoRow.laid W)
    (hk : Rows.uptoBulkAll (ds ++ gs) ≤ 1048576) :
    Calls Tryd.prog 8 args W fun e W' => ∃ v, e = .returned v ∧ Rows.numberGridRootsSpec.post enc Tryd.prog Tryd.f8 false true false false W args v W' := by
  have hW' := hW
  obtain ⟨p, q, hA0, hV, rfl, hfz, hnd⟩ := hW
  have hA : DataW.TrodAll enc Tryd.prog W 0 (fun _ => true) true Tryd.f8.params.toList args.toList ds p := hA0
  rw [Tryd.params8] at hA hval
  obtain ⟨v0, vs0, d0, ds0, p0, q0, hv0, rfl, rfl, h0, r0⟩ := trodAll_cons hA
  obtain ⟨v1, vs1, d1, ds1, p1, q1, hv1, rfl, rfl, h1, r1⟩ := trodAll_cons r0
  obtain ⟨v2, vs2, d2, ds2, p2, q2, hv2, rfl, rfl, h2, r2⟩ := trodAll_cons r1
  obtain ⟨hn, rfl, rfl⟩ := trodAll_nil r2
  obtain rfl : args = #[v0, v1, v2] := by cases args; simp_all
  obtain ⟨rfl, rfl⟩ := trodVars_none hV
  have hT := tab_of hL
  simp only [List.append_nil, Rows.uptoBulkAll] at hk
  obtain ⟨s0, N0, D0, k0⟩ := open_raw (hval 0 24 v0 rfl rfl) h0 (by omega)
  obtain ⟨n1, rfl, rfl, x1, y1⟩ := open_int Tryd.underlying3 (hval 1 3 v1 rfl rfl) h1
  obtain ⟨n2, rfl, rfl, x2, y2⟩ := open_int Tryd.underlying3 (hval 2 3 v2 rfl rfl) h2
  refine (wNumberGridRoots s0 N0 D0 n1 n2 W _ k0 hT).mono fun e W' ⟨he, hb⟩ => ?_
  subst he
  exact ⟨_, rfl, said_true hW' rfl (by rw [Tryd.params8]; intro t ht; simp at ht; rcases ht with rfl | rfl <;> (exact ⟨by kernel_rfl, of_decide_eq_true (by kernel_rfl)⟩)) (by kernel_rfl) rfl rfl rfl hb⟩

noncomputable def laidWorld (os : Os) : World :=
  { World.holding Tryd.prog os ⟨#[], #[], []⟩ with heap := (World.holding Tryd.prog os ⟨#[], #[], []⟩).heap.modify 0 fun
      | .cells _ t frozen => .cells ((Lib.deBruijn32tab.map fun n => Value.int .u8 (Int.ofNat n)).toArray) t frozen
      | o => o }
theorem laid_met (os : Os) : laidMet Tryd.prog Rows.numberGridRootsUptoRow.laid ((laidWorld os).forCall (fun _ _ => 0) ⟨#[], #[.agg #[.bool false, .slice none 0 0, .slice none 0 0], .int .i64 0, .int .i64 0], []⟩).memory :=
  laidMet_of_run' 64 (by kernel_rfl) (by kernel_rfl)
theorem reads (os : Os) {H : Type} (enc : TypeId × Value → H) : ∃ places, DataW.whole enc Tryd.prog ((laidWorld os).forCall (fun _ _ => 0) ⟨#[], #[.agg #[.bool false, .slice none 0 0, .slice none 0 0], .int .i64 0, .int .i64 0], []⟩).memory Tryd.f8.params.toList Rows.numberGridRootsSpec.vars false (#[.agg #[.bool false, .slice none 0 0, .slice none 0 0], .int .i64 0, .int .i64 0] : Array Value).toList 64 = some ([.agg [.lit (.bool false), .nil, .nil], .lit (.int .i64 0), .lit (.int .i64 0)], [], places) :=
  ⟨[], by kernel_rfl⟩
set_option maxRecDepth 100000 in
theorem lifted (os : Os) (started : os.Started) (H : Type) (enc : TypeId × Value → H) (F : Stop.Interp) :
    ReturnsInHanded {} Tryd.checked os 8 .any ((Rows.OpenSpec.upto Rows.numberGridRootsSpec).preRow enc Tryd.prog Tryd.f8 Rows.numberGridRootsUptoRow.domain false Rows.numberGridRootsUptoRow.laid) (((Rows.OpenSpec.upto Rows.numberGridRootsSpec).at F).post enc Tryd.prog Tryd.f8 false true false false) := by
  obtain ⟨places, hx⟩ := reads os enc
  refine returnsInHanded_of_row (C := Tryd.checked) (s := Rows.OpenSpec.upto Rows.numberGridRootsSpec) own started (by kernel_rfl) Tryd.func8
    (witness_row_at (enc := enc) (C := Tryd.checked) false (laidWorld os) #[.agg #[.bool false, .slice none 0 0, .slice none 0 0], .int .i64 0, .int .i64 0] rfl (by kernel_rfl) (by kernel_rfl) (by kernel_rfl)
      (OpenSpec.preRow_of_cond 64 hx (by kernel_rfl) (fun k hk => by cases hk; kernel_rfl) (by kernel_rfl) (laid_met os))) ?_
  intro W base args ds gs before hval hW _ hcond hreach hL _ _
  exact contract H enc W base args ds gs before hval hW hL (by simpa [Rows.uptoSmall] using hcond _ rfl)
theorem said : Rows.NumberGridRootsUptoSaid :=
  OpenClaim.holds_of_cond 8 Tryd.f8 rfl rfl rfl rfl rfl rfl rfl ⟨rfl, rfl, rfl, rfl, rfl⟩ rfl rfl rfl rfl rfl (by kernel_rfl) Tryd.func8 (by kernel_rfl)
    (of_decide_eq_true (by kernel_rfl)) (by unfold Func.isWrapper; first | (rw [if_pos (by decide +kernel)]; kernel_rfl) | (rw [if_neg (by decide +kernel)]; exact ⟨rfl, rfl⟩))
    (fun os started H enc _ F => by rw [OpenClaim.pre_eq_preRow]; exact lifted os started H enc F)
theorem plain (f : FuncId) (fn : Func) (hf : Tryd.pinned.checked.prog.funcNamed "inequality/inequalitylaw01.NumberGridRoots" = some f) (hfn : Tryd.pinned.checked.prog.funcs[f]? = some fn) :
    false = Tryd.pinned.checked.prog.looks [] ∧ ∀ (j : Nat) t, fn.params[j]? = some t → Tryd.pinned.checked.prog.wantsStandIn t = false := by
  obtain rfl : f = 8 := Option.some.inj ((show Tryd.prog.funcNamed "inequality/inequalitylaw01.NumberGridRoots" = some 8 by kernel_rfl).symm.trans hf) |>.symm
  obtain rfl : fn = Tryd.f8 := (Option.some.inj (Tryd.func8.symm.trans hfn)).symm
  refine ⟨by kernel_rfl, fun j t ht => ?_⟩
  rw [Tryd.params8] at ht
  have hm := Array.mem_of_getElem? ht
  simp at hm
  rcases hm with rfl | rfl
  · exact (show Tryd.prog.wantsStandIn 24 = false by kernel_rfl)
  · exact (show Tryd.prog.wantsStandIn 3 = false by kernel_rfl)
theorem card : Rows.NumberGridRootsUptoCardSaid :=
  Claim7.holds_tied_plain_at .later [] _ _ _ _ said (fun _ h => by cases h) (by kernel_rfl) (fun _ h => by cases h) numberGridRootsUpto_row_tie rfl ⟨rfl, rfl⟩ (by kernel_rfl) rfl plain (by kernel_rfl)
end Go.Proofs.YtfmhplcpejmkhabDoor.lawNumberGridRoots
