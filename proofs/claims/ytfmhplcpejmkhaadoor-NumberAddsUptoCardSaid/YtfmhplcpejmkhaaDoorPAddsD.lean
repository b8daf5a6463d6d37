/-
  From a row's reading to the walks' premises: a number as it comes in, the table of math/bits, and what an answer 'true' over untouched arguments gives.
  The statement NumberAddsUptoCardSaid: the row, and the card over it. Conditions: the walks' none but what the row's reading and its listed table give.
-/
import Derived.Test.YtfmhplcpejmkhaaDoorCards
import Derived.Test.YtfmhplcpejmkhaaDoorTie
import Derived.WalkKit
import Derived.ProofKit
import Derived.OpenShut
import Derived.Carry
import Derived.Deep.DeepHandedRow
import Derived.Lib.LaidTab
import Derived.Lib.SmallJoins
import Derived.ChangeSlices
import Derived.Test.YtfmhplcpejmkhaaDoorPAddsC
namespace Go.Proofs.YtfmhplcpejmkhaaDoor
open Go.ChangeShapes Go.WideShapes Go.ChangeAt Go.RowKit Dig
set_option linter.unusedVariables false
set_option linter.unusedSimpArgs false
theorem own : ownKnob Tryd.prog.godebug = none := by kernel_rfl
theorem gTab : Tryd.prog.globalNamed "math/bits.deBruijn32tab" = some 0 := by kernel_rfl
theorem gTabType : (Tryd.prog.globals[0]?).map (·.type) = some 116 := by kernel_rfl
theorem cellsTab : Tryd.prog.cellsOf 116 = 32 := by kernel_rfl
theorem cellsU8 : Tryd.prog.cellsOf 5 = 1 := by kernel_rfl
theorem cellsU32 : Tryd.prog.cellsOf 68 = 1 := by kernel_rfl
theorem cellsRat : Tryd.prog.cellsOf 24 = 3 := by kernel_rfl
theorem laidOut : laidOutB Tryd.prog = true := by kernel_rfl
theorem tab_of {W : World} (h : laidMetH Tryd.prog [("math/bits.deBruijn32tab", Rows.laid_math_bits_deBruijn32tab)] W) : Tab W := by
  have t : Lib.TabIs Tryd.prog W "math/bits.deBruijn32tab" .u8 (Lib.deBruijn32tab.map Int.ofNat) :=
    Lib.tabIs_of_head (rest := []) gTab gTabType Tryd.underlying116 Tryd.underlying5 cellsU8 cellsTab h
  intro j hj
  have hc := t.cell gTab j (by simpa using hj)
  rw [hc]
  congr 2
  simp [List.getD, hj]
set_option maxRecDepth 100000 in
/-- a slice of words that comes in -/
theorem open_rd {H : Type} {enc : TypeId × Value → H} {W : World} {n : Nat} {v : Value} {y : DataW H × List MemPlace} (h : DataW.trod enc Tryd.prog W 0 (fun _ => true) true n 22 [v] = some y) :
    ∃ A c l, v = .slice A l.length c ∧ Rd W A c l ∧ Ok B32 l ∧ l.length < Rows.uptoBulk y.1 := by
  rcases open_ints Tryd.underlying22 Tryd.underlying68 cellsU32 h with ⟨e, rfl⟩ | ⟨a, len, cap, zs, e, _, hl, hm, hz, rfl, hc, hw⟩
  · obtain rfl : v = .slice none 0 0 := by simpa using e
    exact ⟨none, 0, [], rfl, ⟨Nat.le_refl _, Nat.zero_le _, fun j hj => absurd hj (Nat.not_lt_zero _)⟩, (fun x (hx : x ∈ []) => by simp at hx), by simp [Rows.uptoBulk]⟩
  · obtain rfl : v = .slice (some a) len cap := by simpa using e
    rw [if_pos rfl] at hz
    refine ⟨some a, cap, zs.take len, by simp [hz, Nat.min_eq_left hl], ⟨by simp [hz]; omega, by unfold maxLen at hm; omega, ?_⟩, ?_, ?_⟩
    · intro j hj
      have hj' : j < len := by simp [hz] at hj; omega
      refine ⟨a, rfl, ?_⟩
      rw [hc j (by omega)]
      have : j < zs.length := by omega
      simp [rd, List.getD, hj', List.getElem?_take]
    · intro x hx
      have := hw x (List.mem_of_mem_take hx)
      simp only [Lit.wf, Bool.and_eq_true, decide_eq_true_eq] at this
      have e1 : IntKind.min .u32 = 0 := by decide
      have e2 : IntKind.max .u32 = 4294967295 := by decide
      rw [e1, e2] at this
      unfold B32
      omega
    · have : ∀ l : List (DataW H), l.length ≤ Rows.uptoBulkAll l := by
        intro l
        induction l with
        | nil => simp [Rows.uptoBulkAll]
        | cons x r ih =>
          have h1 : 1 ≤ Rows.uptoBulk x := by
            cases x with
            | lit l => cases l <;> simp [Rows.uptoBulk]
            | _ => simp [Rows.uptoBulk]
          simp only [Rows.uptoBulkAll, List.length_cons]
          omega
      have h2 := this (lits (H := H) .u32 (zs.take len))
      have h3 : (lits (H := H) .u32 (zs.take len)).length = (zs.take len).length := by simp [lits]
      simp only [Rows.uptoBulk]
      omega
theorem fin_agg3 {H : Type} (a b c : DataW H) : Rows.uptoBulk b < Rows.uptoBulk (.agg [a, b, c]) ∧ Rows.uptoBulk c < Rows.uptoBulk (.agg [a, b, c]) := by
  have h1 : ∀ x : DataW H, 1 ≤ Rows.uptoBulk x := by
    intro x
    cases x with
    | lit l => cases l <;> simp [Rows.uptoBulk]
    | _ => simp [Rows.uptoBulk]
  have ha := h1 a
  have hb := h1 b
  have hc := h1 c
  simp only [Rows.uptoBulk, Rows.uptoBulkAll]
  omega
set_option maxRecDepth 100000 in
/-- a number that comes in, whatever its length -/
theorem open_rat {H : Type} {enc : TypeId × Value → H} {W : World} {b0 : Nat} {v : Value} {d : DataW H} {p : List MemPlace} (hv : Value.okWide Tryd.prog W .any b0 24 v) (h : DataW.Trod enc Tryd.prog W 0 (fun _ => true) true 24 v d p) :
    ∃ s A1 c1 l1 A2 c2 l2, v = .agg #[.bool s, .slice A1 l1.length c1, .slice A2 l2.length c2] ∧ Rd W A1 c1 l1 ∧ Rd W A2 c2 l2 ∧ Ok B32 l1 ∧ Ok B32 l2 ∧ l1.length + 1 < Rows.uptoBulk d ∧ l2.length + 1 < Rows.uptoBulk d := by
  obtain ⟨v0, v1, v2, y0, y1, y2, n, rfl, rfl, rfl, h0, h1, h2⟩ := Joins.open_agg3 Tryd.underlying24 (by kernel_rfl) cellsRat hv h
  obtain ⟨A1, c1, l1, rfl, r1, o1, k1⟩ := open_rd h1
  obtain ⟨A2, c2, l2, rfl, r2, o2, k2⟩ := open_rd h2
  have hb : ∃ s, v0 = .bool s := by
    obtain ⟨s, h', _⟩ := DataW.trod_bool Tryd.underlying4 h0
    exact ⟨s, by simpa using h'⟩
  obtain ⟨s, rfl⟩ := hb
  obtain ⟨q1, q2⟩ := fin_agg3 y0.1 y1.1 y2.1
  exact ⟨s, A1, c1, l1, A2, c2, l2, rfl, r1, r2, o1, o2, by omega, by omega⟩
set_option maxRecDepth 100000 in
theorem open_raw {H : Type} {enc : TypeId × Value → H} {W : World} {b0 : Nat} {v : Value} {d : DataW H} {p : List MemPlace} (hv : Value.okWide Tryd.prog W .any b0 24 v) (h : DataW.Trod enc Tryd.prog W 0 (fun _ => true) true 24 v d p)
    (hk : Rows.uptoBulk d ≤ 1048576) : ∃ s N D, RawV W v s N D := by
  obtain ⟨s, A1, c1, l1, A2, c2, l2, e, r1, r2, o1, o2, k1, k2⟩ := open_rat hv h
  obtain ⟨N, hN⟩ := Int.eq_ofNat_of_zero_le (val_nonneg o1)
  obtain ⟨D, hD⟩ := Int.eq_ofNat_of_zero_le (val_nonneg o2)
  exact ⟨s, N, D, A1, c1, l1, A2, c2, l2, e, r1, r2, o1, o2, hN, hD, by omega, by omega⟩
set_option maxRecDepth 100000 in
/-- the arguments read behind the call as they did -/
theorem stays {H : Type} {enc : TypeId × Value → H} {W W' : World} (hb : Below W.heap.size W W') {sp : Nat → Bool} :
    ∀ {ts : List TypeId} {vs : List Value} {ds : List (DataW H)} {ps : List MemPlace}, (∀ t ∈ ts, Tryd.prog.readableRec t = true ∧ t < Tryd.prog.types.size) →
      DataW.TrodAll enc Tryd.prog W 0 (fun _ => true) true ts vs ds ps → (∀ p ∈ ps, sp p.block = true) → DataW.TrodAll enc Tryd.prog W' 0 sp true ts vs ds ps
  | [], [], [], _, _, h, _ => h
  | _ :: _, _ :: _, _ :: _, _, hT, h, hs => by
    have hlt := h.lt
    obtain ⟨p, q, h1, h2, e⟩ := h
    refine ⟨p, q, ?_, stays hb (fun t ht => hT t (List.mem_cons.2 (Or.inr ht))) h2 (fun x hx => hs x (by rw [e]; exact List.mem_append_right _ hx)), e⟩
    exact WideElems.Trod_stays laidOut (hT _ (List.mem_cons.2 (Or.inl rfl))).1 (hT _ (List.mem_cons.2 (Or.inl rfl))).2 h1
      (fun x hx => hb.same (hlt x (by rw [e]; exact List.mem_append_left _ hx))) (fun x hx => hs x (by rw [e]; exact List.mem_append_left _ hx))
set_option maxRecDepth 100000 in
/-- what the answer true gives, where nothing old has turned -/
theorem said_true {H : Type} {enc : TypeId × Value → H} {f : Func} {s : ChangeSpec} {W W' : World} {args : Array Value} {ds gs : List (DataW H)} {before : List MemPlace}
    (hW : DataW.Whole enc Tryd.prog f.params.toList s.vars false W args.toList ds gs before) (hv : s.vars = []) (hT : ∀ t ∈ f.params.toList, Tryd.prog.readableRec t = true ∧ t < Tryd.prog.types.size)
    (hr : f.resultTypes = #[4]) (e1 : (s.fn H (ds ++ gs)).results = [.lit (.bool true)]) (e2 : (s.fn H (ds ++ gs)).args = ds) (e3 : (s.fn H (ds ++ gs)).vars = []) (hb : Below W.heap.size W W') :
    s.post enc Tryd.prog f false true false false W args (.bool true) W' := by
  have hW' := hW
  obtain ⟨p, q, hA, hV, rfl, _, _⟩ := hW'
  rw [hv] at hV
  obtain ⟨rfl, rfl⟩ := trodVars_none hV
  have lt := hW.lt
  have ok : ∀ (j : Nat) (t : TypeId) (r : Value), f.resultTypes[j]? = some t → ((Value.bool true).resultList f.resultTypes.size)[j]? = some r → Value.okWide Tryd.prog W' .any 0 t r := ok_one hr rfl (okWide_bool_mk Tryd.underlying4 _)
  have res : ∀ (b : Nat) (sp : Nat → Bool) (hd : Bool), DataW.TrodAll enc Tryd.prog W' b sp hd f.resultTypes.toList ((Value.bool true).resultList f.resultTypes.size) (s.fn H (ds ++ [])).results [] := fun _ _ _ => by
    rw [e1, hr]
    exact trodAll_mk1 (shut_bool Tryd.underlying4 _)
  have arg : ∀ sp : Nat → Bool, (∀ x ∈ p ++ [], sp x.block = true) → DataW.TrodAll enc Tryd.prog W' 0 sp true f.params.toList args.toList (s.fn H (ds ++ [])).args p := fun sp hs => by
    rw [e2]
    exact stays hb hT hA (fun x hx => hs x (by simpa using hx))
  have var : ∀ sp : Nat → Bool, DataW.TrodVars enc Tryd.prog W' sp s.vars (s.fn H (ds ++ [])).vars [] := fun _ => by
    rw [e3, hv]
    rfl
  have hold : ∀ x ∈ p ++ [], (fun b => decide (b < W.heap.size)) x.block = true := fun x hx => by simpa using lt x hx
  refine ⟨ds, [], p ++ [], [], p, [], hW, res _ _ _, arg _ hold, var _, hb.frame _, fun h => by cases h⟩
end Go.Proofs.YtfmhplcpejmkhaaDoor

namespace Go.Proofs.YtfmhplcpejmkhaaDoor.lawNumberAdds
open Go.ChangeShapes Go.WideShapes Go.ChangeAt Go.RowKit Dig
set_option linter.unusedVariables false
set_option linter.unusedSimpArgs false
set_option maxRecDepth 100000 in
theorem contract (H : Type) (enc : TypeId × Value → H) (W : World) (base : Nat) (args : Array Value) (ds gs : List (DataW H)) (before : List MemPlace)
    (hval : ∀ (j : Nat) t v, Tryd.f4.params[j]? = some t → args[j]? = some v → Value.okWide Tryd.prog W .any base t v)
    (hW : DataW.Whole enc Tryd.prog Tryd.f4.params.toList Rows.numberAddsSpec.vars false W args.toList ds gs before) (hL : laidMetH Tryd.prog Rows.numberAddsUptoRow.laid W)
    (hk : Rows.uptoBulkAll (ds ++ gs) ≤ 1048576) :
    Calls Tryd.prog 4 args W fun e W' => ∃ v, e = .returned v ∧ Rows.numberAddsSpec.post enc Tryd.prog Tryd.f4 false true false false W args v W' := by
  have hW' := hW
  obtain ⟨p, q, hA0, hV, rfl, hfz, hnd⟩ := hW
  have hA : DataW.TrodAll enc Tryd.prog W 0 (fun _ => true) true Tryd.f4.params.toList args.toList ds p := hA0
  rw [Tryd.params4] at hA hval
  obtain ⟨v0, vs0, d0, ds0, p0, q0, hv0, rfl, rfl, h0, r0⟩ := trodAll_cons hA
  obtain ⟨v1, vs1, d1, ds1, p1, q1, hv1, rfl, rfl, h1, r1⟩ := trodAll_cons r0
  obtain ⟨hn, rfl, rfl⟩ := trodAll_nil r1
  obtain rfl : args = #[v0, v1] := by cases args; simp_all
  obtain ⟨rfl, rfl⟩ := trodVars_none hV
  have hT := tab_of hL
  simp only [List.append_nil, Rows.uptoBulkAll] at hk
  obtain ⟨s0, N0, D0, k0⟩ := open_raw (hval 0 24 v0 rfl rfl) h0 (by omega)
  obtain ⟨s1, N1, D1, k1⟩ := open_raw (hval 1 24 v1 rfl rfl) h1 (by omega)
  refine (wNumberAdds s0 N0 D0 s1 N1 D1 W _ _ k0 k1 hT).mono fun e W' ⟨he, hb⟩ => ?_
  subst he
  exact ⟨_, rfl, said_true hW' rfl (by rw [Tryd.params4]; intro t ht; simp at ht; subst ht; exact ⟨by kernel_rfl, of_decide_eq_true (by kernel_rfl)⟩) (by kernel_rfl) rfl rfl rfl hb⟩

noncomputable def laidWorld (os : Os) : World :=
  { World.holding Tryd.prog os ⟨#[], #[], []⟩ with heap := (World.holding Tryd.prog os ⟨#[], #[], []⟩).heap.modify 0 fun
      | .cells _ t frozen => .cells ((Lib.deBruijn32tab.map fun n => Value.int .u8 (Int.ofNat n)).toArray) t frozen
      | o => o }
theorem laid_met (os : Os) : laidMet Tryd.prog Rows.numberAddsUptoRow.laid ((laidWorld os).forCall (fun _ _ => 0) ⟨#[], #[.agg #[.bool false, .slice none 0 0, .slice none 0 0], .agg #[.bool false, .slice none 0 0, .slice none 0 0]], []⟩).memory :=
  laidMet_of_run' 64 (by kernel_rfl) (by kernel_rfl)
theorem reads (os : Os) {H : Type} (enc : TypeId × Value → H) : ∃ places, DataW.whole enc Tryd.prog ((laidWorld os).forCall (fun _ _ => 0) ⟨#[], #[.agg #[.bool false, .slice none 0 0, .slice none 0 0], .agg #[.bool false, .slice none 0 0, .slice none 0 0]], []⟩).memory Tryd.f4.params.toList Rows.numberAddsSpec.vars false (#[.agg #[.bool false, .slice none 0 0, .slice none 0 0], .agg #[.bool false, .slice none 0 0, .slice none 0 0]] : Array Value).toList 64 = some ([.agg [.lit (.bool false), .nil, .nil], .agg [.lit (.bool false), .nil, .nil]], [], places) :=
  ⟨[], by kernel_rfl⟩
set_option maxRecDepth 100000 in
theorem lifted (os : Os) (started : os.Started) (H : Type) (enc : TypeId × Value → H) (F : Stop.Interp) :
    ReturnsInHanded {} Tryd.checked os 4 .any ((Rows.OpenSpec.upto Rows.numberAddsSpec).preRow enc Tryd.prog Tryd.f4 Rows.numberAddsUptoRow.domain false Rows.numberAddsUptoRow.laid) (((Rows.OpenSpec.upto Rows.numberAddsSpec).at F).post enc Tryd.prog Tryd.f4 false true false false) := by
  obtain ⟨places, hx⟩ := reads os enc
  refine returnsInHanded_of_row (C := Tryd.checked) (s := Rows.OpenSpec.upto Rows.numberAddsSpec) own started (by kernel_rfl) Tryd.func4
    (witness_row_at (enc := enc) (C := Tryd.checked) false (laidWorld os) #[.agg #[.bool false, .slice none 0 0, .slice none 0 0], .agg #[.bool false, .slice none 0 0, .slice none 0 0]] rfl (by kernel_rfl) (by kernel_rfl) (by kernel_rfl)
      (OpenSpec.preRow_of_cond 64 hx (by kernel_rfl) (fun k hk => by cases hk; kernel_rfl) (by kernel_rfl) (laid_met os))) ?_
  intro W base args ds gs before hval hW _ hcond hreach hL _ _
  exact contract H enc W base args ds gs before hval hW hL (by simpa [Rows.uptoSmall] using hcond _ rfl)
theorem said : Rows.NumberAddsUptoSaid :=
  OpenClaim.holds_of_cond 4 Tryd.f4 rfl rfl rfl rfl rfl rfl rfl ⟨rfl, rfl, rfl, rfl, rfl⟩ rfl rfl rfl rfl rfl (by kernel_rfl) Tryd.func4 (by kernel_rfl)
    (of_decide_eq_true (by kernel_rfl)) (by unfold Func.isWrapper; first | (rw [if_pos (by decide +kernel)]; kernel_rfl) | (rw [if_neg (by decide +kernel)]; exact ⟨rfl, rfl⟩))
    (fun os started H enc _ F => by rw [OpenClaim.pre_eq_preRow]; exact lifted os started H enc F)
theorem plain (f : FuncId) (fn : Func) (hf : Tryd.pinned.checked.prog.funcNamed "inequality/inequalitylaw01.NumberAdds" = some f) (hfn : Tryd.pinned.checked.prog.funcs[f]? = some fn) :
    false = Tryd.pinned.checked.prog.looks [] ∧ ∀ (j : Nat) t, fn.params[j]? = some t → Tryd.pinned.checked.prog.wantsStandIn t = false := by
  obtain rfl : f = 4 := Option.some.inj ((show Tryd.prog.funcNamed "inequality/inequalitylaw01.NumberAdds" = some 4 by kernel_rfl).symm.trans hf) |>.symm
  obtain rfl : fn = Tryd.f4 := (Option.some.inj (Tryd.func4.symm.trans hfn)).symm
  refine ⟨by kernel_rfl, fun j t ht => ?_⟩
  rw [Tryd.params4] at ht
  have hm := Array.mem_of_getElem? ht
  simp at hm
  subst hm
  exact (show Tryd.prog.wantsStandIn 24 = false by kernel_rfl)
theorem card : Rows.NumberAddsUptoCardSaid :=
  Claim7.holds_tied_plain_at .later [] _ _ _ _ said (fun _ h => by cases h) (by kernel_rfl) (fun _ h => by cases h) numberAddsUpto_row_tie rfl ⟨rfl, rfl⟩ (by kernel_rfl) rfl plain (by kernel_rfl)
end Go.Proofs.YtfmhplcpejmkhaaDoor.lawNumberAdds
