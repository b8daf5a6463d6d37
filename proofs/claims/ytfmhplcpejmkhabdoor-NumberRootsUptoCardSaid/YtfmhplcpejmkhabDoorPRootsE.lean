/-
  Contracts of the reference's Exact.
  Contracts of the reference's RootBelow, RootAbove.
  Contracts of number.root, RootDown, RootUp. Under the premise that the table of math/bits lies as its initialiser lays it.
  Contracts of the reference's Root, GridRoot.
-/
import Derived.Test.YtfmhplcpejmkhabDoorPRootsD
namespace Go.Proofs.YtfmhplcpejmkhabDoor
open Go.RowKit Dig
set_option linter.unusedVariables false
set_option linter.unusedSimpArgs false
theorem irt_selfR {k : Nat} (hk : 0 < k) (a : Nat) : irt k a ≤ a := by
  have h1 := irt_le (a := a) hk
  rcases Nat.eq_zero_or_pos (irt k a) with h0 | h0
  · omega
  · exact Nat.le_trans (by have := Nat.pow_le_pow_right h0 (show 1 ≤ k by omega); simpa using this) h1
theorem rt_Rq {a : Rat} {k j : Nat} (hk : 0 < k) (h : Rq j a) : Rq j (rtQ k a) := by
  refine mk_Rq (irt_den hk a) ?_ ?_
  · rw [sg_abs]; exact Nat.le_trans (dig_length_mono B16_two (irt_selfR hk _)) h.1
  · exact Nat.le_trans (dig_length_mono B16_two (irt_selfR hk _)) h.2
theorem cmpQ_zero (a b : Rat) : cmpQ a b = 0 ↔ a = b := by
  rcases cmp_cases a b with ⟨h, e⟩ | ⟨h, e⟩ | ⟨h, e⟩
  · rw [e]; constructor
    · intro h; exact absurd h (by decide)
    · intro h2; subst h2; exact absurd h (by grind)
  · exact ⟨fun _ => h, fun _ => e⟩
  · rw [e]; constructor
    · intro h; exact absurd h (by decide)
    · intro h2; subst h2; exact absurd h (by grind)
set_option maxHeartbeats 4000000 in
set_option maxRecDepth 100000 in
theorem rExact_even (a : Rat) (k : Nat) (h2 : 2 ≤ k) (h8 : k ≤ 8) (hs : ng a = true) (he : k % 2 = 0) (ka : Rq 200 a) (s1 : Bool) (A1 : Option Addr) (n1 c1 : Nat) (A2 : Option Addr) (n2 c2 : Nat) (w : World) (h : IsQ w (.agg #[.bool s1, .slice A1 n1 c1, .slice A2 n2 c2]) a) :
    Calls Tryd.prog 74 #[(.agg #[.bool s1, .slice A1 n1 c1, .slice A2 n2 c2]), .int .i64 k] w fun e w' => ∃ t B1 m1 e1 B2 m2 e2, e = .returned (.tuple #[.agg #[.bool t, .slice B1 m1 e1, .slice B2 m2 e2], .bool false]) ∧ Hid (IsQ w' (.agg #[.bool t, .slice B1 m1 e1, .slice B2 m2 e2]) 0) ∧ Below w.heap.size w w' := by
  obtain ⟨M, hM, T0⟩ := XP.start w h
  have T0 := Lib.hid T0
  obtain ⟨hs1, _⟩ := h.at_
  have HNG := Lib.hid hs
  rw [hs] at hs1
  subst hs1
  have hm := tmod_two k
  have hm2 : IntKind.i64.wrap ((k % 2 : Nat) : Int) = ((k % 2 : Nat) : Int) := wraps_i64 _ (by omega) (by omega)
  have u1 : IntKind.i64.wrap (k : Int) = (k : Int) := wrap_i64 _ (by omega) (by omega)
  have HK2 := Lib.hid h2
  have HK8 := Lib.hid h8
  have CI := Lib.hid (fun w => rInt 0 (by omega) (by omega) w)
  have hz : ((0 : Int) : Rat) = 0 := rfl
  rw [hz] at CI
  clear hs h hz
  rw [he] at hm hm2
  clear he
  go_enter Tryd.func74, Tryd.ntmps74
  go_upto_region 1 with (fail)
  rw [← hM]
  clear hM
  obtain ⟨x1, y1, z1, _, _, _⟩ := T0.out.f.cells
  go_wp2_with fail
  refine (CI.out _).mono ?_
  rintro e wi ⟨t4, B4, m4, e4, B4', m4', e4', rfl, i4, bi⟩
  have hh := Lib.hid ((T0.out).below bi)
  obtain ⟨z1', z2', z3', hz1, hz2, hz3, k1, k2, k3⟩ := hh.out.res.cells
  obtain ⟨q0, q1, q2, hs, hb⟩ := IsQ.stored i4.out hh.out.res hh.out.bel hh.out.n3
  have Q := Lib.hid (And.intro q0 (And.intro q1 q2))
  have HS := Lib.hid hs
  have HBB := Lib.hid hb
  clear q0 q1 q2 hs hb bi
  go_wp2_with fail
  obtain ⟨q0, q1, q2⟩ := Q.out
  refine bodyPost_ret (v := .tuple #[.agg #[.bool t4, .slice B4 m4 e4, .slice B4' m4' e4'], .bool false]) (by simp [results, Tryd.results74, go_sem, q0, q1, q2]) rfl ?_
  exact ⟨_, _, _, _, _, _, _, rfl, HS, HBB.out⟩
set_option maxHeartbeats 4000000 in
set_option maxRecDepth 100000 in
theorem rExact_false_good (a : Rat) (k : Nat) (h2 : 2 ≤ k) (h8 : k ≤ 8) (hs : ng a = false) (hr : isRt k a = true) (ka : Rq 200 a) (s1 : Bool) (A1 : Option Addr) (n1 c1 : Nat) (A2 : Option Addr) (n2 c2 : Nat) (w : World) (h : IsQ w (.agg #[.bool s1, .slice A1 n1 c1, .slice A2 n2 c2]) a) :
    Calls Tryd.prog 74 #[(.agg #[.bool s1, .slice A1 n1 c1, .slice A2 n2 c2]), .int .i64 k] w fun e w' => ∃ t B1 m1 e1 B2 m2 e2, e = .returned (.tuple #[.agg #[.bool t, .slice B1 m1 e1, .slice B2 m2 e2], .bool true]) ∧ Hid (IsQ w' (.agg #[.bool t, .slice B1 m1 e1, .slice B2 m2 e2]) (rtQ k a)) ∧ Below w.heap.size w w' := by
  obtain ⟨r, hrr⟩ : ∃ r, rtQ k a = r := ⟨_, rfl⟩
  obtain ⟨p, hp⟩ : ∃ p, powN r k = p := ⟨_, rfl⟩
  obtain ⟨c, hc⟩ : ∃ c, cmpQ p a = c := ⟨_, rfl⟩
  have hi := rt_iff (n := k) (q := a) (by omega) (by rw [hs]; exact fun h => by cases h)
  rw [hrr, hp] at hi
  have hc0 : c = 0 := by rw [← hc, cmpQ_zero]; exact hi.2 hr
  subst hc0
  have HC := Lib.hid hc
  have HR := Lib.hid hrr
  have HP := Lib.hid hp
  have KA := Lib.hid ka
  have KR := Lib.hid (show Rq 200 r by rw [← hrr]; exact rt_Rq (by omega) ka)
  have KP := Lib.hid (show Rq 10000 p by rw [← hp]; exact (pow_Rq KR.out (by omega)).le (by omega))
  rw [hrr]
  clear hi hr ka hc hrr hp
  obtain ⟨M, hM, T0⟩ := XP.start w h
  have T0 := Lib.hid T0
  obtain ⟨hs1, _⟩ := h.at_
  have HNG := Lib.hid hs
  rw [hs] at hs1
  subst hs1
  have hm := tmod_two k
  have hm2 : IntKind.i64.wrap ((k % 2 : Nat) : Int) = ((k % 2 : Nat) : Int) := wraps_i64 _ (by omega) (by omega)
  have u1 : IntKind.i64.wrap (k : Int) = (k : Int) := wrap_i64 _ (by omega) (by omega)
  have HK2 := Lib.hid h2
  have HK8 := Lib.hid h8
  have CI := Lib.hid (fun w => rInt 0 (by omega) (by omega) w)
  have hz : ((0 : Int) : Rat) = 0 := rfl
  rw [hz] at CI
  clear hs h hz
  have HW := Lib.hid T0.out.newer
  have HMK := Lib.hid (show mkRat (sg false (irt k a.num.natAbs)) (irt k a.den) = r by rw [← HR.out]; unfold rtQ; rw [HNG.out])
  go_enter Tryd.func74, Tryd.ntmps74
  go_upto_region 1 with (fail)
  rw [← hM]
  clear hM
  obtain ⟨x1, y1, z1, _, _, _⟩ := T0.out.f.cells
  go_upto_region 3 with (fail)
  clear x1 y1 z1
  go_cut [6] (fun v6 wc => ∃ (g4 : Nat) (t5 : Bool) (B5 : Option Addr) (m5 e5 : Nat) (B5' : Option Addr) (m5' e5' : Nat), v6 = .pointer (some ⟨g4, 0, none⟩) ∧ Hid (XQ w wc w.heap.size g4 (w.heap.size + 1) false A1 n1 c1 A2 n2 c2 a t5 B5 m5 e5 B5' m5' e5' r))
  case first =>
    go_region_held3 (fun W' => (World.cell? W' ⟨w.heap.size, 0, none⟩ = some (.bool false) ∧ World.cell? W' ⟨w.heap.size, 1, none⟩ = some (.slice A1 n1 c1) ∧ World.cell? W' ⟨w.heap.size, 2, none⟩ = some (.slice A2 n2 c2) ∧ Hid (XP w W' w.heap.size (w.heap.size + 1) false A1 n1 c1 A2 n2 c2 a)))
      (with_reducible (first | assumption | exact T0.out.drew.cells | exact XP.next (by assumption) (by assumption) | exact XP.next (by assumption) (below_alloc _ _) | exact (T0.out.below (below_alloc _ _).drew).cells | exact (XP.below (by assumption) (below_alloc _ _)).cells | exact XP.boxed (by assumption) (by assumption) (by assumption) (NI.bool _) (NI.slice _ _ _) (NI.slice _ _ _) | exact XP.boxed (by assumption) (by assumption) HW.out (NI.bool _) (NI.slice _ _ _) (NI.slice _ _ _)))
      (first
       | (go_at_call_of 113 (Value.slice A1 n1 c1)
          refine (bRoot _ k _ _ _ _ (XP.of (by assumption)).r1.at_.2.1 (Nat.le_trans KA.out.1 (by omega)) HK2.out (Nat.le_trans HK8.out (by omega))).mono ?_
          rintro e wf ⟨B1, b1, d1, rfl, i1, bf⟩
          have hnew1 := ((XP.of (by assumption)).below bf).newer
          try (have hbx1 := Box.below (Box.drew (Box.new M (.bool false) (.slice none 0 0) (.slice none 0 0) 39)) bf))
       | (go_at_call 85
          refine (bDen a _ _ (XP.of (by assumption)).r1).mono ?_
          rintro e wg ⟨B2, b2, d2, rfl, i2, bg⟩
          have i1b := by first | exact Lib.hid (i1.out.below bg) | exact Lib.hid ((i1.out.below (below_alloc _ _)).below bg)
          have hnew2 := ((XP.of (by assumption)).below bg).newer
          first
            | (have hbx2 := Box.below hbx1 bg)
            | (have hbx2 := Box.below (Box.new wf (.bool false) (.slice none 0 0) (.slice none 0 0) 39) bg)
            | skip)
       | (go_at_call 113
          refine (bRoot _ k _ _ _ _ (by first | exact i2.out | exact i2.out.below (below_alloc _ _)) (Nat.le_trans KA.out.2 (by omega)) HK2.out (Nat.le_trans HK8.out (by omega))).mono ?_
          rintro e wh ⟨B3, b3, d3, rfl, i3, bh⟩
          have i1c := by first | exact Lib.hid (i1b.out.below bh) | exact Lib.hid ((i1b.out.below (below_alloc _ _)).below bh)
          have hnew3 := ((XP.of (by assumption)).below bh).newer
          first
            | (have hbx3 := Box.below hbx2 bh)
            | (have hbx3 := Box.below (Box.new wg (.bool false) (.slice none 0 0) (.slice none 0 0) 39) bh)
            | skip)
       | (go_at_call 70
          refine (bMake false _ _ _ _ _ _ _ _ _ (by first | exact i1c.out | exact i1c.out.below (below_alloc _ _)) (by first | exact i3.out | exact i3.out.below (below_alloc _ _)) (irt_den (Nat.lt_of_lt_of_le (by omega) HK2.out) a) (Nat.le_trans (dig_length_mono B16_two (irt_selfR (Nat.lt_of_lt_of_le (by omega) HK2.out) _)) (Nat.le_trans KA.out.1 (by omega))) (Nat.le_trans (dig_length_mono B16_two (irt_selfR (Nat.lt_of_lt_of_le (by omega) HK2.out) _)) (Nat.le_trans KA.out.2 (by omega))) r HMK.out).mono ?_
          rintro e we ⟨t5, B5, m5, e5, B5', m5', e5', rfl, i5, b5⟩
          have hh := (XP.of (by assumption)).below b5
          first
            | (have hbx4 := Box.below hbx3 b5; obtain ⟨k1, k2, k3, f1, f2, f3⟩ := hbx4.cells)
            | (have hbx4 := Box.below (Box.new wh (.bool false) (.slice none 0 0) (.slice none 0 0) 39) b5; obtain ⟨k1, k2, k3, f1, f2, f3⟩ := hbx4.cells)
            | skip))
    all_goals (go_wp2; go_meet)
    all_goals first
      | exact ⟨_, _, _, _, _, _, _, _, rfl, Lib.hid (hh.last i5.out)⟩
      | exact ⟨_, _, _, _, _, _, _, _, rfl, Lib.hid (hh.first i5.out hbx4 HW.out)⟩
      | exact ⟨_, _, _, _, _, _, _, _, rfl, Lib.hid (hh.first i5.out hbx4 hnew1)⟩
      | exact ⟨_, _, _, _, _, _, _, _, rfl, Lib.hid (hh.first i5.out hbx4 hnew2)⟩
      | exact ⟨_, _, _, _, _, _, _, _, rfl, Lib.hid (hh.first i5.out hbx4 hnew3)⟩
  case rest =>
    obtain ⟨g4, t5, B5, m5, e5, B5', m5', e5', rfl, TQ⟩ := hcut
    clear T0 HW
    go_wp2_with fail
    go_region_held3 (fun W' => (World.cell? W' ⟨w.heap.size, 0, none⟩ = some (.bool false) ∧ World.cell? W' ⟨w.heap.size, 1, none⟩ = some (.slice A1 n1 c1) ∧ World.cell? W' ⟨w.heap.size, 2, none⟩ = some (.slice A2 n2 c2) ∧ World.cell? W' ⟨g4, 0, none⟩ = some (.bool t5) ∧ World.cell? W' ⟨g4, 1, none⟩ = some (.slice B5 m5 e5) ∧ World.cell? W' ⟨g4, 2, none⟩ = some (.slice B5' m5' e5') ∧ Hid (XQ w W' w.heap.size g4 (w.heap.size + 1) false A1 n1 c1 A2 n2 c2 a t5 B5 m5 e5 B5' m5' e5' r)))
      (with_reducible (first | assumption | exact TQ.out.drew.cells | exact XQ.next (by assumption) (by assumption)))
      (first
       | (go_at_call 59
          refine (Calls.parts (qPowerN r k (Nat.le_trans HK8.out (by omega)) _ _ (XQ.of (by assumption)).r2 (KR.out.le (by omega)) p HP.out)).mono ?_
          rintro e wd ⟨t6, B6, m6, e6, B6', m6', e6', rfl, i6, bd⟩)
       | (go_at_call 40
          refine (bCmpQ p a 0 HC.out _ _ _ i6.out (XQ.of (by assumption)).p.r1 (KP.out.le (by omega)) (KA.out.le (by omega))).mono ?_
          rintro e we ⟨rfl, be⟩
          have hh := Lib.hid ((XQ.of (by assumption)).below be)))
    obtain ⟨x1, y1, z1, _, _, _⟩ := hh.out.g.cells
    obtain ⟨z1', z2', z3', hz1, hz2, hz3, k1, k2, k3⟩ := hh.out.p.res.cells
    obtain ⟨q0, q1, q2, hs, hb⟩ := IsQ.stored hh.out.r2 hh.out.p.res hh.out.p.bel hh.out.p.n3
    have Q := Lib.hid (And.intro q0 (And.intro q1 q2))
    have HS := Lib.hid hs
    have HBB := Lib.hid hb
    clear q0 q1 q2 hs hb
    go_wp2_with fail
    obtain ⟨q0, q1, q2⟩ := Q.out
    refine bodyPost_ret (v := .tuple #[.agg #[.bool t5, .slice B5 m5 e5, .slice B5' m5' e5'], .bool true]) (by simp [results, Tryd.results74, go_sem, q0, q1, q2]) rfl ?_
    exact ⟨_, _, _, _, _, _, _, rfl, HS, HBB.out⟩
set_option maxHeartbeats 4000000 in
set_option maxRecDepth 100000 in
theorem rExact_false_bad (a : Rat) (k : Nat) (h2 : 2 ≤ k) (h8 : k ≤ 8) (hs : ng a = false) (hr : isRt k a = false) (ka : Rq 200 a) (s1 : Bool) (A1 : Option Addr) (n1 c1 : Nat) (A2 : Option Addr) (n2 c2 : Nat) (w : World) (h : IsQ w (.agg #[.bool s1, .slice A1 n1 c1, .slice A2 n2 c2]) a) :
    Calls Tryd.prog 74 #[(.agg #[.bool s1, .slice A1 n1 c1, .slice A2 n2 c2]), .int .i64 k] w fun e w' => ∃ t B1 m1 e1 B2 m2 e2, e = .returned (.tuple #[.agg #[.bool t, .slice B1 m1 e1, .slice B2 m2 e2], .bool false]) ∧ Hid (IsQ w' (.agg #[.bool t, .slice B1 m1 e1, .slice B2 m2 e2]) 0) ∧ Below w.heap.size w w' := by
  obtain ⟨r, hrr⟩ : ∃ r, rtQ k a = r := ⟨_, rfl⟩
  obtain ⟨p, hp⟩ : ∃ p, powN r k = p := ⟨_, rfl⟩
  obtain ⟨c, hc⟩ : ∃ c, cmpQ p a = c := ⟨_, rfl⟩
  have hi := rt_iff (n := k) (q := a) (by omega) (by rw [hs]; exact fun h => by cases h)
  rw [hrr, hp] at hi
  have hc0 : c ≠ 0 := by
    rw [← hc]
    intro h0
    have := hi.1 ((cmpQ_zero _ _).1 h0)
    rw [hr] at this
    cases this
  have f1 : (c == 0) = false := beq_eq_false_iff_ne.2 hc0
  have f2 : decide (c = 0) = false := decide_eq_false hc0
  have f3 : (c != 0) = true := by simp [bne, f1]
  have HC := Lib.hid hc
  have HR := Lib.hid hrr
  have HP := Lib.hid hp
  have KA := Lib.hid ka
  have KR := Lib.hid (show Rq 200 r by rw [← hrr]; exact rt_Rq (by omega) ka)
  have KP := Lib.hid (show Rq 10000 p by rw [← hp]; exact (pow_Rq KR.out (by omega)).le (by omega))
  clear hi hr ka hc hc0 hrr hp
  obtain ⟨M, hM, T0⟩ := XP.start w h
  have T0 := Lib.hid T0
  obtain ⟨hs1, _⟩ := h.at_
  have HNG := Lib.hid hs
  rw [hs] at hs1
  subst hs1
  have hm := tmod_two k
  have hm2 : IntKind.i64.wrap ((k % 2 : Nat) : Int) = ((k % 2 : Nat) : Int) := wraps_i64 _ (by omega) (by omega)
  have u1 : IntKind.i64.wrap (k : Int) = (k : Int) := wrap_i64 _ (by omega) (by omega)
  have HK2 := Lib.hid h2
  have HK8 := Lib.hid h8
  have CI := Lib.hid (fun w => rInt 0 (by omega) (by omega) w)
  have hz : ((0 : Int) : Rat) = 0 := rfl
  rw [hz] at CI
  clear hs h hz
  have HW := Lib.hid T0.out.newer
  have HMK := Lib.hid (show mkRat (sg false (irt k a.num.natAbs)) (irt k a.den) = r by rw [← HR.out]; unfold rtQ; rw [HNG.out])
  go_enter Tryd.func74, Tryd.ntmps74
  go_upto_region 1 with (fail)
  rw [← hM]
  clear hM
  obtain ⟨x1, y1, z1, _, _, _⟩ := T0.out.f.cells
  go_upto_region 3 with (fail)
  clear x1 y1 z1
  go_cut [6] (fun v6 wc => ∃ (g4 : Nat) (t5 : Bool) (B5 : Option Addr) (m5 e5 : Nat) (B5' : Option Addr) (m5' e5' : Nat), v6 = .pointer (some ⟨g4, 0, none⟩) ∧ Hid (XQ w wc w.heap.size g4 (w.heap.size + 1) false A1 n1 c1 A2 n2 c2 a t5 B5 m5 e5 B5' m5' e5' r))
  case first =>
    go_region_held3 (fun W' => (World.cell? W' ⟨w.heap.size, 0, none⟩ = some (.bool false) ∧ World.cell? W' ⟨w.heap.size, 1, none⟩ = some (.slice A1 n1 c1) ∧ World.cell? W' ⟨w.heap.size, 2, none⟩ = some (.slice A2 n2 c2) ∧ Hid (XP w W' w.heap.size (w.heap.size + 1) false A1 n1 c1 A2 n2 c2 a)))
      (with_reducible (first | assumption | exact T0.out.drew.cells | exact XP.next (by assumption) (by assumption) | exact XP.next (by assumption) (below_alloc _ _) | exact (T0.out.below (below_alloc _ _).drew).cells | exact (XP.below (by assumption) (below_alloc _ _)).cells | exact XP.boxed (by assumption) (by assumption) (by assumption) (NI.bool _) (NI.slice _ _ _) (NI.slice _ _ _) | exact XP.boxed (by assumption) (by assumption) HW.out (NI.bool _) (NI.slice _ _ _) (NI.slice _ _ _)))
      (first
       | (go_at_call_of 113 (Value.slice A1 n1 c1)
          refine (bRoot _ k _ _ _ _ (XP.of (by assumption)).r1.at_.2.1 (Nat.le_trans KA.out.1 (by omega)) HK2.out (Nat.le_trans HK8.out (by omega))).mono ?_
          rintro e wf ⟨B1, b1, d1, rfl, i1, bf⟩
          have hnew1 := ((XP.of (by assumption)).below bf).newer
          try (have hbx1 := Box.below (Box.drew (Box.new M (.bool false) (.slice none 0 0) (.slice none 0 0) 39)) bf))
       | (go_at_call 85
          refine (bDen a _ _ (XP.of (by assumption)).r1).mono ?_
          rintro e wg ⟨B2, b2, d2, rfl, i2, bg⟩
          have i1b := by first | exact Lib.hid (i1.out.below bg) | exact Lib.hid ((i1.out.below (below_alloc _ _)).below bg)
          have hnew2 := ((XP.of (by assumption)).below bg).newer
          first
            | (have hbx2 := Box.below hbx1 bg)
            | (have hbx2 := Box.below (Box.new wf (.bool false) (.slice none 0 0) (.slice none 0 0) 39) bg)
            | skip)
       | (go_at_call 113
          refine (bRoot _ k _ _ _ _ (by first | exact i2.out | exact i2.out.below (below_alloc _ _)) (Nat.le_trans KA.out.2 (by omega)) HK2.out (Nat.le_trans HK8.out (by omega))).mono ?_
          rintro e wh ⟨B3, b3, d3, rfl, i3, bh⟩
          have i1c := by first | exact Lib.hid (i1b.out.below bh) | exact Lib.hid ((i1b.out.below (below_alloc _ _)).below bh)
          have hnew3 := ((XP.of (by assumption)).below bh).newer
          first
            | (have hbx3 := Box.below hbx2 bh)
            | (have hbx3 := Box.below (Box.new wg (.bool false) (.slice none 0 0) (.slice none 0 0) 39) bh)
            | skip)
       | (go_at_call 70
          refine (bMake false _ _ _ _ _ _ _ _ _ (by first | exact i1c.out | exact i1c.out.below (below_alloc _ _)) (by first | exact i3.out | exact i3.out.below (below_alloc _ _)) (irt_den (Nat.lt_of_lt_of_le (by omega) HK2.out) a) (Nat.le_trans (dig_length_mono B16_two (irt_selfR (Nat.lt_of_lt_of_le (by omega) HK2.out) _)) (Nat.le_trans KA.out.1 (by omega))) (Nat.le_trans (dig_length_mono B16_two (irt_selfR (Nat.lt_of_lt_of_le (by omega) HK2.out) _)) (Nat.le_trans KA.out.2 (by omega))) r HMK.out).mono ?_
          rintro e we ⟨t5, B5, m5, e5, B5', m5', e5', rfl, i5, b5⟩
          have hh := (XP.of (by assumption)).below b5
          first
            | (have hbx4 := Box.below hbx3 b5; obtain ⟨k1, k2, k3, f1, f2, f3⟩ := hbx4.cells)
            | (have hbx4 := Box.below (Box.new wh (.bool false) (.slice none 0 0) (.slice none 0 0) 39) b5; obtain ⟨k1, k2, k3, f1, f2, f3⟩ := hbx4.cells)
            | skip))
    all_goals (go_wp2; go_meet)
    all_goals first
      | exact ⟨_, _, _, _, _, _, _, _, rfl, Lib.hid (hh.last i5.out)⟩
      | exact ⟨_, _, _, _, _, _, _, _, rfl, Lib.hid (hh.first i5.out hbx4 HW.out)⟩
      | exact ⟨_, _, _, _, _, _, _, _, rfl, Lib.hid (hh.first i5.out hbx4 hnew1)⟩
      | exact ⟨_, _, _, _, _, _, _, _, rfl, Lib.hid (hh.first i5.out hbx4 hnew2)⟩
      | exact ⟨_, _, _, _, _, _, _, _, rfl, Lib.hid (hh.first i5.out hbx4 hnew3)⟩
  case rest =>
    obtain ⟨g4, t5, B5, m5, e5, B5', m5', e5', rfl, TQ⟩ := hcut
    clear T0 HW
    go_wp2_with fail
    go_region_held3 (fun W' => (World.cell? W' ⟨w.heap.size, 0, none⟩ = some (.bool false) ∧ World.cell? W' ⟨w.heap.size, 1, none⟩ = some (.slice A1 n1 c1) ∧ World.cell? W' ⟨w.heap.size, 2, none⟩ = some (.slice A2 n2 c2) ∧ World.cell? W' ⟨g4, 0, none⟩ = some (.bool t5) ∧ World.cell? W' ⟨g4, 1, none⟩ = some (.slice B5 m5 e5) ∧ World.cell? W' ⟨g4, 2, none⟩ = some (.slice B5' m5' e5') ∧ Hid (XQ w W' w.heap.size g4 (w.heap.size + 1) false A1 n1 c1 A2 n2 c2 a t5 B5 m5 e5 B5' m5' e5' r)))
      (with_reducible (first | assumption | exact TQ.out.drew.cells | exact XQ.next (by assumption) (by assumption)))
      (first
       | (go_at_call 59
          refine (Calls.parts (qPowerN r k (Nat.le_trans HK8.out (by omega)) _ _ (XQ.of (by assumption)).r2 (KR.out.le (by omega)) p HP.out)).mono ?_
          rintro e wd ⟨t6, B6, m6, e6, B6', m6', e6', rfl, i6, bd⟩)
       | (go_at_call 40
          refine (bCmpQ p a c HC.out _ _ _ i6.out (XQ.of (by assumption)).p.r1 (KP.out.le (by omega)) (KA.out.le (by omega))).mono ?_
          rintro e we ⟨rfl, be⟩
          have hh := Lib.hid ((XQ.of (by assumption)).below be)))
    go_wp2_with fail
    refine (CI.out _).mono ?_
    rintro e wi ⟨t4, B4, m4, e4, B4', m4', e4', rfl, i4, bi⟩
    have hh := Lib.hid ((hh.out).below bi)
    obtain ⟨z1', z2', z3', hz1, hz2, hz3, k1, k2, k3⟩ := hh.out.p.res.cells
    obtain ⟨q0, q1, q2, hs, hb⟩ := IsQ.stored i4.out hh.out.p.res hh.out.p.bel hh.out.p.n3
    have Q := Lib.hid (And.intro q0 (And.intro q1 q2))
    have HS := Lib.hid hs
    have HBB := Lib.hid hb
    clear q0 q1 q2 hs hb bi
    go_wp2_with fail
    obtain ⟨q0, q1, q2⟩ := Q.out
    refine bodyPost_ret (v := .tuple #[.agg #[.bool t4, .slice B4 m4 e4, .slice B4' m4' e4'], .bool false]) (by simp [results, Tryd.results74, go_sem, q0, q1, q2]) rfl ?_
    exact ⟨_, _, _, _, _, _, _, rfl, HS, HBB.out⟩
set_option maxHeartbeats 4000000 in
set_option maxRecDepth 100000 in
theorem rExact_true_good (a : Rat) (k : Nat) (h2 : 2 ≤ k) (h8 : k ≤ 8) (hs : ng a = true) (ho : k % 2 = 1) (hr : isRt k a = true) (ka : Rq 200 a) (s1 : Bool) (A1 : Option Addr) (n1 c1 : Nat) (A2 : Option Addr) (n2 c2 : Nat) (w : World) (h : IsQ w (.agg #[.bool s1, .slice A1 n1 c1, .slice A2 n2 c2]) a) :
    Calls Tryd.prog 74 #[(.agg #[.bool s1, .slice A1 n1 c1, .slice A2 n2 c2]), .int .i64 k] w fun e w' => ∃ t B1 m1 e1 B2 m2 e2, e = .returned (.tuple #[.agg #[.bool t, .slice B1 m1 e1, .slice B2 m2 e2], .bool true]) ∧ Hid (IsQ w' (.agg #[.bool t, .slice B1 m1 e1, .slice B2 m2 e2]) (rtQ k a)) ∧ Below w.heap.size w w' := by
  obtain ⟨r, hrr⟩ : ∃ r, rtQ k a = r := ⟨_, rfl⟩
  obtain ⟨p, hp⟩ : ∃ p, powN r k = p := ⟨_, rfl⟩
  obtain ⟨c, hc⟩ : ∃ c, cmpQ p a = c := ⟨_, rfl⟩
  have hi := rt_iff (n := k) (q := a) (by omega) (by rw [hs]; exact fun _ => ho)
  rw [hrr, hp] at hi
  have hc0 : c = 0 := by rw [← hc, cmpQ_zero]; exact hi.2 hr
  subst hc0
  have HC := Lib.hid hc
  have HR := Lib.hid hrr
  have HP := Lib.hid hp
  have KA := Lib.hid ka
  have KR := Lib.hid (show Rq 200 r by rw [← hrr]; exact rt_Rq (by omega) ka)
  have KP := Lib.hid (show Rq 10000 p by rw [← hp]; exact (pow_Rq KR.out (by omega)).le (by omega))
  rw [hrr]
  clear hi hr ka hc hrr hp
  obtain ⟨M, hM, T0⟩ := XP.start w h
  have T0 := Lib.hid T0
  obtain ⟨hs1, _⟩ := h.at_
  have HNG := Lib.hid hs
  rw [hs] at hs1
  subst hs1
  have hm := tmod_two k
  have hm2 : IntKind.i64.wrap ((k % 2 : Nat) : Int) = ((k % 2 : Nat) : Int) := wraps_i64 _ (by omega) (by omega)
  have u1 : IntKind.i64.wrap (k : Int) = (k : Int) := wrap_i64 _ (by omega) (by omega)
  have HK2 := Lib.hid h2
  have HK8 := Lib.hid h8
  have CI := Lib.hid (fun w => rInt 0 (by omega) (by omega) w)
  have hz : ((0 : Int) : Rat) = 0 := rfl
  rw [hz] at CI
  clear hs h hz
  rw [ho] at hm hm2
  clear ho
  have HW := Lib.hid T0.out.newer
  have HMK := Lib.hid (show mkRat (sg true (irt k a.num.natAbs)) (irt k a.den) = r by rw [← HR.out]; unfold rtQ; rw [HNG.out])
  go_enter Tryd.func74, Tryd.ntmps74
  go_upto_region 1 with (fail)
  rw [← hM]
  clear hM
  obtain ⟨x1, y1, z1, _, _, _⟩ := T0.out.f.cells
  go_upto_region 3 with (fail)
  clear x1 y1 z1
  go_cut [6] (fun v6 wc => ∃ (g4 : Nat) (t5 : Bool) (B5 : Option Addr) (m5 e5 : Nat) (B5' : Option Addr) (m5' e5' : Nat), v6 = .pointer (some ⟨g4, 0, none⟩) ∧ Hid (XQ w wc w.heap.size g4 (w.heap.size + 1) true A1 n1 c1 A2 n2 c2 a t5 B5 m5 e5 B5' m5' e5' r))
  case first =>
    go_region_held3 (fun W' => (World.cell? W' ⟨w.heap.size, 0, none⟩ = some (.bool true) ∧ World.cell? W' ⟨w.heap.size, 1, none⟩ = some (.slice A1 n1 c1) ∧ World.cell? W' ⟨w.heap.size, 2, none⟩ = some (.slice A2 n2 c2) ∧ Hid (XP w W' w.heap.size (w.heap.size + 1) true A1 n1 c1 A2 n2 c2 a)))
      (with_reducible (first | assumption | exact T0.out.drew.cells | exact XP.next (by assumption) (by assumption) | exact XP.next (by assumption) (below_alloc _ _) | exact (T0.out.below (below_alloc _ _).drew).cells | exact (XP.below (by assumption) (below_alloc _ _)).cells | exact XP.boxed (by assumption) (by assumption) (by assumption) (NI.bool _) (NI.slice _ _ _) (NI.slice _ _ _) | exact XP.boxed (by assumption) (by assumption) HW.out (NI.bool _) (NI.slice _ _ _) (NI.slice _ _ _)))
      (first
       | (go_at_call_of 113 (Value.slice A1 n1 c1)
          refine (bRoot _ k _ _ _ _ (XP.of (by assumption)).r1.at_.2.1 (Nat.le_trans KA.out.1 (by omega)) HK2.out (Nat.le_trans HK8.out (by omega))).mono ?_
          rintro e wf ⟨B1, b1, d1, rfl, i1, bf⟩
          have hnew1 := ((XP.of (by assumption)).below bf).newer
          try (have hbx1 := Box.below (Box.drew (Box.new M (.bool false) (.slice none 0 0) (.slice none 0 0) 39)) bf))
       | (go_at_call 85
          refine (bDen a _ _ (XP.of (by assumption)).r1).mono ?_
          rintro e wg ⟨B2, b2, d2, rfl, i2, bg⟩
          have i1b := by first | exact Lib.hid (i1.out.below bg) | exact Lib.hid ((i1.out.below (below_alloc _ _)).below bg)
          have hnew2 := ((XP.of (by assumption)).below bg).newer
          first
            | (have hbx2 := Box.below hbx1 bg)
            | (have hbx2 := Box.below (Box.new wf (.bool false) (.slice none 0 0) (.slice none 0 0) 39) bg)
            | skip)
       | (go_at_call 113
          refine (bRoot _ k _ _ _ _ (by first | exact i2.out | exact i2.out.below (below_alloc _ _)) (Nat.le_trans KA.out.2 (by omega)) HK2.out (Nat.le_trans HK8.out (by omega))).mono ?_
          rintro e wh ⟨B3, b3, d3, rfl, i3, bh⟩
          have i1c := by first | exact Lib.hid (i1b.out.below bh) | exact Lib.hid ((i1b.out.below (below_alloc _ _)).below bh)
          have hnew3 := ((XP.of (by assumption)).below bh).newer
          first
            | (have hbx3 := Box.below hbx2 bh)
            | (have hbx3 := Box.below (Box.new wg (.bool false) (.slice none 0 0) (.slice none 0 0) 39) bh)
            | skip)
       | (go_at_call 70
          refine (bMake true _ _ _ _ _ _ _ _ _ (by first | exact i1c.out | exact i1c.out.below (below_alloc _ _)) (by first | exact i3.out | exact i3.out.below (below_alloc _ _)) (irt_den (Nat.lt_of_lt_of_le (by omega) HK2.out) a) (Nat.le_trans (dig_length_mono B16_two (irt_selfR (Nat.lt_of_lt_of_le (by omega) HK2.out) _)) (Nat.le_trans KA.out.1 (by omega))) (Nat.le_trans (dig_length_mono B16_two (irt_selfR (Nat.lt_of_lt_of_le (by omega) HK2.out) _)) (Nat.le_trans KA.out.2 (by omega))) r HMK.out).mono ?_
          rintro e we ⟨t5, B5, m5, e5, B5', m5', e5', rfl, i5, b5⟩
          have hh := (XP.of (by assumption)).below b5
          first
            | (have hbx4 := Box.below hbx3 b5; obtain ⟨k1, k2, k3, f1, f2, f3⟩ := hbx4.cells)
            | (have hbx4 := Box.below (Box.new wh (.bool false) (.slice none 0 0) (.slice none 0 0) 39) b5; obtain ⟨k1, k2, k3, f1, f2, f3⟩ := hbx4.cells)
            | skip))
    all_goals (go_wp2; go_meet)
    all_goals first
      | exact ⟨_, _, _, _, _, _, _, _, rfl, Lib.hid (hh.last i5.out)⟩
      | exact ⟨_, _, _, _, _, _, _, _, rfl, Lib.hid (hh.first i5.out hbx4 HW.out)⟩
      | exact ⟨_, _, _, _, _, _, _, _, rfl, Lib.hid (hh.first i5.out hbx4 hnew1)⟩
      | exact ⟨_, _, _, _, _, _, _, _, rfl, Lib.hid (hh.first i5.out hbx4 hnew2)⟩
      | exact ⟨_, _, _, _, _, _, _, _, rfl, Lib.hid (hh.first i5.out hbx4 hnew3)⟩
  case rest =>
    obtain ⟨g4, t5, B5, m5, e5, B5', m5', e5', rfl, TQ⟩ := hcut
    clear T0 HW
    go_wp2_with fail
    go_region_held3 (fun W' => (World.cell? W' ⟨w.heap.size, 0, none⟩ = some (.bool true) ∧ World.cell? W' ⟨w.heap.size, 1, none⟩ = some (.slice A1 n1 c1) ∧ World.cell? W' ⟨w.heap.size, 2, none⟩ = some (.slice A2 n2 c2) ∧ World.cell? W' ⟨g4, 0, none⟩ = some (.bool t5) ∧ World.cell? W' ⟨g4, 1, none⟩ = some (.slice B5 m5 e5) ∧ World.cell? W' ⟨g4, 2, none⟩ = some (.slice B5' m5' e5') ∧ Hid (XQ w W' w.heap.size g4 (w.heap.size + 1) true A1 n1 c1 A2 n2 c2 a t5 B5 m5 e5 B5' m5' e5' r)))
      (with_reducible (first | assumption | exact TQ.out.drew.cells | exact XQ.next (by assumption) (by assumption)))
      (first
       | (go_at_call 59
          refine (Calls.parts (qPowerN r k (Nat.le_trans HK8.out (by omega)) _ _ (XQ.of (by assumption)).r2 (KR.out.le (by omega)) p HP.out)).mono ?_
          rintro e wd ⟨t6, B6, m6, e6, B6', m6', e6', rfl, i6, bd⟩)
       | (go_at_call 40
          refine (bCmpQ p a 0 HC.out _ _ _ i6.out (XQ.of (by assumption)).p.r1 (KP.out.le (by omega)) (KA.out.le (by omega))).mono ?_
          rintro e we ⟨rfl, be⟩
          have hh := Lib.hid ((XQ.of (by assumption)).below be)))
    obtain ⟨x1, y1, z1, _, _, _⟩ := hh.out.g.cells
    obtain ⟨z1', z2', z3', hz1, hz2, hz3, k1, k2, k3⟩ := hh.out.p.res.cells
    obtain ⟨q0, q1, q2, hs, hb⟩ := IsQ.stored hh.out.r2 hh.out.p.res hh.out.p.bel hh.out.p.n3
    have Q := Lib.hid (And.intro q0 (And.intro q1 q2))
    have HS := Lib.hid hs
    have HBB := Lib.hid hb
    clear q0 q1 q2 hs hb
    go_wp2_with fail
    obtain ⟨q0, q1, q2⟩ := Q.out
    refine bodyPost_ret (v := .tuple #[.agg #[.bool t5, .slice B5 m5 e5, .slice B5' m5' e5'], .bool true]) (by simp [results, Tryd.results74, go_sem, q0, q1, q2]) rfl ?_
    exact ⟨_, _, _, _, _, _, _, rfl, HS, HBB.out⟩
set_option maxHeartbeats 4000000 in
set_option maxRecDepth 100000 in
theorem rExact_true_bad (a : Rat) (k : Nat) (h2 : 2 ≤ k) (h8 : k ≤ 8) (hs : ng a = true) (ho : k % 2 = 1) (hr : isRt k a = false) (ka : Rq 200 a) (s1 : Bool) (A1 : Option Addr) (n1 c1 : Nat) (A2 : Option Addr) (n2 c2 : Nat) (w : World) (h : IsQ w (.agg #[.bool s1, .slice A1 n1 c1, .slice A2 n2 c2]) a) :
    Calls Tryd.prog 74 #[(.agg #[.bool s1, .slice A1 n1 c1, .slice A2 n2 c2]), .int .i64 k] w fun e w' => ∃ t B1 m1 e1 B2 m2 e2, e = .returned (.tuple #[.agg #[.bool t, .slice B1 m1 e1, .slice B2 m2 e2], .bool false]) ∧ Hid (IsQ w' (.agg #[.bool t, .slice B1 m1 e1, .slice B2 m2 e2]) 0) ∧ Below w.heap.size w w' := by
  obtain ⟨r, hrr⟩ : ∃ r, rtQ k a = r := ⟨_, rfl⟩
  obtain ⟨p, hp⟩ : ∃ p, powN r k = p := ⟨_, rfl⟩
  obtain ⟨c, hc⟩ : ∃ c, cmpQ p a = c := ⟨_, rfl⟩
  have hi := rt_iff (n := k) (q := a) (by omega) (by rw [hs]; exact fun _ => ho)
  rw [hrr, hp] at hi
  have hc0 : c ≠ 0 := by
    rw [← hc]
    intro h0
    have := hi.1 ((cmpQ_zero _ _).1 h0)
    rw [hr] at this
    cases this
  have f1 : (c == 0) = false := beq_eq_false_iff_ne.2 hc0
  have f2 : decide (c = 0) = false := decide_eq_false hc0
  have f3 : (c != 0) = true := by simp [bne, f1]
  have HC := Lib.hid hc
  have HR := Lib.hid hrr
  have HP := Lib.hid hp
  have KA := Lib.hid ka
  have KR := Lib.hid (show Rq 200 r by rw [← hrr]; exact rt_Rq (by omega) ka)
  have KP := Lib.hid (show Rq 10000 p by rw [← hp]; exact (pow_Rq KR.out (by omega)).le (by omega))
  clear hi hr ka hc hc0 hrr hp
  obtain ⟨M, hM, T0⟩ := XP.start w h
  have T0 := Lib.hid T0
  obtain ⟨hs1, _⟩ := h.at_
  have HNG := Lib.hid hs
  rw [hs] at hs1
  subst hs1
  have hm := tmod_two k
  have hm2 : IntKind.i64.wrap ((k % 2 : Nat) : Int) = ((k % 2 : Nat) : Int) := wraps_i64 _ (by omega) (by omega)
  have u1 : IntKind.i64.wrap (k : Int) = (k : Int) := wrap_i64 _ (by omega) (by omega)
  have HK2 := Lib.hid h2
  have HK8 := Lib.hid h8
  have CI := Lib.hid (fun w => rInt 0 (by omega) (by omega) w)
  have hz : ((0 : Int) : Rat) = 0 := rfl
  rw [hz] at CI
  clear hs h hz
  rw [ho] at hm hm2
  clear ho
  have HW := Lib.hid T0.out.newer
  have HMK := Lib.hid (show mkRat (sg true (irt k a.num.natAbs)) (irt k a.den) = r by rw [← HR.out]; unfold rtQ; rw [HNG.out])
  go_enter Tryd.func74, Tryd.ntmps74
  go_upto_region 1 with (fail)
  rw [← hM]
  clear hM
  obtain ⟨x1, y1, z1, _, _, _⟩ := T0.out.f.cells
  go_upto_region 3 with (fail)
  clear x1 y1 z1
  go_cut [6] (fun v6 wc => ∃ (g4 : Nat) (t5 : Bool) (B5 : Option Addr) (m5 e5 : Nat) (B5' : Option Addr) (m5' e5' : Nat), v6 = .pointer (some ⟨g4, 0, none⟩) ∧ Hid (XQ w wc w.heap.size g4 (w.heap.size + 1) true A1 n1 c1 A2 n2 c2 a t5 B5 m5 e5 B5' m5' e5' r))
  case first =>
    go_region_held3 (fun W' => (World.cell? W' ⟨w.heap.size, 0, none⟩ = some (.bool true) ∧ World.cell? W' ⟨w.heap.size, 1, none⟩ = some (.slice A1 n1 c1) ∧ World.cell? W' ⟨w.heap.size, 2, none⟩ = some (.slice A2 n2 c2) ∧ Hid (XP w W' w.heap.size (w.heap.size + 1) true A1 n1 c1 A2 n2 c2 a)))
      (with_reducible (first | assumption | exact T0.out.drew.cells | exact XP.next (by assumption) (by assumption) | exact XP.next (by assumption) (below_alloc _ _) | exact (T0.out.below (below_alloc _ _).drew).cells | exact (XP.below (by assumption) (below_alloc _ _)).cells | exact XP.boxed (by assumption) (by assumption) (by assumption) (NI.bool _) (NI.slice _ _ _) (NI.slice _ _ _) | exact XP.boxed (by assumption) (by assumption) HW.out (NI.bool _) (NI.slice _ _ _) (NI.slice _ _ _)))
      (first
       | (go_at_call_of 113 (Value.slice A1 n1 c1)
          refine (bRoot _ k _ _ _ _ (XP.of (by assumption)).r1.at_.2.1 (Nat.le_trans KA.out.1 (by omega)) HK2.out (Nat.le_trans HK8.out (by omega))).mono ?_
          rintro e wf ⟨B1, b1, d1, rfl, i1, bf⟩
          have hnew1 := ((XP.of (by assumption)).below bf).newer
          try (have hbx1 := Box.below (Box.drew (Box.new M (.bool false) (.slice none 0 0) (.slice none 0 0) 39)) bf))
       | (go_at_call 85
          refine (bDen a _ _ (XP.of (by assumption)).r1).mono ?_
          rintro e wg ⟨B2, b2, d2, rfl, i2, bg⟩
          have i1b := by first | exact Lib.hid (i1.out.below bg) | exact Lib.hid ((i1.out.below (below_alloc _ _)).below bg)
          have hnew2 := ((XP.of (by assumption)).below bg).newer
          first
            | (have hbx2 := Box.below hbx1 bg)
            | (have hbx2 := Box.below (Box.new wf (.bool false) (.slice none 0 0) (.slice none 0 0) 39) bg)
            | skip)
       | (go_at_call 113
          refine (bRoot _ k _ _ _ _ (by first | exact i2.out | exact i2.out.below (below_alloc _ _)) (Nat.le_trans KA.out.2 (by omega)) HK2.out (Nat.le_trans HK8.out (by omega))).mono ?_
          rintro e wh ⟨B3, b3, d3, rfl, i3, bh⟩
          have i1c := by first | exact Lib.hid (i1b.out.below bh) | exact Lib.hid ((i1b.out.below (below_alloc _ _)).below bh)
          have hnew3 := ((XP.of (by assumption)).below bh).newer
          first
            | (have hbx3 := Box.below hbx2 bh)
            | (have hbx3 := Box.below (Box.new wg (.bool false) (.slice none 0 0) (.slice none 0 0) 39) bh)
            | skip)
       | (go_at_call 70
          refine (bMake true _ _ _ _ _ _ _ _ _ (by first | exact i1c.out | exact i1c.out.below (below_alloc _ _)) (by first | exact i3.out | exact i3.out.below (below_alloc _ _)) (irt_den (Nat.lt_of_lt_of_le (by omega) HK2.out) a) (Nat.le_trans (dig_length_mono B16_two (irt_selfR (Nat.lt_of_lt_of_le (by omega) HK2.out) _)) (Nat.le_trans KA.out.1 (by omega))) (Nat.le_trans (dig_length_mono B16_two (irt_selfR (Nat.lt_of_lt_of_le (by omega) HK2.out) _)) (Nat.le_trans KA.out.2 (by omega))) r HMK.out).mono ?_
          rintro e we ⟨t5, B5, m5, e5, B5', m5', e5', rfl, i5, b5⟩
          have hh := (XP.of (by assumption)).below b5
          first
            | (have hbx4 := Box.below hbx3 b5; obtain ⟨k1, k2, k3, f1, f2, f3⟩ := hbx4.cells)
            | (have hbx4 := Box.below (Box.new wh (.bool false) (.slice none 0 0) (.slice none 0 0) 39) b5; obtain ⟨k1, k2, k3, f1, f2, f3⟩ := hbx4.cells)
            | skip))
    all_goals (go_wp2; go_meet)
    all_goals first
      | exact ⟨_, _, _, _, _, _, _, _, rfl, Lib.hid (hh.last i5.out)⟩
      | exact ⟨_, _, _, _, _, _, _, _, rfl, Lib.hid (hh.first i5.out hbx4 HW.out)⟩
      | exact ⟨_, _, _, _, _, _, _, _, rfl, Lib.hid (hh.first i5.out hbx4 hnew1)⟩
      | exact ⟨_, _, _, _, _, _, _, _, rfl, Lib.hid (hh.first i5.out hbx4 hnew2)⟩
      | exact ⟨_, _, _, _, _, _, _, _, rfl, Lib.hid (hh.first i5.out hbx4 hnew3)⟩
  case rest =>
    obtain ⟨g4, t5, B5, m5, e5, B5', m5', e5', rfl, TQ⟩ := hcut
    clear T0 HW
    go_wp2_with fail
    go_region_held3 (fun W' => (World.cell? W' ⟨w.heap.size, 0, none⟩ = some (.bool true) ∧ World.cell? W' ⟨w.heap.size, 1, none⟩ = some (.slice A1 n1 c1) ∧ World.cell? W' ⟨w.heap.size, 2, none⟩ = some (.slice A2 n2 c2) ∧ World.cell? W' ⟨g4, 0, none⟩ = some (.bool t5) ∧ World.cell? W' ⟨g4, 1, none⟩ = some (.slice B5 m5 e5) ∧ World.cell? W' ⟨g4, 2, none⟩ = some (.slice B5' m5' e5') ∧ Hid (XQ w W' w.heap.size g4 (w.heap.size + 1) true A1 n1 c1 A2 n2 c2 a t5 B5 m5 e5 B5' m5' e5' r)))
      (with_reducible (first | assumption | exact TQ.out.drew.cells | exact XQ.next (by assumption) (by assumption)))
      (first
       | (go_at_call 59
          refine (Calls.parts (qPowerN r k (Nat.le_trans HK8.out (by omega)) _ _ (XQ.of (by assumption)).r2 (KR.out.le (by omega)) p HP.out)).mono ?_
          rintro e wd ⟨t6, B6, m6, e6, B6', m6', e6', rfl, i6, bd⟩)
       | (go_at_call 40
          refine (bCmpQ p a c HC.out _ _ _ i6.out (XQ.of (by assumption)).p.r1 (KP.out.le (by omega)) (KA.out.le (by omega))).mono ?_
          rintro e we ⟨rfl, be⟩
          have hh := Lib.hid ((XQ.of (by assumption)).below be)))
    go_wp2_with fail
    refine (CI.out _).mono ?_
    rintro e wi ⟨t4, B4, m4, e4, B4', m4', e4', rfl, i4, bi⟩
    have hh := Lib.hid ((hh.out).below bi)
    obtain ⟨z1', z2', z3', hz1, hz2, hz3, k1, k2, k3⟩ := hh.out.p.res.cells
    obtain ⟨q0, q1, q2, hs, hb⟩ := IsQ.stored i4.out hh.out.p.res hh.out.p.bel hh.out.p.n3
    have Q := Lib.hid (And.intro q0 (And.intro q1 q2))
    have HS := Lib.hid hs
    have HBB := Lib.hid hb
    clear q0 q1 q2 hs hb bi
    go_wp2_with fail
    obtain ⟨q0, q1, q2⟩ := Q.out
    refine bodyPost_ret (v := .tuple #[.agg #[.bool t4, .slice B4 m4 e4, .slice B4' m4' e4'], .bool false]) (by simp [results, Tryd.results74, go_sem, q0, q1, q2]) rfl ?_
    exact ⟨_, _, _, _, _, _, _, rfl, HS, HBB.out⟩
def exactQ (k : Nat) (a : Rat) : Rat × Bool := if ng a = true ∧ k % 2 = 0 then (0, false) else if isRt k a = true then (rtQ k a, true) else (0, false)
theorem qExact (a : Rat) (k : Nat) (h2 : 2 ≤ k) (h8 : k ≤ 8) (ka : Rq 200 a) (w : World) (v : Value) (h : IsQ w v a) (r : Rat) (b : Bool) (hr : exactQ k a = (r, b)) :
    Calls Tryd.prog 74 #[v, .int .i64 k] w fun e w' => ∃ t B1 m1 e1 B2 m2 e2, e = .returned (.tuple #[.agg #[.bool t, .slice B1 m1 e1, .slice B2 m2 e2], .bool b]) ∧ Hid (IsQ w' (.agg #[.bool t, .slice B1 m1 e1, .slice B2 m2 e2]) r) ∧ Below w.heap.size w w' := by
  obtain ⟨A1, c1, A2, c2, rfl, h1, h3⟩ := id h
  unfold exactQ at hr
  cases hs : ng a
  · rw [hs] at hr h
    rw [if_neg (by simp)] at hr
    cases hg : isRt k a
    · rw [hg] at hr
      simp only [Bool.false_eq_true, if_false, Prod.mk.injEq] at hr
      obtain ⟨rfl, rfl⟩ := hr
      exact rExact_false_bad a k h2 h8 hs hg ka _ _ _ _ _ _ _ w h
    · rw [hg] at hr
      simp only [if_true, Prod.mk.injEq] at hr
      obtain ⟨rfl, rfl⟩ := hr
      exact rExact_false_good a k h2 h8 hs hg ka _ _ _ _ _ _ _ w h
  · rw [hs] at hr h
    by_cases he : k % 2 = 0
    · rw [if_pos ⟨rfl, he⟩, Prod.mk.injEq] at hr
      obtain ⟨rfl, rfl⟩ := hr
      exact rExact_even a k h2 h8 hs he ka _ _ _ _ _ _ _ w h
    · have ho : k % 2 = 1 := by omega
      rw [if_neg (fun h => he h.2)] at hr
      cases hg : isRt k a
      · rw [hg] at hr
        simp only [Bool.false_eq_true, if_false, Prod.mk.injEq] at hr
        obtain ⟨rfl, rfl⟩ := hr
        exact rExact_true_bad a k h2 h8 hs ho hg ka _ _ _ _ _ _ _ w h
      · rw [hg] at hr
        simp only [if_true, Prod.mk.injEq] at hr
        obtain ⟨rfl, rfl⟩ := hr
        exact rExact_true_good a k h2 h8 hs ho hg ka _ _ _ _ _ _ _ w h
end Go.Proofs.YtfmhplcpejmkhabDoor

namespace Go.Proofs.YtfmhplcpejmkhabDoor
open Go.RowKit Dig
set_option linter.unusedVariables false
set_option linter.unusedSimpArgs false
theorem dn_int (n p : Nat) : dnQ (mkRat (sg false n) 1) p = mkRat (n : Nat) (2 ^ p) := by
  rw [mk_int_one]
  show mkRat (sg (ng ((sg false n : Int) : Rat)) ((sg false n : Int) : Rat).num.natAbs) (((sg false n : Int) : Rat).den * 2 ^ p) = _
  rw [sg_ng]
  show mkRat (n : Int) (1 * 2 ^ p) = _
  rw [Nat.one_mul]
theorem dn_1 (p : Nat) : dnQ ((1 : Int) : Rat) p = mkRat 1 (2 ^ p) := by
  unfold dnQ
  rw [sg_ng]
  show mkRat 1 (1 * 2 ^ p) = _
  rw [Nat.one_mul]
theorem R_mul_two (n m : Nat) : (R (n * 2 ^ m)).length ≤ (R n).length + (m / 16 + 1) := by
  have h1 := R_mul_length n (2 ^ m)
  have h2 := R_two_pow16 m
  omega
theorem low_len {n m : Nat} (h : (R n).length ≤ 200) (hm : m ≤ 2048) : (R (n * 2 ^ m)).length ≤ 400 := by
  have := R_mul_two n m
  omega
theorem low_Rq {a : Rat} {k p : Nat} (hk : 0 < k) (h8 : k ≤ 8) (hp : p ≤ 256) (h : Rq 200 a) : Rq 400 (lowQ a k p) := by
  refine mk_Rq (Nat.ne_of_gt (Nat.two_pow_pos p)) ?_ ?_
  · show (R (irt k (a.num.natAbs * 2 ^ (p * k) / a.den))).length ≤ 400
    refine Nat.le_trans (dig_length_mono B16_two (Nat.le_trans (irt_selfR hk _) (Nat.div_le_self _ _))) ?_
    have h1 := R_mul_two a.num.natAbs (p * k)
    have h2 := h.1
    have h3 : p * k ≤ 256 * 8 := Nat.mul_le_mul hp h8
    unfold R at *
    omega
  · have := R_two_pow p
    omega
set_option maxHeartbeats 4000000 in
set_option maxRecDepth 100000 in
theorem rBelow_pos (a : Rat) (k p : Nat) (h2 : 2 ≤ k) (h8 : k ≤ 8) (hp : p ≤ 256) (hs : ng a = false) (ka : Rq 200 a) (s1 : Bool) (A1 : Option Addr) (n1 c1 : Nat) (A2 : Option Addr) (n2 c2 : Nat) (w : World) (h : IsQ w (.agg #[.bool s1, .slice A1 n1 c1, .slice A2 n2 c2]) a) :
    Calls Tryd.prog 81 #[(.agg #[.bool s1, .slice A1 n1 c1, .slice A2 n2 c2]), .int .i64 k, .int .i64 p] w fun e w' => ∃ t B1 m1 e1 B2 m2 e2, e = .returned (.agg #[.bool t, .slice B1 m1 e1, .slice B2 m2 e2]) ∧ Hid (IsQ w' (.agg #[.bool t, .slice B1 m1 e1, .slice B2 m2 e2]) (lowQ a k p)) ∧ Below w.heap.size w w' := by
  obtain ⟨M, hM, T0⟩ := XP.start w h
  have T0 := Lib.hid T0
  obtain ⟨hs1, _⟩ := h.at_
  have HNG := Lib.hid hs
  rw [hs] at hs1
  subst hs1
  have u1 : IntKind.i64.wrap (k : Int) = (k : Int) := wrap_i64 _ (by omega) (by omega)
  have u2 : IntKind.i64.wrap (p : Int) = (p : Int) := wrap_i64 _ (by omega) (by omega)
  have u3 : IntKind.i64.wrap (-(p : Int)) = -(p : Int) := wrap_i64 _ (by omega) (by omega)
  have u4 : wrap64 (-(p : Int)) = -(p : Int) := by unfold wrap64; omega
  have HK2 := Lib.hid h2
  have HK8 := Lib.hid h8
  have HPP := Lib.hid hp
  have KA := Lib.hid ka
  clear hs h ka
  obtain ⟨m, hmk⟩ : ∃ m, p * k = m := ⟨_, rfl⟩
  have hmi : (k : Int) * (p : Int) = (m : Int) := by rw [← hmk]; push_cast; exact Int.mul_comm _ _
  have hmb : m ≤ 2048 := by rw [← hmk]; exact Nat.mul_le_mul hp h8
  have u5 : IntKind.i64.wrap (m : Int) = (m : Int) := wrap_i64 _ (by omega) (by omega)
  have u6 : wrap64 (m : Int) = (m : Int) := by unfold wrap64; omega
  have HXL := Lib.hid (low_len KA.out.1 hmb)
  obtain ⟨r, hr⟩ : ∃ r, lowQ a k p = r := ⟨_, rfl⟩
  obtain ⟨q1, hq1⟩ : ∃ q, mkRat (sg false (irt k (a.num.natAbs * 2 ^ m / a.den))) 1 = q := ⟨_, rfl⟩
  have HLOW := Lib.hid (show dnQ q1 p = r by rw [← hr, ← hq1, dn_int]; unfold lowQ; rw [hmk])
  have HQ1 := Lib.hid hq1
  have HIR := Lib.hid (show (R (irt k (a.num.natAbs * 2 ^ m / a.den))).length ≤ 400 from Nat.le_trans (dig_length_mono B16_two (Nat.le_trans (irt_selfR (by omega) _) (Nat.div_le_self _ _))) HXL.out)
  have KQ1 := Lib.hid (show Rq 400 q1 by
    rw [← hq1]
    refine mk_Rq (by omega) ?_ ?_
    · rw [sg_abs]; exact HIR.out
    · rw [R_one]; simp)
  rw [hr]
  clear hr hq1 hmk
  go_enter Tryd.func81, Tryd.ntmps81
  go_upto_region 1 with (fail)
  rw [← hM]
  clear hM
  obtain ⟨x1, y1, z1, _, _, _⟩ := T0.out.f.cells
  go_wp2_with fail
  clear x1 y1 z1
  go_region_held3 (fun W' => (World.cell? W' ⟨w.heap.size, 0, none⟩ = some (.bool false) ∧ World.cell? W' ⟨w.heap.size, 1, none⟩ = some (.slice A1 n1 c1) ∧ World.cell? W' ⟨w.heap.size, 2, none⟩ = some (.slice A2 n2 c2) ∧ Hid (XP w W' w.heap.size (w.heap.size + 1) false A1 n1 c1 A2 n2 c2 a)))
    (with_reducible (first | assumption | exact T0.out.drew.cells | exact XP.next (by assumption) (by assumption)))
    (first
     | (go_at_call 84
        refine (bShl _ m _ _ _ _ (XP.of (by assumption)).r1.at_.2.1 (Nat.le_trans KA.out.1 (by omega)) (by omega)).mono ?_
        rintro e wf ⟨B1, b1, d1, rfl, i1, bf⟩)
     | (go_at_call 85
        refine (bDen a _ _ (XP.of (by assumption)).r1).mono ?_
        rintro e wg ⟨B2, b2, d2, rfl, i2, bg⟩)
     | (go_at_call 107
        refine (bDiv _ _ _ _ _ _ _ _ _ (i1.out.below bg) i2.out (Nat.le_trans HXL.out (by omega)) a.den_pos).mono ?_
        rintro e wh ⟨B3, b3, d3, B3', b3', d3', rfl, i3, _, bh⟩
        have hh := Lib.hid ((XP.of (by assumption)).below bh)))
  go_wp2_with fail
  refine (bRoot _ k _ _ _ _ i3.out (Nat.le_trans (dig_length_mono B16_two (Nat.div_le_self _ _)) (Nat.le_trans HXL.out (by omega))) HK2.out (Nat.le_trans HK8.out (by omega))).mono ?_
  rintro e wb ⟨B4, b4, d4, rfl, i4, bb⟩
  replace hh := Lib.hid (hh.out.below bb)
  clear bb
  go_wp2_with fail
  refine (bOne _).mono ?_
  rintro e wb ⟨B5, b5, d5, rfl, i5, bb⟩
  replace hh := Lib.hid (hh.out.below bb)
  replace i4 := Lib.hid (i4.out.below bb)
  clear bb
  go_wp2_with fail
  refine (bMake false _ _ _ _ _ _ _ _ _ i4.out i5.out (by omega) (Nat.le_trans HIR.out (by omega)) (by rw [R_one]; simp) q1 HQ1.out).mono ?_
  rintro e wb ⟨t6, B6, m6, e6, B6', m6', e6', rfl, i6, bb⟩
  replace hh := Lib.hid (hh.out.below bb)
  clear bb
  go_wp2_with fail
  refine (qDn q1 p (Nat.le_trans HPP.out (by omega)) _ _ i6.out (KQ1.out.le (by omega)) r HLOW.out).mono ?_
  rintro e wb ⟨t7, B7, m7, e7, B7', m7', e7', rfl, i7, bb⟩
  replace hh := Lib.hid (hh.out.below bb)
  clear bb
  obtain ⟨z1', z2', z3', hz1, hz2, hz3, k1, k2, k3⟩ := hh.out.res.cells
  obtain ⟨q0, q1, q2, hs, hb⟩ := IsQ.stored i7.out hh.out.res hh.out.bel hh.out.n3
  have Q := Lib.hid (And.intro q0 (And.intro q1 q2))
  have HS := Lib.hid hs
  have HBB := Lib.hid hb
  clear q0 q1 q2 hs hb
  go_wp2_with fail
  obtain ⟨q0, q1, q2⟩ := Q.out
  refine bodyPost_ret (v := .agg #[.bool t7, .slice B7 m7 e7, .slice B7' m7' e7']) (by simp [results, Tryd.results81, go_sem, q0, q1, q2]) rfl ?_
  exact ⟨_, _, _, _, _, _, _, rfl, HS, HBB.out⟩
set_option maxHeartbeats 4000000 in
set_option maxRecDepth 100000 in
theorem rAbove_eq (a : Rat) (k p : Nat) (h2 : 2 ≤ k) (h8 : k ≤ 8) (hp : p ≤ 256) (hs : ng a = false) (hg : powN (lowQ a k p) k = a) (ka : Rq 200 a) (s1 : Bool) (A1 : Option Addr) (n1 c1 : Nat) (A2 : Option Addr) (n2 c2 : Nat) (w : World) (h : IsQ w (.agg #[.bool s1, .slice A1 n1 c1, .slice A2 n2 c2]) a) :
    Calls Tryd.prog 80 #[(.agg #[.bool s1, .slice A1 n1 c1, .slice A2 n2 c2]), .int .i64 k, .int .i64 p] w fun e w' => ∃ t B1 m1 e1 B2 m2 e2, e = .returned (.agg #[.bool t, .slice B1 m1 e1, .slice B2 m2 e2]) ∧ Hid (IsQ w' (.agg #[.bool t, .slice B1 m1 e1, .slice B2 m2 e2]) (lowQ a k p)) ∧ Below w.heap.size w w' := by
  obtain ⟨M, hM, T0⟩ := XP.start w h
  have T0 := Lib.hid T0
  obtain ⟨hs1, _⟩ := h.at_
  have HNG := Lib.hid hs
  rw [hs] at hs1
  subst hs1
  have u1 : IntKind.i64.wrap (k : Int) = (k : Int) := wrap_i64 _ (by omega) (by omega)
  have u2 : IntKind.i64.wrap (p : Int) = (p : Int) := wrap_i64 _ (by omega) (by omega)
  have u3 : IntKind.i64.wrap (-(p : Int)) = -(p : Int) := wrap_i64 _ (by omega) (by omega)
  have u4 : wrap64 (-(p : Int)) = -(p : Int) := by unfold wrap64; omega
  have HK2 := Lib.hid h2
  have HK8 := Lib.hid h8
  have HPP := Lib.hid hp
  have KA := Lib.hid ka
  clear hs h ka
  have CB := Lib.hid (fun (w : World) (h : IsQ w (.agg #[.bool false, .slice A1 n1 c1, .slice A2 n2 c2]) a) => rBelow_pos a k p h2 h8 hp HNG.out KA.out false A1 n1 c1 A2 n2 c2 w h)
  have KR := Lib.hid (low_Rq (k := k) (p := p) (by omega) h8 hp KA.out)
  obtain ⟨r, hr⟩ : ∃ r, lowQ a k p = r := ⟨_, rfl⟩
  rw [hr] at CB KR hg ⊢
  obtain ⟨pw, hpw⟩ : ∃ x, powN r k = x := ⟨_, rfl⟩
  rw [hpw] at hg
  have HP := Lib.hid hpw
  have KP := Lib.hid (show Rq 13000 pw by rw [← hpw]; exact (pow_Rq KR.out (by omega)).le (by omega))
  clear hr hpw
  have hc0 : cmpQ pw a = 0 := (cmpQ_zero _ _).2 hg
  have HC := Lib.hid hc0
  clear hg hc0
  go_enter Tryd.func80, Tryd.ntmps80
  go_upto_region 1 with (fail)
  rw [← hM]
  clear hM
  obtain ⟨x1, y1, z1, _, _, _⟩ := T0.out.f.cells
  go_wp2_with fail
  refine (CB.out _ T0.out.r1).mono ?_
  rintro e wb ⟨t5, B5, m5, e5, B5', m5', e5', rfl, i5, bb⟩
  have TQ := Lib.hid ((T0.out.below bb).last i5.out)
  obtain ⟨w2, hw2⟩ : ∃ v, wb.alloc (.cells #[.bool t5, .slice B5 m5 e5, .slice B5' m5' e5'] 39) = v := ⟨_, rfl⟩
  obtain ⟨g4, hg4⟩ : ∃ v, wb.heap.size = v := ⟨_, rfl⟩
  clear bb i5 T0 x1 y1 z1
  go_upto_region 4 with (fail)
  rw [hw2, hg4] at TQ
  try rw [hw2]
  try rw [hg4]
  clear hw2 hg4
  go_region_held3 (fun W' => (World.cell? W' ⟨w.heap.size, 0, none⟩ = some (.bool false) ∧ World.cell? W' ⟨w.heap.size, 1, none⟩ = some (.slice A1 n1 c1) ∧ World.cell? W' ⟨w.heap.size, 2, none⟩ = some (.slice A2 n2 c2) ∧ World.cell? W' ⟨g4, 0, none⟩ = some (.bool t5) ∧ World.cell? W' ⟨g4, 1, none⟩ = some (.slice B5 m5 e5) ∧ World.cell? W' ⟨g4, 2, none⟩ = some (.slice B5' m5' e5') ∧ Hid (XQ w W' w.heap.size g4 (w.heap.size + 1) false A1 n1 c1 A2 n2 c2 a t5 B5 m5 e5 B5' m5' e5' r)))
    (with_reducible (first | assumption | exact TQ.out.drew.cells | exact XQ.next (by assumption) (by assumption)))
    (first
     | (go_at_call 59
        refine (Calls.parts (qPowerN r k (Nat.le_trans HK8.out (by omega)) _ _ (XQ.of (by assumption)).r2 (KR.out.le (by omega)) pw HP.out)).mono ?_
        rintro e wd ⟨t6, B6, m6, e6, B6', m6', e6', rfl, i6, bd⟩)
     | (go_at_call 40
        refine (bCmpQ pw a 0 HC.out _ _ _ i6.out (XQ.of (by assumption)).p.r1 (KP.out.le (by omega)) (KA.out.le (by omega))).mono ?_
        rintro e we ⟨rfl, be⟩
        have hh := Lib.hid ((XQ.of (by assumption)).below be)))
  obtain ⟨x1, y1, z1, _, _, _⟩ := hh.out.g.cells
  obtain ⟨z1', z2', z3', hz1, hz2, hz3, k1, k2, k3⟩ := hh.out.p.res.cells
  obtain ⟨q0, q1, q2, hs, hb⟩ := IsQ.stored hh.out.r2 hh.out.p.res hh.out.p.bel hh.out.p.n3
  have Q := Lib.hid (And.intro q0 (And.intro q1 q2))
  have HS := Lib.hid hs
  have HBB := Lib.hid hb
  clear q0 q1 q2 hs hb
  go_wp2_with fail
  obtain ⟨q0, q1, q2⟩ := Q.out
  refine bodyPost_ret (v := .agg #[.bool t5, .slice B5 m5 e5, .slice B5' m5' e5']) (by simp [results, Tryd.results80, go_sem, q0, q1, q2]) rfl ?_
  exact ⟨_, _, _, _, _, _, _, rfl, HS, HBB.out⟩
set_option maxHeartbeats 4000000 in
set_option maxRecDepth 100000 in
theorem rAbove_ne (a : Rat) (k p : Nat) (h2 : 2 ≤ k) (h8 : k ≤ 8) (hp : p ≤ 256) (hs : ng a = false) (hg : powN (lowQ a k p) k ≠ a) (ka : Rq 200 a) (s1 : Bool) (A1 : Option Addr) (n1 c1 : Nat) (A2 : Option Addr) (n2 c2 : Nat) (w : World) (h : IsQ w (.agg #[.bool s1, .slice A1 n1 c1, .slice A2 n2 c2]) a) :
    Calls Tryd.prog 80 #[(.agg #[.bool s1, .slice A1 n1 c1, .slice A2 n2 c2]), .int .i64 k, .int .i64 p] w fun e w' => ∃ t B1 m1 e1 B2 m2 e2, e = .returned (.agg #[.bool t, .slice B1 m1 e1, .slice B2 m2 e2]) ∧ Hid (IsQ w' (.agg #[.bool t, .slice B1 m1 e1, .slice B2 m2 e2]) (lowQ a k p + mkRat 1 (2 ^ p))) ∧ Below w.heap.size w w' := by
  obtain ⟨M, hM, T0⟩ := XP.start w h
  have T0 := Lib.hid T0
  obtain ⟨hs1, _⟩ := h.at_
  have HNG := Lib.hid hs
  rw [hs] at hs1
  subst hs1
  have u1 : IntKind.i64.wrap (k : Int) = (k : Int) := wrap_i64 _ (by omega) (by omega)
  have u2 : IntKind.i64.wrap (p : Int) = (p : Int) := wrap_i64 _ (by omega) (by omega)
  have u3 : IntKind.i64.wrap (-(p : Int)) = -(p : Int) := wrap_i64 _ (by omega) (by omega)
  have u4 : wrap64 (-(p : Int)) = -(p : Int) := by unfold wrap64; omega
  have HK2 := Lib.hid h2
  have HK8 := Lib.hid h8
  have HPP := Lib.hid hp
  have KA := Lib.hid ka
  clear hs h ka
  have CB := Lib.hid (fun (w : World) (h : IsQ w (.agg #[.bool false, .slice A1 n1 c1, .slice A2 n2 c2]) a) => rBelow_pos a k p h2 h8 hp HNG.out KA.out false A1 n1 c1 A2 n2 c2 w h)
  have KR := Lib.hid (low_Rq (k := k) (p := p) (by omega) h8 hp KA.out)
  obtain ⟨r, hr⟩ : ∃ r, lowQ a k p = r := ⟨_, rfl⟩
  rw [hr] at CB KR hg ⊢
  obtain ⟨pw, hpw⟩ : ∃ x, powN r k = x := ⟨_, rfl⟩
  rw [hpw] at hg
  have HP := Lib.hid hpw
  have KP := Lib.hid (show Rq 13000 pw by rw [← hpw]; exact (pow_Rq KR.out (by omega)).le (by omega))
  clear hr hpw
  obtain ⟨c, hc⟩ : ∃ c, cmpQ pw a = c := ⟨_, rfl⟩
  have hc0 : c ≠ 0 := by rw [← hc]; exact fun h0 => hg ((cmpQ_zero _ _).1 h0)
  have f1 : (c == 0) = false := beq_eq_false_iff_ne.2 hc0
  have f2 : decide (c = 0) = false := decide_eq_false hc0
  have HC := Lib.hid hc
  clear hg hc0 hc
  have CI := Lib.hid (fun w => rInt 1 (by omega) (by omega) w)
  have K1 := Lib.hid (show Rq 400 ((1 : Int) : Rat) from ⟨Nat.le_trans ((dig_length_le B16_two _ 4).2 (by unfold B16; decide)) (by omega : 4 ≤ 400), Nat.le_trans ((dig_length_le B16_two _ 4).2 (by unfold B16; decide)) (by omega : 4 ≤ 400)⟩)
  obtain ⟨st, hst⟩ : ∃ x, mkRat 1 (2 ^ p) = x := ⟨_, rfl⟩
  have HST := Lib.hid (show dnQ ((1 : Int) : Rat) p = st by rw [dn_1, hst])
  have KST := Lib.hid (show Rq 400 st by
    rw [← hst]
    refine mk_Rq (Nat.ne_of_gt (Nat.two_pow_pos p)) ?_ ?_
    · show (R 1).length ≤ 400
      rw [R_one]; simp
    · have := R_two_pow p; omega)
  rw [hst]
  generalize ((1 : Int) : Rat) = one at *
  clear hst
  go_enter Tryd.func80, Tryd.ntmps80
  go_upto_region 1 with (fail)
  rw [← hM]
  clear hM
  obtain ⟨x1, y1, z1, _, _, _⟩ := T0.out.f.cells
  go_wp2_with fail
  refine (CB.out _ T0.out.r1).mono ?_
  rintro e wb ⟨t5, B5, m5, e5, B5', m5', e5', rfl, i5, bb⟩
  have TQ := Lib.hid ((T0.out.below bb).last i5.out)
  obtain ⟨w2, hw2⟩ : ∃ v, wb.alloc (.cells #[.bool t5, .slice B5 m5 e5, .slice B5' m5' e5'] 39) = v := ⟨_, rfl⟩
  obtain ⟨g4, hg4⟩ : ∃ v, wb.heap.size = v := ⟨_, rfl⟩
  clear bb i5 T0 x1 y1 z1
  go_upto_region 4 with (fail)
  rw [hw2, hg4] at TQ
  try rw [hw2]
  try rw [hg4]
  clear hw2 hg4
  go_region_held3 (fun W' => (World.cell? W' ⟨w.heap.size, 0, none⟩ = some (.bool false) ∧ World.cell? W' ⟨w.heap.size, 1, none⟩ = some (.slice A1 n1 c1) ∧ World.cell? W' ⟨w.heap.size, 2, none⟩ = some (.slice A2 n2 c2) ∧ World.cell? W' ⟨g4, 0, none⟩ = some (.bool t5) ∧ World.cell? W' ⟨g4, 1, none⟩ = some (.slice B5 m5 e5) ∧ World.cell? W' ⟨g4, 2, none⟩ = some (.slice B5' m5' e5') ∧ Hid (XQ w W' w.heap.size g4 (w.heap.size + 1) false A1 n1 c1 A2 n2 c2 a t5 B5 m5 e5 B5' m5' e5' r)))
    (with_reducible (first | assumption | exact TQ.out.drew.cells | exact XQ.next (by assumption) (by assumption)))
    (first
     | (go_at_call 59
        refine (Calls.parts (qPowerN r k (Nat.le_trans HK8.out (by omega)) _ _ (XQ.of (by assumption)).r2 (KR.out.le (by omega)) pw HP.out)).mono ?_
        rintro e wd ⟨t6, B6, m6, e6, B6', m6', e6', rfl, i6, bd⟩)
     | (go_at_call 40
        refine (bCmpQ pw a c HC.out _ _ _ i6.out (XQ.of (by assumption)).p.r1 (KP.out.le (by omega)) (KA.out.le (by omega))).mono ?_
        rintro e we ⟨rfl, be⟩
        have hh := Lib.hid ((XQ.of (by assumption)).below be)))
  obtain ⟨x1, y1, z1, _, _, _⟩ := hh.out.g.cells
  go_wp2_with fail
  clear x1 y1 z1
  go_region_held3 (fun W' => (World.cell? W' ⟨w.heap.size, 0, none⟩ = some (.bool false) ∧ World.cell? W' ⟨w.heap.size, 1, none⟩ = some (.slice A1 n1 c1) ∧ World.cell? W' ⟨w.heap.size, 2, none⟩ = some (.slice A2 n2 c2) ∧ World.cell? W' ⟨g4, 0, none⟩ = some (.bool t5) ∧ World.cell? W' ⟨g4, 1, none⟩ = some (.slice B5 m5 e5) ∧ World.cell? W' ⟨g4, 2, none⟩ = some (.slice B5' m5' e5') ∧ Hid (XQ w W' w.heap.size g4 (w.heap.size + 1) false A1 n1 c1 A2 n2 c2 a t5 B5 m5 e5 B5' m5' e5' r)))
    (with_reducible (first | assumption | exact hh.out.drew.cells | exact XQ.next (by assumption) (by assumption) | exact XQ.nextS (by assumption)))
    (first
     | (go_at_call 42
        refine (CI.out _).mono ?_
        rintro e wd ⟨t7, B7, m7, e7, B7', m7', e7', rfl, i7, bd⟩)
     | (go_at_call 41
        try rw [u3]
        refine (qDn one p (Nat.le_trans HPP.out (by omega)) _ _ i7.out (K1.out.le (by omega)) st HST.out).mono ?_
        rintro e we ⟨t8, B8, m8, e8, B8', m8', e8', rfl, i8, be⟩)
     | (go_at_call 115
        refine (Calls.parts (qSum r st _ _ _ (XQ.of (by assumption)).r2 i8.out (KR.out.le (by omega)) (KST.out.le (by omega)))).mono ?_
        rintro e wf ⟨t9, B9, m9, e9, B9', m9', e9', rfl, i9, bf⟩
        have hh := Lib.hid ((XQ.of (by assumption)).below bf)
        obtain ⟨z1', z2', z3', hz1, hz2, hz3, k1, k2, k3⟩ := hh.out.p.res.cells))
  obtain ⟨q0, q1, q2, hs, hb⟩ := IsQ.stored i9.out hh.out.p.res hh.out.p.bel hh.out.p.n3
  have Q := Lib.hid (And.intro q0 (And.intro q1 q2))
  have HS := Lib.hid hs
  have HBB := Lib.hid hb
  clear q0 q1 q2 hs hb
  go_wp2_with fail
  obtain ⟨q0, q1, q2⟩ := Q.out
  refine bodyPost_ret (v := .agg #[.bool t9, .slice B9 m9 e9, .slice B9' m9' e9']) (by simp [results, Tryd.results80, go_sem, q0, q1, q2]) rfl ?_
  exact ⟨_, _, _, _, _, _, _, rfl, HS, HBB.out⟩
theorem rAbove_pos (a : Rat) (k p : Nat) (h2 : 2 ≤ k) (h8 : k ≤ 8) (hp : p ≤ 256) (hs : ng a = false) (ka : Rq 200 a) (r : Rat) (hr : grtQ a k p true = r) (w : World) (v : Value) (h : IsQ w v a) :
    Calls Tryd.prog 80 #[v, .int .i64 k, .int .i64 p] w fun e w' => ∃ t B1 m1 e1 B2 m2 e2, e = .returned (.agg #[.bool t, .slice B1 m1 e1, .slice B2 m2 e2]) ∧ Hid (IsQ w' (.agg #[.bool t, .slice B1 m1 e1, .slice B2 m2 e2]) r) ∧ Below w.heap.size w w' := by
  obtain ⟨A1, c1, A2, c2, rfl, h1, h3⟩ := id h
  rw [grt_up a (by omega) hs] at hr
  by_cases hg : powN (lowQ a k p) k = a
  · rw [if_pos hg] at hr
    subst hr
    exact rAbove_eq a k p h2 h8 hp hs hg ka _ _ _ _ _ _ _ w h
  · rw [if_neg hg] at hr
    subst hr
    exact rAbove_ne a k p h2 h8 hp hs hg ka _ _ _ _ _ _ _ w h
theorem rBelow_nn (a : Rat) (k p : Nat) (h2 : 2 ≤ k) (h8 : k ≤ 8) (hp : p ≤ 256) (hs : ng a = false) (ka : Rq 200 a) (r : Rat) (hr : grtQ a k p false = r) (w : World) (v : Value) (h : IsQ w v a) :
    Calls Tryd.prog 81 #[v, .int .i64 k, .int .i64 p] w fun e w' => ∃ t B1 m1 e1 B2 m2 e2, e = .returned (.agg #[.bool t, .slice B1 m1 e1, .slice B2 m2 e2]) ∧ Hid (IsQ w' (.agg #[.bool t, .slice B1 m1 e1, .slice B2 m2 e2]) r) ∧ Below w.heap.size w w' := by
  obtain ⟨A1, c1, A2, c2, rfl, h1, h3⟩ := id h
  rw [grt_down a k p hs] at hr
  subst hr
  exact rBelow_pos a k p h2 h8 hp hs ka _ _ _ _ _ _ _ w h
set_option maxHeartbeats 4000000 in
set_option maxRecDepth 100000 in
theorem rRootBelow_neg (a : Rat) (k p : Nat) (h2 : 2 ≤ k) (h8 : k ≤ 8) (hp : p ≤ 256) (hs : ng a = true) (ka : Rq 200 a) (s1 : Bool) (A1 : Option Addr) (n1 c1 : Nat) (A2 : Option Addr) (n2 c2 : Nat) (w : World) (h : IsQ w (.agg #[.bool s1, .slice A1 n1 c1, .slice A2 n2 c2]) a) :
    Calls Tryd.prog 81 #[(.agg #[.bool s1, .slice A1 n1 c1, .slice A2 n2 c2]), .int .i64 k, .int .i64 p] w fun e w' => ∃ t B1 m1 e1 B2 m2 e2, e = .returned (.agg #[.bool t, .slice B1 m1 e1, .slice B2 m2 e2]) ∧ Hid (IsQ w' (.agg #[.bool t, .slice B1 m1 e1, .slice B2 m2 e2]) (grtQ a k p false)) ∧ Below w.heap.size w w' := by
  obtain ⟨M, hM, T0⟩ := XP.start w h
  have T0 := Lib.hid T0
  obtain ⟨hs1, _⟩ := h.at_
  have HNG := Lib.hid hs
  rw [hs] at hs1
  subst hs1
  have u1 : IntKind.i64.wrap (k : Int) = (k : Int) := wrap_i64 _ (by omega) (by omega)
  have u2 : IntKind.i64.wrap (p : Int) = (p : Int) := wrap_i64 _ (by omega) (by omega)
  have u3 : IntKind.i64.wrap (-(p : Int)) = -(p : Int) := wrap_i64 _ (by omega) (by omega)
  have u4 : wrap64 (-(p : Int)) = -(p : Int) := by unfold wrap64; omega
  have HK2 := Lib.hid h2
  have HK8 := Lib.hid h8
  have HPP := Lib.hid hp
  have KA := Lib.hid ka
  clear hs h ka
  obtain ⟨b, hb⟩ : ∃ b, -a = b := ⟨_, rfl⟩
  have hbn : ng b = false := by rw [← hb, ng_neg, HNG.out]; rfl
  have HB := Lib.hid hb
  have KB := Lib.hid (show Rq 200 b by rw [← hb]; exact KA.out.neg)
  obtain ⟨y, hy⟩ : ∃ y, grtQ b k p true = y := ⟨_, rfl⟩
  have C := Lib.hid (fun (w : World) (v : Value) (h : IsQ w v b) => rAbove_pos b k p h2 h8 hp hbn KB.out y hy w v h)
  have he := grt_neg a k p false HNG.out
  rw [hb, show (!false) = true from rfl, hy] at he
  obtain ⟨r, hr⟩ : ∃ r, grtQ a k p false = r := ⟨_, rfl⟩
  rw [hr] at he ⊢
  have HR := Lib.hid he.symm
  clear hb hbn hy he hr
  go_enter Tryd.func81, Tryd.ntmps81
  go_upto_region 1 with (fail)
  rw [← hM]
  clear hM
  obtain ⟨x1, y1, z1, _, _, _⟩ := T0.out.f.cells
  go_wp2_with fail
  refine (bOpp a b HB.out _ _ T0.out.r1).mono ?_
  rintro e wb ⟨t5, B5, m5, e5, B5', m5', e5', rfl, i5, bb⟩
  have hh := Lib.hid (T0.out.below bb)
  clear bb x1 y1 z1
  go_wp2_with fail
  refine (C.out _ _ i5.out).mono ?_
  rintro e wb ⟨t6, B6, m6, e6, B6', m6', e6', rfl, i6, bb⟩
  replace hh := Lib.hid (hh.out.below bb)
  clear bb
  go_wp2_with fail
  refine (bOpp y r HR.out _ _ i6.out).mono ?_
  rintro e wb ⟨t7, B7, m7, e7, B7', m7', e7', rfl, i7, bb⟩
  replace hh := Lib.hid (hh.out.below bb)
  clear bb
  obtain ⟨z1', z2', z3', hz1, hz2, hz3, k1, k2, k3⟩ := hh.out.res.cells
  obtain ⟨q0, q1, q2, hs, hb⟩ := IsQ.stored i7.out hh.out.res hh.out.bel hh.out.n3
  have Q := Lib.hid (And.intro q0 (And.intro q1 q2))
  have HS := Lib.hid hs
  have HBB := Lib.hid hb
  clear q0 q1 q2 hs hb
  go_wp2_with fail
  obtain ⟨q0, q1, q2⟩ := Q.out
  refine bodyPost_ret (v := .agg #[.bool t7, .slice B7 m7 e7, .slice B7' m7' e7']) (by simp [results, Tryd.results81, go_sem, q0, q1, q2]) rfl ?_
  exact ⟨_, _, _, _, _, _, _, rfl, HS, HBB.out⟩
set_option maxHeartbeats 4000000 in
set_option maxRecDepth 100000 in
theorem rRootAbove_neg (a : Rat) (k p : Nat) (h2 : 2 ≤ k) (h8 : k ≤ 8) (hp : p ≤ 256) (hs : ng a = true) (ka : Rq 200 a) (s1 : Bool) (A1 : Option Addr) (n1 c1 : Nat) (A2 : Option Addr) (n2 c2 : Nat) (w : World) (h : IsQ w (.agg #[.bool s1, .slice A1 n1 c1, .slice A2 n2 c2]) a) :
    Calls Tryd.prog 80 #[(.agg #[.bool s1, .slice A1 n1 c1, .slice A2 n2 c2]), .int .i64 k, .int .i64 p] w fun e w' => ∃ t B1 m1 e1 B2 m2 e2, e = .returned (.agg #[.bool t, .slice B1 m1 e1, .slice B2 m2 e2]) ∧ Hid (IsQ w' (.agg #[.bool t, .slice B1 m1 e1, .slice B2 m2 e2]) (grtQ a k p true)) ∧ Below w.heap.size w w' := by
  obtain ⟨M, hM, T0⟩ := XP.start w h
  have T0 := Lib.hid T0
  obtain ⟨hs1, _⟩ := h.at_
  have HNG := Lib.hid hs
  rw [hs] at hs1
  subst hs1
  have u1 : IntKind.i64.wrap (k : Int) = (k : Int) := wrap_i64 _ (by omega) (by omega)
  have u2 : IntKind.i64.wrap (p : Int) = (p : Int) := wrap_i64 _ (by omega) (by omega)
  have u3 : IntKind.i64.wrap (-(p : Int)) = -(p : Int) := wrap_i64 _ (by omega) (by omega)
  have u4 : wrap64 (-(p : Int)) = -(p : Int) := by unfold wrap64; omega
  have HK2 := Lib.hid h2
  have HK8 := Lib.hid h8
  have HPP := Lib.hid hp
  have KA := Lib.hid ka
  clear hs h ka
  obtain ⟨b, hb⟩ : ∃ b, -a = b := ⟨_, rfl⟩
  have hbn : ng b = false := by rw [← hb, ng_neg, HNG.out]; rfl
  have HB := Lib.hid hb
  have KB := Lib.hid (show Rq 200 b by rw [← hb]; exact KA.out.neg)
  obtain ⟨y, hy⟩ : ∃ y, grtQ b k p false = y := ⟨_, rfl⟩
  have C := Lib.hid (fun (w : World) (v : Value) (h : IsQ w v b) => rBelow_nn b k p h2 h8 hp hbn KB.out y hy w v h)
  have he := grt_neg a k p true HNG.out
  rw [hb, show (!true) = false from rfl, hy] at he
  obtain ⟨r, hr⟩ : ∃ r, grtQ a k p true = r := ⟨_, rfl⟩
  rw [hr] at he ⊢
  have HR := Lib.hid he.symm
  clear hb hbn hy he hr
  go_enter Tryd.func80, Tryd.ntmps80
  go_upto_region 1 with (fail)
  rw [← hM]
  clear hM
  obtain ⟨x1, y1, z1, _, _, _⟩ := T0.out.f.cells
  go_wp2_with fail
  refine (bOpp a b HB.out _ _ T0.out.r1).mono ?_
  rintro e wb ⟨t5, B5, m5, e5, B5', m5', e5', rfl, i5, bb⟩
  have hh := Lib.hid (T0.out.below bb)
  clear bb x1 y1 z1
  go_wp2_with fail
  refine (C.out _ _ i5.out).mono ?_
  rintro e wb ⟨t6, B6, m6, e6, B6', m6', e6', rfl, i6, bb⟩
  replace hh := Lib.hid (hh.out.below bb)
  clear bb
  go_wp2_with fail
  refine (bOpp y r HR.out _ _ i6.out).mono ?_
  rintro e wb ⟨t7, B7, m7, e7, B7', m7', e7', rfl, i7, bb⟩
  replace hh := Lib.hid (hh.out.below bb)
  clear bb
  obtain ⟨z1', z2', z3', hz1, hz2, hz3, k1, k2, k3⟩ := hh.out.res.cells
  obtain ⟨q0, q1, q2, hs, hb⟩ := IsQ.stored i7.out hh.out.res hh.out.bel hh.out.n3
  have Q := Lib.hid (And.intro q0 (And.intro q1 q2))
  have HS := Lib.hid hs
  have HBB := Lib.hid hb
  clear q0 q1 q2 hs hb
  go_wp2_with fail
  obtain ⟨q0, q1, q2⟩ := Q.out
  refine bodyPost_ret (v := .agg #[.bool t7, .slice B7 m7 e7, .slice B7' m7' e7']) (by simp [results, Tryd.results80, go_sem, q0, q1, q2]) rfl ?_
  exact ⟨_, _, _, _, _, _, _, rfl, HS, HBB.out⟩
theorem qRootBelow (a : Rat) (k p : Nat) (h2 : 2 ≤ k) (h8 : k ≤ 8) (hp : p ≤ 256) (ka : Rq 200 a) (r : Rat) (hr : grtQ a k p false = r) (w : World) (v : Value) (h : IsQ w v a) :
    Calls Tryd.prog 81 #[v, .int .i64 k, .int .i64 p] w fun e w' => ∃ t B1 m1 e1 B2 m2 e2, e = .returned (.agg #[.bool t, .slice B1 m1 e1, .slice B2 m2 e2]) ∧ Hid (IsQ w' (.agg #[.bool t, .slice B1 m1 e1, .slice B2 m2 e2]) r) ∧ Below w.heap.size w w' := by
  cases hs : ng a
  · exact rBelow_nn a k p h2 h8 hp hs ka r hr w v h
  · obtain ⟨A1, c1, A2, c2, rfl, h1, h3⟩ := id h
    subst hr
    exact rRootBelow_neg a k p h2 h8 hp hs ka _ _ _ _ _ _ _ w h
theorem qRootAbove (a : Rat) (k p : Nat) (h2 : 2 ≤ k) (h8 : k ≤ 8) (hp : p ≤ 256) (ka : Rq 200 a) (r : Rat) (hr : grtQ a k p true = r) (w : World) (v : Value) (h : IsQ w v a) :
    Calls Tryd.prog 80 #[v, .int .i64 k, .int .i64 p] w fun e w' => ∃ t B1 m1 e1 B2 m2 e2, e = .returned (.agg #[.bool t, .slice B1 m1 e1, .slice B2 m2 e2]) ∧ Hid (IsQ w' (.agg #[.bool t, .slice B1 m1 e1, .slice B2 m2 e2]) r) ∧ Below w.heap.size w w' := by
  cases hs : ng a
  · exact rAbove_pos a k p h2 h8 hp hs ka r hr w v h
  · obtain ⟨A1, c1, A2, c2, rfl, h1, h3⟩ := id h
    subst hr
    exact rRootAbove_neg a k p h2 h8 hp hs ka _ _ _ _ _ _ _ w h
end Go.Proofs.YtfmhplcpejmkhabDoor

namespace Go.Proofs.YtfmhplcpejmkhabDoor
open Go.RowKit Dig
set_option linter.unusedVariables false
set_option linter.unusedSimpArgs false
/-- a value that has been read, its numbers, a further number, and a variable for a result -/
structure NF (w M : World) (g3 g : Nat) (s : Bool) (A1 : Option Addr) (n1 c1 : Nat) (B1 : Option Addr) (m1 d1 : Nat) (q : Rat) (A3 : Option Addr) (n3 c3 x : Nat) : Prop where
  v : N1 w M g3 g s A1 n1 c1 B1 m1 d1
  a : NatAt M A1 n1 c1 q.num.natAbs
  b : NatAt M B1 m1 d1 q.den
  c : NatAt M A3 n3 c3 x
  g0 : g3 ≠ 0
section
variable {w M M' : World} {g3 g : Nat} {s : Bool} {A1 : Option Addr} {n1 c1 : Nat} {B1 : Option Addr} {m1 d1 : Nat} {q : Rat} {A3 : Option Addr} {n3 c3 x : Nat}
theorem NF.below (h : NF w M g3 g s A1 n1 c1 B1 m1 d1 q A3 n3 c3 x) (hb : Below M.heap.size M M') : NF w M' g3 g s A1 n1 c1 B1 m1 d1 q A3 n3 c3 x :=
  ⟨h.v.below hb, h.a.below hb, h.b.below hb, h.c.below hb, h.g0⟩
theorem NF.drew (h : NF w M g3 g s A1 n1 c1 B1 m1 d1 q A3 n3 c3 x) : NF w M.drew g3 g s A1 n1 c1 B1 m1 d1 q A3 n3 c3 x := h.below (Below.refl _ _).drew
theorem NF.cells (h : NF w M g3 g s A1 n1 c1 B1 m1 d1 q A3 n3 c3 x) : (World.cell? M ⟨g, 0, none⟩ = some (.bool s) ∧ World.cell? M ⟨g, 1, none⟩ = some (.slice A1 n1 c1) ∧ World.cell? M ⟨g, 2, none⟩ = some (.slice B1 m1 d1) ∧ Hid (NF w M g3 g s A1 n1 c1 B1 m1 d1 q A3 n3 c3 x)) := by
  obtain ⟨a1, a2, a3, _, _, _⟩ := h.v.box.cells
  exact ⟨a1, a2, a3, h⟩
theorem NF.of (h : (World.cell? M ⟨g, 0, none⟩ = some (.bool s) ∧ World.cell? M ⟨g, 1, none⟩ = some (.slice A1 n1 c1) ∧ World.cell? M ⟨g, 2, none⟩ = some (.slice B1 m1 d1) ∧ Hid (NF w M g3 g s A1 n1 c1 B1 m1 d1 q A3 n3 c3 x))) : NF w M g3 g s A1 n1 c1 B1 m1 d1 q A3 n3 c3 x := h.2.2.2.out
theorem NF.next (h : (World.cell? M ⟨g, 0, none⟩ = some (.bool s) ∧ World.cell? M ⟨g, 1, none⟩ = some (.slice A1 n1 c1) ∧ World.cell? M ⟨g, 2, none⟩ = some (.slice B1 m1 d1) ∧ Hid (NF w M g3 g s A1 n1 c1 B1 m1 d1 q A3 n3 c3 x))) (hb : Below M.heap.size M M') : (World.cell? M' ⟨g, 0, none⟩ = some (.bool s) ∧ World.cell? M' ⟨g, 1, none⟩ = some (.slice A1 n1 c1) ∧ World.cell? M' ⟨g, 2, none⟩ = some (.slice B1 m1 d1) ∧ Hid (NF w M' g3 g s A1 n1 c1 B1 m1 d1 q A3 n3 c3 x)) := ((NF.of h).below hb).cells
theorem NF.nextS (h : (World.cell? M ⟨g, 0, none⟩ = some (.bool s) ∧ World.cell? M ⟨g, 1, none⟩ = some (.slice A1 n1 c1) ∧ World.cell? M ⟨g, 2, none⟩ = some (.slice B1 m1 d1) ∧ Hid (NF w M g3 g s A1 n1 c1 B1 m1 d1 q A3 n3 c3 x))) {a : Bool} {B C : Option Addr} {b b' c c' : Nat} : (World.cell? (((M.setCell ⟨g3, 0, none⟩ (.bool a)).setCell ⟨g3, 1, none⟩ (.slice B b b')).setCell ⟨g3, 2, none⟩ (.slice C c c')) ⟨g, 0, none⟩ = some (.bool s) ∧ World.cell? (((M.setCell ⟨g3, 0, none⟩ (.bool a)).setCell ⟨g3, 1, none⟩ (.slice B b b')).setCell ⟨g3, 2, none⟩ (.slice C c c')) ⟨g, 1, none⟩ = some (.slice A1 n1 c1) ∧ World.cell? (((M.setCell ⟨g3, 0, none⟩ (.bool a)).setCell ⟨g3, 1, none⟩ (.slice B b b')).setCell ⟨g3, 2, none⟩ (.slice C c c')) ⟨g, 2, none⟩ = some (.slice B1 m1 d1) ∧ Hid (NF w (((M.setCell ⟨g3, 0, none⟩ (.bool a)).setCell ⟨g3, 1, none⟩ (.slice B b b')).setCell ⟨g3, 2, none⟩ (.slice C c c')) g3 g s A1 n1 c1 B1 m1 d1 q A3 n3 c3 x)) := by
  have h := NF.of h
  have hg := grown_set3 M g3 (.bool a) (.slice B b b') (.slice C c c')
  obtain ⟨x, y, z, hx, hy, hz, h4⟩ := h.v.res
  exact NF.cells ⟨⟨h.v.res.set3 (NI.bool _) (NI.slice _ _ _) (NI.slice _ _ _), (hg.block g h.v.box.lt (fun e => h.v.ne (Option.some.inj e))).trans h.v.box, h.v.tab.grown hg h.g0, below_set3 h.v.bel h.v.n3 _ _ _, h.v.n3, h.v.ne⟩, h.a.grown h4 hx hy hz hg, h.b.grown h4 hx hy hz hg, h.c.grown h4 hx hy hz hg, h.g0⟩
end
/-- what RootDown and RootUp return -/
def grootOut (L : Bool) (n p : Int) (up : Bool) (q : Rat) : Out :=
  if L = true then .err 1 else if n < 2 ∨ 8 < n ∨ p < 0 ∨ 256 < p then .err 2 else if ng q = true ∧ n.toNat % 2 = 0 then .err 5 else give (grtQ q n.toNat p.toNat up)
theorem irt_self {k : Nat} (hk : 0 < k) (a : Nat) : irt k a ≤ a := by
  have h1 := irt_le (a := a) hk
  rcases Nat.eq_zero_or_pos (irt k a) with h0 | h0
  · omega
  · exact Nat.le_trans (by have := Nat.pow_le_pow_right h0 (show 1 ≤ k by omega); simpa using this) h1
set_option maxHeartbeats 2000000 in
set_option maxRecDepth 100000 in
theorem nroot_large (s1 : Bool) (N1' D1' : Nat) (n p : Int) (up : Bool) (w : World) (v1 : Value) (h1 : RawV w v1 s1 N1' D1') (hT : Tab w) (q : Rat) (hq : ratOf s1 N1' D1' = q) (hL : largeB s1 N1' D1' = true) :
    Calls Tryd.prog 79 #[v1, .int .i64 n, .int .i64 p, .bool up] w (OutPost w (Out.err 1)) := by
  have H1 := Lib.hid h1
  have HT := Lib.hid hT
  obtain ⟨A1, n1, c1, A1', n1', c1', rfl⟩ := h1.shape
  clear h1 hT
  obtain ⟨M, hM, k1, k3, bM⟩ := start1 w (.bool s1) (.slice A1 n1 c1) (.slice A1' n1' c1') (.bool false) (.slice none 0 0) (.slice none 0 0) 24 24
  have HX := Lib.hid k1
  have HR := Lib.hid (show Res M (w.heap.size + 1) 24 from ⟨_, _, _, NI.bool _, NI.slice _ _ _, NI.slice _ _ _, k3⟩)
  have BM := Lib.hid bM
  replace H1 := Lib.hid (H1.out.below bM)
  replace HT := Lib.hid (HT.out.below bM)
  have HQ := Lib.hid hq
  have HL := Lib.hid hL
  obtain ⟨o, ho⟩ : ∃ o, Out.err 1 = o := ⟨_, rfl⟩
  have HO := Lib.hid ho
  rw [ho]
  clear hq hL k1 k3 bM ho
  go_enter Tryd.func79, Tryd.ntmps79
  go_upto_region 1 with (fail)
  rw [← hM]
  clear hM
  obtain ⟨x1, x2, x3, _, _, _⟩ := HX.out.cells
  go_wp2_with fail
  refine (readV _ s1 N1' D1' _ H1.out HT.out).mono ?_
  rw [HL.out, Bool.not_true]
  rintro e wa ⟨t1, B1, m1, d1, B1', m1', d1', rfl, f1, ba⟩
  have bb := below_step ba ba.size (below_alloc wa (.cells #[.bool t1, .slice B1 m1 d1, .slice B1' m1' d1'] 65))
  have hf1 := Box.new wa (.bool t1) (.slice B1 m1 d1) (.slice B1' m1' d1') 65
  have szw : w.heap.size + 1 < wa.heap.size := Nat.lt_of_lt_of_le (by obtain ⟨_, _, _, _, _, _, hh⟩ := HR.out; exact hh.lt) ba.size
  have TA : Hid (N1 w (wa.alloc (.cells #[.bool t1, .slice B1 m1 d1, .slice B1' m1' d1'] 65)) (w.heap.size + 1) wa.heap.size t1 B1 m1 d1 B1' m1' d1') :=
    Lib.hid ⟨HR.out.below bb, hf1, HT.out.below bb, below_step BM.out BM.out.size bb, by omega, by omega⟩
  obtain ⟨w2, hw2⟩ : ∃ w2, wa.alloc (.cells #[.bool t1, .slice B1 m1 d1, .slice B1' m1' d1'] 65) = w2 := ⟨_, rfl⟩
  obtain ⟨gf, hgf⟩ : ∃ gf, wa.heap.size = gf := ⟨_, rfl⟩
  clear x1 x2 x3 ba bb f1 hf1 szw HR BM HX H1 HT
  go_upto_region 2 with (fail)
  rw [hw2] at TA
  try rw [hw2]
  rw [hgf] at TA
  try rw [hgf]
  clear hw2 hgf
  obtain ⟨y1, y2, y3, _⟩ := TA.out.box.cells
  obtain ⟨z1, z2, z3, hy1, hy2, hy3, f1, f2, f3⟩ := TA.out.res.cells
  obtain ⟨q0, q1, q2, hs, hb⟩ := OutIs.stored (o := .err 1) (k := 1) (s := false) (A1 := none) (A2 := none) (n1 := 0) (c1 := 0) (n2 := 0) (c2 := 0) ⟨rfl, rfl, by omega, by omega⟩ TA.out.res TA.out.bel TA.out.n3
  have Q := Lib.hid (And.intro q0 (And.intro q1 q2))
  have HBB := Lib.hid hb
  clear q0 q1 q2 hs hb
  go_wp2_with fail
  obtain ⟨q0, q1, q2⟩ := Q.out
  refine bodyPost_ret (v := .tuple #[noRat, .int .i64 1]) (by simp [results, Tryd.results79, go_sem, q0, q1, q2, noRat]) rfl ?_
  rw [← HO.out]
  exact OutPost.err rfl (by omega) (by omega) HBB.out
set_option maxHeartbeats 2000000 in
set_option maxRecDepth 100000 in
theorem nroot_n2 (s1 : Bool) (N1' D1' : Nat) (n p : Int) (up : Bool) (hn : n < 2) (w : World) (v1 : Value) (h1 : RawV w v1 s1 N1' D1') (hT : Tab w) (q : Rat) (hq : ratOf s1 N1' D1' = q) (hL : largeB s1 N1' D1' = false) :
    Calls Tryd.prog 79 #[v1, .int .i64 n, .int .i64 p, .bool up] w (OutPost w (Out.err 2)) := by
  have H1 := Lib.hid h1
  have HT := Lib.hid hT
  obtain ⟨A1, n1, c1, A1', n1', c1', rfl⟩ := h1.shape
  clear h1 hT
  obtain ⟨M, hM, k1, k3, bM⟩ := start1 w (.bool s1) (.slice A1 n1 c1) (.slice A1' n1' c1') (.bool false) (.slice none 0 0) (.slice none 0 0) 24 24
  have HX := Lib.hid k1
  have HR := Lib.hid (show Res M (w.heap.size + 1) 24 from ⟨_, _, _, NI.bool _, NI.slice _ _ _, NI.slice _ _ _, k3⟩)
  have BM := Lib.hid bM
  replace H1 := Lib.hid (H1.out.below bM)
  replace HT := Lib.hid (HT.out.below bM)
  have HQ := Lib.hid hq
  have HL := Lib.hid hL
  have hp1 : decide (n < 2) = true := decide_eq_true hn
  clear hn
  obtain ⟨o, ho⟩ : ∃ o, Out.err 2 = o := ⟨_, rfl⟩
  have HO := Lib.hid ho
  rw [ho]
  clear hq hL k1 k3 bM ho
  go_enter Tryd.func79, Tryd.ntmps79
  go_upto_region 1 with (fail)
  rw [← hM]
  clear hM
  obtain ⟨x1, x2, x3, _, _, _⟩ := HX.out.cells
  go_wp2_with fail
  refine (readV _ s1 N1' D1' _ H1.out HT.out).mono ?_
  rw [HL.out, Bool.not_false]
  rintro e wa ⟨t1, B1, m1, d1, B1', m1', d1', rfl, f1, ba⟩
  have bb := below_step ba ba.size (below_alloc wa (.cells #[.bool t1, .slice B1 m1 d1, .slice B1' m1' d1'] 65))
  have hf1 := Box.new wa (.bool t1) (.slice B1 m1 d1) (.slice B1' m1' d1') 65
  have szw : w.heap.size + 1 < wa.heap.size := Nat.lt_of_lt_of_le (by obtain ⟨_, _, _, _, _, _, hh⟩ := HR.out; exact hh.lt) ba.size
  have TA : Hid (N1 w (wa.alloc (.cells #[.bool t1, .slice B1 m1 d1, .slice B1' m1' d1'] 65)) (w.heap.size + 1) wa.heap.size t1 B1 m1 d1 B1' m1' d1') :=
    Lib.hid ⟨HR.out.below bb, hf1, HT.out.below bb, below_step BM.out BM.out.size bb, by omega, by omega⟩
  have F1 : Hid (IsF (wa.alloc (.cells #[.bool t1, .slice B1 m1 d1, .slice B1' m1' d1'] 65)) (.agg #[.bool t1, .slice B1 m1 d1, .slice B1' m1' d1']) q) := Lib.hid (by rw [← HQ.out]; exact (f1.out rfl).below (below_alloc _ _))
  obtain ⟨w2, hw2⟩ : ∃ w2, wa.alloc (.cells #[.bool t1, .slice B1 m1 d1, .slice B1' m1' d1'] 65) = w2 := ⟨_, rfl⟩
  obtain ⟨gf, hgf⟩ : ∃ gf, wa.heap.size = gf := ⟨_, rfl⟩
  clear x1 x2 x3 ba bb f1 hf1 szw HR BM HX H1 HT
  go_upto_region 2 with (fail)
  rw [hw2] at TA F1
  try rw [hw2]
  rw [hgf] at TA
  try rw [hgf]
  clear hw2 hgf
  obtain ⟨y1, y2, y3, _⟩ := TA.out.box.cells
  obtain ⟨z1, z2, z3, hy1, hy2, hy3, f1, f2, f3⟩ := TA.out.res.cells
  obtain ⟨q0, q1, q2, hs, hb⟩ := OutIs.stored (o := .err 2) (k := 2) (s := false) (A1 := none) (A2 := none) (n1 := 0) (c1 := 0) (n2 := 0) (c2 := 0) ⟨rfl, rfl, by omega, by omega⟩ TA.out.res TA.out.bel TA.out.n3
  have Q := Lib.hid (And.intro q0 (And.intro q1 q2))
  have HBB := Lib.hid hb
  clear q0 q1 q2 hs hb
  go_wp2_with fail
  obtain ⟨q0, q1, q2⟩ := Q.out
  refine bodyPost_ret (v := .tuple #[noRat, .int .i64 2]) (by simp [results, Tryd.results79, go_sem, q0, q1, q2, noRat]) rfl ?_
  rw [← HO.out]
  exact OutPost.err rfl (by omega) (by omega) HBB.out
set_option maxHeartbeats 2000000 in
set_option maxRecDepth 100000 in
theorem nroot_n8 (s1 : Bool) (N1' D1' : Nat) (n p : Int) (up : Bool) (hn : 8 < n) (w : World) (v1 : Value) (h1 : RawV w v1 s1 N1' D1') (hT : Tab w) (q : Rat) (hq : ratOf s1 N1' D1' = q) (hL : largeB s1 N1' D1' = false) :
    Calls Tryd.prog 79 #[v1, .int .i64 n, .int .i64 p, .bool up] w (OutPost w (Out.err 2)) := by
  have H1 := Lib.hid h1
  have HT := Lib.hid hT
  obtain ⟨A1, n1, c1, A1', n1', c1', rfl⟩ := h1.shape
  clear h1 hT
  obtain ⟨M, hM, k1, k3, bM⟩ := start1 w (.bool s1) (.slice A1 n1 c1) (.slice A1' n1' c1') (.bool false) (.slice none 0 0) (.slice none 0 0) 24 24
  have HX := Lib.hid k1
  have HR := Lib.hid (show Res M (w.heap.size + 1) 24 from ⟨_, _, _, NI.bool _, NI.slice _ _ _, NI.slice _ _ _, k3⟩)
  have BM := Lib.hid bM
  replace H1 := Lib.hid (H1.out.below bM)
  replace HT := Lib.hid (HT.out.below bM)
  have HQ := Lib.hid hq
  have HL := Lib.hid hL
  have hp1 : decide (n < 2) = false := decide_eq_false (by omega)
  have hp2 : decide (8 < n) = true := decide_eq_true hn
  clear hn
  obtain ⟨o, ho⟩ : ∃ o, Out.err 2 = o := ⟨_, rfl⟩
  have HO := Lib.hid ho
  rw [ho]
  clear hq hL k1 k3 bM ho
  go_enter Tryd.func79, Tryd.ntmps79
  go_upto_region 1 with (fail)
  rw [← hM]
  clear hM
  obtain ⟨x1, x2, x3, _, _, _⟩ := HX.out.cells
  go_wp2_with fail
  refine (readV _ s1 N1' D1' _ H1.out HT.out).mono ?_
  rw [HL.out, Bool.not_false]
  rintro e wa ⟨t1, B1, m1, d1, B1', m1', d1', rfl, f1, ba⟩
  have bb := below_step ba ba.size (below_alloc wa (.cells #[.bool t1, .slice B1 m1 d1, .slice B1' m1' d1'] 65))
  have hf1 := Box.new wa (.bool t1) (.slice B1 m1 d1) (.slice B1' m1' d1') 65
  have szw : w.heap.size + 1 < wa.heap.size := Nat.lt_of_lt_of_le (by obtain ⟨_, _, _, _, _, _, hh⟩ := HR.out; exact hh.lt) ba.size
  have TA : Hid (N1 w (wa.alloc (.cells #[.bool t1, .slice B1 m1 d1, .slice B1' m1' d1'] 65)) (w.heap.size + 1) wa.heap.size t1 B1 m1 d1 B1' m1' d1') :=
    Lib.hid ⟨HR.out.below bb, hf1, HT.out.below bb, below_step BM.out BM.out.size bb, by omega, by omega⟩
  have F1 : Hid (IsF (wa.alloc (.cells #[.bool t1, .slice B1 m1 d1, .slice B1' m1' d1'] 65)) (.agg #[.bool t1, .slice B1 m1 d1, .slice B1' m1' d1']) q) := Lib.hid (by rw [← HQ.out]; exact (f1.out rfl).below (below_alloc _ _))
  obtain ⟨w2, hw2⟩ : ∃ w2, wa.alloc (.cells #[.bool t1, .slice B1 m1 d1, .slice B1' m1' d1'] 65) = w2 := ⟨_, rfl⟩
  obtain ⟨gf, hgf⟩ : ∃ gf, wa.heap.size = gf := ⟨_, rfl⟩
  clear x1 x2 x3 ba bb f1 hf1 szw HR BM HX H1 HT
  go_upto_region 2 with (fail)
  rw [hw2] at TA F1
  try rw [hw2]
  rw [hgf] at TA
  try rw [hgf]
  clear hw2 hgf
  obtain ⟨y1, y2, y3, _⟩ := TA.out.box.cells
  obtain ⟨z1, z2, z3, hy1, hy2, hy3, f1, f2, f3⟩ := TA.out.res.cells
  obtain ⟨q0, q1, q2, hs, hb⟩ := OutIs.stored (o := .err 2) (k := 2) (s := false) (A1 := none) (A2 := none) (n1 := 0) (c1 := 0) (n2 := 0) (c2 := 0) ⟨rfl, rfl, by omega, by omega⟩ TA.out.res TA.out.bel TA.out.n3
  have Q := Lib.hid (And.intro q0 (And.intro q1 q2))
  have HBB := Lib.hid hb
  clear q0 q1 q2 hs hb
  go_wp2_with fail
  obtain ⟨q0, q1, q2⟩ := Q.out
  refine bodyPost_ret (v := .tuple #[noRat, .int .i64 2]) (by simp [results, Tryd.results79, go_sem, q0, q1, q2, noRat]) rfl ?_
  rw [← HO.out]
  exact OutPost.err rfl (by omega) (by omega) HBB.out
set_option maxHeartbeats 2000000 in
set_option maxRecDepth 100000 in
theorem nroot_p0 (s1 : Bool) (N1' D1' : Nat) (n p : Int) (up : Bool) (h2 : 2 ≤ n) (h8 : n ≤ 8) (hn : p < 0) (w : World) (v1 : Value) (h1 : RawV w v1 s1 N1' D1') (hT : Tab w) (q : Rat) (hq : ratOf s1 N1' D1' = q) (hL : largeB s1 N1' D1' = false) :
    Calls Tryd.prog 79 #[v1, .int .i64 n, .int .i64 p, .bool up] w (OutPost w (Out.err 2)) := by
  have H1 := Lib.hid h1
  have HT := Lib.hid hT
  obtain ⟨A1, n1, c1, A1', n1', c1', rfl⟩ := h1.shape
  clear h1 hT
  obtain ⟨M, hM, k1, k3, bM⟩ := start1 w (.bool s1) (.slice A1 n1 c1) (.slice A1' n1' c1') (.bool false) (.slice none 0 0) (.slice none 0 0) 24 24
  have HX := Lib.hid k1
  have HR := Lib.hid (show Res M (w.heap.size + 1) 24 from ⟨_, _, _, NI.bool _, NI.slice _ _ _, NI.slice _ _ _, k3⟩)
  have BM := Lib.hid bM
  replace H1 := Lib.hid (H1.out.below bM)
  replace HT := Lib.hid (HT.out.below bM)
  have HQ := Lib.hid hq
  have HL := Lib.hid hL
  have hp1 : decide (n < 2) = false := decide_eq_false (by omega)
  have hp2 : decide (8 < n) = false := decide_eq_false (by omega)
  have hp3 : decide (p < 0) = true := decide_eq_true hn
  clear hn h2 h8
  obtain ⟨o, ho⟩ : ∃ o, Out.err 2 = o := ⟨_, rfl⟩
  have HO := Lib.hid ho
  rw [ho]
  clear hq hL k1 k3 bM ho
  go_enter Tryd.func79, Tryd.ntmps79
  go_upto_region 1 with (fail)
  rw [← hM]
  clear hM
  obtain ⟨x1, x2, x3, _, _, _⟩ := HX.out.cells
  go_wp2_with fail
  refine (readV _ s1 N1' D1' _ H1.out HT.out).mono ?_
  rw [HL.out, Bool.not_false]
  rintro e wa ⟨t1, B1, m1, d1, B1', m1', d1', rfl, f1, ba⟩
  have bb := below_step ba ba.size (below_alloc wa (.cells #[.bool t1, .slice B1 m1 d1, .slice B1' m1' d1'] 65))
  have hf1 := Box.new wa (.bool t1) (.slice B1 m1 d1) (.slice B1' m1' d1') 65
  have szw : w.heap.size + 1 < wa.heap.size := Nat.lt_of_lt_of_le (by obtain ⟨_, _, _, _, _, _, hh⟩ := HR.out; exact hh.lt) ba.size
  have TA : Hid (N1 w (wa.alloc (.cells #[.bool t1, .slice B1 m1 d1, .slice B1' m1' d1'] 65)) (w.heap.size + 1) wa.heap.size t1 B1 m1 d1 B1' m1' d1') :=
    Lib.hid ⟨HR.out.below bb, hf1, HT.out.below bb, below_step BM.out BM.out.size bb, by omega, by omega⟩
  have F1 : Hid (IsF (wa.alloc (.cells #[.bool t1, .slice B1 m1 d1, .slice B1' m1' d1'] 65)) (.agg #[.bool t1, .slice B1 m1 d1, .slice B1' m1' d1']) q) := Lib.hid (by rw [← HQ.out]; exact (f1.out rfl).below (below_alloc _ _))
  obtain ⟨w2, hw2⟩ : ∃ w2, wa.alloc (.cells #[.bool t1, .slice B1 m1 d1, .slice B1' m1' d1'] 65) = w2 := ⟨_, rfl⟩
  obtain ⟨gf, hgf⟩ : ∃ gf, wa.heap.size = gf := ⟨_, rfl⟩
  clear x1 x2 x3 ba bb f1 hf1 szw HR BM HX H1 HT
  go_upto_region 2 with (fail)
  rw [hw2] at TA F1
  try rw [hw2]
  rw [hgf] at TA
  try rw [hgf]
  clear hw2 hgf
  obtain ⟨y1, y2, y3, _⟩ := TA.out.box.cells
  obtain ⟨z1, z2, z3, hy1, hy2, hy3, f1, f2, f3⟩ := TA.out.res.cells
  obtain ⟨q0, q1, q2, hs, hb⟩ := OutIs.stored (o := .err 2) (k := 2) (s := false) (A1 := none) (A2 := none) (n1 := 0) (c1 := 0) (n2 := 0) (c2 := 0) ⟨rfl, rfl, by omega, by omega⟩ TA.out.res TA.out.bel TA.out.n3
  have Q := Lib.hid (And.intro q0 (And.intro q1 q2))
  have HBB := Lib.hid hb
  clear q0 q1 q2 hs hb
  go_wp2_with fail
  obtain ⟨q0, q1, q2⟩ := Q.out
  refine bodyPost_ret (v := .tuple #[noRat, .int .i64 2]) (by simp [results, Tryd.results79, go_sem, q0, q1, q2, noRat]) rfl ?_
  rw [← HO.out]
  exact OutPost.err rfl (by omega) (by omega) HBB.out
set_option maxHeartbeats 2000000 in
set_option maxRecDepth 100000 in
theorem nroot_p256 (s1 : Bool) (N1' D1' : Nat) (n p : Int) (up : Bool) (h2 : 2 ≤ n) (h8 : n ≤ 8) (hn : 256 < p) (w : World) (v1 : Value) (h1 : RawV w v1 s1 N1' D1') (hT : Tab w) (q : Rat) (hq : ratOf s1 N1' D1' = q) (hL : largeB s1 N1' D1' = false) :
    Calls Tryd.prog 79 #[v1, .int .i64 n, .int .i64 p, .bool up] w (OutPost w (Out.err 2)) := by
  have H1 := Lib.hid h1
  have HT := Lib.hid hT
  obtain ⟨A1, n1, c1, A1', n1', c1', rfl⟩ := h1.shape
  clear h1 hT
  obtain ⟨M, hM, k1, k3, bM⟩ := start1 w (.bool s1) (.slice A1 n1 c1) (.slice A1' n1' c1') (.bool false) (.slice none 0 0) (.slice none 0 0) 24 24
  have HX := Lib.hid k1
  have HR := Lib.hid (show Res M (w.heap.size + 1) 24 from ⟨_, _, _, NI.bool _, NI.slice _ _ _, NI.slice _ _ _, k3⟩)
  have BM := Lib.hid bM
  replace H1 := Lib.hid (H1.out.below bM)
  replace HT := Lib.hid (HT.out.below bM)
  have HQ := Lib.hid hq
  have HL := Lib.hid hL
  have hp1 : decide (n < 2) = false := decide_eq_false (by omega)
  have hp2 : decide (8 < n) = false := decide_eq_false (by omega)
  have hp3 : decide (p < 0) = false := decide_eq_false (by omega)
  have hp4 : decide (256 < p) = true := decide_eq_true hn
  clear hn h2 h8
  obtain ⟨o, ho⟩ : ∃ o, Out.err 2 = o := ⟨_, rfl⟩
  have HO := Lib.hid ho
  rw [ho]
  clear hq hL k1 k3 bM ho
  go_enter Tryd.func79, Tryd.ntmps79
  go_upto_region 1 with (fail)
  rw [← hM]
  clear hM
  obtain ⟨x1, x2, x3, _, _, _⟩ := HX.out.cells
  go_wp2_with fail
  refine (readV _ s1 N1' D1' _ H1.out HT.out).mono ?_
  rw [HL.out, Bool.not_false]
  rintro e wa ⟨t1, B1, m1, d1, B1', m1', d1', rfl, f1, ba⟩
  have bb := below_step ba ba.size (below_alloc wa (.cells #[.bool t1, .slice B1 m1 d1, .slice B1' m1' d1'] 65))
  have hf1 := Box.new wa (.bool t1) (.slice B1 m1 d1) (.slice B1' m1' d1') 65
  have szw : w.heap.size + 1 < wa.heap.size := Nat.lt_of_lt_of_le (by obtain ⟨_, _, _, _, _, _, hh⟩ := HR.out; exact hh.lt) ba.size
  have TA : Hid (N1 w (wa.alloc (.cells #[.bool t1, .slice B1 m1 d1, .slice B1' m1' d1'] 65)) (w.heap.size + 1) wa.heap.size t1 B1 m1 d1 B1' m1' d1') :=
    Lib.hid ⟨HR.out.below bb, hf1, HT.out.below bb, below_step BM.out BM.out.size bb, by omega, by omega⟩
  have F1 : Hid (IsF (wa.alloc (.cells #[.bool t1, .slice B1 m1 d1, .slice B1' m1' d1'] 65)) (.agg #[.bool t1, .slice B1 m1 d1, .slice B1' m1' d1']) q) := Lib.hid (by rw [← HQ.out]; exact (f1.out rfl).below (below_alloc _ _))
  obtain ⟨w2, hw2⟩ : ∃ w2, wa.alloc (.cells #[.bool t1, .slice B1 m1 d1, .slice B1' m1' d1'] 65) = w2 := ⟨_, rfl⟩
  obtain ⟨gf, hgf⟩ : ∃ gf, wa.heap.size = gf := ⟨_, rfl⟩
  clear x1 x2 x3 ba bb f1 hf1 szw HR BM HX H1 HT
  go_upto_region 2 with (fail)
  rw [hw2] at TA F1
  try rw [hw2]
  rw [hgf] at TA
  try rw [hgf]
  clear hw2 hgf
  obtain ⟨y1, y2, y3, _⟩ := TA.out.box.cells
  obtain ⟨z1, z2, z3, hy1, hy2, hy3, f1, f2, f3⟩ := TA.out.res.cells
  obtain ⟨q0, q1, q2, hs, hb⟩ := OutIs.stored (o := .err 2) (k := 2) (s := false) (A1 := none) (A2 := none) (n1 := 0) (c1 := 0) (n2 := 0) (c2 := 0) ⟨rfl, rfl, by omega, by omega⟩ TA.out.res TA.out.bel TA.out.n3
  have Q := Lib.hid (And.intro q0 (And.intro q1 q2))
  have HBB := Lib.hid hb
  clear q0 q1 q2 hs hb
  go_wp2_with fail
  obtain ⟨q0, q1, q2⟩ := Q.out
  refine bodyPost_ret (v := .tuple #[noRat, .int .i64 2]) (by simp [results, Tryd.results79, go_sem, q0, q1, q2, noRat]) rfl ?_
  rw [← HO.out]
  exact OutPost.err rfl (by omega) (by omega) HBB.out
set_option maxHeartbeats 2000000 in
set_option maxRecDepth 100000 in
theorem nroot_even (s1 : Bool) (N1' D1' : Nat) (k p : Nat) (h2 : 2 ≤ k) (h8 : k ≤ 8) (hp : p ≤ 256) (up : Bool) (hs : ng (ratOf s1 N1' D1') = true) (he : k % 2 = 0) (w : World) (v1 : Value) (h1 : RawV w v1 s1 N1' D1') (hT : Tab w) (q : Rat) (hq : ratOf s1 N1' D1' = q) (hL : largeB s1 N1' D1' = false) :
    Calls Tryd.prog 79 #[v1, .int .i64 (k : Int), .int .i64 (p : Int), .bool up] w (OutPost w (Out.err 5)) := by
  have H1 := Lib.hid h1
  have HT := Lib.hid hT
  obtain ⟨A1, n1, c1, A1', n1', c1', rfl⟩ := h1.shape
  clear h1 hT
  obtain ⟨M, hM, k1, k3, bM⟩ := start1 w (.bool s1) (.slice A1 n1 c1) (.slice A1' n1' c1') (.bool false) (.slice none 0 0) (.slice none 0 0) 24 24
  have HX := Lib.hid k1
  have HR := Lib.hid (show Res M (w.heap.size + 1) 24 from ⟨_, _, _, NI.bool _, NI.slice _ _ _, NI.slice _ _ _, k3⟩)
  have BM := Lib.hid bM
  replace H1 := Lib.hid (H1.out.below bM)
  replace HT := Lib.hid (HT.out.below bM)
  have HQ := Lib.hid hq
  have HL := Lib.hid hL
  have hp1 : decide ((k : Int) < 2) = false := decide_eq_false (by omega)
  have hp1' : decide (k < 2) = false := decide_eq_false (by omega)
  have hp2 : decide (8 < (k : Int)) = false := decide_eq_false (by omega)
  have hp2' : decide (8 < k) = false := decide_eq_false (by omega)
  have hp3 : decide ((p : Int) < 0) = false := decide_eq_false (by omega)
  have hp4 : decide (256 < (p : Int)) = false := decide_eq_false (by omega)
  have hp4' : decide (256 < p) = false := decide_eq_false (by omega)
  have hm := tmod_two k
  have hm2 : IntKind.i64.wrap ((k % 2 : Nat) : Int) = ((k % 2 : Nat) : Int) := wraps_i64 _ (by omega) (by omega)
  have HK2 := Lib.hid h2
  have HK8 := Lib.hid h8
  have HP := Lib.hid hp
  rw [hq] at hs
  have HNG := Lib.hid hs
  clear hs
  rw [he] at hm hm2
  clear he
  obtain ⟨o, ho⟩ : ∃ o, Out.err 5 = o := ⟨_, rfl⟩
  have HO := Lib.hid ho
  rw [ho]
  clear hq hL k1 k3 bM ho
  go_enter Tryd.func79, Tryd.ntmps79
  go_upto_region 1 with (fail)
  rw [← hM]
  clear hM
  obtain ⟨x1, x2, x3, _, _, _⟩ := HX.out.cells
  go_wp2_with fail
  refine (readV _ s1 N1' D1' _ H1.out HT.out).mono ?_
  rw [HL.out, Bool.not_false]
  rintro e wa ⟨t1, B1, m1, d1, B1', m1', d1', rfl, f1, ba⟩
  have bb := below_step ba ba.size (below_alloc wa (.cells #[.bool t1, .slice B1 m1 d1, .slice B1' m1' d1'] 65))
  have hf1 := Box.new wa (.bool t1) (.slice B1 m1 d1) (.slice B1' m1' d1') 65
  have szw : w.heap.size + 1 < wa.heap.size := Nat.lt_of_lt_of_le (by obtain ⟨_, _, _, _, _, _, hh⟩ := HR.out; exact hh.lt) ba.size
  have TA : Hid (N1 w (wa.alloc (.cells #[.bool t1, .slice B1 m1 d1, .slice B1' m1' d1'] 65)) (w.heap.size + 1) wa.heap.size t1 B1 m1 d1 B1' m1' d1') :=
    Lib.hid ⟨HR.out.below bb, hf1, HT.out.below bb, below_step BM.out BM.out.size bb, by omega, by omega⟩
  have F1 : Hid (IsF (wa.alloc (.cells #[.bool t1, .slice B1 m1 d1, .slice B1' m1' d1'] 65)) (.agg #[.bool t1, .slice B1 m1 d1, .slice B1' m1' d1']) q) := Lib.hid (by rw [← HQ.out]; exact (f1.out rfl).below (below_alloc _ _))
  obtain ⟨w2, hw2⟩ : ∃ w2, wa.alloc (.cells #[.bool t1, .slice B1 m1 d1, .slice B1' m1' d1'] 65) = w2 := ⟨_, rfl⟩
  obtain ⟨gf, hgf⟩ : ∃ gf, wa.heap.size = gf := ⟨_, rfl⟩
  clear x1 x2 x3 ba bb f1 hf1 szw HR BM HX H1 HT
  go_upto_region 2 with (fail)
  rw [hw2] at TA F1
  try rw [hw2]
  rw [hgf] at TA
  try rw [hgf]
  clear hw2 hgf
  obtain ⟨y1, y2, y3, _⟩ := TA.out.box.cells
  obtain ⟨ht, a1, a2⟩ := F1.out.at_
  obtain rfl : t1 = true := ht.trans HNG.out
  have NA := Lib.hid a1
  have NB := Lib.hid a2
  clear ht a1 a2
  obtain ⟨z1, z2, z3, hy1, hy2, hy3, f1, f2, f3⟩ := TA.out.res.cells
  obtain ⟨q0, q1, q2, hs, hb⟩ := OutIs.stored (o := .err 5) (k := 5) (s := false) (A1 := none) (A2 := none) (n1 := 0) (c1 := 0) (n2 := 0) (c2 := 0) ⟨rfl, rfl, by omega, by omega⟩ TA.out.res TA.out.bel TA.out.n3
  have Q := Lib.hid (And.intro q0 (And.intro q1 q2))
  have HBB := Lib.hid hb
  clear q0 q1 q2 hs hb
  go_wp2_with fail
  obtain ⟨q0, q1, q2⟩ := Q.out
  refine bodyPost_ret (v := .tuple #[noRat, .int .i64 5]) (by simp [results, Tryd.results79, go_sem, q0, q1, q2, noRat]) rfl ?_
  rw [← HO.out]
  exact OutPost.err rfl (by omega) (by omega) HBB.out
set_option maxHeartbeats 2000000 in
set_option maxRecDepth 100000 in
theorem nroot_false_false_same (s1 : Bool) (N1' D1' : Nat) (k p : Nat) (h2 : 2 ≤ k) (h8 : k ≤ 8) (hp : p ≤ 256) (hs : ng (ratOf s1 N1' D1') = false) (r : Rat) (hr : grtQ (ratOf s1 N1' D1') k p false = r) (w : World) (v1 : Value) (h1 : RawV w v1 s1 N1' D1') (hT : Tab w) (q : Rat) (hq : ratOf s1 N1' D1' = q) (hL : largeB s1 N1' D1' = false) :
    Calls Tryd.prog 79 #[v1, .int .i64 (k : Int), .int .i64 (p : Int), .bool false] w (OutPost w (give r)) := by
  have H1 := Lib.hid h1
  have HT := Lib.hid hT
  obtain ⟨A1, n1, c1, A1', n1', c1', rfl⟩ := h1.shape
  clear h1 hT
  obtain ⟨M, hM, k1, k3, bM⟩ := start1 w (.bool s1) (.slice A1 n1 c1) (.slice A1' n1' c1') (.bool false) (.slice none 0 0) (.slice none 0 0) 24 24
  have HX := Lib.hid k1
  have HR := Lib.hid (show Res M (w.heap.size + 1) 24 from ⟨_, _, _, NI.bool _, NI.slice _ _ _, NI.slice _ _ _, k3⟩)
  have BM := Lib.hid bM
  replace H1 := Lib.hid (H1.out.below bM)
  replace HT := Lib.hid (HT.out.below bM)
  have HQ := Lib.hid hq
  have HL := Lib.hid hL
  have hf := (largeB_false hL).2.2
  rw [hq] at hf
  have HF := Lib.hid hf
  clear hf
  have hp1 : decide ((k : Int) < 2) = false := decide_eq_false (by omega)
  have hp1' : decide (k < 2) = false := decide_eq_false (by omega)
  have hp2 : decide (8 < (k : Int)) = false := decide_eq_false (by omega)
  have hp2' : decide (8 < k) = false := decide_eq_false (by omega)
  have hp3 : decide ((p : Int) < 0) = false := decide_eq_false (by omega)
  have hp4 : decide (256 < (p : Int)) = false := decide_eq_false (by omega)
  have hp4' : decide (256 < p) = false := decide_eq_false (by omega)
  have hm := tmod_two k
  have hm2 : IntKind.i64.wrap ((k % 2 : Nat) : Int) = ((k % 2 : Nat) : Int) := wraps_i64 _ (by omega) (by omega)
  have HK2 := Lib.hid h2
  have HK8 := Lib.hid h8
  have HP := Lib.hid hp
  rw [hq] at hs
  have HNG := Lib.hid hs
  clear hs
  rw [hq] at hr
  have HR2 := Lib.hid hr
  obtain ⟨m, hmk⟩ : ∃ m, p * k = m := ⟨_, rfl⟩
  have hmi : (p : Int) * (k : Int) = (m : Int) := by rw [← hmk]; push_cast; rfl
  have hmb : m ≤ 2048 := by rw [← hmk]; exact Nat.mul_le_mul hp h8
  have HMK := Lib.hid hmk
  have u1 : IntKind.i64.wrap (m : Int) = (m : Int) := wrap_i64 _ (by omega) (by omega)
  have u2 : wrap64 (m : Int) = (m : Int) := by unfold wrap64; omega
  have u3 : IntKind.i64.wrap (p : Int) = (p : Int) := wrap_i64 _ (by omega) (by omega)
  have HXL := Lib.hid (show (W (q.num.natAbs * 2 ^ m)).length ≤ 200 by
    have e1 := W_mul_length q.num.natAbs (2 ^ m)
    have e2 := W_two_pow m
    have := HF.out.1
    omega)
  have HD := Lib.hid q.den_nz
  clear hr hmk
  obtain ⟨bx, hx⟩ : ∃ b, decide (irt k (q.num.natAbs * 2 ^ m / q.den) ^ k = q.num.natAbs * 2 ^ m / q.den) = b := ⟨_, rfl⟩
  have HEX := Lib.hid hx
  clear hx
  have HFIN := Lib.hid (show mkRat (sg false (irt k (q.num.natAbs * 2 ^ m / q.den))) (1 * 2 ^ p) = r by
    rw [← HR2.out]
    unfold grtQ rootN
    rw [HNG.out, HMK.out, Nat.one_mul]
    rw [if_neg (by simp)]
    rw [Nat.add_zero])
  obtain ⟨o, ho⟩ : ∃ o, give r = o := ⟨_, rfl⟩
  have HO := Lib.hid ho
  rw [ho]
  clear hq hL k1 k3 bM ho
  go_enter Tryd.func79, Tryd.ntmps79
  go_upto_region 1 with (fail)
  rw [← hM]
  clear hM
  obtain ⟨x1, x2, x3, _, _, _⟩ := HX.out.cells
  go_wp2_with fail
  refine (readV _ s1 N1' D1' _ H1.out HT.out).mono ?_
  rw [HL.out, Bool.not_false]
  rintro e wa ⟨t1, B1, m1, d1, B1', m1', d1', rfl, f1, ba⟩
  have bb := below_step ba ba.size (below_alloc wa (.cells #[.bool t1, .slice B1 m1 d1, .slice B1' m1' d1'] 65))
  have hf1 := Box.new wa (.bool t1) (.slice B1 m1 d1) (.slice B1' m1' d1') 65
  have szw : w.heap.size + 1 < wa.heap.size := Nat.lt_of_lt_of_le (by obtain ⟨_, _, _, _, _, _, hh⟩ := HR.out; exact hh.lt) ba.size
  have TA : Hid (N1 w (wa.alloc (.cells #[.bool t1, .slice B1 m1 d1, .slice B1' m1' d1'] 65)) (w.heap.size + 1) wa.heap.size t1 B1 m1 d1 B1' m1' d1') :=
    Lib.hid ⟨HR.out.below bb, hf1, HT.out.below bb, below_step BM.out BM.out.size bb, by omega, by omega⟩
  have F1 : Hid (IsF (wa.alloc (.cells #[.bool t1, .slice B1 m1 d1, .slice B1' m1' d1'] 65)) (.agg #[.bool t1, .slice B1 m1 d1, .slice B1' m1' d1']) q) := Lib.hid (by rw [← HQ.out]; exact (f1.out rfl).below (below_alloc _ _))
  obtain ⟨w2, hw2⟩ : ∃ w2, wa.alloc (.cells #[.bool t1, .slice B1 m1 d1, .slice B1' m1' d1'] 65) = w2 := ⟨_, rfl⟩
  obtain ⟨gf, hgf⟩ : ∃ gf, wa.heap.size = gf := ⟨_, rfl⟩
  clear x1 x2 x3 ba bb f1 hf1 szw HR BM HX H1 HT
  go_upto_region 2 with (fail)
  rw [hw2] at TA F1
  try rw [hw2]
  rw [hgf] at TA
  try rw [hgf]
  clear hw2 hgf
  obtain ⟨y1, y2, y3, _⟩ := TA.out.box.cells
  obtain ⟨ht, a1, a2⟩ := F1.out.at_
  obtain rfl : t1 = false := ht.trans HNG.out
  have NA := Lib.hid a1
  have NB := Lib.hid a2
  clear ht a1 a2
  have T0 := Lib.hid (show NF w w2 (w.heap.size + 1) gf false B1 m1 d1 B1' m1' d1' q B1 m1 d1 q.num.natAbs from ⟨TA.out, NA.out, NB.out, NA.out, by omega⟩)
  go_wp2_with fail
  go_region_held3 (fun W' => (World.cell? W' ⟨gf, 0, none⟩ = some (.bool false) ∧ World.cell? W' ⟨gf, 1, none⟩ = some (.slice B1 m1 d1) ∧ World.cell? W' ⟨gf, 2, none⟩ = some (.slice B1' m1' d1') ∧ Hid (NF w W' (w.heap.size + 1) gf false B1 m1 d1 B1' m1' d1' q B1 m1 d1 (q.num.natAbs))))
    (with_reducible (first | assumption | exact T0.out.drew.cells | exact NF.next (by assumption) (by assumption) | exact NF.nextS (by assumption)))
    (first
       | (go_at_call 108
          refine (aShl _ m _ _ _ _ (NF.of (by assumption)).a (Nat.le_trans HF.out.1 (by omega)) (by omega)).mono ?_
          rintro e wb ⟨C1, x1, z1, rfl, i1, b1⟩)
       | (go_at_call 109
          refine (aDiv _ _ _ _ _ _ _ _ _ i1.out (NF.of (by assumption)).b (Nat.le_trans HXL.out (by omega)) (Nat.pos_of_ne_zero HD.out)).mono ?_
          rintro e wc ⟨C2, x2, z2, C3, x3, z3, rfl, i2, i3, b2⟩
          have hh := Lib.hid ((NF.of (by assumption)).below b2)))
  replace TA := Lib.hid hh.out.v
  replace NA := Lib.hid hh.out.a
  replace NB := Lib.hid hh.out.b
  clear hh T0 y1 y2 y3
  obtain ⟨y1, y2, y3, _⟩ := TA.out.box.cells
  go_wp2_with fail
  refine (aRoot _ k _ _ _ _ i2.out (Nat.le_trans (dig_length_mono B32_two (Nat.div_le_self _ _)) (Nat.le_trans HXL.out (by omega))) HK2.out (Nat.le_trans HK8.out (by omega))).mono ?_
  rw [HEX.out]
  rintro e wb ⟨C4, x4, z4, rfl, i4, bb⟩
  replace TA := Lib.hid (TA.out.below bb)
  replace NA := Lib.hid (NA.out.below bb)
  replace NB := Lib.hid (NB.out.below bb)
  replace i3 := Lib.hid (i3.out.below bb)
  clear bb y1 y2 y3
  obtain ⟨y1, y2, y3, _⟩ := TA.out.box.cells
  have LR := Lib.hid (show (W (irt k (q.num.natAbs * 2 ^ m / q.den))).length ≤ 200 from Nat.le_trans (dig_length_mono B32_two (Nat.le_trans (irt_self (Nat.lt_of_lt_of_le (by omega) HK2.out) _) (Nat.div_le_self _ _))) HXL.out)
  have L1 := Lib.hid (show (W 1).length ≤ 1 from (dig_length_le B32_two _ _).2 (by unfold B32; omega))
  have LQ := Lib.hid (show (W (irt k (q.num.natAbs * 2 ^ m / q.den))).length ≤ 300 by
    have e1 := LR.out
    have e2 := L1.out
    skip
    omega)
  have LP := Lib.hid (show (W (1 * 2 ^ p)).length ≤ 300 by
    have e2 := W_two_pow p
    have := HP.out
    rw [Nat.one_mul]
    omega)
  obtain ⟨rn, hrn⟩ : ∃ x, irt k (q.num.natAbs * 2 ^ m / q.den) = x := ⟨_, rfl⟩
  rw [hrn] at i4 LQ HFIN
  have T0 := Lib.hid (show NF w _ (w.heap.size + 1) gf false B1 m1 d1 B1' m1' d1' q C4 x4 z4 rn from ⟨TA.out, NA.out, NB.out, i4.out, by omega⟩)
  go_wp2_with fail
  go_region_held3 (fun W' => (World.cell? W' ⟨gf, 0, none⟩ = some (.bool false) ∧ World.cell? W' ⟨gf, 1, none⟩ = some (.slice B1 m1 d1) ∧ World.cell? W' ⟨gf, 2, none⟩ = some (.slice B1' m1' d1') ∧ Hid (NF w W' (w.heap.size + 1) gf false B1 m1 d1 B1' m1' d1' q C4 x4 z4 rn)))
    (with_reducible (first | assumption | exact T0.out.drew.cells | exact NF.next (by assumption) (by assumption) | exact NF.nextS (by assumption)))
    (first
       | (go_at_call 94
          refine (aSmall1 _).mono ?_
          rintro e wb ⟨C7, x7, z7, rfl, i7, b7⟩)
       | (go_at_call 108
          refine (aShl _ p _ _ _ _ i7.out (Nat.le_trans L1.out (by omega)) (Nat.le_trans HP.out (by omega))).mono ?_
          rintro e wc ⟨C8, x8, z8, rfl, i8, b8⟩)
       | (go_at_call 92
          refine (aReduce false _ _ _ _ _ _ _ _ _ (NF.of (by assumption)).c i8.out (by rw [Nat.one_mul]; exact Nat.ne_of_gt (Nat.two_pow_pos p)) (Nat.le_trans LQ.out (by omega)) (Nat.le_trans LP.out (by omega)) (NF.of (by assumption)).v.tab r HFIN.out).mono ?_
          rintro e wd ⟨t9, B9, m9, d9, B9', m9', d9', rfl, i9, b9⟩)
       | (go_at_call 57
          refine (giveF _ _ _ i9.out).mono ?_
          rintro e we ⟨s9, A9, n9, c9, A9', n9', c9', k9, rfl, h9, b10⟩
          have hh := (NF.of (by assumption)).below b10
          obtain ⟨z1, z2, z3, hz1, hz2, hz3, k1, k2, k3⟩ := hh.v.res.cells))
  obtain ⟨q0, q1, q2, hs, hb⟩ := OutIs.stored h9 hh.v.res hh.v.bel hh.v.n3
  have Q := Lib.hid (And.intro q0 (And.intro q1 q2))
  have HS := Lib.hid hs
  have HBB := Lib.hid hb
  clear q0 q1 q2 hs hb h9
  go_wp2
  obtain ⟨q0, q1, q2⟩ := Q.out
  refine bodyPost_ret (v := .tuple #[.agg #[.bool s9, .slice A9 n9 c9, .slice A9' n9' c9'], .int .i64 k9]) (by simp [results, Tryd.results79, go_sem, q0, q1, q2]) rfl ?_
  rw [← HO.out]
  exact ⟨_, _, _, _, _, _, _, _, rfl, HS.out, HBB.out⟩
set_option maxHeartbeats 2000000 in
set_option maxRecDepth 100000 in
theorem nroot_false_true_exact (s1 : Bool) (N1' D1' : Nat) (k p : Nat) (h2 : 2 ≤ k) (h8 : k ≤ 8) (hp : p ≤ 256) (hs : ng (ratOf s1 N1' D1') = false) (x1 : decide (irt k ((ratOf s1 N1' D1').num.natAbs * 2 ^ (p * k) / (ratOf s1 N1' D1').den) ^ k = (ratOf s1 N1' D1').num.natAbs * 2 ^ (p * k) / (ratOf s1 N1' D1').den) = true) (x2 : decide ((ratOf s1 N1' D1').num.natAbs * 2 ^ (p * k) % (ratOf s1 N1' D1').den = 0) = true) (r : Rat) (hr : grtQ (ratOf s1 N1' D1') k p true = r) (w : World) (v1 : Value) (h1 : RawV w v1 s1 N1' D1') (hT : Tab w) (q : Rat) (hq : ratOf s1 N1' D1' = q) (hL : largeB s1 N1' D1' = false) :
    Calls Tryd.prog 79 #[v1, .int .i64 (k : Int), .int .i64 (p : Int), .bool true] w (OutPost w (give r)) := by
  have H1 := Lib.hid h1
  have HT := Lib.hid hT
  obtain ⟨A1, n1, c1, A1', n1', c1', rfl⟩ := h1.shape
  clear h1 hT
  obtain ⟨M, hM, k1, k3, bM⟩ := start1 w (.bool s1) (.slice A1 n1 c1) (.slice A1' n1' c1') (.bool false) (.slice none 0 0) (.slice none 0 0) 24 24
  have HX := Lib.hid k1
  have HR := Lib.hid (show Res M (w.heap.size + 1) 24 from ⟨_, _, _, NI.bool _, NI.slice _ _ _, NI.slice _ _ _, k3⟩)
  have BM := Lib.hid bM
  replace H1 := Lib.hid (H1.out.below bM)
  replace HT := Lib.hid (HT.out.below bM)
  have HQ := Lib.hid hq
  have HL := Lib.hid hL
  have hf := (largeB_false hL).2.2
  rw [hq] at hf
  have HF := Lib.hid hf
  clear hf
  have hp1 : decide ((k : Int) < 2) = false := decide_eq_false (by omega)
  have hp1' : decide (k < 2) = false := decide_eq_false (by omega)
  have hp2 : decide (8 < (k : Int)) = false := decide_eq_false (by omega)
  have hp2' : decide (8 < k) = false := decide_eq_false (by omega)
  have hp3 : decide ((p : Int) < 0) = false := decide_eq_false (by omega)
  have hp4 : decide (256 < (p : Int)) = false := decide_eq_false (by omega)
  have hp4' : decide (256 < p) = false := decide_eq_false (by omega)
  have hm := tmod_two k
  have hm2 : IntKind.i64.wrap ((k % 2 : Nat) : Int) = ((k % 2 : Nat) : Int) := wraps_i64 _ (by omega) (by omega)
  have HK2 := Lib.hid h2
  have HK8 := Lib.hid h8
  have HP := Lib.hid hp
  rw [hq] at hs
  have HNG := Lib.hid hs
  clear hs
  rw [hq] at hr
  have HR2 := Lib.hid hr
  obtain ⟨m, hmk⟩ : ∃ m, p * k = m := ⟨_, rfl⟩
  have hmi : (p : Int) * (k : Int) = (m : Int) := by rw [← hmk]; push_cast; rfl
  have hmb : m ≤ 2048 := by rw [← hmk]; exact Nat.mul_le_mul hp h8
  have HMK := Lib.hid hmk
  have u1 : IntKind.i64.wrap (m : Int) = (m : Int) := wrap_i64 _ (by omega) (by omega)
  have u2 : wrap64 (m : Int) = (m : Int) := by unfold wrap64; omega
  have u3 : IntKind.i64.wrap (p : Int) = (p : Int) := wrap_i64 _ (by omega) (by omega)
  have HXL := Lib.hid (show (W (q.num.natAbs * 2 ^ m)).length ≤ 200 by
    have e1 := W_mul_length q.num.natAbs (2 ^ m)
    have e2 := W_two_pow m
    have := HF.out.1
    omega)
  have HD := Lib.hid q.den_nz
  clear hr hmk
  rw [hq, HMK.out] at x1
  have HEX := Lib.hid x1
  clear x1
  rw [hq, HMK.out] at x2
  have HRE := Lib.hid x2
  clear x2
  have HFIN := Lib.hid (show mkRat (sg false (irt k (q.num.natAbs * 2 ^ m / q.den))) (1 * 2 ^ p) = r by
    rw [← HR2.out]
    unfold grtQ rootN
    rw [HNG.out, HMK.out, Nat.one_mul]
    have e1 := of_decide_eq_true HEX.out
    have e2 := of_decide_eq_true HRE.out
    rw [if_neg (by rw [e1, e2]; simp)]
    rw [Nat.add_zero])
  obtain ⟨o, ho⟩ : ∃ o, give r = o := ⟨_, rfl⟩
  have HO := Lib.hid ho
  rw [ho]
  clear hq hL k1 k3 bM ho
  go_enter Tryd.func79, Tryd.ntmps79
  go_upto_region 1 with (fail)
  rw [← hM]
  clear hM
  obtain ⟨x1, x2, x3, _, _, _⟩ := HX.out.cells
  go_wp2_with fail
  refine (readV _ s1 N1' D1' _ H1.out HT.out).mono ?_
  rw [HL.out, Bool.not_false]
  rintro e wa ⟨t1, B1, m1, d1, B1', m1', d1', rfl, f1, ba⟩
  have bb := below_step ba ba.size (below_alloc wa (.cells #[.bool t1, .slice B1 m1 d1, .slice B1' m1' d1'] 65))
  have hf1 := Box.new wa (.bool t1) (.slice B1 m1 d1) (.slice B1' m1' d1') 65
  have szw : w.heap.size + 1 < wa.heap.size := Nat.lt_of_lt_of_le (by obtain ⟨_, _, _, _, _, _, hh⟩ := HR.out; exact hh.lt) ba.size
  have TA : Hid (N1 w (wa.alloc (.cells #[.bool t1, .slice B1 m1 d1, .slice B1' m1' d1'] 65)) (w.heap.size + 1) wa.heap.size t1 B1 m1 d1 B1' m1' d1') :=
    Lib.hid ⟨HR.out.below bb, hf1, HT.out.below bb, below_step BM.out BM.out.size bb, by omega, by omega⟩
  have F1 : Hid (IsF (wa.alloc (.cells #[.bool t1, .slice B1 m1 d1, .slice B1' m1' d1'] 65)) (.agg #[.bool t1, .slice B1 m1 d1, .slice B1' m1' d1']) q) := Lib.hid (by rw [← HQ.out]; exact (f1.out rfl).below (below_alloc _ _))
  obtain ⟨w2, hw2⟩ : ∃ w2, wa.alloc (.cells #[.bool t1, .slice B1 m1 d1, .slice B1' m1' d1'] 65) = w2 := ⟨_, rfl⟩
  obtain ⟨gf, hgf⟩ : ∃ gf, wa.heap.size = gf := ⟨_, rfl⟩
  clear x1 x2 x3 ba bb f1 hf1 szw HR BM HX H1 HT
  go_upto_region 2 with (fail)
  rw [hw2] at TA F1
  try rw [hw2]
  rw [hgf] at TA
  try rw [hgf]
  clear hw2 hgf
  obtain ⟨y1, y2, y3, _⟩ := TA.out.box.cells
  obtain ⟨ht, a1, a2⟩ := F1.out.at_
  obtain rfl : t1 = false := ht.trans HNG.out
  have NA := Lib.hid a1
  have NB := Lib.hid a2
  clear ht a1 a2
  have T0 := Lib.hid (show NF w w2 (w.heap.size + 1) gf false B1 m1 d1 B1' m1' d1' q B1 m1 d1 q.num.natAbs from ⟨TA.out, NA.out, NB.out, NA.out, by omega⟩)
  go_wp2_with fail
  go_region_held3 (fun W' => (World.cell? W' ⟨gf, 0, none⟩ = some (.bool false) ∧ World.cell? W' ⟨gf, 1, none⟩ = some (.slice B1 m1 d1) ∧ World.cell? W' ⟨gf, 2, none⟩ = some (.slice B1' m1' d1') ∧ Hid (NF w W' (w.heap.size + 1) gf false B1 m1 d1 B1' m1' d1' q B1 m1 d1 (q.num.natAbs))))
    (with_reducible (first | assumption | exact T0.out.drew.cells | exact NF.next (by assumption) (by assumption) | exact NF.nextS (by assumption)))
    (first
       | (go_at_call 108
          refine (aShl _ m _ _ _ _ (NF.of (by assumption)).a (Nat.le_trans HF.out.1 (by omega)) (by omega)).mono ?_
          rintro e wb ⟨C1, x1, z1, rfl, i1, b1⟩)
       | (go_at_call 109
          refine (aDiv _ _ _ _ _ _ _ _ _ i1.out (NF.of (by assumption)).b (Nat.le_trans HXL.out (by omega)) (Nat.pos_of_ne_zero HD.out)).mono ?_
          rintro e wc ⟨C2, x2, z2, C3, x3, z3, rfl, i2, i3, b2⟩
          have hh := Lib.hid ((NF.of (by assumption)).below b2)))
  replace TA := Lib.hid hh.out.v
  replace NA := Lib.hid hh.out.a
  replace NB := Lib.hid hh.out.b
  clear hh T0 y1 y2 y3
  obtain ⟨y1, y2, y3, _⟩ := TA.out.box.cells
  go_wp2_with fail
  refine (aRoot _ k _ _ _ _ i2.out (Nat.le_trans (dig_length_mono B32_two (Nat.div_le_self _ _)) (Nat.le_trans HXL.out (by omega))) HK2.out (Nat.le_trans HK8.out (by omega))).mono ?_
  rw [HEX.out]
  rintro e wb ⟨C4, x4, z4, rfl, i4, bb⟩
  replace TA := Lib.hid (TA.out.below bb)
  replace NA := Lib.hid (NA.out.below bb)
  replace NB := Lib.hid (NB.out.below bb)
  replace i3 := Lib.hid (i3.out.below bb)
  clear bb y1 y2 y3
  obtain ⟨y1, y2, y3, _⟩ := TA.out.box.cells
  go_wp2_with fail
  refine (aZero _ _ _ _ _ i3.out).mono ?_
  rw [HRE.out]
  rintro e wb ⟨rfl, rfl⟩
  have LR := Lib.hid (show (W (irt k (q.num.natAbs * 2 ^ m / q.den))).length ≤ 200 from Nat.le_trans (dig_length_mono B32_two (Nat.le_trans (irt_self (Nat.lt_of_lt_of_le (by omega) HK2.out) _) (Nat.div_le_self _ _))) HXL.out)
  have L1 := Lib.hid (show (W 1).length ≤ 1 from (dig_length_le B32_two _ _).2 (by unfold B32; omega))
  have LQ := Lib.hid (show (W (irt k (q.num.natAbs * 2 ^ m / q.den))).length ≤ 300 by
    have e1 := LR.out
    have e2 := L1.out
    skip
    omega)
  have LP := Lib.hid (show (W (1 * 2 ^ p)).length ≤ 300 by
    have e2 := W_two_pow p
    have := HP.out
    rw [Nat.one_mul]
    omega)
  obtain ⟨rn, hrn⟩ : ∃ x, irt k (q.num.natAbs * 2 ^ m / q.den) = x := ⟨_, rfl⟩
  rw [hrn] at i4 LQ HFIN
  have T0 := Lib.hid (show NF w _ (w.heap.size + 1) gf false B1 m1 d1 B1' m1' d1' q C4 x4 z4 rn from ⟨TA.out, NA.out, NB.out, i4.out, by omega⟩)
  go_wp2_with fail
  go_region_held3 (fun W' => (World.cell? W' ⟨gf, 0, none⟩ = some (.bool false) ∧ World.cell? W' ⟨gf, 1, none⟩ = some (.slice B1 m1 d1) ∧ World.cell? W' ⟨gf, 2, none⟩ = some (.slice B1' m1' d1') ∧ Hid (NF w W' (w.heap.size + 1) gf false B1 m1 d1 B1' m1' d1' q C4 x4 z4 rn)))
    (with_reducible (first | assumption | exact T0.out.drew.cells | exact NF.next (by assumption) (by assumption) | exact NF.nextS (by assumption)))
    (first
       | (go_at_call 94
          refine (aSmall1 _).mono ?_
          rintro e wb ⟨C7, x7, z7, rfl, i7, b7⟩)
       | (go_at_call 108
          refine (aShl _ p _ _ _ _ i7.out (Nat.le_trans L1.out (by omega)) (Nat.le_trans HP.out (by omega))).mono ?_
          rintro e wc ⟨C8, x8, z8, rfl, i8, b8⟩)
       | (go_at_call 92
          refine (aReduce false _ _ _ _ _ _ _ _ _ (NF.of (by assumption)).c i8.out (by rw [Nat.one_mul]; exact Nat.ne_of_gt (Nat.two_pow_pos p)) (Nat.le_trans LQ.out (by omega)) (Nat.le_trans LP.out (by omega)) (NF.of (by assumption)).v.tab r HFIN.out).mono ?_
          rintro e wd ⟨t9, B9, m9, d9, B9', m9', d9', rfl, i9, b9⟩)
       | (go_at_call 57
          refine (giveF _ _ _ i9.out).mono ?_
          rintro e we ⟨s9, A9, n9, c9, A9', n9', c9', k9, rfl, h9, b10⟩
          have hh := (NF.of (by assumption)).below b10
          obtain ⟨z1, z2, z3, hz1, hz2, hz3, k1, k2, k3⟩ := hh.v.res.cells))
  obtain ⟨q0, q1, q2, hs, hb⟩ := OutIs.stored h9 hh.v.res hh.v.bel hh.v.n3
  have Q := Lib.hid (And.intro q0 (And.intro q1 q2))
  have HS := Lib.hid hs
  have HBB := Lib.hid hb
  clear q0 q1 q2 hs hb h9
  go_wp2
  obtain ⟨q0, q1, q2⟩ := Q.out
  refine bodyPost_ret (v := .tuple #[.agg #[.bool s9, .slice A9 n9 c9, .slice A9' n9' c9'], .int .i64 k9]) (by simp [results, Tryd.results79, go_sem, q0, q1, q2]) rfl ?_
  rw [← HO.out]
  exact ⟨_, _, _, _, _, _, _, _, rfl, HS.out, HBB.out⟩
set_option maxHeartbeats 2000000 in
set_option maxRecDepth 100000 in
theorem nroot_false_true_rest (s1 : Bool) (N1' D1' : Nat) (k p : Nat) (h2 : 2 ≤ k) (h8 : k ≤ 8) (hp : p ≤ 256) (hs : ng (ratOf s1 N1' D1') = false) (x1 : decide (irt k ((ratOf s1 N1' D1').num.natAbs * 2 ^ (p * k) / (ratOf s1 N1' D1').den) ^ k = (ratOf s1 N1' D1').num.natAbs * 2 ^ (p * k) / (ratOf s1 N1' D1').den) = true) (x2 : decide ((ratOf s1 N1' D1').num.natAbs * 2 ^ (p * k) % (ratOf s1 N1' D1').den = 0) = false) (r : Rat) (hr : grtQ (ratOf s1 N1' D1') k p true = r) (w : World) (v1 : Value) (h1 : RawV w v1 s1 N1' D1') (hT : Tab w) (q : Rat) (hq : ratOf s1 N1' D1' = q) (hL : largeB s1 N1' D1' = false) :
    Calls Tryd.prog 79 #[v1, .int .i64 (k : Int), .int .i64 (p : Int), .bool true] w (OutPost w (give r)) := by
  have H1 := Lib.hid h1
  have HT := Lib.hid hT
  obtain ⟨A1, n1, c1, A1', n1', c1', rfl⟩ := h1.shape
  clear h1 hT
  obtain ⟨M, hM, k1, k3, bM⟩ := start1 w (.bool s1) (.slice A1 n1 c1) (.slice A1' n1' c1') (.bool false) (.slice none 0 0) (.slice none 0 0) 24 24
  have HX := Lib.hid k1
  have HR := Lib.hid (show Res M (w.heap.size + 1) 24 from ⟨_, _, _, NI.bool _, NI.slice _ _ _, NI.slice _ _ _, k3⟩)
  have BM := Lib.hid bM
  replace H1 := Lib.hid (H1.out.below bM)
  replace HT := Lib.hid (HT.out.below bM)
  have HQ := Lib.hid hq
  have HL := Lib.hid hL
  have hf := (largeB_false hL).2.2
  rw [hq] at hf
  have HF := Lib.hid hf
  clear hf
  have hp1 : decide ((k : Int) < 2) = false := decide_eq_false (by omega)
  have hp1' : decide (k < 2) = false := decide_eq_false (by omega)
  have hp2 : decide (8 < (k : Int)) = false := decide_eq_false (by omega)
  have hp2' : decide (8 < k) = false := decide_eq_false (by omega)
  have hp3 : decide ((p : Int) < 0) = false := decide_eq_false (by omega)
  have hp4 : decide (256 < (p : Int)) = false := decide_eq_false (by omega)
  have hp4' : decide (256 < p) = false := decide_eq_false (by omega)
  have hm := tmod_two k
  have hm2 : IntKind.i64.wrap ((k % 2 : Nat) : Int) = ((k % 2 : Nat) : Int) := wraps_i64 _ (by omega) (by omega)
  have HK2 := Lib.hid h2
  have HK8 := Lib.hid h8
  have HP := Lib.hid hp
  rw [hq] at hs
  have HNG := Lib.hid hs
  clear hs
  rw [hq] at hr
  have HR2 := Lib.hid hr
  obtain ⟨m, hmk⟩ : ∃ m, p * k = m := ⟨_, rfl⟩
  have hmi : (p : Int) * (k : Int) = (m : Int) := by rw [← hmk]; push_cast; rfl
  have hmb : m ≤ 2048 := by rw [← hmk]; exact Nat.mul_le_mul hp h8
  have HMK := Lib.hid hmk
  have u1 : IntKind.i64.wrap (m : Int) = (m : Int) := wrap_i64 _ (by omega) (by omega)
  have u2 : wrap64 (m : Int) = (m : Int) := by unfold wrap64; omega
  have u3 : IntKind.i64.wrap (p : Int) = (p : Int) := wrap_i64 _ (by omega) (by omega)
  have HXL := Lib.hid (show (W (q.num.natAbs * 2 ^ m)).length ≤ 200 by
    have e1 := W_mul_length q.num.natAbs (2 ^ m)
    have e2 := W_two_pow m
    have := HF.out.1
    omega)
  have HD := Lib.hid q.den_nz
  clear hr hmk
  rw [hq, HMK.out] at x1
  have HEX := Lib.hid x1
  clear x1
  rw [hq, HMK.out] at x2
  have HRE := Lib.hid x2
  clear x2
  have HFIN := Lib.hid (show mkRat (sg false (irt k (q.num.natAbs * 2 ^ m / q.den) + 1)) (1 * 2 ^ p) = r by
    rw [← HR2.out]
    unfold grtQ rootN
    rw [HNG.out, HMK.out, Nat.one_mul]
    have e1 := of_decide_eq_true HEX.out
    have e2 := of_decide_eq_false HRE.out
    rw [if_pos ⟨rfl, by simp [e2]⟩])
  obtain ⟨o, ho⟩ : ∃ o, give r = o := ⟨_, rfl⟩
  have HO := Lib.hid ho
  rw [ho]
  clear hq hL k1 k3 bM ho
  go_enter Tryd.func79, Tryd.ntmps79
  go_upto_region 1 with (fail)
  rw [← hM]
  clear hM
  obtain ⟨x1, x2, x3, _, _, _⟩ := HX.out.cells
  go_wp2_with fail
  refine (readV _ s1 N1' D1' _ H1.out HT.out).mono ?_
  rw [HL.out, Bool.not_false]
  rintro e wa ⟨t1, B1, m1, d1, B1', m1', d1', rfl, f1, ba⟩
  have bb := below_step ba ba.size (below_alloc wa (.cells #[.bool t1, .slice B1 m1 d1, .slice B1' m1' d1'] 65))
  have hf1 := Box.new wa (.bool t1) (.slice B1 m1 d1) (.slice B1' m1' d1') 65
  have szw : w.heap.size + 1 < wa.heap.size := Nat.lt_of_lt_of_le (by obtain ⟨_, _, _, _, _, _, hh⟩ := HR.out; exact hh.lt) ba.size
  have TA : Hid (N1 w (wa.alloc (.cells #[.bool t1, .slice B1 m1 d1, .slice B1' m1' d1'] 65)) (w.heap.size + 1) wa.heap.size t1 B1 m1 d1 B1' m1' d1') :=
    Lib.hid ⟨HR.out.below bb, hf1, HT.out.below bb, below_step BM.out BM.out.size bb, by omega, by omega⟩
  have F1 : Hid (IsF (wa.alloc (.cells #[.bool t1, .slice B1 m1 d1, .slice B1' m1' d1'] 65)) (.agg #[.bool t1, .slice B1 m1 d1, .slice B1' m1' d1']) q) := Lib.hid (by rw [← HQ.out]; exact (f1.out rfl).below (below_alloc _ _))
  obtain ⟨w2, hw2⟩ : ∃ w2, wa.alloc (.cells #[.bool t1, .slice B1 m1 d1, .slice B1' m1' d1'] 65) = w2 := ⟨_, rfl⟩
  obtain ⟨gf, hgf⟩ : ∃ gf, wa.heap.size = gf := ⟨_, rfl⟩
  clear x1 x2 x3 ba bb f1 hf1 szw HR BM HX H1 HT
  go_upto_region 2 with (fail)
  rw [hw2] at TA F1
  try rw [hw2]
  rw [hgf] at TA
  try rw [hgf]
  clear hw2 hgf
  obtain ⟨y1, y2, y3, _⟩ := TA.out.box.cells
  obtain ⟨ht, a1, a2⟩ := F1.out.at_
  obtain rfl : t1 = false := ht.trans HNG.out
  have NA := Lib.hid a1
  have NB := Lib.hid a2
  clear ht a1 a2
  have T0 := Lib.hid (show NF w w2 (w.heap.size + 1) gf false B1 m1 d1 B1' m1' d1' q B1 m1 d1 q.num.natAbs from ⟨TA.out, NA.out, NB.out, NA.out, by omega⟩)
  go_wp2_with fail
  go_region_held3 (fun W' => (World.cell? W' ⟨gf, 0, none⟩ = some (.bool false) ∧ World.cell? W' ⟨gf, 1, none⟩ = some (.slice B1 m1 d1) ∧ World.cell? W' ⟨gf, 2, none⟩ = some (.slice B1' m1' d1') ∧ Hid (NF w W' (w.heap.size + 1) gf false B1 m1 d1 B1' m1' d1' q B1 m1 d1 (q.num.natAbs))))
    (with_reducible (first | assumption | exact T0.out.drew.cells | exact NF.next (by assumption) (by assumption) | exact NF.nextS (by assumption)))
    (first
       | (go_at_call 108
          refine (aShl _ m _ _ _ _ (NF.of (by assumption)).a (Nat.le_trans HF.out.1 (by omega)) (by omega)).mono ?_
          rintro e wb ⟨C1, x1, z1, rfl, i1, b1⟩)
       | (go_at_call 109
          refine (aDiv _ _ _ _ _ _ _ _ _ i1.out (NF.of (by assumption)).b (Nat.le_trans HXL.out (by omega)) (Nat.pos_of_ne_zero HD.out)).mono ?_
          rintro e wc ⟨C2, x2, z2, C3, x3, z3, rfl, i2, i3, b2⟩
          have hh := Lib.hid ((NF.of (by assumption)).below b2)))
  replace TA := Lib.hid hh.out.v
  replace NA := Lib.hid hh.out.a
  replace NB := Lib.hid hh.out.b
  clear hh T0 y1 y2 y3
  obtain ⟨y1, y2, y3, _⟩ := TA.out.box.cells
  go_wp2_with fail
  refine (aRoot _ k _ _ _ _ i2.out (Nat.le_trans (dig_length_mono B32_two (Nat.div_le_self _ _)) (Nat.le_trans HXL.out (by omega))) HK2.out (Nat.le_trans HK8.out (by omega))).mono ?_
  rw [HEX.out]
  rintro e wb ⟨C4, x4, z4, rfl, i4, bb⟩
  replace TA := Lib.hid (TA.out.below bb)
  replace NA := Lib.hid (NA.out.below bb)
  replace NB := Lib.hid (NB.out.below bb)
  replace i3 := Lib.hid (i3.out.below bb)
  clear bb y1 y2 y3
  obtain ⟨y1, y2, y3, _⟩ := TA.out.box.cells
  go_wp2_with fail
  refine (aZero _ _ _ _ _ i3.out).mono ?_
  rw [HRE.out]
  rintro e wb ⟨rfl, rfl⟩
  have LR := Lib.hid (show (W (irt k (q.num.natAbs * 2 ^ m / q.den))).length ≤ 200 from Nat.le_trans (dig_length_mono B32_two (Nat.le_trans (irt_self (Nat.lt_of_lt_of_le (by omega) HK2.out) _) (Nat.div_le_self _ _))) HXL.out)
  have L1 := Lib.hid (show (W 1).length ≤ 1 from (dig_length_le B32_two _ _).2 (by unfold B32; omega))
  go_wp2_with fail
  refine (aSmall1 _).mono ?_
  rintro e wb ⟨C5, x5, z5, rfl, i5, bb⟩
  replace TA := Lib.hid (TA.out.below bb)
  replace NA := Lib.hid (NA.out.below bb)
  replace NB := Lib.hid (NB.out.below bb)
  replace i4 := Lib.hid (i4.out.below bb)
  clear bb y1 y2 y3
  obtain ⟨y1, y2, y3, _⟩ := TA.out.box.cells
  go_wp2_with fail
  refine (aAdd _ _ _ _ _ _ _ _ _ i4.out i5.out (Nat.le_trans LR.out (by omega)) (Nat.le_trans L1.out (by omega))).mono ?_
  rintro e wb ⟨C6, x6, z6, rfl, i6, bb⟩
  replace TA := Lib.hid (TA.out.below bb)
  replace NA := Lib.hid (NA.out.below bb)
  replace NB := Lib.hid (NB.out.below bb)
  clear bb y1 y2 y3
  obtain ⟨y1, y2, y3, _⟩ := TA.out.box.cells
  have LQ := Lib.hid (show (W (irt k (q.num.natAbs * 2 ^ m / q.den) + 1)).length ≤ 300 by
    have e1 := LR.out
    have e2 := L1.out
    have e3 := W_add_length (irt k (q.num.natAbs * 2 ^ m / q.den)) 1
    omega)
  have LP := Lib.hid (show (W (1 * 2 ^ p)).length ≤ 300 by
    have e2 := W_two_pow p
    have := HP.out
    rw [Nat.one_mul]
    omega)
  obtain ⟨rn, hrn⟩ : ∃ x, irt k (q.num.natAbs * 2 ^ m / q.den) + 1 = x := ⟨_, rfl⟩
  rw [hrn] at i6 LQ HFIN
  have T0 := Lib.hid (show NF w _ (w.heap.size + 1) gf false B1 m1 d1 B1' m1' d1' q C6 x6 z6 rn from ⟨TA.out, NA.out, NB.out, i6.out, by omega⟩)
  go_wp2_with fail
  go_region_held3 (fun W' => (World.cell? W' ⟨gf, 0, none⟩ = some (.bool false) ∧ World.cell? W' ⟨gf, 1, none⟩ = some (.slice B1 m1 d1) ∧ World.cell? W' ⟨gf, 2, none⟩ = some (.slice B1' m1' d1') ∧ Hid (NF w W' (w.heap.size + 1) gf false B1 m1 d1 B1' m1' d1' q C6 x6 z6 rn)))
    (with_reducible (first | assumption | exact T0.out.drew.cells | exact NF.next (by assumption) (by assumption) | exact NF.nextS (by assumption)))
    (first
       | (go_at_call 94
          refine (aSmall1 _).mono ?_
          rintro e wb ⟨C7, x7, z7, rfl, i7, b7⟩)
       | (go_at_call 108
          refine (aShl _ p _ _ _ _ i7.out (Nat.le_trans L1.out (by omega)) (Nat.le_trans HP.out (by omega))).mono ?_
          rintro e wc ⟨C8, x8, z8, rfl, i8, b8⟩)
       | (go_at_call 92
          refine (aReduce false _ _ _ _ _ _ _ _ _ (NF.of (by assumption)).c i8.out (by rw [Nat.one_mul]; exact Nat.ne_of_gt (Nat.two_pow_pos p)) (Nat.le_trans LQ.out (by omega)) (Nat.le_trans LP.out (by omega)) (NF.of (by assumption)).v.tab r HFIN.out).mono ?_
          rintro e wd ⟨t9, B9, m9, d9, B9', m9', d9', rfl, i9, b9⟩)
       | (go_at_call 57
          refine (giveF _ _ _ i9.out).mono ?_
          rintro e we ⟨s9, A9, n9, c9, A9', n9', c9', k9, rfl, h9, b10⟩
          have hh := (NF.of (by assumption)).below b10
          obtain ⟨z1, z2, z3, hz1, hz2, hz3, k1, k2, k3⟩ := hh.v.res.cells))
  obtain ⟨q0, q1, q2, hs, hb⟩ := OutIs.stored h9 hh.v.res hh.v.bel hh.v.n3
  have Q := Lib.hid (And.intro q0 (And.intro q1 q2))
  have HS := Lib.hid hs
  have HBB := Lib.hid hb
  clear q0 q1 q2 hs hb h9
  go_wp2
  obtain ⟨q0, q1, q2⟩ := Q.out
  refine bodyPost_ret (v := .tuple #[.agg #[.bool s9, .slice A9 n9 c9, .slice A9' n9' c9'], .int .i64 k9]) (by simp [results, Tryd.results79, go_sem, q0, q1, q2]) rfl ?_
  rw [← HO.out]
  exact ⟨_, _, _, _, _, _, _, _, rfl, HS.out, HBB.out⟩
set_option maxHeartbeats 2000000 in
set_option maxRecDepth 100000 in
theorem nroot_false_true_inexact (s1 : Bool) (N1' D1' : Nat) (k p : Nat) (h2 : 2 ≤ k) (h8 : k ≤ 8) (hp : p ≤ 256) (hs : ng (ratOf s1 N1' D1') = false) (x1 : decide (irt k ((ratOf s1 N1' D1').num.natAbs * 2 ^ (p * k) / (ratOf s1 N1' D1').den) ^ k = (ratOf s1 N1' D1').num.natAbs * 2 ^ (p * k) / (ratOf s1 N1' D1').den) = false) (r : Rat) (hr : grtQ (ratOf s1 N1' D1') k p true = r) (w : World) (v1 : Value) (h1 : RawV w v1 s1 N1' D1') (hT : Tab w) (q : Rat) (hq : ratOf s1 N1' D1' = q) (hL : largeB s1 N1' D1' = false) :
    Calls Tryd.prog 79 #[v1, .int .i64 (k : Int), .int .i64 (p : Int), .bool true] w (OutPost w (give r)) := by
  have H1 := Lib.hid h1
  have HT := Lib.hid hT
  obtain ⟨A1, n1, c1, A1', n1', c1', rfl⟩ := h1.shape
  clear h1 hT
  obtain ⟨M, hM, k1, k3, bM⟩ := start1 w (.bool s1) (.slice A1 n1 c1) (.slice A1' n1' c1') (.bool false) (.slice none 0 0) (.slice none 0 0) 24 24
  have HX := Lib.hid k1
  have HR := Lib.hid (show Res M (w.heap.size + 1) 24 from ⟨_, _, _, NI.bool _, NI.slice _ _ _, NI.slice _ _ _, k3⟩)
  have BM := Lib.hid bM
  replace H1 := Lib.hid (H1.out.below bM)
  replace HT := Lib.hid (HT.out.below bM)
  have HQ := Lib.hid hq
  have HL := Lib.hid hL
  have hf := (largeB_false hL).2.2
  rw [hq] at hf
  have HF := Lib.hid hf
  clear hf
  have hp1 : decide ((k : Int) < 2) = false := decide_eq_false (by omega)
  have hp1' : decide (k < 2) = false := decide_eq_false (by omega)
  have hp2 : decide (8 < (k : Int)) = false := decide_eq_false (by omega)
  have hp2' : decide (8 < k) = false := decide_eq_false (by omega)
  have hp3 : decide ((p : Int) < 0) = false := decide_eq_false (by omega)
  have hp4 : decide (256 < (p : Int)) = false := decide_eq_false (by omega)
  have hp4' : decide (256 < p) = false := decide_eq_false (by omega)
  have hm := tmod_two k
  have hm2 : IntKind.i64.wrap ((k % 2 : Nat) : Int) = ((k % 2 : Nat) : Int) := wraps_i64 _ (by omega) (by omega)
  have HK2 := Lib.hid h2
  have HK8 := Lib.hid h8
  have HP := Lib.hid hp
  rw [hq] at hs
  have HNG := Lib.hid hs
  clear hs
  rw [hq] at hr
  have HR2 := Lib.hid hr
  obtain ⟨m, hmk⟩ : ∃ m, p * k = m := ⟨_, rfl⟩
  have hmi : (p : Int) * (k : Int) = (m : Int) := by rw [← hmk]; push_cast; rfl
  have hmb : m ≤ 2048 := by rw [← hmk]; exact Nat.mul_le_mul hp h8
  have HMK := Lib.hid hmk
  have u1 : IntKind.i64.wrap (m : Int) = (m : Int) := wrap_i64 _ (by omega) (by omega)
  have u2 : wrap64 (m : Int) = (m : Int) := by unfold wrap64; omega
  have u3 : IntKind.i64.wrap (p : Int) = (p : Int) := wrap_i64 _ (by omega) (by omega)
  have HXL := Lib.hid (show (W (q.num.natAbs * 2 ^ m)).length ≤ 200 by
    have e1 := W_mul_length q.num.natAbs (2 ^ m)
    have e2 := W_two_pow m
    have := HF.out.1
    omega)
  have HD := Lib.hid q.den_nz
  clear hr hmk
  rw [hq, HMK.out] at x1
  have HEX := Lib.hid x1
  clear x1
  have HFIN := Lib.hid (show mkRat (sg false (irt k (q.num.natAbs * 2 ^ m / q.den) + 1)) (1 * 2 ^ p) = r by
    rw [← HR2.out]
    unfold grtQ rootN
    rw [HNG.out, HMK.out, Nat.one_mul]
    have e1 := of_decide_eq_false HEX.out
    rw [if_pos ⟨rfl, by simp [e1]⟩])
  obtain ⟨o, ho⟩ : ∃ o, give r = o := ⟨_, rfl⟩
  have HO := Lib.hid ho
  rw [ho]
  clear hq hL k1 k3 bM ho
  go_enter Tryd.func79, Tryd.ntmps79
  go_upto_region 1 with (fail)
  rw [← hM]
  clear hM
  obtain ⟨x1, x2, x3, _, _, _⟩ := HX.out.cells
  go_wp2_with fail
  refine (readV _ s1 N1' D1' _ H1.out HT.out).mono ?_
  rw [HL.out, Bool.not_false]
  rintro e wa ⟨t1, B1, m1, d1, B1', m1', d1', rfl, f1, ba⟩
  have bb := below_step ba ba.size (below_alloc wa (.cells #[.bool t1, .slice B1 m1 d1, .slice B1' m1' d1'] 65))
  have hf1 := Box.new wa (.bool t1) (.slice B1 m1 d1) (.slice B1' m1' d1') 65
  have szw : w.heap.size + 1 < wa.heap.size := Nat.lt_of_lt_of_le (by obtain ⟨_, _, _, _, _, _, hh⟩ := HR.out; exact hh.lt) ba.size
  have TA : Hid (N1 w (wa.alloc (.cells #[.bool t1, .slice B1 m1 d1, .slice B1' m1' d1'] 65)) (w.heap.size + 1) wa.heap.size t1 B1 m1 d1 B1' m1' d1') :=
    Lib.hid ⟨HR.out.below bb, hf1, HT.out.below bb, below_step BM.out BM.out.size bb, by omega, by omega⟩
  have F1 : Hid (IsF (wa.alloc (.cells #[.bool t1, .slice B1 m1 d1, .slice B1' m1' d1'] 65)) (.agg #[.bool t1, .slice B1 m1 d1, .slice B1' m1' d1']) q) := Lib.hid (by rw [← HQ.out]; exact (f1.out rfl).below (below_alloc _ _))
  obtain ⟨w2, hw2⟩ : ∃ w2, wa.alloc (.cells #[.bool t1, .slice B1 m1 d1, .slice B1' m1' d1'] 65) = w2 := ⟨_, rfl⟩
  obtain ⟨gf, hgf⟩ : ∃ gf, wa.heap.size = gf := ⟨_, rfl⟩
  clear x1 x2 x3 ba bb f1 hf1 szw HR BM HX H1 HT
  go_upto_region 2 with (fail)
  rw [hw2] at TA F1
  try rw [hw2]
  rw [hgf] at TA
  try rw [hgf]
  clear hw2 hgf
  obtain ⟨y1, y2, y3, _⟩ := TA.out.box.cells
  obtain ⟨ht, a1, a2⟩ := F1.out.at_
  obtain rfl : t1 = false := ht.trans HNG.out
  have NA := Lib.hid a1
  have NB := Lib.hid a2
  clear ht a1 a2
  have T0 := Lib.hid (show NF w w2 (w.heap.size + 1) gf false B1 m1 d1 B1' m1' d1' q B1 m1 d1 q.num.natAbs from ⟨TA.out, NA.out, NB.out, NA.out, by omega⟩)
  go_wp2_with fail
  go_region_held3 (fun W' => (World.cell? W' ⟨gf, 0, none⟩ = some (.bool false) ∧ World.cell? W' ⟨gf, 1, none⟩ = some (.slice B1 m1 d1) ∧ World.cell? W' ⟨gf, 2, none⟩ = some (.slice B1' m1' d1') ∧ Hid (NF w W' (w.heap.size + 1) gf false B1 m1 d1 B1' m1' d1' q B1 m1 d1 (q.num.natAbs))))
    (with_reducible (first | assumption | exact T0.out.drew.cells | exact NF.next (by assumption) (by assumption) | exact NF.nextS (by assumption)))
    (first
       | (go_at_call 108
          refine (aShl _ m _ _ _ _ (NF.of (by assumption)).a (Nat.le_trans HF.out.1 (by omega)) (by omega)).mono ?_
          rintro e wb ⟨C1, x1, z1, rfl, i1, b1⟩)
       | (go_at_call 109
          refine (aDiv _ _ _ _ _ _ _ _ _ i1.out (NF.of (by assumption)).b (Nat.le_trans HXL.out (by omega)) (Nat.pos_of_ne_zero HD.out)).mono ?_
          rintro e wc ⟨C2, x2, z2, C3, x3, z3, rfl, i2, i3, b2⟩
          have hh := Lib.hid ((NF.of (by assumption)).below b2)))
  replace TA := Lib.hid hh.out.v
  replace NA := Lib.hid hh.out.a
  replace NB := Lib.hid hh.out.b
  clear hh T0 y1 y2 y3
  obtain ⟨y1, y2, y3, _⟩ := TA.out.box.cells
  go_wp2_with fail
  refine (aRoot _ k _ _ _ _ i2.out (Nat.le_trans (dig_length_mono B32_two (Nat.div_le_self _ _)) (Nat.le_trans HXL.out (by omega))) HK2.out (Nat.le_trans HK8.out (by omega))).mono ?_
  rw [HEX.out]
  rintro e wb ⟨C4, x4, z4, rfl, i4, bb⟩
  replace TA := Lib.hid (TA.out.below bb)
  replace NA := Lib.hid (NA.out.below bb)
  replace NB := Lib.hid (NB.out.below bb)
  replace i3 := Lib.hid (i3.out.below bb)
  clear bb y1 y2 y3
  obtain ⟨y1, y2, y3, _⟩ := TA.out.box.cells
  have LR := Lib.hid (show (W (irt k (q.num.natAbs * 2 ^ m / q.den))).length ≤ 200 from Nat.le_trans (dig_length_mono B32_two (Nat.le_trans (irt_self (Nat.lt_of_lt_of_le (by omega) HK2.out) _) (Nat.div_le_self _ _))) HXL.out)
  have L1 := Lib.hid (show (W 1).length ≤ 1 from (dig_length_le B32_two _ _).2 (by unfold B32; omega))
  go_wp2_with fail
  refine (aSmall1 _).mono ?_
  rintro e wb ⟨C5, x5, z5, rfl, i5, bb⟩
  replace TA := Lib.hid (TA.out.below bb)
  replace NA := Lib.hid (NA.out.below bb)
  replace NB := Lib.hid (NB.out.below bb)
  replace i4 := Lib.hid (i4.out.below bb)
  clear bb y1 y2 y3
  obtain ⟨y1, y2, y3, _⟩ := TA.out.box.cells
  go_wp2_with fail
  refine (aAdd _ _ _ _ _ _ _ _ _ i4.out i5.out (Nat.le_trans LR.out (by omega)) (Nat.le_trans L1.out (by omega))).mono ?_
  rintro e wb ⟨C6, x6, z6, rfl, i6, bb⟩
  replace TA := Lib.hid (TA.out.below bb)
  replace NA := Lib.hid (NA.out.below bb)
  replace NB := Lib.hid (NB.out.below bb)
  clear bb y1 y2 y3
  obtain ⟨y1, y2, y3, _⟩ := TA.out.box.cells
  have LQ := Lib.hid (show (W (irt k (q.num.natAbs * 2 ^ m / q.den) + 1)).length ≤ 300 by
    have e1 := LR.out
    have e2 := L1.out
    have e3 := W_add_length (irt k (q.num.natAbs * 2 ^ m / q.den)) 1
    omega)
  have LP := Lib.hid (show (W (1 * 2 ^ p)).length ≤ 300 by
    have e2 := W_two_pow p
    have := HP.out
    rw [Nat.one_mul]
    omega)
  obtain ⟨rn, hrn⟩ : ∃ x, irt k (q.num.natAbs * 2 ^ m / q.den) + 1 = x := ⟨_, rfl⟩
  rw [hrn] at i6 LQ HFIN
  have T0 := Lib.hid (show NF w _ (w.heap.size + 1) gf false B1 m1 d1 B1' m1' d1' q C6 x6 z6 rn from ⟨TA.out, NA.out, NB.out, i6.out, by omega⟩)
  go_wp2_with fail
  go_region_held3 (fun W' => (World.cell? W' ⟨gf, 0, none⟩ = some (.bool false) ∧ World.cell? W' ⟨gf, 1, none⟩ = some (.slice B1 m1 d1) ∧ World.cell? W' ⟨gf, 2, none⟩ = some (.slice B1' m1' d1') ∧ Hid (NF w W' (w.heap.size + 1) gf false B1 m1 d1 B1' m1' d1' q C6 x6 z6 rn)))
    (with_reducible (first | assumption | exact T0.out.drew.cells | exact NF.next (by assumption) (by assumption) | exact NF.nextS (by assumption)))
    (first
       | (go_at_call 94
          refine (aSmall1 _).mono ?_
          rintro e wb ⟨C7, x7, z7, rfl, i7, b7⟩)
       | (go_at_call 108
          refine (aShl _ p _ _ _ _ i7.out (Nat.le_trans L1.out (by omega)) (Nat.le_trans HP.out (by omega))).mono ?_
          rintro e wc ⟨C8, x8, z8, rfl, i8, b8⟩)
       | (go_at_call 92
          refine (aReduce false _ _ _ _ _ _ _ _ _ (NF.of (by assumption)).c i8.out (by rw [Nat.one_mul]; exact Nat.ne_of_gt (Nat.two_pow_pos p)) (Nat.le_trans LQ.out (by omega)) (Nat.le_trans LP.out (by omega)) (NF.of (by assumption)).v.tab r HFIN.out).mono ?_
          rintro e wd ⟨t9, B9, m9, d9, B9', m9', d9', rfl, i9, b9⟩)
       | (go_at_call 57
          refine (giveF _ _ _ i9.out).mono ?_
          rintro e we ⟨s9, A9, n9, c9, A9', n9', c9', k9, rfl, h9, b10⟩
          have hh := (NF.of (by assumption)).below b10
          obtain ⟨z1, z2, z3, hz1, hz2, hz3, k1, k2, k3⟩ := hh.v.res.cells))
  obtain ⟨q0, q1, q2, hs, hb⟩ := OutIs.stored h9 hh.v.res hh.v.bel hh.v.n3
  have Q := Lib.hid (And.intro q0 (And.intro q1 q2))
  have HS := Lib.hid hs
  have HBB := Lib.hid hb
  clear q0 q1 q2 hs hb h9
  go_wp2
  obtain ⟨q0, q1, q2⟩ := Q.out
  refine bodyPost_ret (v := .tuple #[.agg #[.bool s9, .slice A9 n9 c9, .slice A9' n9' c9'], .int .i64 k9]) (by simp [results, Tryd.results79, go_sem, q0, q1, q2]) rfl ?_
  rw [← HO.out]
  exact ⟨_, _, _, _, _, _, _, _, rfl, HS.out, HBB.out⟩
set_option maxHeartbeats 2000000 in
set_option maxRecDepth 100000 in
theorem nroot_true_false_exact (s1 : Bool) (N1' D1' : Nat) (k p : Nat) (h2 : 2 ≤ k) (h8 : k ≤ 8) (hp : p ≤ 256) (hs : ng (ratOf s1 N1' D1') = true) (ho : k % 2 = 1) (x1 : decide (irt k ((ratOf s1 N1' D1').num.natAbs * 2 ^ (p * k) / (ratOf s1 N1' D1').den) ^ k = (ratOf s1 N1' D1').num.natAbs * 2 ^ (p * k) / (ratOf s1 N1' D1').den) = true) (x2 : decide ((ratOf s1 N1' D1').num.natAbs * 2 ^ (p * k) % (ratOf s1 N1' D1').den = 0) = true) (r : Rat) (hr : grtQ (ratOf s1 N1' D1') k p false = r) (w : World) (v1 : Value) (h1 : RawV w v1 s1 N1' D1') (hT : Tab w) (q : Rat) (hq : ratOf s1 N1' D1' = q) (hL : largeB s1 N1' D1' = false) :
    Calls Tryd.prog 79 #[v1, .int .i64 (k : Int), .int .i64 (p : Int), .bool false] w (OutPost w (give r)) := by
  have H1 := Lib.hid h1
  have HT := Lib.hid hT
  obtain ⟨A1, n1, c1, A1', n1', c1', rfl⟩ := h1.shape
  clear h1 hT
  obtain ⟨M, hM, k1, k3, bM⟩ := start1 w (.bool s1) (.slice A1 n1 c1) (.slice A1' n1' c1') (.bool false) (.slice none 0 0) (.slice none 0 0) 24 24
  have HX := Lib.hid k1
  have HR := Lib.hid (show Res M (w.heap.size + 1) 24 from ⟨_, _, _, NI.bool _, NI.slice _ _ _, NI.slice _ _ _, k3⟩)
  have BM := Lib.hid bM
  replace H1 := Lib.hid (H1.out.below bM)
  replace HT := Lib.hid (HT.out.below bM)
  have HQ := Lib.hid hq
  have HL := Lib.hid hL
  have hf := (largeB_false hL).2.2
  rw [hq] at hf
  have HF := Lib.hid hf
  clear hf
  have hp1 : decide ((k : Int) < 2) = false := decide_eq_false (by omega)
  have hp1' : decide (k < 2) = false := decide_eq_false (by omega)
  have hp2 : decide (8 < (k : Int)) = false := decide_eq_false (by omega)
  have hp2' : decide (8 < k) = false := decide_eq_false (by omega)
  have hp3 : decide ((p : Int) < 0) = false := decide_eq_false (by omega)
  have hp4 : decide (256 < (p : Int)) = false := decide_eq_false (by omega)
  have hp4' : decide (256 < p) = false := decide_eq_false (by omega)
  have hm := tmod_two k
  have hm2 : IntKind.i64.wrap ((k % 2 : Nat) : Int) = ((k % 2 : Nat) : Int) := wraps_i64 _ (by omega) (by omega)
  have HK2 := Lib.hid h2
  have HK8 := Lib.hid h8
  have HP := Lib.hid hp
  rw [hq] at hs
  have HNG := Lib.hid hs
  clear hs
  rw [ho] at hm hm2
  clear ho
  rw [hq] at hr
  have HR2 := Lib.hid hr
  obtain ⟨m, hmk⟩ : ∃ m, p * k = m := ⟨_, rfl⟩
  have hmi : (p : Int) * (k : Int) = (m : Int) := by rw [← hmk]; push_cast; rfl
  have hmb : m ≤ 2048 := by rw [← hmk]; exact Nat.mul_le_mul hp h8
  have HMK := Lib.hid hmk
  have u1 : IntKind.i64.wrap (m : Int) = (m : Int) := wrap_i64 _ (by omega) (by omega)
  have u2 : wrap64 (m : Int) = (m : Int) := by unfold wrap64; omega
  have u3 : IntKind.i64.wrap (p : Int) = (p : Int) := wrap_i64 _ (by omega) (by omega)
  have HXL := Lib.hid (show (W (q.num.natAbs * 2 ^ m)).length ≤ 200 by
    have e1 := W_mul_length q.num.natAbs (2 ^ m)
    have e2 := W_two_pow m
    have := HF.out.1
    omega)
  have HD := Lib.hid q.den_nz
  clear hr hmk
  rw [hq, HMK.out] at x1
  have HEX := Lib.hid x1
  clear x1
  rw [hq, HMK.out] at x2
  have HRE := Lib.hid x2
  clear x2
  have HFIN := Lib.hid (show mkRat (sg true (irt k (q.num.natAbs * 2 ^ m / q.den))) (1 * 2 ^ p) = r by
    rw [← HR2.out]
    unfold grtQ rootN
    rw [HNG.out, HMK.out, Nat.one_mul]
    have e1 := of_decide_eq_true HEX.out
    have e2 := of_decide_eq_true HRE.out
    rw [if_neg (by rw [e1, e2]; simp)]
    rw [Nat.add_zero])
  obtain ⟨o, ho⟩ : ∃ o, give r = o := ⟨_, rfl⟩
  have HO := Lib.hid ho
  rw [ho]
  clear hq hL k1 k3 bM ho
  go_enter Tryd.func79, Tryd.ntmps79
  go_upto_region 1 with (fail)
  rw [← hM]
  clear hM
  obtain ⟨x1, x2, x3, _, _, _⟩ := HX.out.cells
  go_wp2_with fail
  refine (readV _ s1 N1' D1' _ H1.out HT.out).mono ?_
  rw [HL.out, Bool.not_false]
  rintro e wa ⟨t1, B1, m1, d1, B1', m1', d1', rfl, f1, ba⟩
  have bb := below_step ba ba.size (below_alloc wa (.cells #[.bool t1, .slice B1 m1 d1, .slice B1' m1' d1'] 65))
  have hf1 := Box.new wa (.bool t1) (.slice B1 m1 d1) (.slice B1' m1' d1') 65
  have szw : w.heap.size + 1 < wa.heap.size := Nat.lt_of_lt_of_le (by obtain ⟨_, _, _, _, _, _, hh⟩ := HR.out; exact hh.lt) ba.size
  have TA : Hid (N1 w (wa.alloc (.cells #[.bool t1, .slice B1 m1 d1, .slice B1' m1' d1'] 65)) (w.heap.size + 1) wa.heap.size t1 B1 m1 d1 B1' m1' d1') :=
    Lib.hid ⟨HR.out.below bb, hf1, HT.out.below bb, below_step BM.out BM.out.size bb, by omega, by omega⟩
  have F1 : Hid (IsF (wa.alloc (.cells #[.bool t1, .slice B1 m1 d1, .slice B1' m1' d1'] 65)) (.agg #[.bool t1, .slice B1 m1 d1, .slice B1' m1' d1']) q) := Lib.hid (by rw [← HQ.out]; exact (f1.out rfl).below (below_alloc _ _))
  obtain ⟨w2, hw2⟩ : ∃ w2, wa.alloc (.cells #[.bool t1, .slice B1 m1 d1, .slice B1' m1' d1'] 65) = w2 := ⟨_, rfl⟩
  obtain ⟨gf, hgf⟩ : ∃ gf, wa.heap.size = gf := ⟨_, rfl⟩
  clear x1 x2 x3 ba bb f1 hf1 szw HR BM HX H1 HT
  go_upto_region 2 with (fail)
  rw [hw2] at TA F1
  try rw [hw2]
  rw [hgf] at TA
  try rw [hgf]
  clear hw2 hgf
  obtain ⟨y1, y2, y3, _⟩ := TA.out.box.cells
  obtain ⟨ht, a1, a2⟩ := F1.out.at_
  obtain rfl : t1 = true := ht.trans HNG.out
  have NA := Lib.hid a1
  have NB := Lib.hid a2
  clear ht a1 a2
  have T0 := Lib.hid (show NF w w2 (w.heap.size + 1) gf true B1 m1 d1 B1' m1' d1' q B1 m1 d1 q.num.natAbs from ⟨TA.out, NA.out, NB.out, NA.out, by omega⟩)
  go_wp2_with fail
  go_region_held3 (fun W' => (World.cell? W' ⟨gf, 0, none⟩ = some (.bool true) ∧ World.cell? W' ⟨gf, 1, none⟩ = some (.slice B1 m1 d1) ∧ World.cell? W' ⟨gf, 2, none⟩ = some (.slice B1' m1' d1') ∧ Hid (NF w W' (w.heap.size + 1) gf true B1 m1 d1 B1' m1' d1' q B1 m1 d1 (q.num.natAbs))))
    (with_reducible (first | assumption | exact T0.out.drew.cells | exact NF.next (by assumption) (by assumption) | exact NF.nextS (by assumption)))
    (first
       | (go_at_call 108
          refine (aShl _ m _ _ _ _ (NF.of (by assumption)).a (Nat.le_trans HF.out.1 (by omega)) (by omega)).mono ?_
          rintro e wb ⟨C1, x1, z1, rfl, i1, b1⟩)
       | (go_at_call 109
          refine (aDiv _ _ _ _ _ _ _ _ _ i1.out (NF.of (by assumption)).b (Nat.le_trans HXL.out (by omega)) (Nat.pos_of_ne_zero HD.out)).mono ?_
          rintro e wc ⟨C2, x2, z2, C3, x3, z3, rfl, i2, i3, b2⟩
          have hh := Lib.hid ((NF.of (by assumption)).below b2)))
  replace TA := Lib.hid hh.out.v
  replace NA := Lib.hid hh.out.a
  replace NB := Lib.hid hh.out.b
  clear hh T0 y1 y2 y3
  obtain ⟨y1, y2, y3, _⟩ := TA.out.box.cells
  go_wp2_with fail
  refine (aRoot _ k _ _ _ _ i2.out (Nat.le_trans (dig_length_mono B32_two (Nat.div_le_self _ _)) (Nat.le_trans HXL.out (by omega))) HK2.out (Nat.le_trans HK8.out (by omega))).mono ?_
  rw [HEX.out]
  rintro e wb ⟨C4, x4, z4, rfl, i4, bb⟩
  replace TA := Lib.hid (TA.out.below bb)
  replace NA := Lib.hid (NA.out.below bb)
  replace NB := Lib.hid (NB.out.below bb)
  replace i3 := Lib.hid (i3.out.below bb)
  clear bb y1 y2 y3
  obtain ⟨y1, y2, y3, _⟩ := TA.out.box.cells
  go_wp2_with fail
  refine (aZero _ _ _ _ _ i3.out).mono ?_
  rw [HRE.out]
  rintro e wb ⟨rfl, rfl⟩
  have LR := Lib.hid (show (W (irt k (q.num.natAbs * 2 ^ m / q.den))).length ≤ 200 from Nat.le_trans (dig_length_mono B32_two (Nat.le_trans (irt_self (Nat.lt_of_lt_of_le (by omega) HK2.out) _) (Nat.div_le_self _ _))) HXL.out)
  have L1 := Lib.hid (show (W 1).length ≤ 1 from (dig_length_le B32_two _ _).2 (by unfold B32; omega))
  have LQ := Lib.hid (show (W (irt k (q.num.natAbs * 2 ^ m / q.den))).length ≤ 300 by
    have e1 := LR.out
    have e2 := L1.out
    skip
    omega)
  have LP := Lib.hid (show (W (1 * 2 ^ p)).length ≤ 300 by
    have e2 := W_two_pow p
    have := HP.out
    rw [Nat.one_mul]
    omega)
  obtain ⟨rn, hrn⟩ : ∃ x, irt k (q.num.natAbs * 2 ^ m / q.den) = x := ⟨_, rfl⟩
  rw [hrn] at i4 LQ HFIN
  have T0 := Lib.hid (show NF w _ (w.heap.size + 1) gf true B1 m1 d1 B1' m1' d1' q C4 x4 z4 rn from ⟨TA.out, NA.out, NB.out, i4.out, by omega⟩)
  go_wp2_with fail
  go_region_held3 (fun W' => (World.cell? W' ⟨gf, 0, none⟩ = some (.bool true) ∧ World.cell? W' ⟨gf, 1, none⟩ = some (.slice B1 m1 d1) ∧ World.cell? W' ⟨gf, 2, none⟩ = some (.slice B1' m1' d1') ∧ Hid (NF w W' (w.heap.size + 1) gf true B1 m1 d1 B1' m1' d1' q C4 x4 z4 rn)))
    (with_reducible (first | assumption | exact T0.out.drew.cells | exact NF.next (by assumption) (by assumption) | exact NF.nextS (by assumption)))
    (first
       | (go_at_call 94
          refine (aSmall1 _).mono ?_
          rintro e wb ⟨C7, x7, z7, rfl, i7, b7⟩)
       | (go_at_call 108
          refine (aShl _ p _ _ _ _ i7.out (Nat.le_trans L1.out (by omega)) (Nat.le_trans HP.out (by omega))).mono ?_
          rintro e wc ⟨C8, x8, z8, rfl, i8, b8⟩)
       | (go_at_call 92
          refine (aReduce true _ _ _ _ _ _ _ _ _ (NF.of (by assumption)).c i8.out (by rw [Nat.one_mul]; exact Nat.ne_of_gt (Nat.two_pow_pos p)) (Nat.le_trans LQ.out (by omega)) (Nat.le_trans LP.out (by omega)) (NF.of (by assumption)).v.tab r HFIN.out).mono ?_
          rintro e wd ⟨t9, B9, m9, d9, B9', m9', d9', rfl, i9, b9⟩)
       | (go_at_call 57
          refine (giveF _ _ _ i9.out).mono ?_
          rintro e we ⟨s9, A9, n9, c9, A9', n9', c9', k9, rfl, h9, b10⟩
          have hh := (NF.of (by assumption)).below b10
          obtain ⟨z1, z2, z3, hz1, hz2, hz3, k1, k2, k3⟩ := hh.v.res.cells))
  obtain ⟨q0, q1, q2, hs, hb⟩ := OutIs.stored h9 hh.v.res hh.v.bel hh.v.n3
  have Q := Lib.hid (And.intro q0 (And.intro q1 q2))
  have HS := Lib.hid hs
  have HBB := Lib.hid hb
  clear q0 q1 q2 hs hb h9
  go_wp2
  obtain ⟨q0, q1, q2⟩ := Q.out
  refine bodyPost_ret (v := .tuple #[.agg #[.bool s9, .slice A9 n9 c9, .slice A9' n9' c9'], .int .i64 k9]) (by simp [results, Tryd.results79, go_sem, q0, q1, q2]) rfl ?_
  rw [← HO.out]
  exact ⟨_, _, _, _, _, _, _, _, rfl, HS.out, HBB.out⟩
set_option maxHeartbeats 2000000 in
set_option maxRecDepth 100000 in
theorem nroot_true_false_rest (s1 : Bool) (N1' D1' : Nat) (k p : Nat) (h2 : 2 ≤ k) (h8 : k ≤ 8) (hp : p ≤ 256) (hs : ng (ratOf s1 N1' D1') = true) (ho : k % 2 = 1) (x1 : decide (irt k ((ratOf s1 N1' D1').num.natAbs * 2 ^ (p * k) / (ratOf s1 N1' D1').den) ^ k = (ratOf s1 N1' D1').num.natAbs * 2 ^ (p * k) / (ratOf s1 N1' D1').den) = true) (x2 : decide ((ratOf s1 N1' D1').num.natAbs * 2 ^ (p * k) % (ratOf s1 N1' D1').den = 0) = false) (r : Rat) (hr : grtQ (ratOf s1 N1' D1') k p false = r) (w : World) (v1 : Value) (h1 : RawV w v1 s1 N1' D1') (hT : Tab w) (q : Rat) (hq : ratOf s1 N1' D1' = q) (hL : largeB s1 N1' D1' = false) :
    Calls Tryd.prog 79 #[v1, .int .i64 (k : Int), .int .i64 (p : Int), .bool false] w (OutPost w (give r)) := by
  have H1 := Lib.hid h1
  have HT := Lib.hid hT
  obtain ⟨A1, n1, c1, A1', n1', c1', rfl⟩ := h1.shape
  clear h1 hT
  obtain ⟨M, hM, k1, k3, bM⟩ := start1 w (.bool s1) (.slice A1 n1 c1) (.slice A1' n1' c1') (.bool false) (.slice none 0 0) (.slice none 0 0) 24 24
  have HX := Lib.hid k1
  have HR := Lib.hid (show Res M (w.heap.size + 1) 24 from ⟨_, _, _, NI.bool _, NI.slice _ _ _, NI.slice _ _ _, k3⟩)
  have BM := Lib.hid bM
  replace H1 := Lib.hid (H1.out.below bM)
  replace HT := Lib.hid (HT.out.below bM)
  have HQ := Lib.hid hq
  have HL := Lib.hid hL
  have hf := (largeB_false hL).2.2
  rw [hq] at hf
  have HF := Lib.hid hf
  clear hf
  have hp1 : decide ((k : Int) < 2) = false := decide_eq_false (by omega)
  have hp1' : decide (k < 2) = false := decide_eq_false (by omega)
  have hp2 : decide (8 < (k : Int)) = false := decide_eq_false (by omega)
  have hp2' : decide (8 < k) = false := decide_eq_false (by omega)
  have hp3 : decide ((p : Int) < 0) = false := decide_eq_false (by omega)
  have hp4 : decide (256 < (p : Int)) = false := decide_eq_false (by omega)
  have hp4' : decide (256 < p) = false := decide_eq_false (by omega)
  have hm := tmod_two k
  have hm2 : IntKind.i64.wrap ((k % 2 : Nat) : Int) = ((k % 2 : Nat) : Int) := wraps_i64 _ (by omega) (by omega)
  have HK2 := Lib.hid h2
  have HK8 := Lib.hid h8
  have HP := Lib.hid hp
  rw [hq] at hs
  have HNG := Lib.hid hs
  clear hs
  rw [ho] at hm hm2
  clear ho
  rw [hq] at hr
  have HR2 := Lib.hid hr
  obtain ⟨m, hmk⟩ : ∃ m, p * k = m := ⟨_, rfl⟩
  have hmi : (p : Int) * (k : Int) = (m : Int) := by rw [← hmk]; push_cast; rfl
  have hmb : m ≤ 2048 := by rw [← hmk]; exact Nat.mul_le_mul hp h8
  have HMK := Lib.hid hmk
  have u1 : IntKind.i64.wrap (m : Int) = (m : Int) := wrap_i64 _ (by omega) (by omega)
  have u2 : wrap64 (m : Int) = (m : Int) := by unfold wrap64; omega
  have u3 : IntKind.i64.wrap (p : Int) = (p : Int) := wrap_i64 _ (by omega) (by omega)
  have HXL := Lib.hid (show (W (q.num.natAbs * 2 ^ m)).length ≤ 200 by
    have e1 := W_mul_length q.num.natAbs (2 ^ m)
    have e2 := W_two_pow m
    have := HF.out.1
    omega)
  have HD := Lib.hid q.den_nz
  clear hr hmk
  rw [hq, HMK.out] at x1
  have HEX := Lib.hid x1
  clear x1
  rw [hq, HMK.out] at x2
  have HRE := Lib.hid x2
  clear x2
  have HFIN := Lib.hid (show mkRat (sg true (irt k (q.num.natAbs * 2 ^ m / q.den) + 1)) (1 * 2 ^ p) = r by
    rw [← HR2.out]
    unfold grtQ rootN
    rw [HNG.out, HMK.out, Nat.one_mul]
    have e1 := of_decide_eq_true HEX.out
    have e2 := of_decide_eq_false HRE.out
    rw [if_pos ⟨rfl, by simp [e2]⟩])
  obtain ⟨o, ho⟩ : ∃ o, give r = o := ⟨_, rfl⟩
  have HO := Lib.hid ho
  rw [ho]
  clear hq hL k1 k3 bM ho
  go_enter Tryd.func79, Tryd.ntmps79
  go_upto_region 1 with (fail)
  rw [← hM]
  clear hM
  obtain ⟨x1, x2, x3, _, _, _⟩ := HX.out.cells
  go_wp2_with fail
  refine (readV _ s1 N1' D1' _ H1.out HT.out).mono ?_
  rw [HL.out, Bool.not_false]
  rintro e wa ⟨t1, B1, m1, d1, B1', m1', d1', rfl, f1, ba⟩
  have bb := below_step ba ba.size (below_alloc wa (.cells #[.bool t1, .slice B1 m1 d1, .slice B1' m1' d1'] 65))
  have hf1 := Box.new wa (.bool t1) (.slice B1 m1 d1) (.slice B1' m1' d1') 65
  have szw : w.heap.size + 1 < wa.heap.size := Nat.lt_of_lt_of_le (by obtain ⟨_, _, _, _, _, _, hh⟩ := HR.out; exact hh.lt) ba.size
  have TA : Hid (N1 w (wa.alloc (.cells #[.bool t1, .slice B1 m1 d1, .slice B1' m1' d1'] 65)) (w.heap.size + 1) wa.heap.size t1 B1 m1 d1 B1' m1' d1') :=
    Lib.hid ⟨HR.out.below bb, hf1, HT.out.below bb, below_step BM.out BM.out.size bb, by omega, by omega⟩
  have F1 : Hid (IsF (wa.alloc (.cells #[.bool t1, .slice B1 m1 d1, .slice B1' m1' d1'] 65)) (.agg #[.bool t1, .slice B1 m1 d1, .slice B1' m1' d1']) q) := Lib.hid (by rw [← HQ.out]; exact (f1.out rfl).below (below_alloc _ _))
  obtain ⟨w2, hw2⟩ : ∃ w2, wa.alloc (.cells #[.bool t1, .slice B1 m1 d1, .slice B1' m1' d1'] 65) = w2 := ⟨_, rfl⟩
  obtain ⟨gf, hgf⟩ : ∃ gf, wa.heap.size = gf := ⟨_, rfl⟩
  clear x1 x2 x3 ba bb f1 hf1 szw HR BM HX H1 HT
  go_upto_region 2 with (fail)
  rw [hw2] at TA F1
  try rw [hw2]
  rw [hgf] at TA
  try rw [hgf]
  clear hw2 hgf
  obtain ⟨y1, y2, y3, _⟩ := TA.out.box.cells
  obtain ⟨ht, a1, a2⟩ := F1.out.at_
  obtain rfl : t1 = true := ht.trans HNG.out
  have NA := Lib.hid a1
  have NB := Lib.hid a2
  clear ht a1 a2
  have T0 := Lib.hid (show NF w w2 (w.heap.size + 1) gf true B1 m1 d1 B1' m1' d1' q B1 m1 d1 q.num.natAbs from ⟨TA.out, NA.out, NB.out, NA.out, by omega⟩)
  go_wp2_with fail
  go_region_held3 (fun W' => (World.cell? W' ⟨gf, 0, none⟩ = some (.bool true) ∧ World.cell? W' ⟨gf, 1, none⟩ = some (.slice B1 m1 d1) ∧ World.cell? W' ⟨gf, 2, none⟩ = some (.slice B1' m1' d1') ∧ Hid (NF w W' (w.heap.size + 1) gf true B1 m1 d1 B1' m1' d1' q B1 m1 d1 (q.num.natAbs))))
    (with_reducible (first | assumption | exact T0.out.drew.cells | exact NF.next (by assumption) (by assumption) | exact NF.nextS (by assumption)))
    (first
       | (go_at_call 108
          refine (aShl _ m _ _ _ _ (NF.of (by assumption)).a (Nat.le_trans HF.out.1 (by omega)) (by omega)).mono ?_
          rintro e wb ⟨C1, x1, z1, rfl, i1, b1⟩)
       | (go_at_call 109
          refine (aDiv _ _ _ _ _ _ _ _ _ i1.out (NF.of (by assumption)).b (Nat.le_trans HXL.out (by omega)) (Nat.pos_of_ne_zero HD.out)).mono ?_
          rintro e wc ⟨C2, x2, z2, C3, x3, z3, rfl, i2, i3, b2⟩
          have hh := Lib.hid ((NF.of (by assumption)).below b2)))
  replace TA := Lib.hid hh.out.v
  replace NA := Lib.hid hh.out.a
  replace NB := Lib.hid hh.out.b
  clear hh T0 y1 y2 y3
  obtain ⟨y1, y2, y3, _⟩ := TA.out.box.cells
  go_wp2_with fail
  refine (aRoot _ k _ _ _ _ i2.out (Nat.le_trans (dig_length_mono B32_two (Nat.div_le_self _ _)) (Nat.le_trans HXL.out (by omega))) HK2.out (Nat.le_trans HK8.out (by omega))).mono ?_
  rw [HEX.out]
  rintro e wb ⟨C4, x4, z4, rfl, i4, bb⟩
  replace TA := Lib.hid (TA.out.below bb)
  replace NA := Lib.hid (NA.out.below bb)
  replace NB := Lib.hid (NB.out.below bb)
  replace i3 := Lib.hid (i3.out.below bb)
  clear bb y1 y2 y3
  obtain ⟨y1, y2, y3, _⟩ := TA.out.box.cells
  go_wp2_with fail
  refine (aZero _ _ _ _ _ i3.out).mono ?_
  rw [HRE.out]
  rintro e wb ⟨rfl, rfl⟩
  have LR := Lib.hid (show (W (irt k (q.num.natAbs * 2 ^ m / q.den))).length ≤ 200 from Nat.le_trans (dig_length_mono B32_two (Nat.le_trans (irt_self (Nat.lt_of_lt_of_le (by omega) HK2.out) _) (Nat.div_le_self _ _))) HXL.out)
  have L1 := Lib.hid (show (W 1).length ≤ 1 from (dig_length_le B32_two _ _).2 (by unfold B32; omega))
  go_wp2_with fail
  refine (aSmall1 _).mono ?_
  rintro e wb ⟨C5, x5, z5, rfl, i5, bb⟩
  replace TA := Lib.hid (TA.out.below bb)
  replace NA := Lib.hid (NA.out.below bb)
  replace NB := Lib.hid (NB.out.below bb)
  replace i4 := Lib.hid (i4.out.below bb)
  clear bb y1 y2 y3
  obtain ⟨y1, y2, y3, _⟩ := TA.out.box.cells
  go_wp2_with fail
  refine (aAdd _ _ _ _ _ _ _ _ _ i4.out i5.out (Nat.le_trans LR.out (by omega)) (Nat.le_trans L1.out (by omega))).mono ?_
  rintro e wb ⟨C6, x6, z6, rfl, i6, bb⟩
  replace TA := Lib.hid (TA.out.below bb)
  replace NA := Lib.hid (NA.out.below bb)
  replace NB := Lib.hid (NB.out.below bb)
  clear bb y1 y2 y3
  obtain ⟨y1, y2, y3, _⟩ := TA.out.box.cells
  have LQ := Lib.hid (show (W (irt k (q.num.natAbs * 2 ^ m / q.den) + 1)).length ≤ 300 by
    have e1 := LR.out
    have e2 := L1.out
    have e3 := W_add_length (irt k (q.num.natAbs * 2 ^ m / q.den)) 1
    omega)
  have LP := Lib.hid (show (W (1 * 2 ^ p)).length ≤ 300 by
    have e2 := W_two_pow p
    have := HP.out
    rw [Nat.one_mul]
    omega)
  obtain ⟨rn, hrn⟩ : ∃ x, irt k (q.num.natAbs * 2 ^ m / q.den) + 1 = x := ⟨_, rfl⟩
  rw [hrn] at i6 LQ HFIN
  have T0 := Lib.hid (show NF w _ (w.heap.size + 1) gf true B1 m1 d1 B1' m1' d1' q C6 x6 z6 rn from ⟨TA.out, NA.out, NB.out, i6.out, by omega⟩)
  go_wp2_with fail
  go_region_held3 (fun W' => (World.cell? W' ⟨gf, 0, none⟩ = some (.bool true) ∧ World.cell? W' ⟨gf, 1, none⟩ = some (.slice B1 m1 d1) ∧ World.cell? W' ⟨gf, 2, none⟩ = some (.slice B1' m1' d1') ∧ Hid (NF w W' (w.heap.size + 1) gf true B1 m1 d1 B1' m1' d1' q C6 x6 z6 rn)))
    (with_reducible (first | assumption | exact T0.out.drew.cells | exact NF.next (by assumption) (by assumption) | exact NF.nextS (by assumption)))
    (first
       | (go_at_call 94
          refine (aSmall1 _).mono ?_
          rintro e wb ⟨C7, x7, z7, rfl, i7, b7⟩)
       | (go_at_call 108
          refine (aShl _ p _ _ _ _ i7.out (Nat.le_trans L1.out (by omega)) (Nat.le_trans HP.out (by omega))).mono ?_
          rintro e wc ⟨C8, x8, z8, rfl, i8, b8⟩)
       | (go_at_call 92
          refine (aReduce true _ _ _ _ _ _ _ _ _ (NF.of (by assumption)).c i8.out (by rw [Nat.one_mul]; exact Nat.ne_of_gt (Nat.two_pow_pos p)) (Nat.le_trans LQ.out (by omega)) (Nat.le_trans LP.out (by omega)) (NF.of (by assumption)).v.tab r HFIN.out).mono ?_
          rintro e wd ⟨t9, B9, m9, d9, B9', m9', d9', rfl, i9, b9⟩)
       | (go_at_call 57
          refine (giveF _ _ _ i9.out).mono ?_
          rintro e we ⟨s9, A9, n9, c9, A9', n9', c9', k9, rfl, h9, b10⟩
          have hh := (NF.of (by assumption)).below b10
          obtain ⟨z1, z2, z3, hz1, hz2, hz3, k1, k2, k3⟩ := hh.v.res.cells))
  obtain ⟨q0, q1, q2, hs, hb⟩ := OutIs.stored h9 hh.v.res hh.v.bel hh.v.n3
  have Q := Lib.hid (And.intro q0 (And.intro q1 q2))
  have HS := Lib.hid hs
  have HBB := Lib.hid hb
  clear q0 q1 q2 hs hb h9
  go_wp2
  obtain ⟨q0, q1, q2⟩ := Q.out
  refine bodyPost_ret (v := .tuple #[.agg #[.bool s9, .slice A9 n9 c9, .slice A9' n9' c9'], .int .i64 k9]) (by simp [results, Tryd.results79, go_sem, q0, q1, q2]) rfl ?_
  rw [← HO.out]
  exact ⟨_, _, _, _, _, _, _, _, rfl, HS.out, HBB.out⟩
set_option maxHeartbeats 2000000 in
set_option maxRecDepth 100000 in
theorem nroot_true_false_inexact (s1 : Bool) (N1' D1' : Nat) (k p : Nat) (h2 : 2 ≤ k) (h8 : k ≤ 8) (hp : p ≤ 256) (hs : ng (ratOf s1 N1' D1') = true) (ho : k % 2 = 1) (x1 : decide (irt k ((ratOf s1 N1' D1').num.natAbs * 2 ^ (p * k) / (ratOf s1 N1' D1').den) ^ k = (ratOf s1 N1' D1').num.natAbs * 2 ^ (p * k) / (ratOf s1 N1' D1').den) = false) (r : Rat) (hr : grtQ (ratOf s1 N1' D1') k p false = r) (w : World) (v1 : Value) (h1 : RawV w v1 s1 N1' D1') (hT : Tab w) (q : Rat) (hq : ratOf s1 N1' D1' = q) (hL : largeB s1 N1' D1' = false) :
    Calls Tryd.prog 79 #[v1, .int .i64 (k : Int), .int .i64 (p : Int), .bool false] w (OutPost w (give r)) := by
  have H1 := Lib.hid h1
  have HT := Lib.hid hT
  obtain ⟨A1, n1, c1, A1', n1', c1', rfl⟩ := h1.shape
  clear h1 hT
  obtain ⟨M, hM, k1, k3, bM⟩ := start1 w (.bool s1) (.slice A1 n1 c1) (.slice A1' n1' c1') (.bool false) (.slice none 0 0) (.slice none 0 0) 24 24
  have HX := Lib.hid k1
  have HR := Lib.hid (show Res M (w.heap.size + 1) 24 from ⟨_, _, _, NI.bool _, NI.slice _ _ _, NI.slice _ _ _, k3⟩)
  have BM := Lib.hid bM
  replace H1 := Lib.hid (H1.out.below bM)
  replace HT := Lib.hid (HT.out.below bM)
  have HQ := Lib.hid hq
  have HL := Lib.hid hL
  have hf := (largeB_false hL).2.2
  rw [hq] at hf
  have HF := Lib.hid hf
  clear hf
  have hp1 : decide ((k : Int) < 2) = false := decide_eq_false (by omega)
  have hp1' : decide (k < 2) = false := decide_eq_false (by omega)
  have hp2 : decide (8 < (k : Int)) = false := decide_eq_false (by omega)
  have hp2' : decide (8 < k) = false := decide_eq_false (by omega)
  have hp3 : decide ((p : Int) < 0) = false := decide_eq_false (by omega)
  have hp4 : decide (256 < (p : Int)) = false := decide_eq_false (by omega)
  have hp4' : decide (256 < p) = false := decide_eq_false (by omega)
  have hm := tmod_two k
  have hm2 : IntKind.i64.wrap ((k % 2 : Nat) : Int) = ((k % 2 : Nat) : Int) := wraps_i64 _ (by omega) (by omega)
  have HK2 := Lib.hid h2
  have HK8 := Lib.hid h8
  have HP := Lib.hid hp
  rw [hq] at hs
  have HNG := Lib.hid hs
  clear hs
  rw [ho] at hm hm2
  clear ho
  rw [hq] at hr
  have HR2 := Lib.hid hr
  obtain ⟨m, hmk⟩ : ∃ m, p * k = m := ⟨_, rfl⟩
  have hmi : (p : Int) * (k : Int) = (m : Int) := by rw [← hmk]; push_cast; rfl
  have hmb : m ≤ 2048 := by rw [← hmk]; exact Nat.mul_le_mul hp h8
  have HMK := Lib.hid hmk
  have u1 : IntKind.i64.wrap (m : Int) = (m : Int) := wrap_i64 _ (by omega) (by omega)
  have u2 : wrap64 (m : Int) = (m : Int) := by unfold wrap64; omega
  have u3 : IntKind.i64.wrap (p : Int) = (p : Int) := wrap_i64 _ (by omega) (by omega)
  have HXL := Lib.hid (show (W (q.num.natAbs * 2 ^ m)).length ≤ 200 by
    have e1 := W_mul_length q.num.natAbs (2 ^ m)
    have e2 := W_two_pow m
    have := HF.out.1
    omega)
  have HD := Lib.hid q.den_nz
  clear hr hmk
  rw [hq, HMK.out] at x1
  have HEX := Lib.hid x1
  clear x1
  have HFIN := Lib.hid (show mkRat (sg true (irt k (q.num.natAbs * 2 ^ m / q.den) + 1)) (1 * 2 ^ p) = r by
    rw [← HR2.out]
    unfold grtQ rootN
    rw [HNG.out, HMK.out, Nat.one_mul]
    have e1 := of_decide_eq_false HEX.out
    rw [if_pos ⟨rfl, by simp [e1]⟩])
  obtain ⟨o, ho⟩ : ∃ o, give r = o := ⟨_, rfl⟩
  have HO := Lib.hid ho
  rw [ho]
  clear hq hL k1 k3 bM ho
  go_enter Tryd.func79, Tryd.ntmps79
  go_upto_region 1 with (fail)
  rw [← hM]
  clear hM
  obtain ⟨x1, x2, x3, _, _, _⟩ := HX.out.cells
  go_wp2_with fail
  refine (readV _ s1 N1' D1' _ H1.out HT.out).mono ?_
  rw [HL.out, Bool.not_false]
  rintro e wa ⟨t1, B1, m1, d1, B1', m1', d1', rfl, f1, ba⟩
  have bb := below_step ba ba.size (below_alloc wa (.cells #[.bool t1, .slice B1 m1 d1, .slice B1' m1' d1'] 65))
  have hf1 := Box.new wa (.bool t1) (.slice B1 m1 d1) (.slice B1' m1' d1') 65
  have szw : w.heap.size + 1 < wa.heap.size := Nat.lt_of_lt_of_le (by obtain ⟨_, _, _, _, _, _, hh⟩ := HR.out; exact hh.lt) ba.size
  have TA : Hid (N1 w (wa.alloc (.cells #[.bool t1, .slice B1 m1 d1, .slice B1' m1' d1'] 65)) (w.heap.size + 1) wa.heap.size t1 B1 m1 d1 B1' m1' d1') :=
    Lib.hid ⟨HR.out.below bb, hf1, HT.out.below bb, below_step BM.out BM.out.size bb, by omega, by omega⟩
  have F1 : Hid (IsF (wa.alloc (.cells #[.bool t1, .slice B1 m1 d1, .slice B1' m1' d1'] 65)) (.agg #[.bool t1, .slice B1 m1 d1, .slice B1' m1' d1']) q) := Lib.hid (by rw [← HQ.out]; exact (f1.out rfl).below (below_alloc _ _))
  obtain ⟨w2, hw2⟩ : ∃ w2, wa.alloc (.cells #[.bool t1, .slice B1 m1 d1, .slice B1' m1' d1'] 65) = w2 := ⟨_, rfl⟩
  obtain ⟨gf, hgf⟩ : ∃ gf, wa.heap.size = gf := ⟨_, rfl⟩
  clear x1 x2 x3 ba bb f1 hf1 szw HR BM HX H1 HT
  go_upto_region 2 with (fail)
  rw [hw2] at TA F1
  try rw [hw2]
  rw [hgf] at TA
  try rw [hgf]
  clear hw2 hgf
  obtain ⟨y1, y2, y3, _⟩ := TA.out.box.cells
  obtain ⟨ht, a1, a2⟩ := F1.out.at_
  obtain rfl : t1 = true := ht.trans HNG.out
  have NA := Lib.hid a1
  have NB := Lib.hid a2
  clear ht a1 a2
  have T0 := Lib.hid (show NF w w2 (w.heap.size + 1) gf true B1 m1 d1 B1' m1' d1' q B1 m1 d1 q.num.natAbs from ⟨TA.out, NA.out, NB.out, NA.out, by omega⟩)
  go_wp2_with fail
  go_region_held3 (fun W' => (World.cell? W' ⟨gf, 0, none⟩ = some (.bool true) ∧ World.cell? W' ⟨gf, 1, none⟩ = some (.slice B1 m1 d1) ∧ World.cell? W' ⟨gf, 2, none⟩ = some (.slice B1' m1' d1') ∧ Hid (NF w W' (w.heap.size + 1) gf true B1 m1 d1 B1' m1' d1' q B1 m1 d1 (q.num.natAbs))))
    (with_reducible (first | assumption | exact T0.out.drew.cells | exact NF.next (by assumption) (by assumption) | exact NF.nextS (by assumption)))
    (first
       | (go_at_call 108
          refine (aShl _ m _ _ _ _ (NF.of (by assumption)).a (Nat.le_trans HF.out.1 (by omega)) (by omega)).mono ?_
          rintro e wb ⟨C1, x1, z1, rfl, i1, b1⟩)
       | (go_at_call 109
          refine (aDiv _ _ _ _ _ _ _ _ _ i1.out (NF.of (by assumption)).b (Nat.le_trans HXL.out (by omega)) (Nat.pos_of_ne_zero HD.out)).mono ?_
          rintro e wc ⟨C2, x2, z2, C3, x3, z3, rfl, i2, i3, b2⟩
          have hh := Lib.hid ((NF.of (by assumption)).below b2)))
  replace TA := Lib.hid hh.out.v
  replace NA := Lib.hid hh.out.a
  replace NB := Lib.hid hh.out.b
  clear hh T0 y1 y2 y3
  obtain ⟨y1, y2, y3, _⟩ := TA.out.box.cells
  go_wp2_with fail
  refine (aRoot _ k _ _ _ _ i2.out (Nat.le_trans (dig_length_mono B32_two (Nat.div_le_self _ _)) (Nat.le_trans HXL.out (by omega))) HK2.out (Nat.le_trans HK8.out (by omega))).mono ?_
  rw [HEX.out]
  rintro e wb ⟨C4, x4, z4, rfl, i4, bb⟩
  replace TA := Lib.hid (TA.out.below bb)
  replace NA := Lib.hid (NA.out.below bb)
  replace NB := Lib.hid (NB.out.below bb)
  replace i3 := Lib.hid (i3.out.below bb)
  clear bb y1 y2 y3
  obtain ⟨y1, y2, y3, _⟩ := TA.out.box.cells
  have LR := Lib.hid (show (W (irt k (q.num.natAbs * 2 ^ m / q.den))).length ≤ 200 from Nat.le_trans (dig_length_mono B32_two (Nat.le_trans (irt_self (Nat.lt_of_lt_of_le (by omega) HK2.out) _) (Nat.div_le_self _ _))) HXL.out)
  have L1 := Lib.hid (show (W 1).length ≤ 1 from (dig_length_le B32_two _ _).2 (by unfold B32; omega))
  go_wp2_with fail
  refine (aSmall1 _).mono ?_
  rintro e wb ⟨C5, x5, z5, rfl, i5, bb⟩
  replace TA := Lib.hid (TA.out.below bb)
  replace NA := Lib.hid (NA.out.below bb)
  replace NB := Lib.hid (NB.out.below bb)
  replace i4 := Lib.hid (i4.out.below bb)
  clear bb y1 y2 y3
  obtain ⟨y1, y2, y3, _⟩ := TA.out.box.cells
  go_wp2_with fail
  refine (aAdd _ _ _ _ _ _ _ _ _ i4.out i5.out (Nat.le_trans LR.out (by omega)) (Nat.le_trans L1.out (by omega))).mono ?_
  rintro e wb ⟨C6, x6, z6, rfl, i6, bb⟩
  replace TA := Lib.hid (TA.out.below bb)
  replace NA := Lib.hid (NA.out.below bb)
  replace NB := Lib.hid (NB.out.below bb)
  clear bb y1 y2 y3
  obtain ⟨y1, y2, y3, _⟩ := TA.out.box.cells
  have LQ := Lib.hid (show (W (irt k (q.num.natAbs * 2 ^ m / q.den) + 1)).length ≤ 300 by
    have e1 := LR.out
    have e2 := L1.out
    have e3 := W_add_length (irt k (q.num.natAbs * 2 ^ m / q.den)) 1
    omega)
  have LP := Lib.hid (show (W (1 * 2 ^ p)).length ≤ 300 by
    have e2 := W_two_pow p
    have := HP.out
    rw [Nat.one_mul]
    omega)
  obtain ⟨rn, hrn⟩ : ∃ x, irt k (q.num.natAbs * 2 ^ m / q.den) + 1 = x := ⟨_, rfl⟩
  rw [hrn] at i6 LQ HFIN
  have T0 := Lib.hid (show NF w _ (w.heap.size + 1) gf true B1 m1 d1 B1' m1' d1' q C6 x6 z6 rn from ⟨TA.out, NA.out, NB.out, i6.out, by omega⟩)
  go_wp2_with fail
  go_region_held3 (fun W' => (World.cell? W' ⟨gf, 0, none⟩ = some (.bool true) ∧ World.cell? W' ⟨gf, 1, none⟩ = some (.slice B1 m1 d1) ∧ World.cell? W' ⟨gf, 2, none⟩ = some (.slice B1' m1' d1') ∧ Hid (NF w W' (w.heap.size + 1) gf true B1 m1 d1 B1' m1' d1' q C6 x6 z6 rn)))
    (with_reducible (first | assumption | exact T0.out.drew.cells | exact NF.next (by assumption) (by assumption) | exact NF.nextS (by assumption)))
    (first
       | (go_at_call 94
          refine (aSmall1 _).mono ?_
          rintro e wb ⟨C7, x7, z7, rfl, i7, b7⟩)
       | (go_at_call 108
          refine (aShl _ p _ _ _ _ i7.out (Nat.le_trans L1.out (by omega)) (Nat.le_trans HP.out (by omega))).mono ?_
          rintro e wc ⟨C8, x8, z8, rfl, i8, b8⟩)
       | (go_at_call 92
          refine (aReduce true _ _ _ _ _ _ _ _ _ (NF.of (by assumption)).c i8.out (by rw [Nat.one_mul]; exact Nat.ne_of_gt (Nat.two_pow_pos p)) (Nat.le_trans LQ.out (by omega)) (Nat.le_trans LP.out (by omega)) (NF.of (by assumption)).v.tab r HFIN.out).mono ?_
          rintro e wd ⟨t9, B9, m9, d9, B9', m9', d9', rfl, i9, b9⟩)
       | (go_at_call 57
          refine (giveF _ _ _ i9.out).mono ?_
          rintro e we ⟨s9, A9, n9, c9, A9', n9', c9', k9, rfl, h9, b10⟩
          have hh := (NF.of (by assumption)).below b10
          obtain ⟨z1, z2, z3, hz1, hz2, hz3, k1, k2, k3⟩ := hh.v.res.cells))
  obtain ⟨q0, q1, q2, hs, hb⟩ := OutIs.stored h9 hh.v.res hh.v.bel hh.v.n3
  have Q := Lib.hid (And.intro q0 (And.intro q1 q2))
  have HS := Lib.hid hs
  have HBB := Lib.hid hb
  clear q0 q1 q2 hs hb h9
  go_wp2
  obtain ⟨q0, q1, q2⟩ := Q.out
  refine bodyPost_ret (v := .tuple #[.agg #[.bool s9, .slice A9 n9 c9, .slice A9' n9' c9'], .int .i64 k9]) (by simp [results, Tryd.results79, go_sem, q0, q1, q2]) rfl ?_
  rw [← HO.out]
  exact ⟨_, _, _, _, _, _, _, _, rfl, HS.out, HBB.out⟩
set_option maxHeartbeats 2000000 in
set_option maxRecDepth 100000 in
theorem nroot_true_true_same (s1 : Bool) (N1' D1' : Nat) (k p : Nat) (h2 : 2 ≤ k) (h8 : k ≤ 8) (hp : p ≤ 256) (hs : ng (ratOf s1 N1' D1') = true) (ho : k % 2 = 1) (r : Rat) (hr : grtQ (ratOf s1 N1' D1') k p true = r) (w : World) (v1 : Value) (h1 : RawV w v1 s1 N1' D1') (hT : Tab w) (q : Rat) (hq : ratOf s1 N1' D1' = q) (hL : largeB s1 N1' D1' = false) :
    Calls Tryd.prog 79 #[v1, .int .i64 (k : Int), .int .i64 (p : Int), .bool true] w (OutPost w (give r)) := by
  have H1 := Lib.hid h1
  have HT := Lib.hid hT
  obtain ⟨A1, n1, c1, A1', n1', c1', rfl⟩ := h1.shape
  clear h1 hT
  obtain ⟨M, hM, k1, k3, bM⟩ := start1 w (.bool s1) (.slice A1 n1 c1) (.slice A1' n1' c1') (.bool false) (.slice none 0 0) (.slice none 0 0) 24 24
  have HX := Lib.hid k1
  have HR := Lib.hid (show Res M (w.heap.size + 1) 24 from ⟨_, _, _, NI.bool _, NI.slice _ _ _, NI.slice _ _ _, k3⟩)
  have BM := Lib.hid bM
  replace H1 := Lib.hid (H1.out.below bM)
  replace HT := Lib.hid (HT.out.below bM)
  have HQ := Lib.hid hq
  have HL := Lib.hid hL
  have hf := (largeB_false hL).2.2
  rw [hq] at hf
  have HF := Lib.hid hf
  clear hf
  have hp1 : decide ((k : Int) < 2) = false := decide_eq_false (by omega)
  have hp1' : decide (k < 2) = false := decide_eq_false (by omega)
  have hp2 : decide (8 < (k : Int)) = false := decide_eq_false (by omega)
  have hp2' : decide (8 < k) = false := decide_eq_false (by omega)
  have hp3 : decide ((p : Int) < 0) = false := decide_eq_false (by omega)
  have hp4 : decide (256 < (p : Int)) = false := decide_eq_false (by omega)
  have hp4' : decide (256 < p) = false := decide_eq_false (by omega)
  have hm := tmod_two k
  have hm2 : IntKind.i64.wrap ((k % 2 : Nat) : Int) = ((k % 2 : Nat) : Int) := wraps_i64 _ (by omega) (by omega)
  have HK2 := Lib.hid h2
  have HK8 := Lib.hid h8
  have HP := Lib.hid hp
  rw [hq] at hs
  have HNG := Lib.hid hs
  clear hs
  rw [ho] at hm hm2
  clear ho
  rw [hq] at hr
  have HR2 := Lib.hid hr
  obtain ⟨m, hmk⟩ : ∃ m, p * k = m := ⟨_, rfl⟩
  have hmi : (p : Int) * (k : Int) = (m : Int) := by rw [← hmk]; push_cast; rfl
  have hmb : m ≤ 2048 := by rw [← hmk]; exact Nat.mul_le_mul hp h8
  have HMK := Lib.hid hmk
  have u1 : IntKind.i64.wrap (m : Int) = (m : Int) := wrap_i64 _ (by omega) (by omega)
  have u2 : wrap64 (m : Int) = (m : Int) := by unfold wrap64; omega
  have u3 : IntKind.i64.wrap (p : Int) = (p : Int) := wrap_i64 _ (by omega) (by omega)
  have HXL := Lib.hid (show (W (q.num.natAbs * 2 ^ m)).length ≤ 200 by
    have e1 := W_mul_length q.num.natAbs (2 ^ m)
    have e2 := W_two_pow m
    have := HF.out.1
    omega)
  have HD := Lib.hid q.den_nz
  clear hr hmk
  obtain ⟨bx, hx⟩ : ∃ b, decide (irt k (q.num.natAbs * 2 ^ m / q.den) ^ k = q.num.natAbs * 2 ^ m / q.den) = b := ⟨_, rfl⟩
  have HEX := Lib.hid hx
  clear hx
  have HFIN := Lib.hid (show mkRat (sg true (irt k (q.num.natAbs * 2 ^ m / q.den))) (1 * 2 ^ p) = r by
    rw [← HR2.out]
    unfold grtQ rootN
    rw [HNG.out, HMK.out, Nat.one_mul]
    rw [if_neg (by simp)]
    rw [Nat.add_zero])
  obtain ⟨o, ho⟩ : ∃ o, give r = o := ⟨_, rfl⟩
  have HO := Lib.hid ho
  rw [ho]
  clear hq hL k1 k3 bM ho
  go_enter Tryd.func79, Tryd.ntmps79
  go_upto_region 1 with (fail)
  rw [← hM]
  clear hM
  obtain ⟨x1, x2, x3, _, _, _⟩ := HX.out.cells
  go_wp2_with fail
  refine (readV _ s1 N1' D1' _ H1.out HT.out).mono ?_
  rw [HL.out, Bool.not_false]
  rintro e wa ⟨t1, B1, m1, d1, B1', m1', d1', rfl, f1, ba⟩
  have bb := below_step ba ba.size (below_alloc wa (.cells #[.bool t1, .slice B1 m1 d1, .slice B1' m1' d1'] 65))
  have hf1 := Box.new wa (.bool t1) (.slice B1 m1 d1) (.slice B1' m1' d1') 65
  have szw : w.heap.size + 1 < wa.heap.size := Nat.lt_of_lt_of_le (by obtain ⟨_, _, _, _, _, _, hh⟩ := HR.out; exact hh.lt) ba.size
  have TA : Hid (N1 w (wa.alloc (.cells #[.bool t1, .slice B1 m1 d1, .slice B1' m1' d1'] 65)) (w.heap.size + 1) wa.heap.size t1 B1 m1 d1 B1' m1' d1') :=
    Lib.hid ⟨HR.out.below bb, hf1, HT.out.below bb, below_step BM.out BM.out.size bb, by omega, by omega⟩
  have F1 : Hid (IsF (wa.alloc (.cells #[.bool t1, .slice B1 m1 d1, .slice B1' m1' d1'] 65)) (.agg #[.bool t1, .slice B1 m1 d1, .slice B1' m1' d1']) q) := Lib.hid (by rw [← HQ.out]; exact (f1.out rfl).below (below_alloc _ _))
  obtain ⟨w2, hw2⟩ : ∃ w2, wa.alloc (.cells #[.bool t1, .slice B1 m1 d1, .slice B1' m1' d1'] 65) = w2 := ⟨_, rfl⟩
  obtain ⟨gf, hgf⟩ : ∃ gf, wa.heap.size = gf := ⟨_, rfl⟩
  clear x1 x2 x3 ba bb f1 hf1 szw HR BM HX H1 HT
  go_upto_region 2 with (fail)
  rw [hw2] at TA F1
  try rw [hw2]
  rw [hgf] at TA
  try rw [hgf]
  clear hw2 hgf
  obtain ⟨y1, y2, y3, _⟩ := TA.out.box.cells
  obtain ⟨ht, a1, a2⟩ := F1.out.at_
  obtain rfl : t1 = true := ht.trans HNG.out
  have NA := Lib.hid a1
  have NB := Lib.hid a2
  clear ht a1 a2
  have T0 := Lib.hid (show NF w w2 (w.heap.size + 1) gf true B1 m1 d1 B1' m1' d1' q B1 m1 d1 q.num.natAbs from ⟨TA.out, NA.out, NB.out, NA.out, by omega⟩)
  go_wp2_with fail
  go_region_held3 (fun W' => (World.cell? W' ⟨gf, 0, none⟩ = some (.bool true) ∧ World.cell? W' ⟨gf, 1, none⟩ = some (.slice B1 m1 d1) ∧ World.cell? W' ⟨gf, 2, none⟩ = some (.slice B1' m1' d1') ∧ Hid (NF w W' (w.heap.size + 1) gf true B1 m1 d1 B1' m1' d1' q B1 m1 d1 (q.num.natAbs))))
    (with_reducible (first | assumption | exact T0.out.drew.cells | exact NF.next (by assumption) (by assumption) | exact NF.nextS (by assumption)))
    (first
       | (go_at_call 108
          refine (aShl _ m _ _ _ _ (NF.of (by assumption)).a (Nat.le_trans HF.out.1 (by omega)) (by omega)).mono ?_
          rintro e wb ⟨C1, x1, z1, rfl, i1, b1⟩)
       | (go_at_call 109
          refine (aDiv _ _ _ _ _ _ _ _ _ i1.out (NF.of (by assumption)).b (Nat.le_trans HXL.out (by omega)) (Nat.pos_of_ne_zero HD.out)).mono ?_
          rintro e wc ⟨C2, x2, z2, C3, x3, z3, rfl, i2, i3, b2⟩
          have hh := Lib.hid ((NF.of (by assumption)).below b2)))
  replace TA := Lib.hid hh.out.v
  replace NA := Lib.hid hh.out.a
  replace NB := Lib.hid hh.out.b
  clear hh T0 y1 y2 y3
  obtain ⟨y1, y2, y3, _⟩ := TA.out.box.cells
  go_wp2_with fail
  refine (aRoot _ k _ _ _ _ i2.out (Nat.le_trans (dig_length_mono B32_two (Nat.div_le_self _ _)) (Nat.le_trans HXL.out (by omega))) HK2.out (Nat.le_trans HK8.out (by omega))).mono ?_
  rw [HEX.out]
  rintro e wb ⟨C4, x4, z4, rfl, i4, bb⟩
  replace TA := Lib.hid (TA.out.below bb)
  replace NA := Lib.hid (NA.out.below bb)
  replace NB := Lib.hid (NB.out.below bb)
  replace i3 := Lib.hid (i3.out.below bb)
  clear bb y1 y2 y3
  obtain ⟨y1, y2, y3, _⟩ := TA.out.box.cells
  have LR := Lib.hid (show (W (irt k (q.num.natAbs * 2 ^ m / q.den))).length ≤ 200 from Nat.le_trans (dig_length_mono B32_two (Nat.le_trans (irt_self (Nat.lt_of_lt_of_le (by omega) HK2.out) _) (Nat.div_le_self _ _))) HXL.out)
  have L1 := Lib.hid (show (W 1).length ≤ 1 from (dig_length_le B32_two _ _).2 (by unfold B32; omega))
  have LQ := Lib.hid (show (W (irt k (q.num.natAbs * 2 ^ m / q.den))).length ≤ 300 by
    have e1 := LR.out
    have e2 := L1.out
    skip
    omega)
  have LP := Lib.hid (show (W (1 * 2 ^ p)).length ≤ 300 by
    have e2 := W_two_pow p
    have := HP.out
    rw [Nat.one_mul]
    omega)
  obtain ⟨rn, hrn⟩ : ∃ x, irt k (q.num.natAbs * 2 ^ m / q.den) = x := ⟨_, rfl⟩
  rw [hrn] at i4 LQ HFIN
  have T0 := Lib.hid (show NF w _ (w.heap.size + 1) gf true B1 m1 d1 B1' m1' d1' q C4 x4 z4 rn from ⟨TA.out, NA.out, NB.out, i4.out, by omega⟩)
  go_wp2_with fail
  go_region_held3 (fun W' => (World.cell? W' ⟨gf, 0, none⟩ = some (.bool true) ∧ World.cell? W' ⟨gf, 1, none⟩ = some (.slice B1 m1 d1) ∧ World.cell? W' ⟨gf, 2, none⟩ = some (.slice B1' m1' d1') ∧ Hid (NF w W' (w.heap.size + 1) gf true B1 m1 d1 B1' m1' d1' q C4 x4 z4 rn)))
    (with_reducible (first | assumption | exact T0.out.drew.cells | exact NF.next (by assumption) (by assumption) | exact NF.nextS (by assumption)))
    (first
       | (go_at_call 94
          refine (aSmall1 _).mono ?_
          rintro e wb ⟨C7, x7, z7, rfl, i7, b7⟩)
       | (go_at_call 108
          refine (aShl _ p _ _ _ _ i7.out (Nat.le_trans L1.out (by omega)) (Nat.le_trans HP.out (by omega))).mono ?_
          rintro e wc ⟨C8, x8, z8, rfl, i8, b8⟩)
       | (go_at_call 92
          refine (aReduce true _ _ _ _ _ _ _ _ _ (NF.of (by assumption)).c i8.out (by rw [Nat.one_mul]; exact Nat.ne_of_gt (Nat.two_pow_pos p)) (Nat.le_trans LQ.out (by omega)) (Nat.le_trans LP.out (by omega)) (NF.of (by assumption)).v.tab r HFIN.out).mono ?_
          rintro e wd ⟨t9, B9, m9, d9, B9', m9', d9', rfl, i9, b9⟩)
       | (go_at_call 57
          refine (giveF _ _ _ i9.out).mono ?_
          rintro e we ⟨s9, A9, n9, c9, A9', n9', c9', k9, rfl, h9, b10⟩
          have hh := (NF.of (by assumption)).below b10
          obtain ⟨z1, z2, z3, hz1, hz2, hz3, k1, k2, k3⟩ := hh.v.res.cells))
  obtain ⟨q0, q1, q2, hs, hb⟩ := OutIs.stored h9 hh.v.res hh.v.bel hh.v.n3
  have Q := Lib.hid (And.intro q0 (And.intro q1 q2))
  have HS := Lib.hid hs
  have HBB := Lib.hid hb
  clear q0 q1 q2 hs hb h9
  go_wp2
  obtain ⟨q0, q1, q2⟩ := Q.out
  refine bodyPost_ret (v := .tuple #[.agg #[.bool s9, .slice A9 n9 c9, .slice A9' n9' c9'], .int .i64 k9]) (by simp [results, Tryd.results79, go_sem, q0, q1, q2]) rfl ?_
  rw [← HO.out]
  exact ⟨_, _, _, _, _, _, _, _, rfl, HS.out, HBB.out⟩
theorem nroot (s1 : Bool) (N1' D1' : Nat) (n p : Int) (up : Bool) (w : World) (v1 : Value) (h1 : RawV w v1 s1 N1' D1') (hT : Tab w) :
    Calls Tryd.prog 79 #[v1, .int .i64 n, .int .i64 p, .bool up] w (OutPost w (grootOut (largeB s1 N1' D1') n p up (ratOf s1 N1' D1'))) := by
  unfold grootOut
  by_cases h : largeB s1 N1' D1' = true
  · rw [if_pos h]; exact nroot_large s1 N1' D1' n p up w v1 h1 hT _ rfl h
  · rw [if_neg h]
    have h' : largeB s1 N1' D1' = false := by simpa using h
    by_cases c1 : n < 2
    · rw [if_pos (Or.inl c1)]; exact nroot_n2 s1 N1' D1' n p up c1 w v1 h1 hT _ rfl h'
    · by_cases c2 : 8 < n
      · rw [if_pos (Or.inr (Or.inl c2))]; exact nroot_n8 s1 N1' D1' n p up c2 w v1 h1 hT _ rfl h'
      · by_cases c3 : p < 0
        · rw [if_pos (Or.inr (Or.inr (Or.inl c3)))]; exact nroot_p0 s1 N1' D1' n p up (by omega) (by omega) c3 w v1 h1 hT _ rfl h'
        · by_cases c4 : 256 < p
          · rw [if_pos (Or.inr (Or.inr (Or.inr c4)))]; exact nroot_p256 s1 N1' D1' n p up (by omega) (by omega) c4 w v1 h1 hT _ rfl h'
          · rw [if_neg (by omega)]
            obtain ⟨k, rfl⟩ : ∃ k : Nat, n = (k : Int) := ⟨n.toNat, by omega⟩
            obtain ⟨j, rfl⟩ : ∃ j : Nat, p = (j : Int) := ⟨p.toNat, by omega⟩
            rw [Int.toNat_natCast, Int.toNat_natCast]
            have h2 : 2 ≤ k := by omega
            have h8 : k ≤ 8 := by omega
            have hj : j ≤ 256 := by omega
            by_cases he : ng (ratOf s1 N1' D1') = true ∧ k % 2 = 0
            · rw [if_pos he]; exact nroot_even s1 N1' D1' k j h2 h8 hj up he.1 he.2 w v1 h1 hT _ rfl h'
            · rw [if_neg he]
              cases hs : ng (ratOf s1 N1' D1')
              · cases up
                · exact nroot_false_false_same s1 N1' D1' k j h2 h8 hj hs _ rfl w v1 h1 hT _ rfl h'
                · cases x1 : decide (irt k ((ratOf s1 N1' D1').num.natAbs * 2 ^ (j * k) / (ratOf s1 N1' D1').den) ^ k = (ratOf s1 N1' D1').num.natAbs * 2 ^ (j * k) / (ratOf s1 N1' D1').den)
                  · exact nroot_false_true_inexact s1 N1' D1' k j h2 h8 hj hs x1 _ rfl w v1 h1 hT _ rfl h'
                  · cases x2 : decide ((ratOf s1 N1' D1').num.natAbs * 2 ^ (j * k) % (ratOf s1 N1' D1').den = 0)
                    · exact nroot_false_true_rest s1 N1' D1' k j h2 h8 hj hs x1 x2 _ rfl w v1 h1 hT _ rfl h'
                    · exact nroot_false_true_exact s1 N1' D1' k j h2 h8 hj hs x1 x2 _ rfl w v1 h1 hT _ rfl h'
              · have ho : k % 2 = 1 := by
                  have : ¬ k % 2 = 0 := fun h0 => he ⟨hs, h0⟩
                  omega
                cases up
                · cases x1 : decide (irt k ((ratOf s1 N1' D1').num.natAbs * 2 ^ (j * k) / (ratOf s1 N1' D1').den) ^ k = (ratOf s1 N1' D1').num.natAbs * 2 ^ (j * k) / (ratOf s1 N1' D1').den)
                  · exact nroot_true_false_inexact s1 N1' D1' k j h2 h8 hj hs ho x1 _ rfl w v1 h1 hT _ rfl h'
                  · cases x2 : decide ((ratOf s1 N1' D1').num.natAbs * 2 ^ (j * k) % (ratOf s1 N1' D1').den = 0)
                    · exact nroot_true_false_rest s1 N1' D1' k j h2 h8 hj hs ho x1 x2 _ rfl w v1 h1 hT _ rfl h'
                    · exact nroot_true_false_exact s1 N1' D1' k j h2 h8 hj hs ho x1 x2 _ rfl w v1 h1 hT _ rfl h'
                · exact nroot_true_true_same s1 N1' D1' k j h2 h8 hj hs ho _ rfl w v1 h1 hT _ rfl h'
set_option maxHeartbeats 1000000 in
set_option maxRecDepth 100000 in
theorem nRootDown (s1 : Bool) (N1 D1 : Nat) (n p : Int) (w : World) (v1 : Value) (h1 : RawV w v1 s1 N1 D1) (hT : Tab w) :
    Calls Tryd.prog 35 #[v1, .int .i64 n, .int .i64 p] w (OutPost w (grootOut (largeB s1 N1 D1) n p false (ratOf s1 N1 D1))) := by
  have H1 := Lib.hid h1
  have HT := Lib.hid hT
  obtain ⟨A1, n1, c1, A1', n1', c1', rfl⟩ := h1.shape
  clear h1 hT
  obtain ⟨M, hM, k1, k3, bM⟩ := start1 w (.bool s1) (.slice A1 n1 c1) (.slice A1' n1' c1') (.bool false) (.slice none 0 0) (.slice none 0 0) 24 24
  have HX := Lib.hid k1
  have HR := Lib.hid (show Res M (w.heap.size + 1) 24 from ⟨_, _, _, NI.bool _, NI.slice _ _ _, NI.slice _ _ _, k3⟩)
  have BM := Lib.hid bM
  replace H1 := Lib.hid (H1.out.below bM)
  replace HT := Lib.hid (HT.out.below bM)
  have C := Lib.hid (nroot s1 N1 D1 n p false M _ H1.out HT.out)
  obtain ⟨o, ho⟩ : ∃ o, grootOut (largeB s1 N1 D1) n p false (ratOf s1 N1 D1) = o := ⟨_, rfl⟩
  rw [ho] at C
  rw [ho]
  clear k1 k3 bM ho
  go_enter Tryd.func35, Tryd.ntmps35
  go_upto_region 1 with (fail)
  rw [← hM]
  clear hM
  obtain ⟨x1, x2, x3, _, _, _⟩ := HX.out.cells
  go_wp2_with fail
  refine C.out.mono ?_
  rintro e we ⟨s9, A9, n9, c9, A9', n9', c9', k9, rfl, h9, b9⟩
  replace HR := Lib.hid (HR.out.below b9)
  have BE := Lib.hid (below_step BM.out BM.out.size b9)
  obtain ⟨q0, q1, q2, hs, hb⟩ := OutIs.stored h9 HR.out BE.out (by omega)
  have Q := Lib.hid (And.intro q0 (And.intro q1 q2))
  have HS := Lib.hid hs
  have HB := Lib.hid hb
  clear b9 h9 q0 q1 q2 hs hb x1 x2 x3
  obtain ⟨r1, r2, r3, hr1, hr2, hr3, _, _, _⟩ := HR.out.cells
  go_wp2_with fail
  obtain ⟨q0, q1, q2⟩ := Q.out
  refine bodyPost_ret (v := .tuple #[.agg #[.bool s9, .slice A9 n9 c9, .slice A9' n9' c9'], .int .i64 k9]) (by simp [results, Tryd.results35, go_sem, q0, q1, q2]) rfl ?_
  exact ⟨_, _, _, _, _, _, _, _, rfl, HS.out, HB.out⟩
set_option maxHeartbeats 1000000 in
set_option maxRecDepth 100000 in
theorem nRootUp (s1 : Bool) (N1 D1 : Nat) (n p : Int) (w : World) (v1 : Value) (h1 : RawV w v1 s1 N1 D1) (hT : Tab w) :
    Calls Tryd.prog 36 #[v1, .int .i64 n, .int .i64 p] w (OutPost w (grootOut (largeB s1 N1 D1) n p true (ratOf s1 N1 D1))) := by
  have H1 := Lib.hid h1
  have HT := Lib.hid hT
  obtain ⟨A1, n1, c1, A1', n1', c1', rfl⟩ := h1.shape
  clear h1 hT
  obtain ⟨M, hM, k1, k3, bM⟩ := start1 w (.bool s1) (.slice A1 n1 c1) (.slice A1' n1' c1') (.bool false) (.slice none 0 0) (.slice none 0 0) 24 24
  have HX := Lib.hid k1
  have HR := Lib.hid (show Res M (w.heap.size + 1) 24 from ⟨_, _, _, NI.bool _, NI.slice _ _ _, NI.slice _ _ _, k3⟩)
  have BM := Lib.hid bM
  replace H1 := Lib.hid (H1.out.below bM)
  replace HT := Lib.hid (HT.out.below bM)
  have C := Lib.hid (nroot s1 N1 D1 n p true M _ H1.out HT.out)
  obtain ⟨o, ho⟩ : ∃ o, grootOut (largeB s1 N1 D1) n p true (ratOf s1 N1 D1) = o := ⟨_, rfl⟩
  rw [ho] at C
  rw [ho]
  clear k1 k3 bM ho
  go_enter Tryd.func36, Tryd.ntmps36
  go_upto_region 1 with (fail)
  rw [← hM]
  clear hM
  obtain ⟨x1, x2, x3, _, _, _⟩ := HX.out.cells
  go_wp2_with fail
  refine C.out.mono ?_
  rintro e we ⟨s9, A9, n9, c9, A9', n9', c9', k9, rfl, h9, b9⟩
  replace HR := Lib.hid (HR.out.below b9)
  have BE := Lib.hid (below_step BM.out BM.out.size b9)
  obtain ⟨q0, q1, q2, hs, hb⟩ := OutIs.stored h9 HR.out BE.out (by omega)
  have Q := Lib.hid (And.intro q0 (And.intro q1 q2))
  have HS := Lib.hid hs
  have HB := Lib.hid hb
  clear b9 h9 q0 q1 q2 hs hb x1 x2 x3
  obtain ⟨r1, r2, r3, hr1, hr2, hr3, _, _, _⟩ := HR.out.cells
  go_wp2_with fail
  obtain ⟨q0, q1, q2⟩ := Q.out
  refine bodyPost_ret (v := .tuple #[.agg #[.bool s9, .slice A9 n9 c9, .slice A9' n9' c9'], .int .i64 k9]) (by simp [results, Tryd.results36, go_sem, q0, q1, q2]) rfl ?_
  exact ⟨_, _, _, _, _, _, _, _, rfl, HS.out, HB.out⟩
end Go.Proofs.YtfmhplcpejmkhabDoor

namespace Go.Proofs.YtfmhplcpejmkhabDoor
open Go.RowKit Dig
set_option linter.unusedVariables false
set_option linter.unusedSimpArgs false
theorem cRat (q : Rat) (w : World) (v : Value) (h : IsQ w v q) (k : Rq 2000000 q) :
    Calls Tryd.prog 27 #[v] w fun e w' => ∃ t B1 m1 e1 B2 m2 e2, e = .returned (.agg #[.bool t, .slice B1 m1 e1, .slice B2 m2 e2]) ∧ Hid (GrQ w' (.agg #[.bool t, .slice B1 m1 e1, .slice B2 m2 e2]) q) ∧ Below w.heap.size w w' := by
  obtain ⟨A1, c1, A2, c2, rfl, r1, r2⟩ := h
  refine (rRat _ _ _ w _ _ _ _ r1 r2 (fun h => ng_nz h) q.den_nz k.1 k.2).mono ?_
  rintro e w' ⟨u, rfl, hu, hb⟩
  have h2 := hu
  obtain ⟨A1, c1, A2, c2, rfl, r1, r2⟩ := hu
  exact ⟨_, _, _, _, _, _, _, rfl, h2, hb⟩
theorem exact_fit {a : Rat} {k : Nat} (hk : 0 < k) (h : fitQ a) : fitQ (exactQ k a).1 := by
  unfold exactQ
  split
  · exact fit_zero
  · split
    · exact rt_fit hk h (by assumption)
    · exact fit_zero
theorem rootOut_exact {q : Rat} {k : Nat} (h2 : 2 ≤ k) (h8 : k ≤ 8) : rootOut false (k : Int) q = (.ok (exactQ k q).1, (exactQ k q).2) := by
  unfold rootOut exactQ
  rw [if_neg (by simp), if_neg (by omega), Int.toNat_natCast]
  split
  · rfl
  · split <;> rfl
set_option maxHeartbeats 2000000 in
set_option maxRecDepth 100000 in
theorem lRoot_large (s1 : Bool) (N1 D1 : Nat) (p : Int) (w : World) (v1 : Value) (h1 : RawV w v1 s1 N1 D1) (q : Rat) (hq : ratOf s1 N1 D1 = q) (hL : largeB s1 N1 D1 = true) :
    Calls Tryd.prog 31 #[v1, .int .i64 p] w (Out3 w (Out.err 1) false) := by
  have H1 := Lib.hid h1
  obtain ⟨A1, n1, c1, A1', n1', c1', rfl⟩ := h1.shape
  clear h1
  obtain ⟨M, hM, k1, k3, bM⟩ := start1 w (.bool s1) (.slice A1 n1 c1) (.slice A1' n1' c1') (.bool false) (.slice none 0 0) (.slice none 0 0) 24 24
  have TA : Hid (P1 w M w.heap.size (w.heap.size + 1) s1 A1 n1 c1 A1' n1' c1' N1 D1) := Lib.hid ⟨k1, ⟨_, _, _, NI.bool _, NI.slice _ _ _, NI.slice _ _ _, k3⟩, H1.out.below bM, bM, by omega, by omega⟩
  have HQ := Lib.hid hq
  have HL := Lib.hid hL
  obtain ⟨o, ho⟩ : ∃ o, Out.err 1 = o := ⟨_, rfl⟩
  have HO := Lib.hid ho
  rw [ho]
  clear hq hL k1 k3 bM H1 ho
  go_enter Tryd.func31, Tryd.ntmps31
  go_upto_region 1 with (fail)
  rw [← hM]
  clear hM
  obtain ⟨x1, x2, x3, _⟩ := TA.out.cells
  go_wp2_with fail
  refine (largeV _ s1 N1 D1 _ TA.out.r1).mono ?_
  rw [HL.out]
  rintro e wa ⟨rfl, ba⟩
  replace TA := Lib.hid (TA.out.below ba)
  clear ba x1 x2 x3
  obtain ⟨x1, x2, x3, _⟩ := TA.out.cells
  obtain ⟨y1, y2, y3, hy1, hy2, hy3, f1, f2, f3⟩ := TA.out.res.cells
  obtain ⟨q0, q1, q2, hs, hb⟩ := OutIs.stored (o := .err 1) (k := 1) (s := false) (A1 := none) (A2 := none) (n1 := 0) (c1 := 0) (n2 := 0) (c2 := 0) ⟨rfl, rfl, by omega, by omega⟩ TA.out.res TA.out.bel TA.out.n3
  have Q := Lib.hid (And.intro q0 (And.intro q1 q2))
  have HS := Lib.hid hs
  have HBB := Lib.hid hb
  clear q0 q1 q2 hs hb
  go_wp2_with fail
  obtain ⟨q0, q1, q2⟩ := Q.out
  refine bodyPost_ret (v := .tuple #[noRat, .bool false, .int .i64 1]) (by simp [results, Tryd.results31, go_sem, q0, q1, q2, noRat]) rfl ?_
  rw [← HO.out]
  exact ⟨_, _, _, _, _, _, _, _, rfl, HS.out, HBB.out⟩
set_option maxHeartbeats 2000000 in
set_option maxRecDepth 100000 in
theorem lRoot_low (s1 : Bool) (N1 D1 : Nat) (p : Int) (hp : p < 2) (w : World) (v1 : Value) (h1 : RawV w v1 s1 N1 D1) (q : Rat) (hq : ratOf s1 N1 D1 = q) (hL : largeB s1 N1 D1 = false) :
    Calls Tryd.prog 31 #[v1, .int .i64 p] w (Out3 w (Out.err 2) false) := by
  have H1 := Lib.hid h1
  obtain ⟨A1, n1, c1, A1', n1', c1', rfl⟩ := h1.shape
  clear h1
  obtain ⟨M, hM, k1, k3, bM⟩ := start1 w (.bool s1) (.slice A1 n1 c1) (.slice A1' n1' c1') (.bool false) (.slice none 0 0) (.slice none 0 0) 24 24
  have TA : Hid (P1 w M w.heap.size (w.heap.size + 1) s1 A1 n1 c1 A1' n1' c1' N1 D1) := Lib.hid ⟨k1, ⟨_, _, _, NI.bool _, NI.slice _ _ _, NI.slice _ _ _, k3⟩, H1.out.below bM, bM, by omega, by omega⟩
  have HQ := Lib.hid hq
  have HL := Lib.hid hL
  have hp1 : decide (p < 2) = true := decide_eq_true hp
  clear hp
  obtain ⟨o, ho⟩ : ∃ o, Out.err 2 = o := ⟨_, rfl⟩
  have HO := Lib.hid ho
  rw [ho]
  clear hq hL k1 k3 bM H1 ho
  go_enter Tryd.func31, Tryd.ntmps31
  go_upto_region 1 with (fail)
  rw [← hM]
  clear hM
  obtain ⟨x1, x2, x3, _⟩ := TA.out.cells
  go_wp2_with fail
  refine (largeV _ s1 N1 D1 _ TA.out.r1).mono ?_
  rw [HL.out]
  rintro e wa ⟨rfl, ba⟩
  replace TA := Lib.hid (TA.out.below ba)
  clear ba x1 x2 x3
  obtain ⟨x1, x2, x3, _⟩ := TA.out.cells
  obtain ⟨y1, y2, y3, hy1, hy2, hy3, f1, f2, f3⟩ := TA.out.res.cells
  obtain ⟨q0, q1, q2, hs, hb⟩ := OutIs.stored (o := .err 2) (k := 2) (s := false) (A1 := none) (A2 := none) (n1 := 0) (c1 := 0) (n2 := 0) (c2 := 0) ⟨rfl, rfl, by omega, by omega⟩ TA.out.res TA.out.bel TA.out.n3
  have Q := Lib.hid (And.intro q0 (And.intro q1 q2))
  have HS := Lib.hid hs
  have HBB := Lib.hid hb
  clear q0 q1 q2 hs hb
  go_wp2_with fail
  obtain ⟨q0, q1, q2⟩ := Q.out
  refine bodyPost_ret (v := .tuple #[noRat, .bool false, .int .i64 2]) (by simp [results, Tryd.results31, go_sem, q0, q1, q2, noRat]) rfl ?_
  rw [← HO.out]
  exact ⟨_, _, _, _, _, _, _, _, rfl, HS.out, HBB.out⟩
set_option maxHeartbeats 2000000 in
set_option maxRecDepth 100000 in
theorem lRoot_high (s1 : Bool) (N1 D1 : Nat) (p : Int) (hp : 8 < p) (w : World) (v1 : Value) (h1 : RawV w v1 s1 N1 D1) (q : Rat) (hq : ratOf s1 N1 D1 = q) (hL : largeB s1 N1 D1 = false) :
    Calls Tryd.prog 31 #[v1, .int .i64 p] w (Out3 w (Out.err 2) false) := by
  have H1 := Lib.hid h1
  obtain ⟨A1, n1, c1, A1', n1', c1', rfl⟩ := h1.shape
  clear h1
  obtain ⟨M, hM, k1, k3, bM⟩ := start1 w (.bool s1) (.slice A1 n1 c1) (.slice A1' n1' c1') (.bool false) (.slice none 0 0) (.slice none 0 0) 24 24
  have TA : Hid (P1 w M w.heap.size (w.heap.size + 1) s1 A1 n1 c1 A1' n1' c1' N1 D1) := Lib.hid ⟨k1, ⟨_, _, _, NI.bool _, NI.slice _ _ _, NI.slice _ _ _, k3⟩, H1.out.below bM, bM, by omega, by omega⟩
  have HQ := Lib.hid hq
  have HL := Lib.hid hL
  have hp1 : decide (p < 2) = false := decide_eq_false (by omega)
  have hp2 : decide (8 < p) = true := decide_eq_true hp
  clear hp
  obtain ⟨o, ho⟩ : ∃ o, Out.err 2 = o := ⟨_, rfl⟩
  have HO := Lib.hid ho
  rw [ho]
  clear hq hL k1 k3 bM H1 ho
  go_enter Tryd.func31, Tryd.ntmps31
  go_upto_region 1 with (fail)
  rw [← hM]
  clear hM
  obtain ⟨x1, x2, x3, _⟩ := TA.out.cells
  go_wp2_with fail
  refine (largeV _ s1 N1 D1 _ TA.out.r1).mono ?_
  rw [HL.out]
  rintro e wa ⟨rfl, ba⟩
  replace TA := Lib.hid (TA.out.below ba)
  clear ba x1 x2 x3
  obtain ⟨x1, x2, x3, _⟩ := TA.out.cells
  obtain ⟨y1, y2, y3, hy1, hy2, hy3, f1, f2, f3⟩ := TA.out.res.cells
  obtain ⟨q0, q1, q2, hs, hb⟩ := OutIs.stored (o := .err 2) (k := 2) (s := false) (A1 := none) (A2 := none) (n1 := 0) (c1 := 0) (n2 := 0) (c2 := 0) ⟨rfl, rfl, by omega, by omega⟩ TA.out.res TA.out.bel TA.out.n3
  have Q := Lib.hid (And.intro q0 (And.intro q1 q2))
  have HS := Lib.hid hs
  have HBB := Lib.hid hb
  clear q0 q1 q2 hs hb
  go_wp2_with fail
  obtain ⟨q0, q1, q2⟩ := Q.out
  refine bodyPost_ret (v := .tuple #[noRat, .bool false, .int .i64 2]) (by simp [results, Tryd.results31, go_sem, q0, q1, q2, noRat]) rfl ?_
  rw [← HO.out]
  exact ⟨_, _, _, _, _, _, _, _, rfl, HS.out, HBB.out⟩
set_option maxHeartbeats 2000000 in
set_option maxRecDepth 100000 in
theorem lRoot_ok (s1 : Bool) (N1 D1 : Nat) (k : Nat) (h2 : 2 ≤ k) (h8 : k ≤ 8) (r : Rat) (b : Bool) (hr : exactQ k (ratOf s1 N1 D1) = (r, b)) (w : World) (v1 : Value) (h1 : RawV w v1 s1 N1 D1) (q : Rat) (hq : ratOf s1 N1 D1 = q) (hL : largeB s1 N1 D1 = false) :
    Calls Tryd.prog 31 #[v1, .int .i64 (k : Int)] w (Out3 w (Out.ok r) b) := by
  have H1 := Lib.hid h1
  obtain ⟨A1, n1, c1, A1', n1', c1', rfl⟩ := h1.shape
  clear h1
  obtain ⟨M, hM, k1, k3, bM⟩ := start1 w (.bool s1) (.slice A1 n1 c1) (.slice A1' n1' c1') (.bool false) (.slice none 0 0) (.slice none 0 0) 24 24
  have TA : Hid (P1 w M w.heap.size (w.heap.size + 1) s1 A1 n1 c1 A1' n1' c1' N1 D1) := Lib.hid ⟨k1, ⟨_, _, _, NI.bool _, NI.slice _ _ _, NI.slice _ _ _, k3⟩, H1.out.below bM, bM, by omega, by omega⟩
  have HQ := Lib.hid hq
  have HL := Lib.hid hL
  have hf := (largeB_false hL).2.2
  rw [hq] at hf
  have HF := Lib.hid hf
  clear hf
  have hp1 : decide ((k : Int) < 2) = false := decide_eq_false (by omega)
  have hp1' : decide (k < 2) = false := decide_eq_false (by omega)
  have hp2 : decide (8 < (k : Int)) = false := decide_eq_false (by omega)
  have hp2' : decide (8 < k) = false := decide_eq_false (by omega)
  have HK2 := Lib.hid h2
  have HK8 := Lib.hid h8
  rw [hq] at hr
  have HR := Lib.hid hr
  have FR := Lib.hid (show fitQ r by have := exact_fit (k := k) (by omega) HF.out; rwa [hr] at this)
  clear hr
  obtain ⟨o, ho⟩ : ∃ o, Out.ok r = o := ⟨_, rfl⟩
  have HO := Lib.hid ho
  rw [ho]
  clear hq hL k1 k3 bM H1 ho
  go_enter Tryd.func31, Tryd.ntmps31
  go_upto_region 1 with (fail)
  rw [← hM]
  clear hM
  obtain ⟨x1, x2, x3, _⟩ := TA.out.cells
  go_wp2_with fail
  refine (largeV _ s1 N1 D1 _ TA.out.r1).mono ?_
  rw [HL.out]
  rintro e wa ⟨rfl, ba⟩
  replace TA := Lib.hid (TA.out.below ba)
  clear ba x1 x2 x3
  obtain ⟨x1, x2, x3, _⟩ := TA.out.cells
  go_wp2_with fail
  refine (ofQ _ _ _ _ q _ TA.out.r1 HL.out HQ.out).mono ?_
  rintro e wb ⟨t0, B0, m0, e0, B0', m0', e0', rfl, i0, bb⟩
  replace TA := Lib.hid (TA.out.below bb)
  clear bb x1 x2 x3
  go_wp2_with fail
  refine (qExact q k HK2.out HK8.out (fit_Rq HF.out (by omega)) _ _ i0.out r b HR.out).mono ?_
  rintro e wc ⟨t1, B1, m1, e1, B1', m1', e1', rfl, i1, bc⟩
  have bq := below_step bc bc.size (below_alloc wc (.cells #[.bool t1, .slice B1 m1 e1, .slice B1' m1' e1'] 39))
  have IR := Lib.hid (i1.out.below (below_alloc wc (.cells #[.bool t1, .slice B1 m1 e1, .slice B1' m1' e1'] 39)))
  have HZ := Lib.hid (Box.new wc (.bool t1) (.slice B1 m1 e1) (.slice B1' m1' e1') 39)
  replace TA := Lib.hid (TA.out.below bq)
  obtain ⟨w2, hw2⟩ : ∃ v, wc.alloc (.cells #[.bool t1, .slice B1 m1 e1, .slice B1' m1' e1'] 39) = v := ⟨_, rfl⟩
  clear bc bq i1 i0
  go_upto_region 6 with (fail)
  rw [hw2] at IR HZ TA
  try rw [hw2]
  clear hw2
  obtain ⟨x1, x2, x3, _, _, _⟩ := HZ.out.cells
  go_wp2_with fail
  refine (cRat r _ _ IR.out (fit_Rq FR.out (by omega))).mono ?_
  rintro e wd ⟨t9, B9, m9, e9, B9', m9', e9', rfl, i9, bd⟩
  replace TA := Lib.hid (TA.out.below bd)
  obtain ⟨z1, z2, z3, hz1, hz2, hz3, k1, k2, k3⟩ := TA.out.res.cells
  obtain ⟨q0, q1, q2, hs, hb⟩ := OutIs.stored (o := .ok r) (k := 0) ⟨rfl, i9.out, FR.out⟩ TA.out.res TA.out.bel TA.out.n3
  have Q := Lib.hid (And.intro q0 (And.intro q1 q2))
  have HS := Lib.hid hs
  have HBB := Lib.hid hb
  clear q0 q1 q2 hs hb bd
  go_wp2
  obtain ⟨q0, q1, q2⟩ := Q.out
  refine bodyPost_ret (v := .tuple #[.agg #[.bool t9, .slice B9 m9 e9, .slice B9' m9' e9'], .bool b, .int .i64 0]) (by simp [results, Tryd.results31, go_sem, q0, q1, q2]) rfl ?_
  rw [← HO.out]
  exact ⟨_, _, _, _, _, _, _, _, rfl, HS.out, HBB.out⟩
theorem lRoot (s1 : Bool) (N1 D1 : Nat) (p : Int) (w : World) (v1 : Value) (h1 : RawV w v1 s1 N1 D1) :
    Calls Tryd.prog 31 #[v1, .int .i64 p] w (Out3 w (rootOut (largeB s1 N1 D1) p (ratOf s1 N1 D1)).1 (rootOut (largeB s1 N1 D1) p (ratOf s1 N1 D1)).2) := by
  by_cases h : largeB s1 N1 D1 = true
  · unfold rootOut; rw [if_pos h]; exact lRoot_large s1 N1 D1 p w v1 h1 _ rfl h
  · have h' : largeB s1 N1 D1 = false := by simpa using h
    by_cases hl : p < 2
    · unfold rootOut; rw [if_neg h, if_pos (Or.inl hl)]; exact lRoot_low s1 N1 D1 p hl w v1 h1 _ rfl h'
    · by_cases hh : 8 < p
      · unfold rootOut; rw [if_neg h, if_pos (Or.inr hh)]; exact lRoot_high s1 N1 D1 p hh w v1 h1 _ rfl h'
      · obtain ⟨k, rfl⟩ : ∃ k : Nat, p = (k : Int) := ⟨p.toNat, by omega⟩
        rw [h', rootOut_exact (by omega) (by omega)]
        exact lRoot_ok s1 N1 D1 k (by omega) (by omega) _ _ rfl w v1 h1 _ rfl h'
set_option maxHeartbeats 2000000 in
set_option maxRecDepth 100000 in
theorem lGroot_large (s1 : Bool) (N1 D1 : Nat) (n p : Int) (up : Bool) (w : World) (v1 : Value) (h1 : RawV w v1 s1 N1 D1) (q : Rat) (hq : ratOf s1 N1 D1 = q) (hL : largeB s1 N1 D1 = true) :
    Calls Tryd.prog 37 #[v1, .int .i64 n, .int .i64 p, .bool up] w (OutPost w (Out.err 1)) := by
  have H1 := Lib.hid h1
  obtain ⟨A1, n1, c1, A1', n1', c1', rfl⟩ := h1.shape
  clear h1
  obtain ⟨M, hM, k1, k3, bM⟩ := start1 w (.bool s1) (.slice A1 n1 c1) (.slice A1' n1' c1') (.bool false) (.slice none 0 0) (.slice none 0 0) 24 24
  have TA : Hid (P1 w M w.heap.size (w.heap.size + 1) s1 A1 n1 c1 A1' n1' c1' N1 D1) := Lib.hid ⟨k1, ⟨_, _, _, NI.bool _, NI.slice _ _ _, NI.slice _ _ _, k3⟩, H1.out.below bM, bM, by omega, by omega⟩
  have HQ := Lib.hid hq
  have HL := Lib.hid hL
  obtain ⟨o, ho⟩ : ∃ o, Out.err 1 = o := ⟨_, rfl⟩
  have HO := Lib.hid ho
  rw [ho]
  clear hq hL k1 k3 bM H1 ho
  go_enter Tryd.func37, Tryd.ntmps37
  go_upto_region 1 with (fail)
  rw [← hM]
  clear hM
  obtain ⟨x1, x2, x3, _⟩ := TA.out.cells
  go_wp2_with fail
  refine (largeV _ s1 N1 D1 _ TA.out.r1).mono ?_
  rw [HL.out]
  rintro e wa ⟨rfl, ba⟩
  replace TA := Lib.hid (TA.out.below ba)
  clear ba x1 x2 x3
  obtain ⟨x1, x2, x3, _⟩ := TA.out.cells
  obtain ⟨y1, y2, y3, hy1, hy2, hy3, f1, f2, f3⟩ := TA.out.res.cells
  obtain ⟨q0, q1, q2, hs, hb⟩ := OutIs.stored (o := .err 1) (k := 1) (s := false) (A1 := none) (A2 := none) (n1 := 0) (c1 := 0) (n2 := 0) (c2 := 0) ⟨rfl, rfl, by omega, by omega⟩ TA.out.res TA.out.bel TA.out.n3
  have Q := Lib.hid (And.intro q0 (And.intro q1 q2))
  have HBB := Lib.hid hb
  clear q0 q1 q2 hs hb
  go_wp2_with fail
  obtain ⟨q0, q1, q2⟩ := Q.out
  refine bodyPost_ret (v := .tuple #[noRat, .int .i64 1]) (by simp [results, Tryd.results37, go_sem, q0, q1, q2, noRat]) rfl ?_
  rw [← HO.out]
  exact OutPost.err rfl (by omega) (by omega) HBB.out
set_option maxHeartbeats 2000000 in
set_option maxRecDepth 100000 in
theorem lGroot_n2 (s1 : Bool) (N1 D1 : Nat) (n p : Int) (up : Bool) (hn : n < 2) (w : World) (v1 : Value) (h1 : RawV w v1 s1 N1 D1) (q : Rat) (hq : ratOf s1 N1 D1 = q) (hL : largeB s1 N1 D1 = false) :
    Calls Tryd.prog 37 #[v1, .int .i64 n, .int .i64 p, .bool up] w (OutPost w (Out.err 2)) := by
  have H1 := Lib.hid h1
  obtain ⟨A1, n1, c1, A1', n1', c1', rfl⟩ := h1.shape
  clear h1
  obtain ⟨M, hM, k1, k3, bM⟩ := start1 w (.bool s1) (.slice A1 n1 c1) (.slice A1' n1' c1') (.bool false) (.slice none 0 0) (.slice none 0 0) 24 24
  have TA : Hid (P1 w M w.heap.size (w.heap.size + 1) s1 A1 n1 c1 A1' n1' c1' N1 D1) := Lib.hid ⟨k1, ⟨_, _, _, NI.bool _, NI.slice _ _ _, NI.slice _ _ _, k3⟩, H1.out.below bM, bM, by omega, by omega⟩
  have HQ := Lib.hid hq
  have HL := Lib.hid hL
  have hp1 : decide (n < 2) = true := decide_eq_true hn
  clear hn
  obtain ⟨o, ho⟩ : ∃ o, Out.err 2 = o := ⟨_, rfl⟩
  have HO := Lib.hid ho
  rw [ho]
  clear hq hL k1 k3 bM H1 ho
  go_enter Tryd.func37, Tryd.ntmps37
  go_upto_region 1 with (fail)
  rw [← hM]
  clear hM
  obtain ⟨x1, x2, x3, _⟩ := TA.out.cells
  go_wp2_with fail
  refine (largeV _ s1 N1 D1 _ TA.out.r1).mono ?_
  rw [HL.out]
  rintro e wa ⟨rfl, ba⟩
  replace TA := Lib.hid (TA.out.below ba)
  clear ba x1 x2 x3
  obtain ⟨x1, x2, x3, _⟩ := TA.out.cells
  obtain ⟨y1, y2, y3, hy1, hy2, hy3, f1, f2, f3⟩ := TA.out.res.cells
  obtain ⟨q0, q1, q2, hs, hb⟩ := OutIs.stored (o := .err 2) (k := 2) (s := false) (A1 := none) (A2 := none) (n1 := 0) (c1 := 0) (n2 := 0) (c2 := 0) ⟨rfl, rfl, by omega, by omega⟩ TA.out.res TA.out.bel TA.out.n3
  have Q := Lib.hid (And.intro q0 (And.intro q1 q2))
  have HBB := Lib.hid hb
  clear q0 q1 q2 hs hb
  go_wp2_with fail
  obtain ⟨q0, q1, q2⟩ := Q.out
  refine bodyPost_ret (v := .tuple #[noRat, .int .i64 2]) (by simp [results, Tryd.results37, go_sem, q0, q1, q2, noRat]) rfl ?_
  rw [← HO.out]
  exact OutPost.err rfl (by omega) (by omega) HBB.out
set_option maxHeartbeats 2000000 in
set_option maxRecDepth 100000 in
theorem lGroot_n8 (s1 : Bool) (N1 D1 : Nat) (n p : Int) (up : Bool) (hn : 8 < n) (w : World) (v1 : Value) (h1 : RawV w v1 s1 N1 D1) (q : Rat) (hq : ratOf s1 N1 D1 = q) (hL : largeB s1 N1 D1 = false) :
    Calls Tryd.prog 37 #[v1, .int .i64 n, .int .i64 p, .bool up] w (OutPost w (Out.err 2)) := by
  have H1 := Lib.hid h1
  obtain ⟨A1, n1, c1, A1', n1', c1', rfl⟩ := h1.shape
  clear h1
  obtain ⟨M, hM, k1, k3, bM⟩ := start1 w (.bool s1) (.slice A1 n1 c1) (.slice A1' n1' c1') (.bool false) (.slice none 0 0) (.slice none 0 0) 24 24
  have TA : Hid (P1 w M w.heap.size (w.heap.size + 1) s1 A1 n1 c1 A1' n1' c1' N1 D1) := Lib.hid ⟨k1, ⟨_, _, _, NI.bool _, NI.slice _ _ _, NI.slice _ _ _, k3⟩, H1.out.below bM, bM, by omega, by omega⟩
  have HQ := Lib.hid hq
  have HL := Lib.hid hL
  have hp1 : decide (n < 2) = false := decide_eq_false (by omega)
  have hp2 : decide (8 < n) = true := decide_eq_true hn
  clear hn
  obtain ⟨o, ho⟩ : ∃ o, Out.err 2 = o := ⟨_, rfl⟩
  have HO := Lib.hid ho
  rw [ho]
  clear hq hL k1 k3 bM H1 ho
  go_enter Tryd.func37, Tryd.ntmps37
  go_upto_region 1 with (fail)
  rw [← hM]
  clear hM
  obtain ⟨x1, x2, x3, _⟩ := TA.out.cells
  go_wp2_with fail
  refine (largeV _ s1 N1 D1 _ TA.out.r1).mono ?_
  rw [HL.out]
  rintro e wa ⟨rfl, ba⟩
  replace TA := Lib.hid (TA.out.below ba)
  clear ba x1 x2 x3
  obtain ⟨x1, x2, x3, _⟩ := TA.out.cells
  obtain ⟨y1, y2, y3, hy1, hy2, hy3, f1, f2, f3⟩ := TA.out.res.cells
  obtain ⟨q0, q1, q2, hs, hb⟩ := OutIs.stored (o := .err 2) (k := 2) (s := false) (A1 := none) (A2 := none) (n1 := 0) (c1 := 0) (n2 := 0) (c2 := 0) ⟨rfl, rfl, by omega, by omega⟩ TA.out.res TA.out.bel TA.out.n3
  have Q := Lib.hid (And.intro q0 (And.intro q1 q2))
  have HBB := Lib.hid hb
  clear q0 q1 q2 hs hb
  go_wp2_with fail
  obtain ⟨q0, q1, q2⟩ := Q.out
  refine bodyPost_ret (v := .tuple #[noRat, .int .i64 2]) (by simp [results, Tryd.results37, go_sem, q0, q1, q2, noRat]) rfl ?_
  rw [← HO.out]
  exact OutPost.err rfl (by omega) (by omega) HBB.out
set_option maxHeartbeats 2000000 in
set_option maxRecDepth 100000 in
theorem lGroot_p0 (s1 : Bool) (N1 D1 : Nat) (n p : Int) (up : Bool) (h2 : 2 ≤ n) (h8 : n ≤ 8) (hn : p < 0) (w : World) (v1 : Value) (h1 : RawV w v1 s1 N1 D1) (q : Rat) (hq : ratOf s1 N1 D1 = q) (hL : largeB s1 N1 D1 = false) :
    Calls Tryd.prog 37 #[v1, .int .i64 n, .int .i64 p, .bool up] w (OutPost w (Out.err 2)) := by
  have H1 := Lib.hid h1
  obtain ⟨A1, n1, c1, A1', n1', c1', rfl⟩ := h1.shape
  clear h1
  obtain ⟨M, hM, k1, k3, bM⟩ := start1 w (.bool s1) (.slice A1 n1 c1) (.slice A1' n1' c1') (.bool false) (.slice none 0 0) (.slice none 0 0) 24 24
  have TA : Hid (P1 w M w.heap.size (w.heap.size + 1) s1 A1 n1 c1 A1' n1' c1' N1 D1) := Lib.hid ⟨k1, ⟨_, _, _, NI.bool _, NI.slice _ _ _, NI.slice _ _ _, k3⟩, H1.out.below bM, bM, by omega, by omega⟩
  have HQ := Lib.hid hq
  have HL := Lib.hid hL
  have hp1 : decide (n < 2) = false := decide_eq_false (by omega)
  have hp2 : decide (8 < n) = false := decide_eq_false (by omega)
  have hp3 : decide (p < 0) = true := decide_eq_true hn
  clear hn h2 h8
  obtain ⟨o, ho⟩ : ∃ o, Out.err 2 = o := ⟨_, rfl⟩
  have HO := Lib.hid ho
  rw [ho]
  clear hq hL k1 k3 bM H1 ho
  go_enter Tryd.func37, Tryd.ntmps37
  go_upto_region 1 with (fail)
  rw [← hM]
  clear hM
  obtain ⟨x1, x2, x3, _⟩ := TA.out.cells
  go_wp2_with fail
  refine (largeV _ s1 N1 D1 _ TA.out.r1).mono ?_
  rw [HL.out]
  rintro e wa ⟨rfl, ba⟩
  replace TA := Lib.hid (TA.out.below ba)
  clear ba x1 x2 x3
  obtain ⟨x1, x2, x3, _⟩ := TA.out.cells
  obtain ⟨y1, y2, y3, hy1, hy2, hy3, f1, f2, f3⟩ := TA.out.res.cells
  obtain ⟨q0, q1, q2, hs, hb⟩ := OutIs.stored (o := .err 2) (k := 2) (s := false) (A1 := none) (A2 := none) (n1 := 0) (c1 := 0) (n2 := 0) (c2 := 0) ⟨rfl, rfl, by omega, by omega⟩ TA.out.res TA.out.bel TA.out.n3
  have Q := Lib.hid (And.intro q0 (And.intro q1 q2))
  have HBB := Lib.hid hb
  clear q0 q1 q2 hs hb
  go_wp2_with fail
  obtain ⟨q0, q1, q2⟩ := Q.out
  refine bodyPost_ret (v := .tuple #[noRat, .int .i64 2]) (by simp [results, Tryd.results37, go_sem, q0, q1, q2, noRat]) rfl ?_
  rw [← HO.out]
  exact OutPost.err rfl (by omega) (by omega) HBB.out
set_option maxHeartbeats 2000000 in
set_option maxRecDepth 100000 in
theorem lGroot_p256 (s1 : Bool) (N1 D1 : Nat) (n p : Int) (up : Bool) (h2 : 2 ≤ n) (h8 : n ≤ 8) (hn : 256 < p) (w : World) (v1 : Value) (h1 : RawV w v1 s1 N1 D1) (q : Rat) (hq : ratOf s1 N1 D1 = q) (hL : largeB s1 N1 D1 = false) :
    Calls Tryd.prog 37 #[v1, .int .i64 n, .int .i64 p, .bool up] w (OutPost w (Out.err 2)) := by
  have H1 := Lib.hid h1
  obtain ⟨A1, n1, c1, A1', n1', c1', rfl⟩ := h1.shape
  clear h1
  obtain ⟨M, hM, k1, k3, bM⟩ := start1 w (.bool s1) (.slice A1 n1 c1) (.slice A1' n1' c1') (.bool false) (.slice none 0 0) (.slice none 0 0) 24 24
  have TA : Hid (P1 w M w.heap.size (w.heap.size + 1) s1 A1 n1 c1 A1' n1' c1' N1 D1) := Lib.hid ⟨k1, ⟨_, _, _, NI.bool _, NI.slice _ _ _, NI.slice _ _ _, k3⟩, H1.out.below bM, bM, by omega, by omega⟩
  have HQ := Lib.hid hq
  have HL := Lib.hid hL
  have hp1 : decide (n < 2) = false := decide_eq_false (by omega)
  have hp2 : decide (8 < n) = false := decide_eq_false (by omega)
  have hp3 : decide (p < 0) = false := decide_eq_false (by omega)
  have hp4 : decide (256 < p) = true := decide_eq_true hn
  clear hn h2 h8
  obtain ⟨o, ho⟩ : ∃ o, Out.err 2 = o := ⟨_, rfl⟩
  have HO := Lib.hid ho
  rw [ho]
  clear hq hL k1 k3 bM H1 ho
  go_enter Tryd.func37, Tryd.ntmps37
  go_upto_region 1 with (fail)
  rw [← hM]
  clear hM
  obtain ⟨x1, x2, x3, _⟩ := TA.out.cells
  go_wp2_with fail
  refine (largeV _ s1 N1 D1 _ TA.out.r1).mono ?_
  rw [HL.out]
  rintro e wa ⟨rfl, ba⟩
  replace TA := Lib.hid (TA.out.below ba)
  clear ba x1 x2 x3
  obtain ⟨x1, x2, x3, _⟩ := TA.out.cells
  obtain ⟨y1, y2, y3, hy1, hy2, hy3, f1, f2, f3⟩ := TA.out.res.cells
  obtain ⟨q0, q1, q2, hs, hb⟩ := OutIs.stored (o := .err 2) (k := 2) (s := false) (A1 := none) (A2 := none) (n1 := 0) (c1 := 0) (n2 := 0) (c2 := 0) ⟨rfl, rfl, by omega, by omega⟩ TA.out.res TA.out.bel TA.out.n3
  have Q := Lib.hid (And.intro q0 (And.intro q1 q2))
  have HBB := Lib.hid hb
  clear q0 q1 q2 hs hb
  go_wp2_with fail
  obtain ⟨q0, q1, q2⟩ := Q.out
  refine bodyPost_ret (v := .tuple #[noRat, .int .i64 2]) (by simp [results, Tryd.results37, go_sem, q0, q1, q2, noRat]) rfl ?_
  rw [← HO.out]
  exact OutPost.err rfl (by omega) (by omega) HBB.out
theorem sgnI_neg (q : Rat) : decide (sgnI (ng q) q.num.natAbs < 0) = ng q := by
  unfold sgnI
  cases hs : ng q
  · split <;> simp
  · rw [if_neg (ng_nz hs)]
    decide
theorem grt_Rq {a : Rat} {k p : Nat} (up : Bool) (hk : 0 < k) (h8 : k ≤ 8) (hp : p ≤ 256) (h : Rq 200 a) : Rq 1000 (grtQ a k p up) := by
  have h1 := (low_Rq hk h8 hp h).1
  refine mk_Rq (Nat.ne_of_gt (Nat.two_pow_pos p)) ?_ ?_
  · rw [sg_abs]
    have h3 : rootN a.num.natAbs a.den k p (up != ng a) ≤ irt k (a.num.natAbs * 2 ^ (p * k) / a.den) + 1 := by
      unfold rootN
      split <;> omega
    have h4 : (R (irt k (a.num.natAbs * 2 ^ (p * k) / a.den))).length ≤ 400 := by
      refine Nat.le_trans (dig_length_mono B16_two (Nat.le_trans (irt_selfR hk _) (Nat.div_le_self _ _))) ?_
      exact low_len h.1 (Nat.mul_le_mul hp h8)
    have h5 := R_add_length (irt k (a.num.natAbs * 2 ^ (p * k) / a.den)) 1
    have h6 : (R 1).length ≤ 1 := by rw [R_one]; simp
    have h7 : (R (rootN a.num.natAbs a.den k p (up != ng a))).length ≤ (R (irt k (a.num.natAbs * 2 ^ (p * k) / a.den) + 1)).length := dig_length_mono B16_two h3
    omega
  · have := R_two_pow p
    omega
set_option maxHeartbeats 2000000 in
set_option maxRecDepth 100000 in
theorem lGroot_dom (s1 : Bool) (N1 D1 : Nat) (k p : Nat) (h2 : 2 ≤ k) (h8 : k ≤ 8) (hp : p ≤ 256) (up : Bool) (hs : ng (ratOf s1 N1 D1) = true) (he : k % 2 = 0) (w : World) (v1 : Value) (h1 : RawV w v1 s1 N1 D1) (q : Rat) (hq : ratOf s1 N1 D1 = q) (hL : largeB s1 N1 D1 = false) :
    Calls Tryd.prog 37 #[v1, .int .i64 (k : Int), .int .i64 (p : Int), .bool up] w (OutPost w (Out.err 5)) := by
  have H1 := Lib.hid h1
  obtain ⟨A1, n1, c1, A1', n1', c1', rfl⟩ := h1.shape
  clear h1
  obtain ⟨M, hM, k1, k3, bM⟩ := start1 w (.bool s1) (.slice A1 n1 c1) (.slice A1' n1' c1') (.bool false) (.slice none 0 0) (.slice none 0 0) 24 24
  have TA : Hid (P1 w M w.heap.size (w.heap.size + 1) s1 A1 n1 c1 A1' n1' c1' N1 D1) := Lib.hid ⟨k1, ⟨_, _, _, NI.bool _, NI.slice _ _ _, NI.slice _ _ _, k3⟩, H1.out.below bM, bM, by omega, by omega⟩
  have HQ := Lib.hid hq
  have HL := Lib.hid hL
  have hf := (largeB_false hL).2.2
  rw [hq] at hf
  have HF := Lib.hid hf
  clear hf
  have hp1 : decide ((k : Int) < 2) = false := decide_eq_false (by omega)
  have hp1' : decide (k < 2) = false := decide_eq_false (by omega)
  have hp2 : decide (8 < (k : Int)) = false := decide_eq_false (by omega)
  have hp2' : decide (8 < k) = false := decide_eq_false (by omega)
  have HK2 := Lib.hid h2
  have HK8 := Lib.hid h8
  have hp3 : decide ((p : Int) < 0) = false := decide_eq_false (by omega)
  have hp4 : decide (256 < (p : Int)) = false := decide_eq_false (by omega)
  have hp4' : decide (256 < p) = false := decide_eq_false (by omega)
  have hm := tmod_two k
  have hm2 : IntKind.i64.wrap ((k % 2 : Nat) : Int) = ((k % 2 : Nat) : Int) := wraps_i64 _ (by omega) (by omega)
  have HPP := Lib.hid hp
  obtain ⟨cc, hcc⟩ : ∃ c, sgnI (ng q) q.num.natAbs = c := ⟨_, rfl⟩
  have HSG := Lib.hid hcc
  have hc0 : decide (cc < 0) = ng q := by rw [← hcc]; exact sgnI_neg q
  rw [hq] at hs
  rw [hs] at hc0
  clear hcc hs
  rw [he] at hm hm2
  clear he
  obtain ⟨o, ho⟩ : ∃ o, Out.err 5 = o := ⟨_, rfl⟩
  have HO := Lib.hid ho
  rw [ho]
  clear hq hL k1 k3 bM H1 ho
  go_enter Tryd.func37, Tryd.ntmps37
  go_upto_region 1 with (fail)
  rw [← hM]
  clear hM
  obtain ⟨x1, x2, x3, _⟩ := TA.out.cells
  go_wp2_with fail
  refine (largeV _ s1 N1 D1 _ TA.out.r1).mono ?_
  rw [HL.out]
  rintro e wa ⟨rfl, ba⟩
  replace TA := Lib.hid (TA.out.below ba)
  clear ba x1 x2 x3
  obtain ⟨x1, x2, x3, _⟩ := TA.out.cells
  go_wp2_with fail
  refine (ofQ _ _ _ _ q _ TA.out.r1 HL.out HQ.out).mono ?_
  rintro e wc ⟨t1, B1, m1, e1, B1', m1', e1', rfl, i1, bc⟩
  have bq := below_step bc bc.size (below_alloc wc (.cells #[.bool t1, .slice B1 m1 e1, .slice B1' m1' e1'] 39))
  have IR := Lib.hid (i1.out.below (below_alloc wc (.cells #[.bool t1, .slice B1 m1 e1, .slice B1' m1' e1'] 39)))
  have HZ := Lib.hid (Box.new wc (.bool t1) (.slice B1 m1 e1) (.slice B1' m1' e1') 39)
  replace TA := Lib.hid (TA.out.below bq)
  obtain ⟨w2, hw2⟩ : ∃ v, wc.alloc (.cells #[.bool t1, .slice B1 m1 e1, .slice B1' m1' e1'] 39) = v := ⟨_, rfl⟩
  clear bc bq i1 x1 x2 x3
  go_upto_region 6 with (fail)
  rw [hw2] at IR HZ TA
  try rw [hw2]
  clear hw2
  obtain ⟨x1, x2, x3, _, _, _⟩ := HZ.out.cells
  go_wp2_with fail
  refine (qSgn q _ _ IR.out).mono ?_
  rw [HSG.out]
  rintro e wb ⟨rfl, bb⟩
  replace TA := Lib.hid (TA.out.below bb)
  replace IR := Lib.hid (IR.out.below bb)
  replace HZ := Lib.hid (HZ.out.below bb)
  clear bb x1 x2 x3
  obtain ⟨x1, x2, x3, _, _, _⟩ := HZ.out.cells
  obtain ⟨y1, y2, y3, hy1, hy2, hy3, f1, f2, f3⟩ := TA.out.res.cells
  obtain ⟨q0, q1, q2, hs, hb⟩ := OutIs.stored (o := .err 5) (k := 5) (s := false) (A1 := none) (A2 := none) (n1 := 0) (c1 := 0) (n2 := 0) (c2 := 0) ⟨rfl, rfl, by omega, by omega⟩ TA.out.res TA.out.bel TA.out.n3
  have Q := Lib.hid (And.intro q0 (And.intro q1 q2))
  have HBB := Lib.hid hb
  clear q0 q1 q2 hs hb
  go_wp2_with fail
  obtain ⟨q0, q1, q2⟩ := Q.out
  refine bodyPost_ret (v := .tuple #[noRat, .int .i64 5]) (by simp [results, Tryd.results37, go_sem, q0, q1, q2, noRat]) rfl ?_
  rw [← HO.out]
  exact OutPost.err rfl (by omega) (by omega) HBB.out
set_option maxHeartbeats 2000000 in
set_option maxRecDepth 100000 in
theorem lGroot_false_odd (s1 : Bool) (N1 D1 : Nat) (k p : Nat) (h2 : 2 ≤ k) (h8 : k ≤ 8) (hp : p ≤ 256) (ho : k % 2 = 1) (r : Rat) (hr : grtQ (ratOf s1 N1 D1) k p false = r) (w : World) (v1 : Value) (h1 : RawV w v1 s1 N1 D1) (q : Rat) (hq : ratOf s1 N1 D1 = q) (hL : largeB s1 N1 D1 = false) :
    Calls Tryd.prog 37 #[v1, .int .i64 (k : Int), .int .i64 (p : Int), .bool false] w (OutPost w (give r)) := by
  have H1 := Lib.hid h1
  obtain ⟨A1, n1, c1, A1', n1', c1', rfl⟩ := h1.shape
  clear h1
  obtain ⟨M, hM, k1, k3, bM⟩ := start1 w (.bool s1) (.slice A1 n1 c1) (.slice A1' n1' c1') (.bool false) (.slice none 0 0) (.slice none 0 0) 24 24
  have TA : Hid (P1 w M w.heap.size (w.heap.size + 1) s1 A1 n1 c1 A1' n1' c1' N1 D1) := Lib.hid ⟨k1, ⟨_, _, _, NI.bool _, NI.slice _ _ _, NI.slice _ _ _, k3⟩, H1.out.below bM, bM, by omega, by omega⟩
  have HQ := Lib.hid hq
  have HL := Lib.hid hL
  have hf := (largeB_false hL).2.2
  rw [hq] at hf
  have HF := Lib.hid hf
  clear hf
  have hp1 : decide ((k : Int) < 2) = false := decide_eq_false (by omega)
  have hp1' : decide (k < 2) = false := decide_eq_false (by omega)
  have hp2 : decide (8 < (k : Int)) = false := decide_eq_false (by omega)
  have hp2' : decide (8 < k) = false := decide_eq_false (by omega)
  have HK2 := Lib.hid h2
  have HK8 := Lib.hid h8
  have hp3 : decide ((p : Int) < 0) = false := decide_eq_false (by omega)
  have hp4 : decide (256 < (p : Int)) = false := decide_eq_false (by omega)
  have hp4' : decide (256 < p) = false := decide_eq_false (by omega)
  have hm := tmod_two k
  have hm2 : IntKind.i64.wrap ((k % 2 : Nat) : Int) = ((k % 2 : Nat) : Int) := wraps_i64 _ (by omega) (by omega)
  have HPP := Lib.hid hp
  rw [ho] at hm hm2
  clear ho
  rw [hq] at hr
  have HR := Lib.hid hr
  have HKK := Lib.hid (show Rq 2000000 r by rw [← hr]; exact (grt_Rq false (by omega) h8 hp (fit_Rq HF.out (by omega))).le (by omega))
  clear hr
  obtain ⟨o, ho⟩ : ∃ o, give r = o := ⟨_, rfl⟩
  have HO := Lib.hid ho
  rw [ho]
  clear hq hL k1 k3 bM H1 ho
  go_enter Tryd.func37, Tryd.ntmps37
  go_upto_region 1 with (fail)
  rw [← hM]
  clear hM
  obtain ⟨x1, x2, x3, _⟩ := TA.out.cells
  go_wp2_with fail
  refine (largeV _ s1 N1 D1 _ TA.out.r1).mono ?_
  rw [HL.out]
  rintro e wa ⟨rfl, ba⟩
  replace TA := Lib.hid (TA.out.below ba)
  clear ba x1 x2 x3
  obtain ⟨x1, x2, x3, _⟩ := TA.out.cells
  go_wp2_with fail
  refine (ofQ _ _ _ _ q _ TA.out.r1 HL.out HQ.out).mono ?_
  rintro e wc ⟨t1, B1, m1, e1, B1', m1', e1', rfl, i1, bc⟩
  have bq := below_step bc bc.size (below_alloc wc (.cells #[.bool t1, .slice B1 m1 e1, .slice B1' m1' e1'] 39))
  have IR := Lib.hid (i1.out.below (below_alloc wc (.cells #[.bool t1, .slice B1 m1 e1, .slice B1' m1' e1'] 39)))
  have HZ := Lib.hid (Box.new wc (.bool t1) (.slice B1 m1 e1) (.slice B1' m1' e1') 39)
  replace TA := Lib.hid (TA.out.below bq)
  obtain ⟨w2, hw2⟩ : ∃ v, wc.alloc (.cells #[.bool t1, .slice B1 m1 e1, .slice B1' m1' e1'] 39) = v := ⟨_, rfl⟩
  clear bc bq i1 x1 x2 x3
  go_upto_region 6 with (fail)
  rw [hw2] at IR HZ TA
  try rw [hw2]
  clear hw2
  obtain ⟨x1, x2, x3, _, _, _⟩ := HZ.out.cells
  go_wp2_with fail
  refine (qRootBelow q k p HK2.out HK8.out HPP.out (fit_Rq HF.out (by omega)) r HR.out _ _ IR.out).mono ?_
  rintro e wb ⟨t2, B2, m2, e2, B2', m2', e2', rfl, i2, bb⟩
  replace TA := Lib.hid (TA.out.below bb)
  clear bb
  go_wp2_with fail
  refine (qDone _ _ _ i2.out HKK.out).mono ?_
  rintro e we ⟨s9, A9, n9, c9, A9', n9', c9', k9, rfl, h9, b9⟩
  replace TA := Lib.hid (TA.out.below b9)
  obtain ⟨z1, z2, z3, hz1, hz2, hz3, k1, k2, k3⟩ := TA.out.res.cells
  obtain ⟨q0, q1, q2, hs, hb⟩ := OutIs.stored h9 TA.out.res TA.out.bel TA.out.n3
  have Q := Lib.hid (And.intro q0 (And.intro q1 q2))
  have HS := Lib.hid hs
  have HBB := Lib.hid hb
  clear q0 q1 q2 hs hb h9 b9
  go_wp2
  obtain ⟨q0, q1, q2⟩ := Q.out
  refine bodyPost_ret (v := .tuple #[.agg #[.bool s9, .slice A9 n9 c9, .slice A9' n9' c9'], .int .i64 k9]) (by simp [results, Tryd.results37, go_sem, q0, q1, q2]) rfl ?_
  rw [← HO.out]
  exact ⟨_, _, _, _, _, _, _, _, rfl, HS.out, HBB.out⟩
set_option maxHeartbeats 2000000 in
set_option maxRecDepth 100000 in
theorem lGroot_false_even (s1 : Bool) (N1 D1 : Nat) (k p : Nat) (h2 : 2 ≤ k) (h8 : k ≤ 8) (hp : p ≤ 256) (hs : ng (ratOf s1 N1 D1) = false) (he : k % 2 = 0) (r : Rat) (hr : grtQ (ratOf s1 N1 D1) k p false = r) (w : World) (v1 : Value) (h1 : RawV w v1 s1 N1 D1) (q : Rat) (hq : ratOf s1 N1 D1 = q) (hL : largeB s1 N1 D1 = false) :
    Calls Tryd.prog 37 #[v1, .int .i64 (k : Int), .int .i64 (p : Int), .bool false] w (OutPost w (give r)) := by
  have H1 := Lib.hid h1
  obtain ⟨A1, n1, c1, A1', n1', c1', rfl⟩ := h1.shape
  clear h1
  obtain ⟨M, hM, k1, k3, bM⟩ := start1 w (.bool s1) (.slice A1 n1 c1) (.slice A1' n1' c1') (.bool false) (.slice none 0 0) (.slice none 0 0) 24 24
  have TA : Hid (P1 w M w.heap.size (w.heap.size + 1) s1 A1 n1 c1 A1' n1' c1' N1 D1) := Lib.hid ⟨k1, ⟨_, _, _, NI.bool _, NI.slice _ _ _, NI.slice _ _ _, k3⟩, H1.out.below bM, bM, by omega, by omega⟩
  have HQ := Lib.hid hq
  have HL := Lib.hid hL
  have hf := (largeB_false hL).2.2
  rw [hq] at hf
  have HF := Lib.hid hf
  clear hf
  have hp1 : decide ((k : Int) < 2) = false := decide_eq_false (by omega)
  have hp1' : decide (k < 2) = false := decide_eq_false (by omega)
  have hp2 : decide (8 < (k : Int)) = false := decide_eq_false (by omega)
  have hp2' : decide (8 < k) = false := decide_eq_false (by omega)
  have HK2 := Lib.hid h2
  have HK8 := Lib.hid h8
  have hp3 : decide ((p : Int) < 0) = false := decide_eq_false (by omega)
  have hp4 : decide (256 < (p : Int)) = false := decide_eq_false (by omega)
  have hp4' : decide (256 < p) = false := decide_eq_false (by omega)
  have hm := tmod_two k
  have hm2 : IntKind.i64.wrap ((k % 2 : Nat) : Int) = ((k % 2 : Nat) : Int) := wraps_i64 _ (by omega) (by omega)
  have HPP := Lib.hid hp
  obtain ⟨cc, hcc⟩ : ∃ c, sgnI (ng q) q.num.natAbs = c := ⟨_, rfl⟩
  have HSG := Lib.hid hcc
  have hc0 : decide (cc < 0) = ng q := by rw [← hcc]; exact sgnI_neg q
  rw [hq] at hs
  rw [hs] at hc0
  clear hcc hs
  rw [he] at hm hm2
  clear he
  rw [hq] at hr
  have HR := Lib.hid hr
  have HKK := Lib.hid (show Rq 2000000 r by rw [← hr]; exact (grt_Rq false (by omega) h8 hp (fit_Rq HF.out (by omega))).le (by omega))
  clear hr
  obtain ⟨o, ho⟩ : ∃ o, give r = o := ⟨_, rfl⟩
  have HO := Lib.hid ho
  rw [ho]
  clear hq hL k1 k3 bM H1 ho
  go_enter Tryd.func37, Tryd.ntmps37
  go_upto_region 1 with (fail)
  rw [← hM]
  clear hM
  obtain ⟨x1, x2, x3, _⟩ := TA.out.cells
  go_wp2_with fail
  refine (largeV _ s1 N1 D1 _ TA.out.r1).mono ?_
  rw [HL.out]
  rintro e wa ⟨rfl, ba⟩
  replace TA := Lib.hid (TA.out.below ba)
  clear ba x1 x2 x3
  obtain ⟨x1, x2, x3, _⟩ := TA.out.cells
  go_wp2_with fail
  refine (ofQ _ _ _ _ q _ TA.out.r1 HL.out HQ.out).mono ?_
  rintro e wc ⟨t1, B1, m1, e1, B1', m1', e1', rfl, i1, bc⟩
  have bq := below_step bc bc.size (below_alloc wc (.cells #[.bool t1, .slice B1 m1 e1, .slice B1' m1' e1'] 39))
  have IR := Lib.hid (i1.out.below (below_alloc wc (.cells #[.bool t1, .slice B1 m1 e1, .slice B1' m1' e1'] 39)))
  have HZ := Lib.hid (Box.new wc (.bool t1) (.slice B1 m1 e1) (.slice B1' m1' e1') 39)
  replace TA := Lib.hid (TA.out.below bq)
  obtain ⟨w2, hw2⟩ : ∃ v, wc.alloc (.cells #[.bool t1, .slice B1 m1 e1, .slice B1' m1' e1'] 39) = v := ⟨_, rfl⟩
  clear bc bq i1 x1 x2 x3
  go_upto_region 6 with (fail)
  rw [hw2] at IR HZ TA
  try rw [hw2]
  clear hw2
  obtain ⟨x1, x2, x3, _, _, _⟩ := HZ.out.cells
  go_wp2_with fail
  refine (qSgn q _ _ IR.out).mono ?_
  rw [HSG.out]
  rintro e wb ⟨rfl, bb⟩
  replace TA := Lib.hid (TA.out.below bb)
  replace IR := Lib.hid (IR.out.below bb)
  replace HZ := Lib.hid (HZ.out.below bb)
  clear bb x1 x2 x3
  obtain ⟨x1, x2, x3, _, _, _⟩ := HZ.out.cells
  go_wp2_with fail
  refine (qRootBelow q k p HK2.out HK8.out HPP.out (fit_Rq HF.out (by omega)) r HR.out _ _ IR.out).mono ?_
  rintro e wb ⟨t2, B2, m2, e2, B2', m2', e2', rfl, i2, bb⟩
  replace TA := Lib.hid (TA.out.below bb)
  clear bb
  go_wp2_with fail
  refine (qDone _ _ _ i2.out HKK.out).mono ?_
  rintro e we ⟨s9, A9, n9, c9, A9', n9', c9', k9, rfl, h9, b9⟩
  replace TA := Lib.hid (TA.out.below b9)
  obtain ⟨z1, z2, z3, hz1, hz2, hz3, k1, k2, k3⟩ := TA.out.res.cells
  obtain ⟨q0, q1, q2, hs, hb⟩ := OutIs.stored h9 TA.out.res TA.out.bel TA.out.n3
  have Q := Lib.hid (And.intro q0 (And.intro q1 q2))
  have HS := Lib.hid hs
  have HBB := Lib.hid hb
  clear q0 q1 q2 hs hb h9 b9
  go_wp2
  obtain ⟨q0, q1, q2⟩ := Q.out
  refine bodyPost_ret (v := .tuple #[.agg #[.bool s9, .slice A9 n9 c9, .slice A9' n9' c9'], .int .i64 k9]) (by simp [results, Tryd.results37, go_sem, q0, q1, q2]) rfl ?_
  rw [← HO.out]
  exact ⟨_, _, _, _, _, _, _, _, rfl, HS.out, HBB.out⟩
set_option maxHeartbeats 2000000 in
set_option maxRecDepth 100000 in
theorem lGroot_true_odd (s1 : Bool) (N1 D1 : Nat) (k p : Nat) (h2 : 2 ≤ k) (h8 : k ≤ 8) (hp : p ≤ 256) (ho : k % 2 = 1) (r : Rat) (hr : grtQ (ratOf s1 N1 D1) k p true = r) (w : World) (v1 : Value) (h1 : RawV w v1 s1 N1 D1) (q : Rat) (hq : ratOf s1 N1 D1 = q) (hL : largeB s1 N1 D1 = false) :
    Calls Tryd.prog 37 #[v1, .int .i64 (k : Int), .int .i64 (p : Int), .bool true] w (OutPost w (give r)) := by
  have H1 := Lib.hid h1
  obtain ⟨A1, n1, c1, A1', n1', c1', rfl⟩ := h1.shape
  clear h1
  obtain ⟨M, hM, k1, k3, bM⟩ := start1 w (.bool s1) (.slice A1 n1 c1) (.slice A1' n1' c1') (.bool false) (.slice none 0 0) (.slice none 0 0) 24 24
  have TA : Hid (P1 w M w.heap.size (w.heap.size + 1) s1 A1 n1 c1 A1' n1' c1' N1 D1) := Lib.hid ⟨k1, ⟨_, _, _, NI.bool _, NI.slice _ _ _, NI.slice _ _ _, k3⟩, H1.out.below bM, bM, by omega, by omega⟩
  have HQ := Lib.hid hq
  have HL := Lib.hid hL
  have hf := (largeB_false hL).2.2
  rw [hq] at hf
  have HF := Lib.hid hf
  clear hf
  have hp1 : decide ((k : Int) < 2) = false := decide_eq_false (by omega)
  have hp1' : decide (k < 2) = false := decide_eq_false (by omega)
  have hp2 : decide (8 < (k : Int)) = false := decide_eq_false (by omega)
  have hp2' : decide (8 < k) = false := decide_eq_false (by omega)
  have HK2 := Lib.hid h2
  have HK8 := Lib.hid h8
  have hp3 : decide ((p : Int) < 0) = false := decide_eq_false (by omega)
  have hp4 : decide (256 < (p : Int)) = false := decide_eq_false (by omega)
  have hp4' : decide (256 < p) = false := decide_eq_false (by omega)
  have hm := tmod_two k
  have hm2 : IntKind.i64.wrap ((k % 2 : Nat) : Int) = ((k % 2 : Nat) : Int) := wraps_i64 _ (by omega) (by omega)
  have HPP := Lib.hid hp
  rw [ho] at hm hm2
  clear ho
  rw [hq] at hr
  have HR := Lib.hid hr
  have HKK := Lib.hid (show Rq 2000000 r by rw [← hr]; exact (grt_Rq true (by omega) h8 hp (fit_Rq HF.out (by omega))).le (by omega))
  clear hr
  obtain ⟨o, ho⟩ : ∃ o, give r = o := ⟨_, rfl⟩
  have HO := Lib.hid ho
  rw [ho]
  clear hq hL k1 k3 bM H1 ho
  go_enter Tryd.func37, Tryd.ntmps37
  go_upto_region 1 with (fail)
  rw [← hM]
  clear hM
  obtain ⟨x1, x2, x3, _⟩ := TA.out.cells
  go_wp2_with fail
  refine (largeV _ s1 N1 D1 _ TA.out.r1).mono ?_
  rw [HL.out]
  rintro e wa ⟨rfl, ba⟩
  replace TA := Lib.hid (TA.out.below ba)
  clear ba x1 x2 x3
  obtain ⟨x1, x2, x3, _⟩ := TA.out.cells
  go_wp2_with fail
  refine (ofQ _ _ _ _ q _ TA.out.r1 HL.out HQ.out).mono ?_
  rintro e wc ⟨t1, B1, m1, e1, B1', m1', e1', rfl, i1, bc⟩
  have bq := below_step bc bc.size (below_alloc wc (.cells #[.bool t1, .slice B1 m1 e1, .slice B1' m1' e1'] 39))
  have IR := Lib.hid (i1.out.below (below_alloc wc (.cells #[.bool t1, .slice B1 m1 e1, .slice B1' m1' e1'] 39)))
  have HZ := Lib.hid (Box.new wc (.bool t1) (.slice B1 m1 e1) (.slice B1' m1' e1') 39)
  replace TA := Lib.hid (TA.out.below bq)
  obtain ⟨w2, hw2⟩ : ∃ v, wc.alloc (.cells #[.bool t1, .slice B1 m1 e1, .slice B1' m1' e1'] 39) = v := ⟨_, rfl⟩
  clear bc bq i1 x1 x2 x3
  go_upto_region 6 with (fail)
  rw [hw2] at IR HZ TA
  try rw [hw2]
  clear hw2
  obtain ⟨x1, x2, x3, _, _, _⟩ := HZ.out.cells
  go_wp2_with fail
  refine (qRootAbove q k p HK2.out HK8.out HPP.out (fit_Rq HF.out (by omega)) r HR.out _ _ IR.out).mono ?_
  rintro e wb ⟨t2, B2, m2, e2, B2', m2', e2', rfl, i2, bb⟩
  replace TA := Lib.hid (TA.out.below bb)
  clear bb
  go_wp2_with fail
  refine (qDone _ _ _ i2.out HKK.out).mono ?_
  rintro e we ⟨s9, A9, n9, c9, A9', n9', c9', k9, rfl, h9, b9⟩
  replace TA := Lib.hid (TA.out.below b9)
  obtain ⟨z1, z2, z3, hz1, hz2, hz3, k1, k2, k3⟩ := TA.out.res.cells
  obtain ⟨q0, q1, q2, hs, hb⟩ := OutIs.stored h9 TA.out.res TA.out.bel TA.out.n3
  have Q := Lib.hid (And.intro q0 (And.intro q1 q2))
  have HS := Lib.hid hs
  have HBB := Lib.hid hb
  clear q0 q1 q2 hs hb h9 b9
  go_wp2
  obtain ⟨q0, q1, q2⟩ := Q.out
  refine bodyPost_ret (v := .tuple #[.agg #[.bool s9, .slice A9 n9 c9, .slice A9' n9' c9'], .int .i64 k9]) (by simp [results, Tryd.results37, go_sem, q0, q1, q2]) rfl ?_
  rw [← HO.out]
  exact ⟨_, _, _, _, _, _, _, _, rfl, HS.out, HBB.out⟩
set_option maxHeartbeats 2000000 in
set_option maxRecDepth 100000 in
theorem lGroot_true_even (s1 : Bool) (N1 D1 : Nat) (k p : Nat) (h2 : 2 ≤ k) (h8 : k ≤ 8) (hp : p ≤ 256) (hs : ng (ratOf s1 N1 D1) = false) (he : k % 2 = 0) (r : Rat) (hr : grtQ (ratOf s1 N1 D1) k p true = r) (w : World) (v1 : Value) (h1 : RawV w v1 s1 N1 D1) (q : Rat) (hq : ratOf s1 N1 D1 = q) (hL : largeB s1 N1 D1 = false) :
    Calls Tryd.prog 37 #[v1, .int .i64 (k : Int), .int .i64 (p : Int), .bool true] w (OutPost w (give r)) := by
  have H1 := Lib.hid h1
  obtain ⟨A1, n1, c1, A1', n1', c1', rfl⟩ := h1.shape
  clear h1
  obtain ⟨M, hM, k1, k3, bM⟩ := start1 w (.bool s1) (.slice A1 n1 c1) (.slice A1' n1' c1') (.bool false) (.slice none 0 0) (.slice none 0 0) 24 24
  have TA : Hid (P1 w M w.heap.size (w.heap.size + 1) s1 A1 n1 c1 A1' n1' c1' N1 D1) := Lib.hid ⟨k1, ⟨_, _, _, NI.bool _, NI.slice _ _ _, NI.slice _ _ _, k3⟩, H1.out.below bM, bM, by omega, by omega⟩
  have HQ := Lib.hid hq
  have HL := Lib.hid hL
  have hf := (largeB_false hL).2.2
  rw [hq] at hf
  have HF := Lib.hid hf
  clear hf
  have hp1 : decide ((k : Int) < 2) = false := decide_eq_false (by omega)
  have hp1' : decide (k < 2) = false := decide_eq_false (by omega)
  have hp2 : decide (8 < (k : Int)) = false := decide_eq_false (by omega)
  have hp2' : decide (8 < k) = false := decide_eq_false (by omega)
  have HK2 := Lib.hid h2
  have HK8 := Lib.hid h8
  have hp3 : decide ((p : Int) < 0) = false := decide_eq_false (by omega)
  have hp4 : decide (256 < (p : Int)) = false := decide_eq_false (by omega)
  have hp4' : decide (256 < p) = false := decide_eq_false (by omega)
  have hm := tmod_two k
  have hm2 : IntKind.i64.wrap ((k % 2 : Nat) : Int) = ((k % 2 : Nat) : Int) := wraps_i64 _ (by omega) (by omega)
  have HPP := Lib.hid hp
  obtain ⟨cc, hcc⟩ : ∃ c, sgnI (ng q) q.num.natAbs = c := ⟨_, rfl⟩
  have HSG := Lib.hid hcc
  have hc0 : decide (cc < 0) = ng q := by rw [← hcc]; exact sgnI_neg q
  rw [hq] at hs
  rw [hs] at hc0
  clear hcc hs
  rw [he] at hm hm2
  clear he
  rw [hq] at hr
  have HR := Lib.hid hr
  have HKK := Lib.hid (show Rq 2000000 r by rw [← hr]; exact (grt_Rq true (by omega) h8 hp (fit_Rq HF.out (by omega))).le (by omega))
  clear hr
  obtain ⟨o, ho⟩ : ∃ o, give r = o := ⟨_, rfl⟩
  have HO := Lib.hid ho
  rw [ho]
  clear hq hL k1 k3 bM H1 ho
  go_enter Tryd.func37, Tryd.ntmps37
  go_upto_region 1 with (fail)
  rw [← hM]
  clear hM
  obtain ⟨x1, x2, x3, _⟩ := TA.out.cells
  go_wp2_with fail
  refine (largeV _ s1 N1 D1 _ TA.out.r1).mono ?_
  rw [HL.out]
  rintro e wa ⟨rfl, ba⟩
  replace TA := Lib.hid (TA.out.below ba)
  clear ba x1 x2 x3
  obtain ⟨x1, x2, x3, _⟩ := TA.out.cells
  go_wp2_with fail
  refine (ofQ _ _ _ _ q _ TA.out.r1 HL.out HQ.out).mono ?_
  rintro e wc ⟨t1, B1, m1, e1, B1', m1', e1', rfl, i1, bc⟩
  have bq := below_step bc bc.size (below_alloc wc (.cells #[.bool t1, .slice B1 m1 e1, .slice B1' m1' e1'] 39))
  have IR := Lib.hid (i1.out.below (below_alloc wc (.cells #[.bool t1, .slice B1 m1 e1, .slice B1' m1' e1'] 39)))
  have HZ := Lib.hid (Box.new wc (.bool t1) (.slice B1 m1 e1) (.slice B1' m1' e1') 39)
  replace TA := Lib.hid (TA.out.below bq)
  obtain ⟨w2, hw2⟩ : ∃ v, wc.alloc (.cells #[.bool t1, .slice B1 m1 e1, .slice B1' m1' e1'] 39) = v := ⟨_, rfl⟩
  clear bc bq i1 x1 x2 x3
  go_upto_region 6 with (fail)
  rw [hw2] at IR HZ TA
  try rw [hw2]
  clear hw2
  obtain ⟨x1, x2, x3, _, _, _⟩ := HZ.out.cells
  go_wp2_with fail
  refine (qSgn q _ _ IR.out).mono ?_
  rw [HSG.out]
  rintro e wb ⟨rfl, bb⟩
  replace TA := Lib.hid (TA.out.below bb)
  replace IR := Lib.hid (IR.out.below bb)
  replace HZ := Lib.hid (HZ.out.below bb)
  clear bb x1 x2 x3
  obtain ⟨x1, x2, x3, _, _, _⟩ := HZ.out.cells
  go_wp2_with fail
  refine (qRootAbove q k p HK2.out HK8.out HPP.out (fit_Rq HF.out (by omega)) r HR.out _ _ IR.out).mono ?_
  rintro e wb ⟨t2, B2, m2, e2, B2', m2', e2', rfl, i2, bb⟩
  replace TA := Lib.hid (TA.out.below bb)
  clear bb
  go_wp2_with fail
  refine (qDone _ _ _ i2.out HKK.out).mono ?_
  rintro e we ⟨s9, A9, n9, c9, A9', n9', c9', k9, rfl, h9, b9⟩
  replace TA := Lib.hid (TA.out.below b9)
  obtain ⟨z1, z2, z3, hz1, hz2, hz3, k1, k2, k3⟩ := TA.out.res.cells
  obtain ⟨q0, q1, q2, hs, hb⟩ := OutIs.stored h9 TA.out.res TA.out.bel TA.out.n3
  have Q := Lib.hid (And.intro q0 (And.intro q1 q2))
  have HS := Lib.hid hs
  have HBB := Lib.hid hb
  clear q0 q1 q2 hs hb h9 b9
  go_wp2
  obtain ⟨q0, q1, q2⟩ := Q.out
  refine bodyPost_ret (v := .tuple #[.agg #[.bool s9, .slice A9 n9 c9, .slice A9' n9' c9'], .int .i64 k9]) (by simp [results, Tryd.results37, go_sem, q0, q1, q2]) rfl ?_
  rw [← HO.out]
  exact ⟨_, _, _, _, _, _, _, _, rfl, HS.out, HBB.out⟩
theorem lGridRoot (s1 : Bool) (N1 D1 : Nat) (n p : Int) (up : Bool) (w : World) (v1 : Value) (h1 : RawV w v1 s1 N1 D1) :
    Calls Tryd.prog 37 #[v1, .int .i64 n, .int .i64 p, .bool up] w (OutPost w (grootOut (largeB s1 N1 D1) n p up (ratOf s1 N1 D1))) := by
  unfold grootOut
  by_cases h : largeB s1 N1 D1 = true
  · rw [if_pos h]; exact lGroot_large s1 N1 D1 n p up w v1 h1 _ rfl h
  · rw [if_neg h]
    have h' : largeB s1 N1 D1 = false := by simpa using h
    by_cases c1 : n < 2
    · rw [if_pos (Or.inl c1)]; exact lGroot_n2 s1 N1 D1 n p up c1 w v1 h1 _ rfl h'
    · by_cases c2 : 8 < n
      · rw [if_pos (Or.inr (Or.inl c2))]; exact lGroot_n8 s1 N1 D1 n p up c2 w v1 h1 _ rfl h'
      · by_cases c3 : p < 0
        · rw [if_pos (Or.inr (Or.inr (Or.inl c3)))]; exact lGroot_p0 s1 N1 D1 n p up (by omega) (by omega) c3 w v1 h1 _ rfl h'
        · by_cases c4 : 256 < p
          · rw [if_pos (Or.inr (Or.inr (Or.inr c4)))]; exact lGroot_p256 s1 N1 D1 n p up (by omega) (by omega) c4 w v1 h1 _ rfl h'
          · rw [if_neg (by omega)]
            obtain ⟨k, rfl⟩ : ∃ k : Nat, n = (k : Int) := ⟨n.toNat, by omega⟩
            obtain ⟨j, rfl⟩ : ∃ j : Nat, p = (j : Int) := ⟨p.toNat, by omega⟩
            rw [Int.toNat_natCast, Int.toNat_natCast]
            have h2 : 2 ≤ k := by omega
            have h8 : k ≤ 8 := by omega
            have hj : j ≤ 256 := by omega
            by_cases he : ng (ratOf s1 N1 D1) = true ∧ k % 2 = 0
            · rw [if_pos he]; exact lGroot_dom s1 N1 D1 k j h2 h8 hj up he.1 he.2 w v1 h1 _ rfl h'
            · rw [if_neg he]
              rcases Nat.mod_two_eq_zero_or_one k with h0 | h0
              · have hs : ng (ratOf s1 N1 D1) = false := by
                  cases hs : ng (ratOf s1 N1 D1)
                  · rfl
                  · exact absurd ⟨hs, h0⟩ he
                cases up
                · exact lGroot_false_even s1 N1 D1 k j h2 h8 hj hs h0 _ rfl w v1 h1 _ rfl h'
                · exact lGroot_true_even s1 N1 D1 k j h2 h8 hj hs h0 _ rfl w v1 h1 _ rfl h'
              · cases up
                · exact lGroot_false_odd s1 N1 D1 k j h2 h8 hj h0 _ rfl w v1 h1 _ rfl h'
                · exact lGroot_true_odd s1 N1 D1 k j h2 h8 hj h0 _ rfl w v1 h1 _ rfl h'
end Go.Proofs.YtfmhplcpejmkhabDoor
