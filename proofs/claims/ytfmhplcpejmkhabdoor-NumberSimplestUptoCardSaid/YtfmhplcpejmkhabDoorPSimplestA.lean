/-
  Plain laws on digit lists: the digits of a natural number to a base, and their value. No condition.
  Words of this proof: slices of 32-bit words that are read, blocks of the call's own, what a call leaves as it was. No condition.
  Contracts of the program's natural numbers: word.Of, Small, Zero. No condition.
  Contracts of math/bits.Len32, LeadingZeros32, TrailingZeros32 out of the library of contracts, laid at this program. TrailingZeros32 under the premise that its table lies as its initialiser lays it.
  Plain laws on natural numbers: binary length, trailing zeros. No condition.
  Contracts of the program s natural numbers: Cmp, One, Bits, Twos. Twos under the premise that the table of math/bits lies as its initialiser lays it.
  Contracts of the program's natural numbers: Add, Sub, Mul. No condition but bounds on lengths.
  Contracts of the program's natural numbers: Mul. No condition but bounds on lengths.
  Contracts of the program's natural numbers: Shl, Shr, DivSmall. No condition but bounds on lengths.
  Contracts of the program's natural numbers: DivSmall. No condition but bounds on lengths.
  Plain laws on the estimate of a digit of a quotient. No condition.
  Contract of word.digit: one digit of a quotient, the rest left in the window.
  Plain laws on long division: what holds between two digits. No condition.
  Contract of the program's natural numbers: Div. No condition but bounds on lengths and a divisor other than 0.
  Contracts of the program's natural numbers: GCD, Pow. No condition but bounds on lengths.
  Plain laws on whole roots: what Newton's step keeps. No condition.
  Contract of the program's natural numbers: Root. No condition but bounds.
  Contracts of the reference's natural numbers: trim, NatCmp, NatOf.
  Slices that the call itself grows by append: what they own, and that they can be read. slices.Clone of a slice of words.
  Contracts of the reference's natural numbers: NatOf.
  Contracts of the reference's natural numbers: NatAdd.
  Contracts of the reference's natural numbers: NatSub.
  Contracts of the reference's natural numbers: NatMul.
  Contracts of the reference's natural numbers: small.
-/
import Derived.Test.YtfmhplcpejmkhabDoorProg
import Derived.WalkKit
import Derived.Lib.Hide
import Derived.Outline
import Derived.Deep.LoopGhost
import Derived.Deep.DeepCutAuto
import Derived.Deep.CutBlock
import Derived.Deep.OwnRows
import Derived.Deep.DeepFit
import Derived.OwnWalk
import Derived.Laws.MakeOwn
import Derived.Laws.OwnMore
import Derived.Laws.Rows
import Derived.WalkLawsBesides
import Derived.WalkSpells
import Derived.BigQuiet
import Derived.Deep.QuietTactic
import Derived.KernelRfl
import Derived.IntWalk
import Derived.Deep.Cut
import Derived.Shelf.Small.Bits
import Derived.Shelf.Spec.TrailingZeros
import Derived.Lib.BitFns
import Derived.Lib.TrailingZeros
import Derived.Laws.ShiftsVar
import Derived.Laws.CopyOwn
import Derived.Lib.SliceRun
namespace Go.Proofs.YtfmhplcpejmkhabDoor.Dig

/-- the digits of n to the base B, without a most significant 0 -/
def dig (B n : Nat) : List Int :=
  if _h : n = 0 ∨ B < 2 then [] else ((n % B : Nat) : Int) :: dig B (n / B)
termination_by n
decreasing_by exact Nat.div_lt_self (by omega) (by omega)

/-- the number of a list of digits -/
def val (B : Nat) : List Int → Int
  | [] => 0
  | x :: t => x + B * val B t

/-- every entry is a digit -/
def Ok (B : Nat) (l : List Int) : Prop := ∀ x ∈ l, 0 ≤ x ∧ x < B

theorem dig_zero (B : Nat) : dig B 0 = [] := by unfold dig; simp
theorem dig_pos {B n : Nat} (hB : 2 ≤ B) (hn : n ≠ 0) : dig B n = ((n % B : Nat) : Int) :: dig B (n / B) := by
  rw [dig]; rw [dif_neg (by omega)]

theorem dig_ne_nil {B n : Nat} (hB : 2 ≤ B) : dig B n = [] ↔ n = 0 := by
  constructor
  · intro h
    by_cases hn : n = 0
    · exact hn
    · rw [dig_pos hB hn] at h; cases h
  · rintro rfl; exact dig_zero B

theorem val_dig {B : Nat} (hB : 2 ≤ B) (n : Nat) : val B (dig B n) = n := by
  induction n using Nat.strongRecOn with
  | _ n ih =>
    by_cases hn : n = 0
    · subst hn; rw [dig_zero]; rfl
    · rw [dig_pos hB hn, val, ih (n / B) (Nat.div_lt_self (by omega) (by omega))]
      have := Nat.mod_add_div n B
      exact_mod_cast this

theorem ok_dig {B : Nat} (hB : 2 ≤ B) (n : Nat) : Ok B (dig B n) := by
  induction n using Nat.strongRecOn with
  | _ n ih =>
    by_cases hn : n = 0
    · subst hn; rw [dig_zero]; intro x hx; cases hx
    · rw [dig_pos hB hn]
      intro x hx
      rcases List.mem_cons.1 hx with h | h
      · subst h
        have := Nat.mod_lt n (show B > 0 by omega)
        omega
      · exact ih (n / B) (Nat.div_lt_self (by omega) (by omega)) x h

theorem last_dig {B : Nat} (hB : 2 ≤ B) (n : Nat) : (dig B n).getLast? ≠ some 0 := by
  induction n using Nat.strongRecOn with
  | _ n ih =>
    by_cases hn : n = 0
    · subst hn; rw [dig_zero]; simp
    · rw [dig_pos hB hn]
      have h2 := ih (n / B) (Nat.div_lt_self (by omega) (by omega))
      by_cases hz : n / B = 0
      · rw [hz, dig_zero]
        have : n < B := by
          rcases Nat.lt_or_ge n B with h | h
          · exact h
          · have := Nat.div_pos h (by omega); omega
        rw [Nat.mod_eq_of_lt this]
        simp only [List.getLast?_singleton, ne_eq, Option.some.injEq]; omega
      · rw [List.getLast?_cons]
        have : dig B (n / B) ≠ [] := fun h => hz ((dig_ne_nil hB).1 h)
        cases hd : (dig B (n/B)).getLast? with
        | none => rw [List.getLast?_eq_none_iff] at hd; exact absurd hd this
        | some y => rw [hd] at h2; simpa using h2

theorem Ok.nil (B : Nat) : Ok B [] := fun _ h => by cases h
theorem Ok.cons {B : Nat} {x : Int} {l : List Int} (h0 : 0 ≤ x) (h1 : x < B) (h : Ok B l) : Ok B (x :: l) := by
  intro y hy
  rcases List.mem_cons.1 hy with e | e
  · subst e; exact ⟨h0, h1⟩
  · exact h y e
theorem Ok.head {B : Nat} {x : Int} {l : List Int} (h : Ok B (x :: l)) : 0 ≤ x ∧ x < B := h x (by simp)
theorem Ok.tail {B : Nat} {x : Int} {l : List Int} (h : Ok B (x :: l)) : Ok B l := fun y hy => h y (List.mem_cons_of_mem _ hy)
theorem Ok.app {B : Nat} {l r : List Int} (h : Ok B l) (h' : Ok B r) : Ok B (l ++ r) := by
  intro y hy
  rcases List.mem_append.1 hy with e | e
  · exact h y e
  · exact h' y e
theorem Ok.left {B : Nat} {l r : List Int} (h : Ok B (l ++ r)) : Ok B l := fun y hy => h y (List.mem_append.2 (.inl hy))
theorem Ok.right {B : Nat} {l r : List Int} (h : Ok B (l ++ r)) : Ok B r := fun y hy => h y (List.mem_append.2 (.inr hy))
theorem Ok.take {B : Nat} {l : List Int} (h : Ok B l) (n : Nat) : Ok B (l.take n) := fun y hy => h y (List.mem_of_mem_take hy)
theorem Ok.drop {B : Nat} {l : List Int} (h : Ok B l) (n : Nat) : Ok B (l.drop n) := fun y hy => h y (List.mem_of_mem_drop hy)
theorem Ok.snoc {B : Nat} {l : List Int} {x : Int} (h : Ok B l) (h0 : 0 ≤ x) (h1 : x < B) : Ok B (l ++ [x]) :=
  h.app (Ok.cons h0 h1 (Ok.nil B))
theorem Ok.getD {B : Nat} {l : List Int} (hB : 0 < B) (h : Ok B l) (i : Nat) : 0 ≤ l.getD i 0 ∧ l.getD i 0 < B := by
  rw [List.getD_eq_getElem?_getD]
  cases hi : l[i]? with
  | none => simp; omega
  | some x => exact h x (List.mem_of_getElem? hi)
theorem Ok.set {B : Nat} {l : List Int} {x : Int} (h : Ok B l) (i : Nat) (h0 : 0 ≤ x) (h1 : x < B) : Ok B (l.set i x) := by
  intro y hy
  rcases List.mem_or_eq_of_mem_set hy with e | e
  · exact h y e
  · subst e; exact ⟨h0, h1⟩
theorem Ok.replicate {B : Nat} (hB : 0 < B) (n : Nat) : Ok B (List.replicate n 0) := by
  intro y hy
  have := List.eq_of_mem_replicate hy
  subst this; exact ⟨by omega, by omega⟩

theorem val_nonneg {B : Nat} {l : List Int} (h : Ok B l) : 0 ≤ val B l := by
  induction l with
  | nil => simp [val]
  | cons x t ih =>
    have h1 := h.head
    have h2 := ih h.tail
    have := Int.mul_nonneg (Int.natCast_nonneg B) h2
    simp only [val]; omega

theorem val_lt {B : Nat} {l : List Int} (h : Ok B l) : val B l < (B ^ l.length : Nat) := by
  induction l with
  | nil => simp [val]
  | cons x t ih =>
    have h1 := h.head
    have h2 := ih h.tail
    simp only [val, List.length_cons, Nat.pow_succ]
    have h3 : (B : Int) * (val B t + 1) ≤ B * (B ^ t.length : Nat) := Int.mul_le_mul_of_nonneg_left (by omega) (by omega)
    rw [Int.mul_add] at h3
    rw [Nat.mul_comm]
    push_cast at h3 ⊢
    omega

theorem val_append (B : Nat) (l r : List Int) : val B (l ++ r) = val B l + (B ^ l.length : Nat) * val B r := by
  induction l with
  | nil => simp [val]
  | cons x t ih =>
    simp only [List.cons_append, val, ih, List.length_cons, Nat.pow_succ]
    push_cast
    rw [Int.mul_add, Int.mul_comm ((B : Int) ^ t.length) B, Int.mul_assoc]; omega

theorem val_snoc (B : Nat) (l : List Int) (x : Int) : val B (l ++ [x]) = val B l + (B ^ l.length : Nat) * x := by
  rw [val_append]; simp [val]

theorem val_take_succ (B : Nat) (l : List Int) (i : Nat) (h : i < l.length) : val B (l.take (i + 1)) = val B (l.take i) + (B ^ i : Nat) * l.getD i 0 := by
  rw [List.take_succ_eq_append_getElem h, val_snoc, List.length_take, Nat.min_eq_left (by omega), List.getD_eq_getElem?_getD, List.getElem?_eq_getElem h]
  rfl

theorem val_take_ge (B : Nat) (l : List Int) (i : Nat) (h : l.length ≤ i) : val B (l.take i) = val B l := by
  rw [List.take_of_length_le h]

theorem val_split (B : Nat) (l : List Int) (i : Nat) (h : i ≤ l.length) : val B l = val B (l.take i) + (B ^ i : Nat) * val B (l.drop i) := by
  have := val_append B (l.take i) (l.drop i)
  rw [List.take_append_drop, List.length_take, Nat.min_eq_left h] at this
  exact this

theorem val_drop (B : Nat) (l : List Int) (i : Nat) (h : i < l.length) : val B (l.drop i) = l.getD i 0 + B * val B (l.drop (i + 1)) := by
  rw [List.drop_eq_getElem_cons h, val, List.getD_eq_getElem?_getD, List.getElem?_eq_getElem h]; rfl

theorem val_replicate (B n : Nat) : val B (List.replicate n 0) = 0 := by
  induction n with
  | zero => rfl
  | succ n ih => simp [List.replicate_succ, val, ih]

/-- a list of digits without a 0 at its end is the digits of its number -/
theorem dig_val {B : Nat} (hB : 2 ≤ B) {l : List Int} (h : Ok B l) (hl : l.getLast? ≠ some 0) : dig B (val B l).toNat = l := by
  induction l with
  | nil => simp [val, dig_zero]
  | cons x t ih =>
    have h1 := h.head
    have h2 := val_nonneg h.tail
    have hm := Int.mul_nonneg (Int.natCast_nonneg B) h2
    have hne : val B (x :: t) ≠ 0 := by
      intro e
      simp only [val] at e
      have hx : x = 0 := by omega
      have hv : (B : Int) * val B t = 0 := by omega
      have hv : val B t = 0 := by
        rcases Int.mul_eq_zero.1 hv with h | h
        · omega
        · exact h
      subst hx
      by_cases ht : t = []
      · subst ht; simp at hl
      · have hl' : t.getLast? ≠ some 0 := by
          intro e; apply hl; rw [List.getLast?_cons, e]; rfl
        have := ih h.tail hl'
        rw [hv] at this
        simp [dig_zero] at this
        exact ht this
    have hn : (val B (x :: t)).toNat ≠ 0 := by simp only [val] at hne ⊢; omega
    rw [dig_pos hB hn]
    have e1 : (val B (x :: t)).toNat = x.toNat + B * (val B t).toNat := by
      apply Int.ofNat.inj
      show (((val B (x :: t)).toNat : Nat) : Int) = ((x.toNat + B * (val B t).toNat : Nat) : Int)
      push_cast
      rw [Int.toNat_of_nonneg h1.1, Int.toNat_of_nonneg h2, Int.toNat_of_nonneg (by simp only [val]; omega)]
      rfl
    have hx : x.toNat < B := by omega
    rw [e1, Nat.add_mul_mod_self_left, Nat.mod_eq_of_lt hx, Nat.add_mul_div_left _ _ (by omega), Nat.div_eq_of_lt hx, Nat.zero_add]
    congr 1
    · omega
    · by_cases ht : t = []
      · subst ht; simp [val, dig_zero]
      · apply ih h.tail
        intro e; apply hl; rw [List.getLast?_cons, e]; rfl

theorem dig_of {B : Nat} (hB : 2 ≤ B) {l : List Int} {n : Nat} (h : Ok B l) (hl : l.getLast? ≠ some 0) (hv : val B l = n) : l = dig B n := by
  have := dig_val hB h hl
  rw [hv] at this
  simpa using this.symm

theorem dig_inj {B : Nat} (hB : 2 ≤ B) {a b : Nat} (h : dig B a = dig B b) : a = b := by
  have h1 := val_dig hB a
  rw [h, val_dig hB b] at h1
  omega

/-- a word 0 at the end falls -/
theorem dig_strip {B : Nat} (l : List Int) : val B (l ++ [0]) = val B l := by
  rw [val_snoc]; simp

theorem dig_length_le {B : Nat} (hB : 2 ≤ B) (n k : Nat) : (dig B n).length ≤ k ↔ n < B ^ k := by
  induction k generalizing n with
  | zero =>
    simp only [Nat.pow_zero]
    constructor
    · intro h
      have : dig B n = [] := List.eq_nil_of_length_eq_zero (by omega)
      have := (dig_ne_nil hB).1 this
      omega
    · intro h
      have : n = 0 := by omega
      subst this; rw [dig_zero]; simp
  | succ k ih =>
    by_cases hn : n = 0
    · subst hn; rw [dig_zero]; simp; exact Nat.pow_pos (by omega)
    · rw [dig_pos hB hn, List.length_cons, Nat.succ_le_succ_iff, ih, Nat.pow_succ, Nat.div_lt_iff_lt_mul (by omega)]

theorem dig_length_lt {B : Nat} (hB : 2 ≤ B) (n k : Nat) : k < (dig B n).length ↔ B ^ k ≤ n := by
  have := dig_length_le hB n k
  omega

theorem lt_pow_length {B : Nat} (hB : 2 ≤ B) (n : Nat) : n < B ^ (dig B n).length := (dig_length_le hB n _).1 (Nat.le_refl _)
theorem pow_length_le {B : Nat} (hB : 2 ≤ B) {n : Nat} (hn : n ≠ 0) : B ^ ((dig B n).length - 1) ≤ n := by
  apply (dig_length_lt hB n _).1
  have : (dig B n).length ≠ 0 := fun h => hn ((dig_ne_nil hB).1 (List.eq_nil_of_length_eq_zero h))
  omega

theorem dig_length_mono {B : Nat} (hB : 2 ≤ B) {a b : Nat} (h : a ≤ b) : (dig B a).length ≤ (dig B b).length :=
  (dig_length_le hB a _).2 (Nat.lt_of_le_of_lt h (lt_pow_length hB b))

/-- digit i -/
theorem dig_getD {B : Nat} (hB : 2 ≤ B) (n i : Nat) : (dig B n).getD i 0 = ((n / B ^ i % B : Nat) : Int) := by
  induction i generalizing n with
  | zero =>
    by_cases hn : n = 0
    · subst hn; rw [dig_zero]; simp
    · rw [dig_pos hB hn]; simp
  | succ i ih =>
    by_cases hn : n = 0
    · subst hn; rw [dig_zero]; simp
    · rw [dig_pos hB hn, List.getD_cons_succ, ih, Nat.pow_succ', Nat.div_div_eq_div_mul]

theorem dig_drop {B : Nat} (hB : 2 ≤ B) (n i : Nat) : (dig B n).drop i = dig B (n / B ^ i) := by
  induction i generalizing n with
  | zero => simp
  | succ i ih =>
    by_cases hn : n = 0
    · subst hn; simp [dig_zero]
    · rw [dig_pos hB hn, List.drop_succ_cons, ih, Nat.pow_succ', Nat.div_div_eq_div_mul]

theorem val_dig_take {B : Nat} (hB : 2 ≤ B) (n i : Nat) : val B ((dig B n).take i) = ((n % B ^ i : Nat) : Int) := by
  induction i generalizing n with
  | zero => simp [val, Nat.mod_one]
  | succ i ih =>
    by_cases hn : n = 0
    · subst hn; simp [dig_zero, val]
    · rw [dig_pos hB hn, List.take_succ_cons, val, ih, Nat.pow_succ', Nat.mod_mul]
      push_cast; rfl



/-- without the zeros at the end -/
def strip : List Int → List Int
  | [] => []
  | x :: t => match strip t with
    | [] => if x = 0 then [] else [x]
    | y :: r => x :: y :: r
theorem strip_snoc_zero (l : List Int) : strip (l ++ [0]) = strip l := by
  induction l with
  | nil => simp [strip]
  | cons x t ih => simp [strip, ih]
theorem strip_snoc (l : List Int) (x : Int) (h : x ≠ 0) : strip (l ++ [x]) = l ++ [x] := by
  induction l with
  | nil => simp [strip, h]
  | cons y t ih =>
    simp only [List.cons_append, strip, ih]
    cases t <;> simp
def rd (l : List Int) (i : Nat) : Int := l.getD i 0
theorem rd_ge {l : List Int} {i : Nat} (h : l.length ≤ i) : rd l i = 0 := by
  rw [rd, List.getD_eq_getElem?_getD, List.getElem?_eq_none h]; rfl
theorem take_rd (l : List Int) (k : Nat) (h : k < l.length) : l.take (k + 1) = l.take k ++ [rd l k] := by
  rw [List.take_succ_eq_append_getElem h, rd, List.getD_eq_getElem?_getD, List.getElem?_eq_getElem h]; rfl
theorem strip_take_zero {l : List Int} {k : Nat} (h0 : 0 < k) (hk : k ≤ l.length) (hz : rd l (k - 1) = 0) : strip (l.take (k - 1)) = strip (l.take k) := by
  obtain ⟨m, rfl⟩ : ∃ m, k = m + 1 := ⟨k - 1, by omega⟩
  rw [Nat.add_sub_cancel] at hz ⊢
  rw [take_rd l m (by omega), hz, strip_snoc_zero]
theorem strip_take_ne {l : List Int} {k : Nat} (h0 : 0 < k) (hk : k ≤ l.length) (hz : rd l (k - 1) ≠ 0) : strip (l.take k) = l.take k := by
  obtain ⟨m, rfl⟩ : ∃ m, k = m + 1 := ⟨k - 1, by omega⟩
  rw [Nat.add_sub_cancel] at hz
  rw [take_rd l m (by omega), strip_snoc _ _ hz]
theorem strip_last (l : List Int) : (strip l).getLast? ≠ some 0 := by
  induction l with
  | nil => simp [strip]
  | cons x t ih =>
    unfold strip
    cases h : strip t with
    | nil => by_cases hx : x = 0 <;> simp [hx]
    | cons y r => rw [h] at ih; simp only [List.getLast?_cons_cons]; exact ih
theorem strip_val (B : Nat) (l : List Int) : val B (strip l) = val B l := by
  induction l with
  | nil => rfl
  | cons x t ih =>
    unfold strip
    cases h : strip t with
    | nil =>
      rw [h] at ih
      by_cases hx : x = 0
      · simp [hx, val, ← ih]
      · simp [hx, val, ← ih]
    | cons y r => rw [h] at ih; simp only [val] at ih ⊢; rw [ih]
theorem strip_take_eq (l : List Int) : ∃ k, k ≤ l.length ∧ strip l = l.take k := by
  induction l with
  | nil => exact ⟨0, Nat.le_refl _, rfl⟩
  | cons x t ih =>
    obtain ⟨k, hk, e⟩ := ih
    unfold strip
    cases h : strip t with
    | nil =>
      by_cases hx : x = 0
      · exact ⟨0, by simp, by simp [hx]⟩
      · exact ⟨1, by simp, by simp [hx]⟩
    | cons y r => exact ⟨k + 1, by simp; omega, by rw [List.take_succ_cons, ← e, h]⟩
theorem strip_length_le (l : List Int) : (strip l).length ≤ l.length := by
  obtain ⟨k, hk, e⟩ := strip_take_eq l
  rw [e, List.length_take]; omega
theorem strip_eq_take (l : List Int) : strip l = l.take (strip l).length := by
  obtain ⟨k, hk, e⟩ := strip_take_eq l
  have : (strip l).length = k := by rw [e, List.length_take]; omega
  rw [this, e]
theorem Ok.strip {B : Nat} {l : List Int} (h : Ok B l) : Ok B (strip l) := by
  rw [strip_eq_take l]; exact h.take _
theorem strip_dig {B : Nat} (hB : 2 ≤ B) {l : List Int} (h : Ok B l) : strip l = dig B (val B l).toNat := by
  have := dig_val hB h.strip (strip_last l)
  rw [strip_val] at this
  exact this.symm
theorem strip_dig_of {B : Nat} (hB : 2 ≤ B) {l : List Int} {n : Nat} (h : Ok B l) (hv : val B l = n) : strip l = dig B n := by
  rw [strip_dig hB h, hv]; simp
theorem Ok.rd {B : Nat} {l : List Int} (hB : 0 < B) (h : Ok B l) (i : Nat) : 0 ≤ rd l i ∧ rd l i < B := h.getD hB i
theorem val_take_rd (B : Nat) (l : List Int) (i : Nat) (h : i < l.length) : val B (l.take (i + 1)) = val B (l.take i) + (B ^ i : Nat) * rd l i := val_take_succ B l i h
theorem val_drop_rd (B : Nat) (l : List Int) (i : Nat) (h : i < l.length) : val B (l.drop i) = rd l i + B * val B (l.drop (i + 1)) := val_drop B l i h
theorem rd_set_self (l : List Int) (i : Nat) (x : Int) (h : i < l.length) : rd (l.set i x) i = x := by simp [rd, List.getD_eq_getElem?_getD, h]
theorem rd_set_ne (l : List Int) (i j : Nat) (x : Int) (h : i ≠ j) : rd (l.set i x) j = rd l j := by simp [rd, List.getD_eq_getElem?_getD, h]
theorem take_set_ge (l : List Int) (i k : Nat) (x : Int) (h : k ≤ i) : (l.set i x).take k = l.take k := by
  rw [List.take_set, List.set_eq_of_length_le]
  rw [List.length_take]; omega
theorem take_set_succ (l : List Int) (i : Nat) (x : Int) (h : i < l.length) : (l.set i x).take (i + 1) = l.take i ++ [x] := by
  rw [take_rd _ _ (by simpa using h), take_set_ge _ _ _ _ (Nat.le_refl _), rd_set_self _ _ _ h]
theorem rd_replicate (n i : Nat) : rd (List.replicate n 0) i = 0 := by
  rw [rd, List.getD_eq_getElem?_getD, List.getElem?_replicate]; split <;> rfl
theorem drop_rd (l : List Int) (i : Nat) (h : i < l.length) : l.drop i = rd l i :: l.drop (i + 1) := by
  rw [List.drop_eq_getElem_cons h, rd, List.getD_eq_getElem?_getD, List.getElem?_eq_getElem h]; rfl
theorem ext_rd {l r : List Int} (h : l.length = r.length) (he : ∀ i, i < l.length → rd l i = rd r i) : l = r := by
  apply List.ext_getElem h
  intro i h1 h2
  have := he i h1
  rw [rd, rd, List.getD_eq_getElem?_getD, List.getD_eq_getElem?_getD, List.getElem?_eq_getElem h1, List.getElem?_eq_getElem h2] at this
  exact this
end Go.Proofs.YtfmhplcpejmkhabDoor.Dig

namespace Go.Proofs.YtfmhplcpejmkhabDoor
open Go.RowKit Dig
set_option linter.unusedVariables false
set_option linter.unusedSimpArgs false

def B32 : Nat := 4294967296
def B16 : Nat := 65536
theorem B32_two : 2 ≤ B32 := by unfold B32; omega
theorem B16_two : 2 ≤ B16 := by unfold B16; omega
theorem B32_pos : 0 < B32 := by unfold B32; omega
theorem B16_pos : 0 < B16 := by unfold B16; omega
/-- the words of the program's numbers; the digits of the reference's -/
def W (n : Nat) : List Int := dig B32 n
def R (n : Nat) : List Int := dig B16 n
theorem W_zero : W 0 = [] := dig_zero _
theorem R_zero : R 0 = [] := dig_zero _
theorem ok_W (n : Nat) : Ok B32 (W n) := ok_dig B32_two n
theorem ok_R (n : Nat) : Ok B16 (R n) := ok_dig B16_two n
theorem val_W (n : Nat) : val B32 (W n) = n := val_dig B32_two n
theorem val_R (n : Nat) : val B16 (R n) = n := val_dig B16_two n
theorem strip_W {l : List Int} {n : Nat} (h : Ok B32 l) (hv : val B32 l = n) : strip l = W n := strip_dig_of B32_two h hv
theorem strip_R {l : List Int} {n : Nat} (h : Ok B16 l) (hv : val B16 l = n) : strip l = R n := strip_dig_of B16_two h hv

/-- a slice of words of 32 bits that is read -/
structure Rd (w : World) (A : Option Addr) (c : Nat) (l : List Int) : Prop where
  le : l.length ≤ c
  max : c ≤ 9223372036854775807
  at_ : ∀ j, j < l.length → ∃ ad, A = some ad ∧ w.cell? (ad.add j) = some (.int .u32 (rd l j))

theorem Rd.below {w w' : World} {A : Option Addr} {c : Nat} {l : List Int} (h : Rd w A c l) (hb : Below w.heap.size w w') : Rd w' A c l :=
  ⟨h.le, h.max, fun j hj => by
    obtain ⟨ad, e, hc⟩ := h.at_ j hj
    exact ⟨ad, e, (hb.cell (World.block_lt_of_cell? w _ hc)).trans hc⟩⟩
theorem Rd.cell {w : World} {ad : Addr} {c : Nat} {l : List Int} (h : Rd w (some ad) c l) (j : Nat) (hj : j < l.length) : w.cell? (ad.add j) = some (.int .u32 (rd l j)) := by
  obtain ⟨ad', e, hc⟩ := h.at_ j hj
  cases e
  exact hc
theorem Rd.some_ {w : World} {A : Option Addr} {c : Nat} {l : List Int} (h : Rd w A c l) (hl : 0 < l.length) : ∃ ad, A = some ad := by
  obtain ⟨ad, e, _⟩ := h.at_ 0 hl
  exact ⟨ad, e⟩
theorem Rd.take {w : World} {A : Option Addr} {c : Nat} {l : List Int} (h : Rd w A c l) (k : Nat) : Rd w A c (l.take k) :=
  ⟨by have := h.le; rw [List.length_take]; omega, h.max, fun j hj => by
    rw [List.length_take] at hj
    obtain ⟨ad, e, hc⟩ := h.at_ j (by omega)
    refine ⟨ad, e, hc.trans ?_⟩
    simp [rd, List.getD_eq_getElem?_getD, List.getElem?_take, show j < k by omega]⟩
theorem Rd.strip {w : World} {A : Option Addr} {c : Nat} {l : List Int} (h : Rd w A c l) : Rd w A c (strip l) := by
  rw [strip_eq_take]; exact h.take _
theorem Rd.nil (w : World) (A : Option Addr) (c : Nat) (h : c ≤ 9223372036854775807) : Rd w A c [] := ⟨Nat.zero_le _, h, fun j hj => absurd hj (Nat.not_lt_zero _)⟩

/-- a block of the call's own, known whole -/
def Blk (w : World) (g : Nat) (l : List Int) : Prop := w.heap[g]? = some (.cells (l.map (Value.int .u32)).toArray 72 (0, 0))
theorem Blk.lt {w : World} {g : Nat} {l : List Int} (h : Blk w g l) : g < w.heap.size := (Array.getElem?_eq_some_iff.1 h).1
theorem add_plain (g j k : Nat) : (⟨g, j, none⟩ : Addr).add k = ⟨g, j + k, none⟩ := by unfold Addr.add; split <;> simp_all
theorem Blk.cell {w : World} {g : Nat} {l : List Int} (h : Blk w g l) (i : Nat) (hi : i < l.length) : w.cell? ⟨g, i, none⟩ = some (.int .u32 (rd l i)) := by
  unfold Blk at h
  simp [World.cell?, h, rd, List.getD_eq_getElem?_getD, List.getElem?_eq_getElem hi]
theorem Blk.frozen {w : World} {g : Nat} {l : List Int} (h : Blk w g l) (i : Nat) : w.frozen? ⟨g, i, none⟩ = false := by
  unfold Blk at h
  simp [World.frozen?, h]
theorem Blk.set {w : World} {g : Nat} {l : List Int} (h : Blk w g l) (i : Nat) (x : Int) : Blk (w.setCell ⟨g, i, none⟩ (.int .u32 x)) g (l.set i x) := by
  unfold Blk at h ⊢
  simp only [World.setCell, Array.getElem?_modify, if_true, h, Option.map_some]
  simp [List.map_set]
theorem Blk.other {w w' : World} {g : Nat} {l : List Int} (h : Blk w g l) (he : w'.heap[g]? = w.heap[g]?) : Blk w' g l := he.trans h
theorem Blk.below {w w' : World} {g : Nat} {l : List Int} (h : Blk w g l) (hb : Below w.heap.size w w') : Blk w' g l := h.other (hb.block g h.lt)
theorem Blk.rd {w : World} {g : Nat} {l : List Int} (h : Blk w g l) (c : Nat) (h1 : l.length ≤ c) (h2 : c ≤ 9223372036854775807) : Rd w (some ⟨g, 0, none⟩) c l :=
  ⟨h1, h2, fun j hj => ⟨_, rfl, by rw [add_plain, Nat.zero_add]; exact h.cell j hj⟩⟩
theorem Blk.window {w : World} {g : Nat} {l : List Int} (h : Blk w g l) (i n c : Nat) (hi : i + n ≤ l.length) (h1 : n ≤ c) (h2 : c ≤ 9223372036854775807) : Rd w (some ⟨g, i, none⟩) c ((l.drop i).take n) := by
  refine ⟨by rw [List.length_take]; omega, h2, fun j hj => ⟨_, rfl, ?_⟩⟩
  rw [List.length_take, List.length_drop] at hj
  rw [add_plain, h.cell _ (by omega)]
  simp [Dig.rd, List.getD_eq_getElem?_getD, List.getElem?_take, show j < n by omega]
theorem Blk.made (w : World) (n : Nat) : Blk (w.alloc (.cells (madeCells #[.int .u32 0] n) 72)) w.heap.size (List.replicate n 0) := by
  unfold Blk
  rw [heap_alloc_new]
  have : madeCells #[Value.int .u32 0] n = (List.map (Value.int .u32) (List.replicate n 0)).toArray := by
    apply Array.ext
    · simp [madeCells]
    · intro i h1 h2
      simp [madeCells, Nat.mod_one]
  rw [this]
theorem Blk.lit (w : World) (l : List Int) : Blk (w.alloc (.cells (l.map (Value.int .u32)).toArray 72)) w.heap.size l := by
  unfold Blk
  rw [heap_alloc_new]

/-- the element type's row in the program's table -/
theorem info32 : (Tryd.prog.info? 72).map (fun i => (i.zero, i.size, i.bytes)) = some (some (.int .u32 0), 1, 4) := by kernel_rfl
theorem make_u32 (n : Nat) (h : n ≤ 70368744177664) : ∀ w : World, (Instr.makeSlice 22 (.int .i64 (n : Int)) (.int .i64 (n : Int))).run Tryd.prog w = .ok (.slice (some ⟨w.heap.size, 0, none⟩) n n) (w.alloc (.cells (madeCells #[.int .u32 0] n) 72)) :=
  fun w => run_make_row' 22 72 (.int .u32 0) 4 Tryd.underlying22 info32 rfl .i64 .i64 n (by omega) (by omega) w

theorem below_step {B : Nat} {w w1 w2 : World} (h : Below B w w1) (hB : B ≤ w1.heap.size) (k : Below w1.heap.size w1 w2) : Below B w w2 :=
  h.trans (k.mono hB)
theorem below_alloc (w : World) (o : Obj) : Below w.heap.size w (w.alloc o) := (Below.refl _ _).alloc (Nat.le_refl _) o

theorem len_zero (l : List Int) : (((l.length : Nat) : Int) == 0) = decide (l = []) := by
  cases l with
  | nil => rfl
  | cons x t => simp; omega
theorem ret_bool {a b : Bool} (h : a = b) : Ending.returned (.bool a) = .returned (.bool b) := by rw [h]
theorem ret_int {k : IntKind} {a b : Int} (h : a = b) : Ending.returned (.int k a) = .returned (.int k b) := by rw [h]
theorem ret_slice {A : Option Addr} {a b c : Nat} (h : a = b) : Ending.returned (.slice A a c) = .returned (.slice A b c) := by rw [h]
end Go.Proofs.YtfmhplcpejmkhabDoor

namespace Go.Proofs.YtfmhplcpejmkhabDoor
open Go.RowKit Dig
set_option linter.unusedVariables false
set_option linter.unusedSimpArgs false

theorem wZero (w : World) (A : Option Addr) (l : List Int) (c : Nat) :
    Calls Tryd.prog 54 #[.slice A l.length c] w fun e w' => e = .returned (.bool (decide (l = []))) ∧ w = w' := by
  go_enter Tryd.func54, Tryd.ntmps54
  go_wp2
  go_ret
  exact ⟨ret_bool (len_zero l), rfl⟩

set_option maxHeartbeats 400000 in
theorem wOf (w : World) (A : Option Addr) (l : List Int) (c : Nat) (h : Rd w A c l) :
    Calls Tryd.prog 97 #[.slice A l.length c] w fun e w' => e = .returned (.slice A (strip l).length c) ∧ w = w' := by
  have h1 := h.max
  have h2 := h.le
  have H := Lib.hid h
  clear h
  go_enter Tryd.func97, Tryd.ntmps97
  go_wp2
  go_loop [0] (fun t => ∃ k : Nat, k ≤ l.length ∧ t = .slice A k c ∧ Hid (strip (l.take k) = strip l)) (fun t => match t with | .slice _ n _ => n | _ => 0)
  case atStart => exact ⟨l.length, Nat.le_refl _, rfl, Lib.hid (by rw [List.take_length])⟩
  case round =>
    obtain ⟨k, hk, rfl, hs⟩ := hrel
    by_cases h0 : 0 < k
    · obtain ⟨ad, rfl, hc⟩ := H.out.at_ (k - 1) (by omega)
      by_cases hz : rd l (k - 1) = 0
      · have e := strip_take_zero h0 hk hz
        have E := Lib.hid e
        clear e
        have hz' : (rd l (k - 1) == 0) = true := beq_iff_eq.2 hz
        clear hz
        go_wp2
        exact ⟨⟨k - 1, by omega, rfl, Lib.hid (E.out.trans hs.out)⟩, by show k - 1 < k; omega⟩
      · have e := strip_take_ne h0 hk hz
        have E := Lib.hid e
        clear e
        have hz' : (rd l (k - 1) == 0) = false := beq_eq_false_iff_ne.2 hz
        clear hz
        go_wp2
        go_ret
        refine ⟨ret_slice ?_, rfl⟩
        rw [← hs.out, E.out, List.length_take]
        omega
    · obtain rfl : k = 0 := by omega
      go_wp2
      go_ret
      refine ⟨ret_slice ?_, rfl⟩
      rw [← hs.out]
      rfl

theorem small_words (n : Int) (h0 : 0 ≤ n) (h1 : n < 18446744073709551616) : strip [n % 4294967296, n / 4294967296] = W n.toNat := by
  refine strip_W ?_ ?_
  · refine Ok.cons ?_ ?_ (Ok.cons ?_ ?_ (Ok.nil _)) <;> (try unfold B32) <;> omega
  · simp only [val, B32]; omega
/-- word.Small: the number of a uint64. -/
theorem wSmall (w : World) (n : Int) (h0 : 0 ≤ n) (h1 : n < 18446744073709551616) :
    Calls Tryd.prog 94 #[.int .u64 n] w fun e w' => ∃ A c, e = .returned (.slice A (W n.toNat).length c) ∧ Rd w' A c (W n.toNat) ∧ Below w.heap.size w w' := by
  have hw := Lib.hid (small_words n h0 h1)
  go_enter Tryd.func94, Tryd.ntmps94
  go_wp2_with fail
  have hr := (Blk.lit w [n % 4294967296, n / 4294967296]).rd 2 (Nat.le_refl _) (by omega)
  refine (wOf _ _ [n % 4294967296, n / 4294967296] 2 hr).mono ?_
  rintro e w' ⟨rfl, rfl⟩
  rw [hw.out]
  have hs := hr.strip
  rw [hw.out] at hs
  have HS := Lib.hid hs
  clear hr hs
  go_wp2
  go_ret
  exact ⟨_, _, rfl, HS.out, below_alloc _ _⟩
end Go.Proofs.YtfmhplcpejmkhabDoor

namespace Go.Proofs.YtfmhplcpejmkhabDoor
open Go.Shelf
def lays128_ren : Go.Shelf.Ren := ⟨fun | 128 => 117 | n => n, fun | 51 => 72 | 3 => 3 | 4 => 4 | 46 => 97 | 5 => 5 | 9 => 9 | n => n, fun | n => n⟩
theorem lays128 : Go.Proofs.Lays.n128 Tryd.prog lays128_ren := {
  mixed := by kernel_rfl
  f128 := Tryd.func117.trans (congrArg some (by kernel_rfl))
  t3 := Tryd.underlying3
  a3 := Tryd.isAgg3
  z3 := Tryd.sizeOf3
  v3 := Tryd.zeroValue3
  t4 := Tryd.underlying4
  a4 := Tryd.isAgg4
  z4 := Tryd.sizeOf4
  v4 := Tryd.zeroValue4
  t5 := Tryd.underlying5
  a5 := Tryd.isAgg5
  z5 := Tryd.sizeOf5
  v5 := Tryd.zeroValue5
  t9 := Tryd.underlying9
  a9 := Tryd.isAgg9
  z9 := Tryd.sizeOf9
  v9 := Tryd.zeroValue9
  t46 := Tryd.underlying97
  a46 := Tryd.isAgg97
  z46 := Tryd.sizeOf97
  v46 := Tryd.zeroValue97
  t51 := Tryd.underlying72
  a51 := Tryd.isAgg72
  z51 := Tryd.sizeOf72
  v51 := Tryd.zeroValue72 }
def lays133_ren : Go.Shelf.Ren := ⟨fun | 133 => 126 | 128 => 117 | n => n, fun | 51 => 72 | 3 => 3 | 4 => 4 | 46 => 97 | 5 => 5 | 9 => 9 | n => n, fun | n => n⟩
theorem lays133 : Go.Proofs.Lays.n133 Tryd.prog lays133_ren := {
  mixed := by kernel_rfl
  f133 := Tryd.func126.trans (congrArg some (by kernel_rfl))
  f128 := Tryd.func117.trans (congrArg some (by kernel_rfl))
  t3 := Tryd.underlying3
  a3 := Tryd.isAgg3
  z3 := Tryd.sizeOf3
  v3 := Tryd.zeroValue3
  t4 := Tryd.underlying4
  a4 := Tryd.isAgg4
  z4 := Tryd.sizeOf4
  v4 := Tryd.zeroValue4
  t5 := Tryd.underlying5
  a5 := Tryd.isAgg5
  z5 := Tryd.sizeOf5
  v5 := Tryd.zeroValue5
  t9 := Tryd.underlying9
  a9 := Tryd.isAgg9
  z9 := Tryd.sizeOf9
  v9 := Tryd.zeroValue9
  t46 := Tryd.underlying97
  a46 := Tryd.isAgg97
  z46 := Tryd.sizeOf97
  v46 := Tryd.zeroValue97
  t51 := Tryd.underlying72
  a51 := Tryd.isAgg72
  z51 := Tryd.sizeOf72
  v51 := Tryd.zeroValue72 }
def lays28_ren : Go.Shelf.Ren := ⟨fun | 28 => 131 | n => n, fun | 27 => 72 | 3 => 3 | 4 => 4 | 25 => 97 | 53 => 131 | 0 => 0 | 5 => 5 | n => n, fun | 0 => 0 | n => n⟩
theorem lays28 : Go.Proofs.Lays7.n28 Tryd.prog lays28_ren := {
  mixed := by kernel_rfl
  f28 := Tryd.func131.trans (congrArg some (by kernel_rfl))
  t0 := Tryd.underlying0
  a0 := Tryd.isAgg0
  z0 := Tryd.sizeOf0
  v0 := Tryd.zeroValue0
  i0 := by kernel_rfl
  t3 := Tryd.underlying3
  a3 := Tryd.isAgg3
  z3 := Tryd.sizeOf3
  v3 := Tryd.zeroValue3
  i3 := by kernel_rfl
  t4 := Tryd.underlying4
  a4 := Tryd.isAgg4
  z4 := Tryd.sizeOf4
  v4 := Tryd.zeroValue4
  i4 := by kernel_rfl
  t5 := Tryd.underlying5
  a5 := Tryd.isAgg5
  z5 := Tryd.sizeOf5
  v5 := Tryd.zeroValue5
  i5 := by kernel_rfl
  t25 := Tryd.underlying97
  a25 := Tryd.isAgg97
  z25 := Tryd.sizeOf97
  v25 := Tryd.zeroValue97
  i25 := by kernel_rfl
  t27 := Tryd.underlying72
  a27 := Tryd.isAgg72
  z27 := Tryd.sizeOf72
  v27 := Tryd.zeroValue72
  i27 := by kernel_rfl
  t53 := Tryd.underlying131
  a53 := Tryd.isAgg131
  z53 := Tryd.sizeOf131
  v53 := Tryd.zeroValue131
  i53 := by kernel_rfl
  g0 := by kernel_rfl }
theorem bLen32 (x : Int) (w : World) (h0 : 0 ≤ x) (h1 : x ≤ 4294967295) :
    Calls Tryd.prog 117 #[.int .u32 x] w fun e w' => e = .returned (.int .i64 (Lib.bitLen x.toNat)) ∧ w = w' :=
  (Any.bits_Len32 lays128 x w h0 h1).mono fun _ _ h => ⟨h.1, h.2.symm⟩
theorem bLeadingZeros32 (x : Int) (w : World) (h0 : 0 ≤ x) (h1 : x ≤ 4294967295) :
    Calls Tryd.prog 126 #[.int .u32 x] w fun e w' => e = .returned (.int .i64 (32 - (Lib.bitLen x.toNat : Int))) ∧ w = w' :=
  (Any.bits_LeadingZeros32 lays133 x w h0 h1).mono fun _ _ h => ⟨h.1, h.2.symm⟩
/-- the table lies as its initialiser lays it -/
def Tab (w : World) : Prop := TabAt 0 Lib.deBruijn32tab w
theorem bTrailingZeros32 (x : Int) (w : World) (h0 : 0 ≤ x) (h1 : x ≤ 4294967295) (hT : Tab w) :
    Calls Tryd.prog 131 #[.int .u32 x] w fun e w' => e = .returned (.int .i64 (Lib.ctz 32 x.toNat)) ∧ w = w' := by
  obtain ⟨n, rfl⟩ := Int.eq_ofNat_of_zero_le h0
  exact (Any7.bits_TrailingZeros32 lays28 n (by omega) w (fun _ => hT)).mono fun _ _ h => ⟨by simpa using h.1, h.2.symm⟩
end Go.Proofs.YtfmhplcpejmkhabDoor

namespace Go.Proofs.YtfmhplcpejmkhabDoor
open Dig
set_option linter.unusedVariables false

/-- the number of binary digits -/
def bl (n : Nat) : Nat := if n = 0 then 0 else n.log2 + 1
theorem bl_zero : bl 0 = 0 := rfl
theorem lt_bl (n : Nat) : n < 2 ^ bl n := by
  unfold bl
  split
  · rename_i h; subst h; decide
  · exact Nat.lt_log2_self
theorem bl_le {n : Nat} (h : n ≠ 0) : 2 ^ (bl n - 1) ≤ n := by
  unfold bl
  rw [if_neg h, Nat.add_sub_cancel]
  exact Nat.log2_self_le h
theorem bl_pos {n : Nat} (h : n ≠ 0) : 0 < bl n := by unfold bl; rw [if_neg h]; omega
theorem bl_unique {n k : Nat} (h1 : n < 2 ^ (k + 1)) (h2 : 2 ^ k ≤ n) : bl n = k + 1 := by
  have h0 : n ≠ 0 := by have := Nat.two_pow_pos k; omega
  have a1 := lt_bl n
  have a2 := bl_le h0
  have a3 := bl_pos h0
  have b1 : bl n - 1 < k + 1 := (Nat.pow_lt_pow_iff_right (by omega)).1 (Nat.lt_of_le_of_lt a2 h1)
  have b2 : k < bl n := (Nat.pow_lt_pow_iff_right (by omega)).1 (Nat.lt_of_le_of_lt h2 a1)
  omega
theorem bl_half {n : Nat} (h : n ≠ 0) : bl n = 1 + bl (n / 2) := by
  by_cases h2 : n / 2 = 0
  · have : n = 1 := by omega
    subst this; rfl
  · have a1 := lt_bl (n / 2)
    have a2 := bl_le h2
    have a3 := bl_pos h2
    have := bl_unique (n := n) (k := bl (n / 2)) (by rw [Nat.pow_succ]; omega) (by
      obtain ⟨m, hm⟩ : ∃ m, bl (n / 2) = m + 1 := ⟨bl (n / 2) - 1, by omega⟩
      rw [hm] at a2 ⊢
      rw [Nat.add_sub_cancel] at a2
      rw [Nat.pow_succ]; omega)
    omega
theorem bitLenAux_bl : ∀ (f x : Nat), x < 2 ^ f → Lib.bitLenAux f x = bl x
  | 0, x, h => by
    have : x = 0 := by simpa using h
    subst this; rfl
  | f + 1, x, h => by
    unfold Lib.bitLenAux
    by_cases hx : x = 0
    · subst hx; rfl
    · rw [if_neg hx, bitLenAux_bl f (x / 2) (by rw [Nat.pow_succ] at h; omega), bl_half hx]
theorem bitLen_bl {x : Nat} (h : x < 2 ^ 64) : Lib.bitLen x = bl x := bitLenAux_bl 64 x h
theorem bl_le_of_lt {n k : Nat} (h : n < 2 ^ k) : bl n ≤ k := by
  by_cases h0 : n = 0
  · subst h0; simp [bl]
  · have := bl_le h0
    have : bl n - 1 < k := (Nat.pow_lt_pow_iff_right (by omega)).1 (Nat.lt_of_le_of_lt this h)
    omega
theorem bl_mono {a b : Nat} (h : a ≤ b) : bl a ≤ bl b := bl_le_of_lt (Nat.lt_of_le_of_lt h (lt_bl b))
/-- the binary digits above k digits to the base 2^m -/
theorem bl_top {x m k : Nat} (h : x / (2 ^ m) ^ k ≠ 0) : bl x = m * k + bl (x / (2 ^ m) ^ k) := by
  have a1 := lt_bl (x / (2 ^ m) ^ k)
  have a2 := bl_le h
  have a3 := bl_pos h
  obtain ⟨t, ht⟩ : ∃ t, bl (x / (2 ^ m) ^ k) = t + 1 := ⟨bl (x / (2 ^ m) ^ k) - 1, by omega⟩
  rw [ht] at a1 a2 ⊢
  rw [← Nat.pow_mul] at a1 a2
  have := bl_unique (n := x) (k := m * k + t) (by
    have := (Nat.div_lt_iff_lt_mul (Nat.two_pow_pos (m * k))).1 a1
    rw [Nat.mul_comm, ← Nat.pow_add] at this
    exact this) (by
    have := (Nat.le_div_iff_mul_le (Nat.two_pow_pos (m * k))).1 a2
    rw [Nat.add_sub_cancel, Nat.mul_comm, ← Nat.pow_add] at this
    exact this)
  omega

/-- the exponent of 2; 0 for 0 -/
def tz (n : Nat) : Nat := if h : n = 0 then 0 else if n % 2 = 1 then 0 else 1 + tz (n / 2)
termination_by n
decreasing_by omega
theorem tz_spec {n : Nat} (h : n ≠ 0) : ∃ m, n = 2 ^ tz n * (2 * m + 1) := by
  induction n using Nat.strongRecOn with
  | _ n ih =>
    rw [tz, dif_neg h]
    split
    · exact ⟨n / 2, by omega⟩
    · obtain ⟨m, hm⟩ := ih (n / 2) (by omega) (by omega)
      refine ⟨m, ?_⟩
      rw [Nat.add_comm 1, Nat.pow_succ, Nat.mul_right_comm, ← hm]; omega
theorem two_pow_odd {i j a b : Nat} (h : 2 ^ i * (2 * a + 1) = 2 ^ j * (2 * b + 1)) : i = j := by
  induction i generalizing j with
  | zero =>
    cases j with
    | zero => rfl
    | succ j => rw [Nat.pow_succ, Nat.mul_right_comm] at h; omega
  | succ i ih =>
    cases j with
    | zero => rw [Nat.pow_succ, Nat.mul_right_comm] at h; omega
    | succ j =>
      rw [Nat.pow_succ, Nat.pow_succ, Nat.mul_right_comm, Nat.mul_right_comm (2 ^ j)] at h
      rw [ih (Nat.eq_of_mul_eq_mul_right (by omega) h)]
theorem tz_unique {n k m : Nat} (h : n = 2 ^ k * (2 * m + 1)) : tz n = k := by
  have h0 : n ≠ 0 := by
    rw [h]; exact Nat.mul_ne_zero (by have := Nat.two_pow_pos k; omega) (by omega)
  obtain ⟨m', e⟩ := tz_spec h0
  exact (two_pow_odd (h.symm.trans e)).symm
theorem ctz_spec {x : Nat} (h0 : x ≠ 0) (h : x < 4294967296) : ∃ m, x = 2 ^ Lib.ctz 32 x * (2 * m + 1) := by
  obtain ⟨m, e, _⟩ := Lib.ctzFrom_spec 32 x (by omega) h
  refine ⟨m, ?_⟩
  rw [Lib.ctz, if_neg h0]; exact e
theorem ctz_lt {x : Nat} (h0 : x ≠ 0) (h : x < 4294967296) : Lib.ctz 32 x < 32 := by
  obtain ⟨m, _, e⟩ := Lib.ctzFrom_spec 32 x (by omega) h
  rw [Lib.ctz, if_neg h0]; exact e
/-- the exponent of 2 in a number whose lowest word that is not 0 is word i -/
theorem tz_word {x i r : Nat} (h0 : x ≠ 0) (h : x < 4294967296) : tz (4294967296 ^ i * (x + 4294967296 * r)) = 32 * i + Lib.ctz 32 x := by
  obtain ⟨m, e⟩ := ctz_spec h0 h
  have hk := ctz_lt h0 h
  generalize Lib.ctz 32 x = k at *
  refine tz_unique (m := m + 2 ^ (31 - k) * r) ?_
  rw [show (4294967296 : Nat) = 2 ^ 32 from rfl, ← Nat.pow_mul, Nat.pow_add, Nat.mul_assoc]
  congr 1
  have e32 : (2 : Nat) ^ 32 = 2 ^ k * (2 * 2 ^ (31 - k)) := by
    rw [← Nat.pow_succ', ← Nat.pow_add]; congr 1; omega
  rw [e32]
  conv => lhs; rw [e]
  rw [Nat.mul_assoc, ← Nat.mul_add]
  congr 1
  rw [Nat.mul_assoc]; omega
end Go.Proofs.YtfmhplcpejmkhabDoor

namespace Go.Proofs.YtfmhplcpejmkhabDoor
open Go.RowKit Dig
set_option linter.unusedVariables false
set_option linter.unusedSimpArgs false

theorem W_inj {a b : Nat} (h : W a = W b) : a = b := dig_inj B32_two h
def cmpI (a b : Nat) : Int := if a < b then -1 else if a = b then 0 else 1
theorem cmpI_lt {a b : Nat} (h : a < b) : cmpI a b = -1 := by rw [cmpI, if_pos h]
theorem cmpI_gt {a b : Nat} (h : b < a) : cmpI a b = 1 := by rw [cmpI, if_neg (by omega), if_neg (by omega)]
theorem cmpI_eq {a b : Nat} (h : a = b) : cmpI a b = 0 := by rw [cmpI, if_neg (by omega), if_pos h]
theorem _root_.Go.RowKit.Below.drewN {B : Nat} {w W : World} (h : Below B w W) (n : Nat) : Below B w (W.drewN n) := ⟨h.os, h.tape, h.output, h.size, h.block⟩
theorem dig_lt_of_length {B a b : Nat} (hB : 2 ≤ B) (h : (dig B a).length < (dig B b).length) : a < b := by
  rcases Nat.lt_or_ge a b with h' | h'
  · exact h'
  · have := dig_length_mono hB h'; omega
/-- the first digit from above that differs decides -/
theorem val_lt_at {B : Nat} {l r : List Int} {k : Nat} (hB : 0 < B) (hl : Ok B l) (hr : Ok B r) (hk : k < l.length) (hk' : k < r.length) (hd : l.drop (k + 1) = r.drop (k + 1)) (hlt : rd l k < rd r k) : val B l < val B r := by
  have e1 := val_split B l k (by omega)
  have e2 := val_split B r k (by omega)
  rw [val_drop_rd B l k hk] at e1
  rw [val_drop_rd B r k hk', ← hd] at e2
  have b1 := val_lt (hl.take k)
  have b2 := val_nonneg (hr.take k)
  rw [List.length_take, Nat.min_eq_left (by omega)] at b1
  have h3 : ((B ^ k : Nat) : Int) * (rd l k + 1) ≤ (B ^ k : Nat) * rd r k := Int.mul_le_mul_of_nonneg_left (by omega) (by omega)
  rw [Int.mul_add] at h3 e1 e2
  omega

theorem dig_lt_at {B a b : Nat} {k : Nat} (hB : 2 ≤ B) (hk : k < (dig B a).length) (hk' : k < (dig B b).length) (hd : (dig B a).drop (k + 1) = (dig B b).drop (k + 1)) (hlt : rd (dig B a) k < rd (dig B b) k) : a < b := by
  have := val_lt_at (by omega) (ok_dig hB a) (ok_dig hB b) hk hk' hd hlt
  rw [val_dig hB, val_dig hB] at this
  omega

set_option maxHeartbeats 400000 in
theorem wCmp (a b : Nat) (w : World) (A A' : Option Addr) (c c' : Nat) (h : Rd w A c (W a)) (h' : Rd w A' c' (W b)) :
    Calls Tryd.prog 112 #[.slice A (W a).length c, .slice A' (W b).length c'] w fun e w' => e = .returned (.int .i64 (cmpI a b)) ∧ Below w.heap.size w w' := by
  have h1 := h.max
  have h2 := h.le
  have h1' := h'.max
  have h2' := h'.le
  have H := Lib.hid h
  have H' := Lib.hid h'
  clear h h'
  by_cases hn : (W a).length = (W b).length
  · have hn' : (((W a).length : Int) != ((W b).length : Int)) = false := by simp [hn]
    have HN := Lib.hid hn
    have hle : (W a).length ≤ (W b).length := by omega
    have hge : (W b).length ≤ (W a).length := by omega
    clear hn
    go_enter Tryd.func112, Tryd.ntmps112
    go_wp2
    go_loopw [5] (fun t wr => ∃ k : Nat, k ≤ (W a).length ∧ t = .int .i64 ((k : Int) - 1) ∧ Hid ((W a).drop k = (W b).drop k) ∧ Hid (Below w.heap.size w wr)) (fun t _ => (intOf t + 1).toNat)
    case atStart => exact ⟨(W a).length, Nat.le_refl _, rfl, Lib.hid (by rw [List.drop_length, HN.out, List.drop_length]), Lib.hid (Below.refl _ _)⟩
    case round =>
      obtain ⟨k, hk, rfl, hd, hb⟩ := hrel
      by_cases h0 : 0 < k
      · obtain ⟨ad, rfl, hc⟩ := (H.out.below hb.out).at_ (k - 1) (by omega)
        obtain ⟨ad', rfl, hc'⟩ := (H'.out.below hb.out).at_ (k - 1) (by omega)
        have hlast : (((k : Int) - 1) + 1).toNat = k := by omega
        by_cases hlt : rd (W a) (k - 1) < rd (W b) (k - 1)
        · go_wp2
          go_quiet (fail)
          go_wp2
          go_ret
          refine ⟨ret_int (cmpI_lt (dig_lt_at B32_two (k := k - 1) (by unfold W at *; omega) (by unfold W at *; omega) (by rw [Nat.sub_add_cancel h0]; exact hd.out) hlt)).symm, ?_⟩
          first | exact hb.out.drewN _ | exact (hb.out.drewN _).drewN _
        · by_cases hgt : rd (W b) (k - 1) < rd (W a) (k - 1)
          · go_wp2
            go_quiet (fail)
            go_wp2
            go_quiet (fail)
            go_wp2
            go_ret
            refine ⟨ret_int (cmpI_gt (dig_lt_at B32_two (k := k - 1) (by unfold W at *; omega) (by unfold W at *; omega) (by rw [Nat.sub_add_cancel h0]; exact hd.out.symm) hgt)).symm, ?_⟩
            first | exact hb.out.drewN _ | exact (hb.out.drewN _).drewN _
          · have he : rd (W a) (k - 1) = rd (W b) (k - 1) := by omega
            have hd' : (W a).drop (k - 1) = (W b).drop (k - 1) := by
              rw [drop_rd _ _ (by omega), drop_rd (W b) _ (by omega), he, Nat.sub_add_cancel h0, hd.out]
            have HD := Lib.hid hd'
            clear hd' he
            go_wp2
            go_quiet (fail)
            go_wp2
            go_quiet (fail)
            go_wp2
            go_roundw
            case rel => exact ⟨k - 1, by omega, by go_num, HD, Lib.hid (hb.out.drewN _)⟩
            case measure => simp [intOf]; omega
      · obtain rfl : k = 0 := by omega
        have e : a = b := W_inj (by simpa using hd.out)
        have E := Lib.hid e
        clear e
        go_wp2
        go_ret
        exact ⟨ret_int (cmpI_eq E.out).symm, hb.out⟩
  · have hn' : (((W a).length : Int) != ((W b).length : Int)) = true := by simp; omega
    by_cases hlt : (W a).length < (W b).length
    · go_enter Tryd.func112, Tryd.ntmps112
      go_wp2
      go_ret
      exact ⟨ret_int (cmpI_lt (dig_lt_of_length B32_two hlt)).symm, Below.refl _ _⟩
    · have hgt : (W b).length < (W a).length := by omega
      go_enter Tryd.func112, Tryd.ntmps112
      go_wp2
      go_ret
      exact ⟨ret_int (cmpI_gt (dig_lt_of_length B32_two hgt)).symm, Below.refl _ _⟩

theorem W_length_one {a : Nat} (h : (W a).length = 1) : rd (W a) 0 = a := by
  have e := val_W a
  match hl : W a, h with
  | [x], _ => rw [hl] at e; simpa [val, rd] using e
theorem W_one_iff (a : Nat) (h : (W a).length ≠ 1) : a ≠ 1 := by
  rintro rfl
  apply h
  unfold W
  rw [dig_pos B32_two (by omega)]
  simp [B32, dig_zero]
theorem wOne (a : Nat) (w : World) (A : Option Addr) (c : Nat) (h : Rd w A c (W a)) :
    Calls Tryd.prog 61 #[.slice A (W a).length c] w fun e w' => e = .returned (.bool (decide (a = 1))) ∧ w = w' := by
  have h1 := h.max
  have h2 := h.le
  by_cases hl : (W a).length = 1
  · obtain ⟨ad, rfl, hc⟩ := h.at_ 0 (by omega)
    rw [W_length_one hl] at hc
    replace hc : w.cell? ad = some (.int .u32 a) := by simpa [Addr.add] using hc
    have hl' : (((W a).length : Int) == 1) = true := by simp [hl]
    have h3 : 0 < (W a).length := by omega
    clear h hl
    go_enter Tryd.func61, Tryd.ntmps61
    go_wp2
    go_ret
    exact ⟨ret_bool (by rw [Bool.eq_iff_iff]; simp; omega), rfl⟩
  · have hl' : (((W a).length : Int) == 1) = false := beq_eq_false_iff_ne.2 (by omega)
    have hne := W_one_iff a hl
    clear h hl
    go_enter Tryd.func61, Tryd.ntmps61
    go_wp2
    go_ret
    exact ⟨ret_bool (by simp [hne]), rfl⟩

theorem W_top {a : Nat} (h : 0 < (W a).length) : rd (W a) ((W a).length - 1) = ((a / 4294967296 ^ ((W a).length - 1) : Nat) : Int) ∧ a / 4294967296 ^ ((W a).length - 1) ≠ 0 ∧ a / 4294967296 ^ ((W a).length - 1) < 4294967296 := by
  have h1 := dig_getD B32_two a ((W a).length - 1)
  have h2 := pow_length_le B32_two (n := a) (by rintro rfl; simp [W_zero] at h)
  have h3 := lt_pow_length B32_two a
  have e : (dig B32 a).length = ((W a).length - 1) + 1 := by unfold W at *; omega
  rw [e] at h2 h3
  rw [Nat.add_sub_cancel] at h2
  unfold B32 at h1 h2 h3
  have h4 : a / 4294967296 ^ ((W a).length - 1) < 4294967296 := (Nat.div_lt_iff_lt_mul (Nat.pow_pos (by omega))).2 (by rw [Nat.pow_succ'] at h3; exact h3)
  have h5 : 0 < a / 4294967296 ^ ((W a).length - 1) := Nat.div_pos h2 (Nat.pow_pos (by omega))
  refine ⟨?_, by omega, h4⟩
  rw [Nat.mod_eq_of_lt h4] at h1
  exact h1
theorem bits_words {a : Nat} (h : 0 < (W a).length) : bl a = 32 * ((W a).length - 1) + Lib.bitLen (rd (W a) ((W a).length - 1)).toNat := by
  obtain ⟨h1, h2, h3⟩ := W_top h
  rw [h1, Int.toNat_natCast, bitLen_bl (by omega)]
  exact bl_top (m := 32) (by simpa using h2)
theorem wBits (a : Nat) (w : World) (A : Option Addr) (c : Nat) (h : Rd w A c (W a)) (hs : (W a).length ≤ 1048576) :
    Calls Tryd.prog 87 #[.slice A (W a).length c] w fun e w' => e = .returned (.int .i64 (bl a)) ∧ w = w' := by
  have h1 := h.max
  have h2 := h.le
  by_cases hl : 0 < (W a).length
  · obtain ⟨ad, rfl, hc⟩ := h.at_ ((W a).length - 1) (by omega)
    have hl' : (((W a).length : Int) == 0) = false := beq_eq_false_iff_ne.2 (by omega)
    obtain ⟨t1, t2⟩ := (ok_W a).rd B32_pos ((W a).length - 1)
    unfold B32 at t2
    have hb := Lib.hid (bits_words hl)
    have hbl : Lib.bitLen (rd (W a) ((W a).length - 1)).toNat ≤ 32 := by
      have e := bitLen_bl (x := (rd (W a) ((W a).length - 1)).toNat) (by omega)
      rw [e]; exact bl_le_of_lt (by omega)
    clear h
    go_enter Tryd.func87, Tryd.ntmps87
    go_wp2_with fail
    refine (bLen32 _ _ (by omega) (by omega)).mono ?_
    rintro e w' ⟨rfl, rfl⟩
    go_wp2
    go_ret
    exact ⟨ret_int (by rw [hb.out]; push_cast; omega), rfl⟩
  · have h0 : W a = [] := List.eq_nil_of_length_eq_zero (by omega)
    have e : a = 0 := W_inj (h0.trans W_zero.symm)
    subst e
    have hl' : (((W 0).length : Int) == 0) = true := by simp [W_zero]
    clear h h0
    go_enter Tryd.func87, Tryd.ntmps87
    go_wp2
    go_ret
    exact ⟨rfl, rfl⟩

theorem tz_zero : tz 0 = 0 := by rw [tz]; rfl
theorem twos_at {a i : Nat} (hi : i < (W a).length) (h0 : val B32 ((W a).take i) = 0) (hne : rd (W a) i ≠ 0) : tz a = 32 * i + Lib.ctz 32 (rd (W a) i).toNat := by
  have e1 := val_split B32 (W a) i (by omega)
  rw [val_W, h0, val_drop_rd B32 _ i hi] at e1
  have b := (ok_W a).rd B32_pos i
  have nn := val_nonneg ((ok_W a).drop (i + 1))
  obtain ⟨r, hr⟩ := Int.eq_ofNat_of_zero_le nn
  obtain ⟨x, hx⟩ := Int.eq_ofNat_of_zero_le b.1
  rw [hr, hx] at e1
  rw [hx, Int.toNat_natCast]
  rw [hx] at hne b
  have e2 : a = B32 ^ i * (x + B32 * r) := by
    apply Int.ofNat.inj
    show ((a : Nat) : Int) = ((B32 ^ i * (x + B32 * r) : Nat) : Int)
    rw [e1, Int.zero_add, Int.natCast_mul, Int.natCast_add, Int.natCast_mul]
  unfold B32 at e2 b
  refine (congrArg tz e2).trans ?_
  exact tz_word (by omega) (by omega)
set_option maxHeartbeats 400000 in
theorem wTwos (a : Nat) (w : World) (A : Option Addr) (c : Nat) (h : Rd w A c (W a)) (hs : (W a).length ≤ 1048576) (hT : Tab w) :
    Calls Tryd.prog 120 #[.slice A (W a).length c] w fun e w' => e = .returned (.int .i64 (tz a)) ∧ w = w' := by
  have h1 := h.max
  have h2 := h.le
  have H := Lib.hid h
  have HT := Lib.hid hT
  clear h hT
  go_enter Tryd.func120, Tryd.ntmps120
  go_wp2
  go_loop [7] (fun t => ∃ i : Nat, i ≤ (W a).length ∧ t = .int .i64 i ∧ Hid (val B32 ((W a).take i) = 0)) (fun t => (W a).length - (intOf t).toNat)
  case atStart => exact ⟨0, Nat.zero_le _, rfl, Lib.hid rfl⟩
  case round =>
    obtain ⟨i, hi, rfl, hv⟩ := hrel
    by_cases hlt : i < (W a).length
    · obtain ⟨ad, rfl, hc⟩ := H.out.at_ i hlt
      obtain ⟨t1, t2⟩ := (ok_W a).rd B32_pos i
      unfold B32 at t2
      by_cases hz : rd (W a) i = 0
      · have hz' : (rd (W a) i != 0) = false := by simp [hz]
        have hv' := Lib.hid (show val B32 ((W a).take (i + 1)) = 0 by rw [val_take_rd _ _ _ hlt, hv.out, hz]; simp)
        clear hz
        go_wp2
        go_round
        case rel => exact ⟨i + 1, by omega, by go_num, hv'⟩
        case measure => simp [intOf]; omega
      · have hz' : (rd (W a) i != 0) = true := by simp [hz]
        have ht := Lib.hid (twos_at hlt hv.out hz)
        have hcz : Lib.ctz 32 (rd (W a) i).toNat < 32 := ctz_lt (by omega) (by omega)
        clear hz
        go_wp2_with fail
        refine (bTrailingZeros32 _ _ (by omega) (by omega) HT.out).mono ?_
        rintro e w' ⟨rfl, rfl⟩
        go_wp2
        go_ret
        exact ⟨ret_int (by rw [ht.out]; push_cast; omega), rfl⟩
    · obtain rfl : i = (W a).length := by omega
      rw [List.take_length, val_W] at hv
      have e : a = 0 := by have := hv.out; omega
      clear hv
      subst e
      go_wp2
      go_ret
      exact ⟨ret_int (by rw [tz_zero]; rfl), rfl⟩
end Go.Proofs.YtfmhplcpejmkhabDoor

namespace Go.Proofs.YtfmhplcpejmkhabDoor
open Go.RowKit Dig
set_option linter.unusedVariables false
set_option linter.unusedSimpArgs false

theorem val_take_any (B : Nat) (l : List Int) (i : Nat) : val B (l.take (i + 1)) = val B (l.take i) + (B ^ i : Nat) * rd l i := by
  rcases Nat.lt_or_ge i l.length with h | h
  · exact val_take_rd B l i h
  · rw [List.take_of_length_le (by omega), List.take_of_length_le h, rd_ge h]; simp
theorem pow_split (B i : Nat) (s : Int) : ((B ^ i : Nat) : Int) * (s % B) + (B ^ (i + 1) : Nat) * (s / B) = (B ^ i : Nat) * s := by
  rw [Nat.pow_succ, Int.natCast_mul, Int.mul_assoc, ← Int.mul_add, Int.emod_add_mul_ediv]
theorem B32_cast : ((B32 : Nat) : Int) = 4294967296 := rfl
theorem add_step {B : Nat} {lo la lb : List Int} {i : Nat} {cr s : Int} (hi : i < lo.length) (hs : s = rd la i + cr + rd lb i)
    (h : val B (lo.take i) + (B ^ i : Nat) * cr = val B (la.take i) + val B (lb.take i)) :
    val B ((lo.set i (s % B)).take (i + 1)) + (B ^ (i + 1) : Nat) * (s / B) = val B (la.take (i + 1)) + val B (lb.take (i + 1)) := by
  rw [val_take_any, val_take_any, val_take_any, take_set_ge _ _ _ _ (Nat.le_refl _), rd_set_self _ _ _ hi, Int.add_assoc, pow_split, hs, Int.mul_add, Int.mul_add]
  omega
theorem add_last {B : Nat} {lo la lb : List Int} {n : Nat} {cr : Int} (hn : lo.length = n + 1) (ha : la.length ≤ n) (hb : lb.length ≤ n)
    (h : val B (lo.take n) + (B ^ n : Nat) * cr = val B (la.take n) + val B (lb.take n)) : val B (lo.set n cr) = val B la + val B lb := by
  have : (lo.set n cr).take (n + 1) = lo.set n cr := List.take_of_length_le (by simp; omega)
  rw [← this, val_take_any, take_set_ge _ _ _ _ (Nat.le_refl _), rd_set_self _ _ _ (by omega), h, List.take_of_length_le ha, List.take_of_length_le hb]

theorem rd_blk {w : World} {g N c : Nat} {l : List Int} (hb : Blk w g l) (ho : Ok B32 l) (hv : val B32 l = N) (h1 : l.length ≤ c) (h2 : c ≤ 9223372036854775807) : Rd w (some ⟨g, 0, none⟩) c (W N) := by
  rw [← strip_W ho hv]; exact (hb.rd c h1 h2).strip
theorem wOf_blk (w : World) (g n c N : Nat) {l : List Int} (hn : n = l.length) (hb : Blk w g l) (ho : Ok B32 l) (hv : val B32 l = N) (h1 : n ≤ c) (h2 : c ≤ 9223372036854775807) :
    Calls Tryd.prog 97 #[.slice (some ⟨g, 0, none⟩) n c] w fun e w' => e = .returned (.slice (some ⟨g, 0, none⟩) (W N).length c) ∧ w = w' := by
  subst hn
  rw [← strip_W ho hv]
  exact wOf _ _ l c (hb.rd c h1 h2)
theorem make_u32' (n : Nat) (m : Int) (hm : m = n) (h : n ≤ 70368744177664) : ∀ w : World, (Instr.makeSlice 22 (.int .i64 m) (.int .i64 m)).run Tryd.prog w = .ok (.slice (some ⟨w.heap.size, 0, none⟩) n n) (w.alloc (.cells (madeCells #[.int .u32 0] n) 72)) := by
  subst hm; exact make_u32 n h
set_option maxHeartbeats 1000000 in
theorem wAdd (a b : Nat) (w : World) (A A' : Option Addr) (c c' : Nat) (h : Rd w A c (W a)) (h' : Rd w A' c' (W b)) (hs : (W a).length ≤ 1048576) (hs' : (W b).length ≤ 1048576) :
    Calls Tryd.prog 111 #[.slice A (W a).length c, .slice A' (W b).length c'] w fun e w' => ∃ A c, e = .returned (.slice A (W (a + b)).length c) ∧ Rd w' A c (W (a + b)) ∧ Below w.heap.size w w' := by
  have H := Lib.hid h
  have H' := Lib.hid h'
  clear h h'
  go_enter Tryd.func111, Tryd.ntmps111
  go_upto_if 14 with (fail)
  go_cut [0, 1] (fun v0 v1 wc => ∃ A0 c0 l0 A1 c1 l1, v0 = .slice A0 (List.length l0) c0 ∧ v1 = .slice A1 (List.length l1) c1 ∧ l1.length ≤ l0.length ∧ l0.length ≤ 1048576 ∧ Hid (Rd w A0 c0 l0) ∧ Hid (Rd w A1 c1 l1) ∧ Hid (Ok B32 l0) ∧ Hid (Ok B32 l1) ∧ Hid (val B32 l0 + val B32 l1 = ((a + b : Nat) : Int)) ∧ wc = w)
  case first =>
    by_cases hlt : (W a).length < (W b).length
    · go_wp2
      go_meet
      case rel => exact ⟨_, _, W b, _, _, W a, rfl, rfl, by omega, hs', H', H, ok_W b, ok_W a, Lib.hid (by rw [val_W, val_W]; omega), rfl⟩
    · go_wp2
      go_meet
      case rel => exact ⟨_, _, W a, _, _, W b, rfl, rfl, by omega, hs, H, H', ok_W a, ok_W b, Lib.hid (by rw [val_W, val_W]; omega), rfl⟩
  case rest =>
    obtain ⟨A0, c0, l0, A1, c1, l1, rfl, rfl, hle, hm, H0, H1, K0, K1, hv, rfl⟩ := hcut
    have hmk := make_u32' (l0.length + 1) ((l0.length : Int) + 1) (by omega) (by omega)
    go_wp2
    go_loopw [6, 23] (fun v6 v23 wr => ∃ (i : Nat) (cr : Int) (lo : List Int), i ≤ l0.length ∧ v23 = .int .i64 i ∧ v6 = .int .u64 cr ∧ 0 ≤ cr ∧ cr ≤ 1 ∧ Hid (lo.length = l0.length + 1) ∧ Hid (Ok B32 lo) ∧ Hid (val B32 (lo.take i) + (B32 ^ i : Nat) * cr = val B32 (l0.take i) + val B32 (l1.take i)) ∧ Hid (Blk wr wc.heap.size lo) ∧ Hid (Below wc.heap.size wc wr)) (fun _ v23 _ => l0.length - (intOf v23).toNat)
    case atStart => exact ⟨0, 0, List.replicate (l0.length + 1) 0, Nat.zero_le _, rfl, rfl, by omega, by omega, Lib.hid (by simp), Lib.hid (Ok.replicate B32_pos _), Lib.hid (by simp [val]), Lib.hid (Blk.made _ _), Lib.hid (below_alloc _ _)⟩
    case round =>
      obtain ⟨i, cr, lo, hi, rfl, rfl, hc0, hc1, hlen, hok, hval, hblk, hbel⟩ := hrel
      by_cases hlt : i < l0.length
      · obtain ⟨ad, rfl, hc⟩ := (H0.out.below hbel.out).at_ i hlt
        obtain ⟨t1, t2⟩ := K0.out.rd B32_pos i
        unfold B32 at t2
        have hcell := hblk.out.cell i (by rw [hlen.out]; omega)
        have hfz := hblk.out.frozen i
        have hstep := fun s (hs : s = rd l0 i + cr + rd l1 i) => add_step (by rw [hlen.out]; omega) hs hval.out
        simp only [B32_cast] at hstep
        have HS := Lib.hid hstep
        clear hstep
        by_cases hlt' : i < l1.length
        · obtain ⟨ad', rfl, hc'⟩ := (H1.out.below hbel.out).at_ i hlt'
          obtain ⟨t3, t4⟩ := K1.out.rd B32_pos i
          unfold B32 at t4
          go_wp2
          go_roundw
          case rel =>
            exact ⟨i + 1, _, _, by omega, by go_num, rfl, by omega, by omega, Lib.hid (by rw [List.length_set]; exact hlen.out), Lib.hid (hok.out.set i (by omega) (by rw [B32_cast]; omega)),
              HS.out _ rfl, hblk.out.set i _, hbel.out.setCell (Nat.le_refl _) _⟩
          case measure => simp [intOf]; omega
        · have hz : rd l1 i = 0 := rd_ge (by omega)
          have HZ := Lib.hid hz
          clear hz
          go_wp2
          go_roundw
          case rel =>
            exact ⟨i + 1, _, _, by omega, by go_num, rfl, by omega, by omega, Lib.hid (by rw [List.length_set]; exact hlen.out), Lib.hid (hok.out.set i (by omega) (by rw [B32_cast]; omega)),
              HS.out _ (by rw [HZ.out, Int.add_zero]), hblk.out.set i _, hbel.out.setCell (Nat.le_refl _) _⟩
          case measure => simp [intOf]; omega
      · obtain rfl : i = l0.length := by omega
        have hcell := hblk.out.cell l0.length (by rw [hlen.out]; omega)
        have hfz := hblk.out.frozen l0.length
        have e := add_last hlen.out (Nat.le_refl _) hle hval.out
        have E := Lib.hid (e.trans hv.out)
        clear e
        have KB := Lib.hid (hblk.out.set l0.length cr)
        have KO := Lib.hid (hok.out.set l0.length hc0 (by rw [B32_cast]; omega))
        have KL := Lib.hid (show (lo.set l0.length cr).length = l0.length + 1 by rw [List.length_set]; exact hlen.out)
        have KW := Lib.hid (hbel.out.setCell (p := ⟨wc.heap.size, l0.length, none⟩) (Nat.le_refl _) (.int .u32 cr))
        go_wp2_with fail
        refine (wOf_blk _ _ _ _ _ KL.out.symm KB.out KO.out E.out (Nat.le_refl _) (by omega)).mono ?_
        rintro e w' ⟨rfl, rfl⟩
        go_wp2
        go_ret
        exact ⟨_, _, rfl, rd_blk KB.out KO.out E.out (by rw [KL.out]; omega) (by omega), KW.out⟩

theorem carry_step {B : Nat} {lo : List Int} {i : Nat} {cr s x X : Int} (hi : i < lo.length) (hs : s = x + cr) (h : val B (lo.take i) + (B ^ i : Nat) * cr = X) :
    val B ((lo.set i (s % B)).take (i + 1)) + (B ^ (i + 1) : Nat) * (s / B) = X + (B ^ i : Nat) * x := by
  rw [val_take_any, take_set_ge _ _ _ _ (Nat.le_refl _), rd_set_self _ _ _ hi, Int.add_assoc, pow_split, hs, Int.mul_add]
  omega
theorem sub_step {B : Nat} {lo la lb : List Int} {i : Nat} {br t : Int} (hi : i < lo.length) (ht : t = rd la i - br - rd lb i)
    (h : val B (lo.take i) + (B ^ i : Nat) * (-br) = val B (la.take i) - val B (lb.take i)) :
    val B ((lo.set i (t % B)).take (i + 1)) + (B ^ (i + 1) : Nat) * (t / B) = val B (la.take (i + 1)) - val B (lb.take (i + 1)) := by
  rw [carry_step (x := rd la i - rd lb i) hi (by omega) h, val_take_any, val_take_any, Int.mul_sub]
  omega
theorem wrap_u64 (n : Int) : IntKind.u64.wrap n = n % 18446744073709551616 := by simp [IntKind.wrap, IntKind.signed, IntKind.bits]
/-- a difference of words as a uint64 has it -/
theorem sub_wrap {x y br : Int} (h0 : 0 ≤ x) (h1 : x < 4294967296) (h2 : 0 ≤ y) (h3 : y < 4294967296) (h4 : 0 ≤ br) (h5 : br ≤ 1) :
    IntKind.u64.wrap (IntKind.u64.wrap (x - br) - y) / 9223372036854775808 = -((x - br - y) / 4294967296) ∧ IntKind.u64.wrap (IntKind.u64.wrap (x - br) - y) % 4294967296 = (x - br - y) % 4294967296 := by
  rw [wrap_u64, wrap_u64]; omega
theorem sub_wrap1 {x br : Int} (h0 : 0 ≤ x) (h1 : x < 4294967296) (h4 : 0 ≤ br) (h5 : br ≤ 1) :
    IntKind.u64.wrap (x - br) / 9223372036854775808 = -((x - br) / 4294967296) ∧ IntKind.u64.wrap (x - br) % 4294967296 = (x - br) % 4294967296 := by
  rw [wrap_u64]; omega
theorem sub_end {B : Nat} {lo : List Int} {n a b : Nat} {br : Int} (hn : lo.length = n) (ho : Ok B lo) (hb : br = 0 ∨ br = 1) (hle : b ≤ a)
    (h : val B (lo.take n) + (B ^ n : Nat) * (-br) = (a : Int) - (b : Int)) : val B lo = ((a - b : Nat) : Int) := by
  rw [List.take_of_length_le (by omega)] at h
  have h2 := val_lt ho
  rw [hn] at h2
  rcases hb with rfl | rfl
  · simp at h; omega
  · omega

set_option maxHeartbeats 1000000 in
theorem wSub (a b : Nat) (w : World) (A A' : Option Addr) (c c' : Nat) (h : Rd w A c (W a)) (h' : Rd w A' c' (W b)) (hs : (W a).length ≤ 1048576) (hle : b ≤ a) :
    Calls Tryd.prog 114 #[.slice A (W a).length c, .slice A' (W b).length c'] w fun e w' => ∃ A c, e = .returned (.slice A (W (a - b)).length c) ∧ Rd w' A c (W (a - b)) ∧ Below w.heap.size w w' := by
  have H0 := Lib.hid h
  have H1 := Lib.hid h'
  have K0 := Lib.hid (ok_W a)
  have K1 := Lib.hid (ok_W b)
  have hll : (W b).length ≤ (W a).length := dig_length_mono B32_two hle
  have hv := Lib.hid (show val B32 (W a) - val B32 (W b) = (a : Int) - (b : Int) by rw [val_W, val_W])
  have hle := Lib.hid hle
  clear h h'
  generalize hA : W a = l0 at *
  generalize hB : W b = l1 at *
  clear hA hB
  go_enter Tryd.func114, Tryd.ntmps114
  have hmk := make_u32' l0.length (l0.length : Int) rfl (by omega)
  go_wp2
  go_loopw [6, 15] (fun v6 v15 wr => ∃ (i : Nat) (br : Int) (lo : List Int), i ≤ l0.length ∧ v15 = .int .i64 i ∧ v6 = .int .u64 br ∧ 0 ≤ br ∧ br ≤ 1 ∧ Hid (lo.length = l0.length) ∧ Hid (Ok B32 lo) ∧ Hid (val B32 (lo.take i) + (B32 ^ i : Nat) * (-br) = val B32 (l0.take i) - val B32 (l1.take i)) ∧ Hid (Blk wr w.heap.size lo) ∧ Hid (Below w.heap.size w wr)) (fun _ v15 _ => l0.length - (intOf v15).toNat)
  case atStart => exact ⟨0, 0, List.replicate l0.length 0, Nat.zero_le _, rfl, rfl, by omega, by omega, Lib.hid (by simp), Lib.hid (Ok.replicate B32_pos _), Lib.hid (by simp [val]), Lib.hid (Blk.made _ _), Lib.hid (below_alloc _ _)⟩
  case round =>
    obtain ⟨i, br, lo, hi, rfl, rfl, hc0, hc1, hlen, hok, hval, hblk, hbel⟩ := hrel
    by_cases hlt : i < l0.length
    · obtain ⟨ad, rfl, hc⟩ := (H0.out.below hbel.out).at_ i hlt
      obtain ⟨t1, t2⟩ := K0.out.rd B32_pos i
      unfold B32 at t2
      have hcell := hblk.out.cell i (by rw [hlen.out]; omega)
      have hfz := hblk.out.frozen i
      have hstep := fun t (ht : t = rd l0 i - br - rd l1 i) => sub_step (by rw [hlen.out]; omega) ht hval.out
      simp only [B32_cast] at hstep
      have HS := Lib.hid hstep
      clear hstep
      by_cases hlt' : i < l1.length
      · obtain ⟨ad', rfl, hc'⟩ := (H1.out.below hbel.out).at_ i hlt'
        obtain ⟨t3, t4⟩ := K1.out.rd B32_pos i
        unfold B32 at t4
        have hw := Lib.hid (sub_wrap (x := rd l0 i) (y := rd l1 i) (br := br) (by omega) (by omega) (by omega) (by omega) hc0 hc1)
        go_wp2
        go_roundw
        case rel =>
          rw [hw.out.1, hw.out.2]
          exact ⟨i + 1, _, _, by omega, by go_num, rfl, by omega, by omega, Lib.hid (by rw [List.length_set]; exact hlen.out), Lib.hid (hok.out.set i (by omega) (by rw [B32_cast]; omega)),
            Lib.hid (by rw [Int.neg_neg]; exact HS.out _ rfl), hblk.out.set i _, hbel.out.setCell (Nat.le_refl _) _⟩
        case measure => simp [intOf]; omega
      · have hz : rd l1 i = 0 := rd_ge (by omega)
        have hw := Lib.hid (sub_wrap1 (x := rd l0 i) (br := br) (by omega) (by omega) hc0 hc1)
        have HZ := Lib.hid hz
        clear hz
        go_wp2
        go_roundw
        case rel =>
          rw [hw.out.1, hw.out.2]
          exact ⟨i + 1, _, _, by omega, by go_num, rfl, by omega, by omega, Lib.hid (by rw [List.length_set]; exact hlen.out), Lib.hid (hok.out.set i (by omega) (by rw [B32_cast]; omega)),
            Lib.hid (by rw [Int.neg_neg]; exact HS.out _ (by rw [HZ.out, Int.sub_zero])), hblk.out.set i _, hbel.out.setCell (Nat.le_refl _) _⟩
        case measure => simp [intOf]; omega
    · obtain rfl : i = l0.length := by omega
      have hv2 := hval.out
      rw [List.take_length, List.take_of_length_le hll, hv.out] at hv2
      have E := Lib.hid (sub_end hlen.out hok.out (by omega) hle.out hv2)
      clear hv2
      go_wp2_with fail
      refine (wOf_blk _ _ _ _ _ hlen.out.symm hblk.out hok.out E.out (Nat.le_refl _) (by omega)).mono ?_
      rintro e w' ⟨rfl, rfl⟩
      go_wp2
      go_ret
      exact ⟨_, _, rfl, rd_blk hblk.out hok.out E.out (by rw [hlen.out]; omega) (by omega), hbel.out⟩
end Go.Proofs.YtfmhplcpejmkhabDoor

namespace Go.Proofs.YtfmhplcpejmkhabDoor
open Go.RowKit Dig
set_option linter.unusedVariables false
set_option linter.unusedSimpArgs false

theorem val_set {B : Nat} (l : List Int) (k : Nat) (x : Int) (h : k < l.length) : val B (l.set k x) = val B l + (B ^ k : Nat) * (x - rd l k) := by
  have e1 := val_split B l (k + 1) (by omega)
  have e2 := val_split B (l.set k x) (k + 1) (by simp; omega)
  rw [take_set_succ _ _ _ h, val_snoc, List.length_take, Nat.min_eq_left (by omega)] at e2
  rw [take_rd _ _ h, val_snoc, List.length_take, Nat.min_eq_left (by omega)] at e1
  have e3 : (l.set k x).drop (k + 1) = l.drop (k + 1) := by rw [List.drop_set_of_lt (by omega)]
  rw [e3] at e2
  rw [e1, e2, Int.mul_sub]
  omega
theorem val_take_set {B : Nat} (l : List Int) (k n : Nat) (x : Int) (h : k < n) (hn : n ≤ l.length) : val B ((l.set k x).take n) = val B (l.take n) + (B ^ k : Nat) * (x - rd l k) := by
  rw [List.take_set, val_set _ _ _ (by rw [List.length_take]; omega)]
  have : rd (l.take n) k = rd l k := by simp [rd, List.getD_eq_getElem?_getD, List.getElem?_take, h]
  rw [this]
/-- one step of the inner loop -/
theorem mul_step {B : Nat} {lo lb : List Int} {i j m : Nat} {c w s V : Int} (hj : j < m) (hm : i + m ≤ lo.length) (hs : s = w * rd lb j + rd lo (i + j) + c)
    (h : val B (lo.take (i + m)) + (B ^ (i + j) : Nat) * c = V + (B ^ i : Nat) * (w * val B (lb.take j))) :
    val B ((lo.set (i + j) (s % B)).take (i + m)) + (B ^ (i + (j + 1)) : Nat) * (s / B) = V + (B ^ i : Nat) * (w * val B (lb.take (j + 1))) := by
  have hp := pow_split B (i + j) s
  rw [val_take_set _ _ _ _ (by omega) hm, val_take_any, Int.mul_sub, ← Nat.add_assoc]
  have e : (B ^ (i + j) : Nat) * s = (B ^ (i + j) : Nat) * (w * rd lb j) + (B ^ (i + j) : Nat) * rd lo (i + j) + (B ^ (i + j) : Nat) * c := by
    rw [hs, Int.mul_add, Int.mul_add]
  have e2 : ((B ^ (i + j) : Nat) : Int) * (w * rd lb j) = (B ^ i : Nat) * (w * ((B ^ j : Nat) * rd lb j)) := by
    rw [Nat.pow_add, Int.natCast_mul, Int.mul_assoc, Int.mul_left_comm w]
  rw [Int.mul_add w, Int.mul_add]
  omega
theorem mul_last {B : Nat} {lo la : List Int} {i m : Nat} {c vb : Int} (hi : i < la.length) (hm : i + m < lo.length)
    (h : val B (lo.take (i + m)) + (B ^ (i + m) : Nat) * c = val B (la.take i) * vb + (B ^ i : Nat) * (rd la i * vb)) :
    val B ((lo.set (i + m) c).take (i + 1 + m)) = val B (la.take (i + 1)) * vb := by
  rw [show i + 1 + m = (i + m) + 1 from by omega, val_take_any, take_set_ge _ _ _ _ (Nat.le_refl _), rd_set_self _ _ _ hm, h, val_take_any, Int.add_mul, Int.mul_assoc]
theorem prod_bd {x y n : Int} (h0 : 0 ≤ x) (h1 : x ≤ n) (h2 : 0 ≤ y) (h3 : y ≤ n) : 0 ≤ x * y ∧ x * y ≤ n * n :=
  ⟨Int.mul_nonneg h0 h2, Int.mul_le_mul h1 h3 h2 (by omega)⟩

set_option maxHeartbeats 1000000 in
theorem wMul_pos (a b : Nat) (w : World) (A A' : Option Addr) (c c' : Nat) (h : Rd w A c (W a)) (h' : Rd w A' c' (W b)) (hs : (W a).length ≤ 1048576) (hs' : (W b).length ≤ 1048576) (ha : 0 < (W a).length) (hb : 0 < (W b).length) :
    Calls Tryd.prog 110 #[.slice A (W a).length c, .slice A' (W b).length c'] w fun e w' => ∃ A c, e = .returned (.slice A (W (a * b)).length c) ∧ Rd w' A c (W (a * b)) ∧ Below w.heap.size w w' := by
  have H0 := Lib.hid h
  have H1 := Lib.hid h'
  have K0 := Lib.hid (ok_W a)
  have K1 := Lib.hid (ok_W b)
  have hv := Lib.hid (show val B32 (W a) * val B32 (W b) = ((a * b : Nat) : Int) by rw [val_W, val_W, Int.natCast_mul])
  clear h h'
  generalize W a = l0 at *
  generalize W b = l1 at *
  have za : ((l0.length : Int) == 0) = false := beq_eq_false_iff_ne.2 (by omega)
  have zb : ((l1.length : Int) == 0) = false := beq_eq_false_iff_ne.2 (by omega)
  go_enter Tryd.func110, Tryd.ntmps110
  have hmk := make_u32' (l0.length + l1.length) ((l0.length : Int) + (l1.length : Int)) (by omega) (by omega)
  go_wp2
  go_loopw [28] (fun v28 wr => ∃ (i : Nat) (lo : List Int), i ≤ l0.length ∧ v28 = .int .i64 i ∧ Hid (lo.length = l0.length + l1.length) ∧ Hid (Ok B32 lo) ∧ Hid (val B32 (lo.take (i + l1.length)) = val B32 (l0.take i) * val B32 l1) ∧ Hid (Blk wr w.heap.size lo) ∧ Hid (Below w.heap.size w wr)) (fun v28 _ => l0.length - (intOf v28).toNat)
  case atStart => exact ⟨0, List.replicate (l0.length + l1.length) 0, Nat.zero_le _, rfl, Lib.hid (by simp), Lib.hid (Ok.replicate B32_pos _), Lib.hid (by simp [val, val_replicate]), Lib.hid (Blk.made _ _), Lib.hid (below_alloc _ _)⟩
  case round =>
    obtain ⟨i, lo, hi, rfl, hlen, hok, hval, hblk, hbel⟩ := hrel
    by_cases hlt : i < l0.length
    · obtain ⟨ad, rfl, hc⟩ := (H0.out.below hbel.out).at_ i hlt
      obtain ⟨t1, t2⟩ := K0.out.rd B32_pos i
      rw [B32_cast] at t2
      obtain ⟨wo, rfl⟩ : ∃ wo : World, wo = wr := ⟨_, rfl⟩
      go_wp2
      go_loopw [8, 35] (fun v8 v35 wr => ∃ (j : Nat) (cr : Int) (ln : List Int), j ≤ l1.length ∧ v35 = .int .i64 j ∧ v8 = .int .u64 cr ∧ 0 ≤ cr ∧ cr < 4294967296 ∧ Hid (ln.length = l0.length + l1.length) ∧ Hid (Ok B32 ln) ∧ Hid (val B32 (ln.take (i + l1.length)) + (B32 ^ (i + j) : Nat) * cr = val B32 (l0.take i) * val B32 l1 + (B32 ^ i : Nat) * (rd l0 i * val B32 (l1.take j))) ∧ Hid (Blk wr w.heap.size ln) ∧ Hid (Below w.heap.size w wr)) (fun _ v35 _ => l1.length - (intOf v35).toNat)
      case atStart => exact ⟨0, 0, lo, Nat.zero_le _, rfl, rfl, by omega, by omega, hlen, hok, Lib.hid (by simp [val]; exact hval.out), hblk, hbel⟩
      case round =>
        obtain ⟨j, cr, ln, hj, rfl, rfl, hc0, hc1, hlen', hok', hval', hblk', hbel'⟩ := hrel
        clear hval hblk hbel hok hlen
        by_cases hlt' : j < l1.length
        · obtain ⟨ad', rfl, hc'⟩ := (H1.out.below hbel'.out).at_ j hlt'
          obtain ⟨t3, t4⟩ := K1.out.rd B32_pos j
          rw [B32_cast] at t4
          have hcell := hblk'.out.cell (i + j) (by rw [hlen'.out]; omega)
          have hfz := hblk'.out.frozen (i + j)
          obtain ⟨t5, t6⟩ := hok'.out.rd B32_pos (i + j)
          rw [B32_cast] at t6
          obtain ⟨p1, p2⟩ := prod_bd (n := 4294967295) t1 (by omega) t3 (by omega)
          have hstep := fun s (hs : s = rd l0 i * rd l1 j + rd ln (i + j) + cr) => mul_step hlt' (by rw [hlen'.out]; omega) hs hval'.out
          simp only [B32_cast] at hstep
          have HS := Lib.hid hstep
          clear hstep
          go_wp2
          go_roundw
          case rel =>
            exact ⟨j + 1, _, _, by omega, by go_num, rfl, by omega, by omega, Lib.hid (by rw [List.length_set]; exact hlen'.out), Lib.hid (hok'.out.set _ (by omega) (by rw [B32_cast]; omega)),
              HS.out _ rfl, hblk'.out.set _ _, hbel'.out.setCell (Nat.le_refl _) _⟩
          case measure => simp [intOf]; omega
        · obtain rfl : j = l1.length := by omega
          have hcell := hblk'.out.cell (i + l1.length) (by rw [hlen'.out]; omega)
          have hfz := hblk'.out.frozen (i + l1.length)
          have hv3 := hval'.out
          rw [List.take_length] at hv3
          have E := Lib.hid (mul_last hlt (by rw [hlen'.out]; omega) hv3)
          clear hv3
          go_wp2
          go_roundw
          case rel =>
            exact ⟨i + 1, _, by omega, by go_num, Lib.hid (by rw [List.length_set]; exact hlen'.out), Lib.hid (hok'.out.set _ hc0 (by rw [B32_cast]; omega)),
              E, hblk'.out.set _ _, hbel'.out.setCell (Nat.le_refl _) _⟩
          case measure => simp [intOf]; omega
    · obtain rfl : i = l0.length := by omega
      have hv2 := hval.out
      rw [List.take_length, List.take_of_length_le (by rw [hlen.out]; omega), hv.out] at hv2
      have E := Lib.hid hv2
      clear hv2
      go_wp2_with fail
      refine (wOf_blk _ _ _ _ _ hlen.out.symm hblk.out hok.out E.out (Nat.le_refl _) (by omega)).mono ?_
      rintro e w' ⟨rfl, rfl⟩
      go_wp2
      go_ret
      exact ⟨_, _, rfl, rd_blk hblk.out hok.out E.out (by rw [hlen.out]; omega) (by omega), hbel.out⟩

theorem W_length_zero {a : Nat} (h : ¬ 0 < (W a).length) : a = 0 := W_inj ((List.eq_nil_of_length_eq_zero (by omega)).trans W_zero.symm)
theorem wMul (a b : Nat) (w : World) (A A' : Option Addr) (c c' : Nat) (h : Rd w A c (W a)) (h' : Rd w A' c' (W b)) (hs : (W a).length ≤ 1048576) (hs' : (W b).length ≤ 1048576) :
    Calls Tryd.prog 110 #[.slice A (W a).length c, .slice A' (W b).length c'] w fun e w' => ∃ A c, e = .returned (.slice A (W (a * b)).length c) ∧ Rd w' A c (W (a * b)) ∧ Below w.heap.size w w' := by
  by_cases ha : 0 < (W a).length
  · by_cases hb : 0 < (W b).length
    · exact wMul_pos a b w A A' c c' h h' hs hs' ha hb
    · have hz := W_length_zero hb
      subst hz
      have za : (((W a).length : Int) == 0) = false := beq_eq_false_iff_ne.2 (by omega)
      have zb : (((W 0).length : Int) == 0) = true := by simp [W_zero]
      clear h h' hb
      go_enter Tryd.func110, Tryd.ntmps110
      go_wp2
      go_ret
      rw [Nat.mul_zero, W_zero]
      exact ⟨none, 0, rfl, Rd.nil _ _ _ (by omega), Below.refl _ _⟩
  · have hz := W_length_zero ha
    subst hz
    have za : (((W 0).length : Int) == 0) = true := by simp [W_zero]
    clear h h' ha
    go_enter Tryd.func110, Tryd.ntmps110
    go_wp2
    all_goals go_ret
    all_goals
      rw [Nat.zero_mul, W_zero]
      exact ⟨none, 0, rfl, Rd.nil _ _ _ (by omega), Below.refl _ _⟩
end Go.Proofs.YtfmhplcpejmkhabDoor

namespace Go.Proofs.YtfmhplcpejmkhabDoor
open Go.RowKit Dig
set_option linter.unusedVariables false
set_option linter.unusedSimpArgs false


theorem bits_or_comm (k : IntKind) (x y : Int) : bits .or k x y = bits .or k y x := by
  simp only [bits, BitVec.or_comm]
theorem wraps_u32 (n : Int) (h0 : 0 ≤ n) (h1 : n < 2 ^ 32) : IntKind.u32.wrap n = n := by rw [IntKind.wrap_u32]; omega
theorem wraps_u64 (n : Int) (h0 : 0 ≤ n) (h1 : n < 2 ^ 64) : IntKind.u64.wrap n = n := by rw [wrap_u64]; omega
/-- an or of parts that do not overlap -/
theorem or_u32 {x y : Int} (r : Nat) (hr : r ≤ 32) (h0 : 0 ≤ x) (h1 : x < 2 ^ r) (h2 : 0 ≤ y) (h3 : y < 4294967296) (h4 : y % 2 ^ r = 0) : bits .or .u32 x y = x + y := by
  rw [bits_or_comm, bits_join .u32 32 (by decide) wraps_u32 r y x h2 h4 h3 h0 h1 ?_, Int.add_comm]
  have : (2 : Int) ^ r ≤ 2 ^ 32 := by exact_mod_cast Nat.pow_le_pow_right (by omega) hr
  omega
theorem or_u64_32 {x y : Int} (h0 : 0 ≤ x) (h1 : x < 4294967296) (h2 : 0 ≤ y) (h3 : y < 4294967296) : bits .or .u64 x (y * 4294967296) = x + y * 4294967296 := by
  rw [bits_or_comm, bits_join .u64 64 (by decide) wraps_u64 32 (y * 4294967296) x (by omega) (by omega) (by omega) h0 (by omega) (by omega), Int.add_comm]
theorem or_u64_32' {x y : Int} (h0 : 0 ≤ x) (h1 : x < 4294967296) (h2 : 0 ≤ y) (h3 : y < 4294967296) : bits .or .u64 (y * 4294967296) x = y * 4294967296 + x := by
  rw [bits_join .u64 64 (by decide) wraps_u64 32 (y * 4294967296) x (by omega) (by omega) (by omega) h0 (by omega) (by omega)]
theorem pow_two_bd {r : Nat} (hr : r < 32) : ∃ M : Nat, (2 : Int) ^ r = M ∧ M = 2 ^ r ∧ 1 ≤ M ∧ M ≤ 2147483648 ∧ M * 2 ^ (32 - r) = 4294967296 := by
  refine ⟨2 ^ r, by simp, rfl, Nat.two_pow_pos r, ?_, ?_⟩
  · exact Nat.pow_le_pow_right (n := 2) (by omega) (show r ≤ 31 by omega)
  · rw [← Nat.pow_add, show r + (32 - r) = 32 from by omega]
/-- the two halves of a shifted word: the lower one is a multiple of M and leaves room for what is below M, the upper one is below M -/
theorem shl_word {x : Int} {M N : Nat} (hx : 0 ≤ x) (hx1 : x < 4294967296) (hM : 1 ≤ M) (hN : M * N = 4294967296) :
    0 ≤ x * M ∧ x * M / 4294967296 < M ∧ x * M % 4294967296 % M = 0 ∧ x * M % 4294967296 + M ≤ 4294967296 := by
  have h1 : x * M % 4294967296 % M = 0 := by
    have e : (4294967296 : Int) = M * N := by rw [← Int.natCast_mul, hN]; rfl
    rw [e, Int.emod_emod_of_dvd _ ⟨(N : Int), rfl⟩]
    exact Int.mul_emod_left x M
  have h0 : 0 ≤ x * M := Int.mul_nonneg hx (by omega)
  have h2 : x * M < 4294967296 * M := Int.mul_lt_mul_of_pos_right hx1 (by omega)
  refine ⟨h0, by omega, h1, ?_⟩
  have h3 : x * M % 4294967296 < 4294967296 := Int.emod_lt_of_pos _ (by omega)
  have h4 : 0 ≤ x * M % 4294967296 := Int.emod_nonneg _ (by omega)
  generalize x * M % 4294967296 = y at *
  obtain ⟨k, hk⟩ := Int.dvd_of_emod_eq_zero h1
  subst hk
  have e : ((4294967296 : Int)) = M * N := by rw [← Int.natCast_mul, hN]; rfl
  rw [e] at h3 ⊢
  have h5 : k < N := Int.lt_of_mul_lt_mul_left h3 (by omega)
  have h6 : (M : Int) * (k + 1) ≤ M * N := Int.mul_le_mul_of_nonneg_left (by omega) (by omega)
  rw [Int.mul_add] at h6
  omega
theorem shl_step {B : Nat} {lo : List Int} {k : Nat} {s : Int} (hk : k + 1 < lo.length) :
    val B (((lo.set k (rd lo k + s % B)).set (k + 1) (s / B)).take (k + 2)) = val B (lo.take (k + 1)) + (B ^ k : Nat) * s := by
  rw [val_take_any, take_set_ge _ _ _ _ (Nat.le_refl _), rd_set_self _ _ _ (by simpa using hk), val_take_set _ _ _ _ (by omega) (by omega), ← pow_split B k s]
  rw [show rd lo k + s % (B : Int) - rd lo k = s % B from by omega]
  omega

set_option maxHeartbeats 1000000 in
set_option maxRecDepth 100000 in
theorem wShl_pos (a n : Nat) (w : World) (A : Option Addr) (c : Nat) (h : Rd w A c (W a)) (hs : (W a).length ≤ 1048576) (hn : n ≤ 33554432) (ha : 0 < (W a).length) :
    Calls Tryd.prog 108 #[.slice A (W a).length c, .int .i64 n] w fun e w' => ∃ A c, e = .returned (.slice A (W (a * 2 ^ n)).length c) ∧ Rd w' A c (W (a * 2 ^ n)) ∧ Below w.heap.size w w' := by
  have H0 := Lib.hid h
  have K0 := Lib.hid (ok_W a)
  have hv := Lib.hid (val_W a)
  clear h
  generalize W a = l0 at *
  have za : ((l0.length : Int) == 0) = false := beq_eq_false_iff_ne.2 (by omega)
  go_enter Tryd.func108, Tryd.ntmps108
  go_upto_region 3 with (fail)
  go_cut [5, 6] (fun v5 v6 wc => ∃ q r : Nat, v5 = .int .i64 q ∧ v6 = .int .u64 r ∧ r < 32 ∧ q ≤ 1048576 ∧ Hid (n = 32 * q + r) ∧ wc = w)
  case first =>
    go_wp2
    go_meet
    case rel => exact ⟨n / 32, n % 32, by push_cast; rfl, by push_cast; rfl, by omega, by omega, Lib.hid (by omega), rfl⟩
  case rest =>
    obtain ⟨q, r, rfl, rfl, hr, hq, hn, rfl⟩ := hcut
    have hmk := make_u32' (l0.length + q + 1) ((l0.length : Int) + (q : Int) + 1) (by omega) (by omega)
    obtain ⟨M, hM, hM2, hM3, hM4, hM5⟩ := pow_two_bd hr
    have HM := Lib.hid hM2
    have HN := Lib.hid hM5
    clear hM2 hM5
    go_wp2
    go_loopw [27] (fun v27 wr => ∃ (i : Nat) (lo : List Int), i ≤ l0.length ∧ v27 = .int .i64 i ∧ Hid (lo.length = l0.length + q + 1) ∧ Hid (Ok B32 lo) ∧ rd lo (q + i) < M ∧ Hid (val B32 (lo.take (q + i + 1)) = (B32 ^ q : Nat) * (M * val B32 (l0.take i))) ∧ Hid (Blk wr wc.heap.size lo) ∧ Hid (Below wc.heap.size wc wr)) (fun v27 _ => l0.length - (intOf v27).toNat)
    case atStart => exact ⟨0, List.replicate (l0.length + q + 1) 0, Nat.zero_le _, rfl, Lib.hid (by simp), Lib.hid (Ok.replicate B32_pos _), by rw [rd_replicate]; omega, Lib.hid (by simp [val, val_replicate]), Lib.hid (Blk.made _ _), Lib.hid (below_alloc _ _)⟩
    case round =>
      obtain ⟨i, lo, hi, rfl, hlen, hok, hlow, hval, hblk, hbel⟩ := hrel
      by_cases hlt : i < l0.length
      · obtain ⟨ad, rfl, hc⟩ := (H0.out.below hbel.out).at_ i hlt
        obtain ⟨t1, t2⟩ := K0.out.rd B32_pos i
        rw [B32_cast] at t2
        have hcell := hblk.out.cell (q + i) (by rw [hlen.out]; omega)
        have hfz := hblk.out.frozen (q + i)
        obtain ⟨t5, t6⟩ := hok.out.rd B32_pos (q + i)
        rw [B32_cast] at t6
        obtain ⟨s0, s1, s2, s3⟩ := shl_word t1 t2 hM3 HN.out
        have s4 : rd l0 i * M < 18446744073709551616 := by omega
        have hor := or_u32 (x := rd lo (q + i)) (y := rd l0 i * M % 4294967296) r (by omega) t5 (by rw [hM]; exact hlow) (by omega) (by omega) (by rw [hM]; exact s2)
        have hblk2 := hblk.out.set (q + i) (rd lo (q + i) + rd l0 i * M % 4294967296)
        have hcell2 := hblk2.cell (q + i + 1) (by rw [List.length_set, hlen.out]; omega)
        have hfz2 := hblk2.frozen (q + i + 1)
        have HB2 := Lib.hid (hblk2.set (q + i + 1) (rd l0 i * M / 4294967296))
        have HW2 := Lib.hid ((hbel.out.setCell (p := ⟨wc.heap.size, q + i, none⟩) (Nat.le_refl _) (.int .u32 (rd lo (q + i) + rd l0 i * M % 4294967296))).setCell (p := ⟨wc.heap.size, q + i + 1, none⟩) (Nat.le_refl _) (.int .u32 (rd l0 i * M / 4294967296)))
        have hstep := shl_step (B := B32) (lo := lo) (k := q + i) (s := rd l0 i * M) (by rw [hlen.out]; omega)
        rw [hval.out] at hstep
        have e2 : (B32 ^ q : Nat) * (M * val B32 (l0.take i)) + (B32 ^ (q + i) : Nat) * (rd l0 i * M) = (B32 ^ q : Nat) * (M * val B32 (l0.take (i + 1))) := by
          rw [val_take_any, Nat.pow_add, Int.natCast_mul, Int.mul_add, Int.mul_add, Int.mul_assoc, Int.mul_comm (rd l0 i) M, Int.mul_left_comm (M : Int) _ (rd l0 i)]
        rw [e2] at hstep
        simp only [B32_cast] at hstep
        have HS := Lib.hid hstep
        clear hstep hblk2 e2
        go_wp2
        go_roundw
        case rel =>
          refine ⟨i + 1, _, by omega, by go_num, Lib.hid ?_, Lib.hid ?_, ?_, HS, HB2, HW2⟩
          · rw [List.length_set, List.length_set]; exact hlen.out
          · refine (hok.out.set _ ?_ ?_).set _ ?_ ?_
            · omega
            · rw [B32_cast]; omega
            · omega
            · rw [B32_cast]; omega
          · rw [show q + (i + 1) = q + i + 1 from rfl, rd_set_self _ _ _ (by rw [List.length_set, hlen.out]; omega)]
            exact s1
        case measure => simp [intOf]; omega
      · obtain rfl : i = l0.length := by omega
        have hv2 := hval.out
        rw [List.take_length, List.take_of_length_le (by rw [hlen.out]; omega), hv.out] at hv2
        have hv3 : val B32 lo = ((a * 2 ^ n : Nat) : Int) := by
          rw [hv2, hn.out, HM.out, Nat.pow_add, Nat.pow_mul, ← Int.natCast_mul, ← Int.natCast_mul]
          congr 1
          rw [show (2 : Nat) ^ 32 = B32 from rfl, Nat.mul_comm _ a, Nat.mul_left_comm]
        have E := Lib.hid hv3
        clear hv2 hv3
        go_wp2_with fail
        refine (wOf_blk _ _ _ _ _ hlen.out.symm hblk.out hok.out E.out (Nat.le_refl _) (by omega)).mono ?_
        rintro e w' ⟨rfl, rfl⟩
        go_wp2
        go_ret
        exact ⟨_, _, rfl, rd_blk hblk.out hok.out E.out (by rw [hlen.out]; omega) (by omega), hbel.out⟩

theorem wShl (a n : Nat) (w : World) (A : Option Addr) (c : Nat) (h : Rd w A c (W a)) (hs : (W a).length ≤ 1048576) (hn : n ≤ 33554432) :
    Calls Tryd.prog 108 #[.slice A (W a).length c, .int .i64 n] w fun e w' => ∃ A c, e = .returned (.slice A (W (a * 2 ^ n)).length c) ∧ Rd w' A c (W (a * 2 ^ n)) ∧ Below w.heap.size w w' := by
  by_cases ha : 0 < (W a).length
  · exact wShl_pos a n w A c h hs hn ha
  · have hz := W_length_zero ha
    subst hz
    have za : (((W 0).length : Int) == 0) = true := by simp [W_zero]
    clear h ha
    go_enter Tryd.func108, Tryd.ntmps108
    go_wp2
    go_ret
    rw [Nat.zero_mul, W_zero]
    exact ⟨none, 0, rfl, Rd.nil _ _ _ (by omega), Below.refl _ _⟩

theorem Rd.cell_succ {w : World} {ad : Addr} {c : Nat} {l : List Int} (h : Rd w (some ad) c l) (j : Nat) (hj : j + 1 < l.length) : w.cell? ⟨ad.block, ad.off + (j + 1), none⟩ = some (.int .u32 (rd l (j + 1))) := by
  have := h.cell (j + 1) hj
  rwa [show ad.add (j + 1) = ⟨ad.block, ad.off + (j + 1), none⟩ from by simp [Addr.add]] at this
/-- digit i of a / 2^n out of two digits of a -/
theorem shr_digit {a q i r M N : Nat} (hM : M * N = B32) (hM0 : 0 < M) (hM2 : M = 2 ^ r) :
    a / 2 ^ (32 * q + r) / B32 ^ i % B32 = (a / B32 ^ (q + i) % B32 + B32 * (a / B32 ^ (q + i + 1) % B32)) / M % B32 := by
  have e1 : a / 2 ^ (32 * q + r) / B32 ^ i = a / B32 ^ (q + i) / M := by
    rw [Nat.div_div_eq_div_mul, Nat.div_div_eq_div_mul, Nat.pow_add, Nat.pow_mul, show (2 : Nat) ^ 32 = B32 from rfl, ← hM2, Nat.pow_add B32, Nat.mul_right_comm]
  rw [e1, Nat.pow_succ, ← Nat.div_div_eq_div_mul]
  generalize a / B32 ^ (q + i) = x
  have e2 : x = x % B32 + B32 * (x / B32 % B32) + M * (B32 * (N * (x / B32 / B32))) := by
    have h1 := Nat.mod_add_div x B32
    have h2 := Nat.mod_add_div (x / B32) B32
    have h3 : M * (B32 * (N * (x / B32 / B32))) = B32 * (B32 * (x / B32 / B32)) := by
      rw [Nat.mul_left_comm, ← Nat.mul_assoc M, hM]
    rw [h3, Nat.add_assoc, ← Nat.mul_add, h2, h1]
  have e3 : x / M = (x % B32 + B32 * (x / B32 % B32)) / M + B32 * (N * (x / B32 / B32)) := by
    conv => lhs; rw [e2]
    rw [Nat.add_mul_div_left _ _ hM0]
  rw [e3, Nat.add_mul_mod_self_left]
theorem mod_pow_step (x B i : Nat) : ((x % B ^ (i + 1) : Nat) : Int) = ((x % B ^ i : Nat) : Int) + (B ^ i : Nat) * ((x / B ^ i % B : Nat) : Int) := by
  rw [Nat.pow_succ, Nat.mod_mul, Int.natCast_add, Int.natCast_mul]
theorem W_rd (a i : Nat) : rd (W a) i = ((a / B32 ^ i % B32 : Nat) : Int) := dig_getD B32_two a i

theorem shr_val {l0 : List Int} {a q i r M N : Nat} (hd : ∀ i, rd l0 i = ((a / B32 ^ i % B32 : Nat) : Int)) (hM : M * N = 4294967296) (hM0 : 0 < M) (hM2 : M = 2 ^ r) :
    (rd l0 (q + i) + rd l0 (q + i + 1) * 4294967296) / M % 4294967296 = ((a / 2 ^ (32 * q + r) / B32 ^ i % B32 : Nat) : Int) := by
  rw [shr_digit hM hM0 hM2, hd, hd, ← B32_cast, Int.mul_comm _ ((B32 : Nat) : Int), ← Int.natCast_mul, ← Int.natCast_add, ← Int.natCast_ediv, ← Int.natCast_emod]
theorem store_step {B : Nat} {lo : List Int} {i : Nat} {x : Int} (hi : i < lo.length) : val B ((lo.set i x).take (i + 1)) = val B (lo.take i) + (B ^ i : Nat) * x := by
  rw [val_take_any, take_set_ge _ _ _ _ (Nat.le_refl _), rd_set_self _ _ _ hi]
theorem shr_lt {a n q r k : Nat} (hq : q ≤ k) (ha : a < B32 ^ k) (hn : n = 32 * q + r) : a / 2 ^ n < B32 ^ (k - q) := by
  rw [Nat.div_lt_iff_lt_mul (Nat.two_pow_pos _), hn, Nat.pow_add 2, Nat.pow_mul, show (2 : Nat) ^ 32 = B32 from rfl, ← Nat.mul_assoc, ← Nat.pow_add, show k - q + q = k from by omega]
  exact Nat.lt_of_lt_of_le ha (Nat.le_mul_of_pos_right _ (Nat.two_pow_pos _))

set_option maxHeartbeats 1000000 in
set_option maxRecDepth 100000 in
theorem wShr (a n : Nat) (w : World) (A : Option Addr) (c : Nat) (h : Rd w A c (W a)) (hs : (W a).length ≤ 1048576) (hn : n ≤ 33554432) :
    Calls Tryd.prog 121 #[.slice A (W a).length c, .int .i64 n] w fun e w' => ∃ A c, e = .returned (.slice A (W (a / 2 ^ n)).length c) ∧ Rd w' A c (W (a / 2 ^ n)) ∧ Below w.heap.size w w' := by
  have H0 := Lib.hid h
  have h1 := h.max
  have h2 := h.le
  have hlt2 := Lib.hid (lt_pow_length B32_two a)
  clear h
  have HD := Lib.hid (W_rd a)
  have K0 := Lib.hid (ok_W a)
  rw [show dig B32 a = W a from rfl] at hlt2
  generalize W a = l0 at *
  go_enter Tryd.func121, Tryd.ntmps121
  go_upto_region 1 with (fail)
  go_cut [5, 6] (fun v5 v6 wc => ∃ q r : Nat, v5 = .int .i64 q ∧ v6 = .int .u64 r ∧ r < 32 ∧ q ≤ 1048576 ∧ Hid (n = 32 * q + r) ∧ wc = w)
  case first =>
    go_wp2
    go_meet
    case rel => exact ⟨n / 32, n % 32, by push_cast; rfl, by push_cast; rfl, by omega, by omega, Lib.hid (by omega), rfl⟩
  case rest =>
    obtain ⟨q, r, rfl, rfl, hr, hq, hn, rfl⟩ := hcut
    obtain ⟨M, hM, hM2, hM3, hM4, hM5⟩ := pow_two_bd hr
    have HM := Lib.hid hM2
    have HN := Lib.hid hM5
    clear hM2 hM5
    by_cases hlen0 : q < l0.length
    · have hmk := make_u32' (l0.length - q) ((l0.length : Int) - (q : Int)) (by omega) (by omega)
      go_wp2
      go_loopw [26] (fun v26 wr => ∃ (i : Nat) (lo : List Int), i ≤ l0.length - q ∧ v26 = .int .i64 i ∧ Hid (lo.length = l0.length - q) ∧ Hid (Ok B32 lo) ∧ Hid (val B32 (lo.take i) = ((a / 2 ^ n % B32 ^ i : Nat) : Int)) ∧ Hid (Blk wr wc.heap.size lo) ∧ Hid (Below wc.heap.size wc wr)) (fun v26 _ => l0.length - q - (intOf v26).toNat)
      case atStart => exact ⟨0, List.replicate (l0.length - q) 0, Nat.zero_le _, rfl, Lib.hid (by simp), Lib.hid (Ok.replicate B32_pos _), Lib.hid (by simp [val, Nat.mod_one]), Lib.hid (Blk.made _ _), Lib.hid (below_alloc _ _)⟩
      case round =>
        obtain ⟨i, lo, hi, rfl, hlen, hok, hval, hblk, hbel⟩ := hrel
        by_cases hlt : i < l0.length - q
        · obtain ⟨ad, rfl, hc⟩ := (H0.out.below hbel.out).at_ (q + i) (by omega)
          obtain ⟨t1, t2⟩ := K0.out.rd B32_pos (q + i)
          rw [B32_cast] at t2
          have hcell := hblk.out.cell i (by rw [hlen.out]; omega)
          have hfz := hblk.out.frozen i
          by_cases hlt' : q + i + 1 < l0.length
          · have hc' := (H0.out.below hbel.out).cell_succ (q + i) hlt'
            obtain ⟨t3, t4⟩ := K0.out.rd B32_pos (q + i + 1)
            rw [B32_cast] at t4
            have hor := or_u64_32 t1 t2 t3 t4
            have hx := shr_val (M := M) (a := a) (q := q) (i := i) HD.out HN.out (by omega) HM.out
            rw [← hn.out] at hx
            have HX := Lib.hid hx
            clear hx
            go_wp2
            go_roundw
            case rel =>
              rw [HX.out]
              exact ⟨i + 1, _, by omega, by go_num, Lib.hid (by rw [List.length_set]; exact hlen.out), Lib.hid (hok.out.set _ (by omega) (by have := Nat.mod_lt (a / 2 ^ n / B32 ^ i) B32_pos; omega)),
                Lib.hid (by rw [mod_pow_step, ← hval.out]; exact store_step (by rw [hlen.out]; omega)), hblk.out.set _ _, hbel.out.setCell (Nat.le_refl _) _⟩
            case measure => simp [intOf]; omega
          · have hz : rd l0 (q + i + 1) = 0 := rd_ge (by omega)
            have hx := shr_val (M := M) (a := a) (q := q) (i := i) HD.out HN.out (by omega) HM.out
            rw [← hn.out, hz, Int.zero_mul, Int.add_zero] at hx
            have HX := Lib.hid hx
            clear hx hz
            go_wp2
            go_roundw
            case rel =>
              rw [HX.out]
              exact ⟨i + 1, _, by omega, by go_num, Lib.hid (by rw [List.length_set]; exact hlen.out), Lib.hid (hok.out.set _ (by omega) (by have := Nat.mod_lt (a / 2 ^ n / B32 ^ i) B32_pos; omega)),
                Lib.hid (by rw [mod_pow_step, ← hval.out]; exact store_step (by rw [hlen.out]; omega)), hblk.out.set _ _, hbel.out.setCell (Nat.le_refl _) _⟩
            case measure => simp [intOf]; omega
        · obtain rfl : i = l0.length - q := by omega
          have hv2 := hval.out
          rw [List.take_of_length_le (by rw [hlen.out]; omega), Nat.mod_eq_of_lt (shr_lt (by omega) hlt2.out hn.out)] at hv2
          have E := Lib.hid hv2
          clear hv2
          go_wp2_with fail
          refine (wOf_blk _ _ _ _ _ hlen.out.symm hblk.out hok.out E.out (Nat.le_refl _) (by omega)).mono ?_
          rintro e w' ⟨rfl, rfl⟩
          go_wp2
          go_ret
          exact ⟨_, _, rfl, rd_blk hblk.out hok.out E.out (by rw [hlen.out]; omega) (by omega), hbel.out⟩
    · have hz : a / 2 ^ n = 0 := by
        have := shr_lt (q := min q l0.length) (by omega) hlt2.out (show n = 32 * min q l0.length + (n - 32 * min q l0.length) by have := hn.out; omega)
        rw [show l0.length - min q l0.length = 0 from by omega] at this
        simpa using this
      have HZ := Lib.hid hz
      clear hz
      go_wp2
      go_ret
      rw [HZ.out, W_zero]
      exact ⟨none, 0, rfl, Rd.nil _ _ _ (by omega), Below.refl _ _⟩
end Go.Proofs.YtfmhplcpejmkhabDoor

namespace Go.Proofs.YtfmhplcpejmkhabDoor
open Go.RowKit Dig
set_option linter.unusedVariables false
set_option linter.unusedSimpArgs false

theorem div_high {H x d B : Nat} (hd : 0 < d) : (H * B + x) / d = H / d * B + (H % d * B + x) / d ∧ (H * B + x) % d = (H % d * B + x) % d := by
  have e : H * B + x = (H % d * B + x) + d * (H / d * B) := by
    have := Nat.mod_add_div H d
    have h2 : H * B = (H % d + d * (H / d)) * B := by rw [this]
    rw [h2, Nat.add_mul, Nat.mul_assoc]; omega
  constructor
  · rw [e, Nat.add_mul_div_left _ _ hd, Nat.add_comm]
  · rw [e, Nat.add_mul_mod_self_left]
theorem div_digit {r x d B : Nat} (hr : r < d) (hx : x < B) : (r * B + x) / d < B := by
  rw [Nat.div_lt_iff_lt_mul (by omega)]
  have : (r + 1) * B ≤ d * B := Nat.mul_le_mul_right _ hr
  rw [Nat.add_mul] at this
  rw [Nat.mul_comm B]; omega
theorem high_step (a B k : Nat) : a / B ^ k = a / B ^ (k + 1) * B + a / B ^ k % B := by
  rw [Nat.pow_succ, ← Nat.div_div_eq_div_mul]
  have := Nat.div_add_mod (a / B ^ k) B
  rw [Nat.mul_comm] at this
  omega
theorem drop_set_step {B : Nat} {lo : List Int} {k : Nat} {x : Int} (h : k < lo.length) : val B ((lo.set k x).drop k) = x + B * val B (lo.drop (k + 1)) := by
  rw [val_drop_rd _ _ _ (by simpa using h), rd_set_self _ _ _ h, List.drop_set_of_lt (by omega)]

set_option maxHeartbeats 1000000 in
set_option maxRecDepth 100000 in
theorem wDivSmall (a d : Nat) (w : World) (A : Option Addr) (c : Nat) (h : Rd w A c (W a)) (hs : (W a).length ≤ 1048576) (hd : 0 < d) (hd2 : d < 4294967296) :
    Calls Tryd.prog 102 #[.slice A (W a).length c, .int .u32 d] w fun e w' => ∃ A c, e = .returned (.tuple #[.slice A (W (a / d)).length c, .int .u32 (a % d : Nat)]) ∧ Rd w' A c (W (a / d)) ∧ Below w.heap.size w w' := by
  have H0 := Lib.hid h
  have h1 := h.max
  have h2 := h.le
  have hlt2 := Lib.hid (lt_pow_length B32_two a)
  clear h
  have HD := Lib.hid (W_rd a)
  rw [show dig B32 a = W a from rfl] at hlt2
  generalize W a = l0 at *
  have hmk := make_u32' l0.length (l0.length : Int) rfl (by omega)
  have hd0 : ((d : Int) == 0) = false := beq_eq_false_iff_ne.2 (by omega)
  go_enter Tryd.func102, Tryd.ntmps102
  go_wp2
  go_loopw [7, 8] (fun v7 v8 wr => ∃ (k rest : Nat) (lo : List Int), k ≤ l0.length ∧ v8 = .int .i64 ((k : Int) - 1) ∧ v7 = .int .u64 rest ∧ rest < d ∧ Hid (rest = a / B32 ^ k % d) ∧ Hid (lo.length = l0.length) ∧ Hid (Ok B32 lo) ∧ Hid (val B32 (lo.drop k) = ((a / B32 ^ k / d : Nat) : Int)) ∧ Hid (Blk wr w.heap.size lo) ∧ Hid (Below w.heap.size w wr)) (fun _ v8 _ => (intOf v8 + 1).toNat)
  case atStart =>
    have e : a / B32 ^ l0.length = 0 := Nat.div_eq_of_lt hlt2.out
    exact ⟨l0.length, 0, List.replicate l0.length 0, Nat.le_refl _, rfl, rfl, hd, Lib.hid (by rw [e]; simp), Lib.hid (by simp), Lib.hid (Ok.replicate B32_pos _), Lib.hid (by rw [e, List.drop_of_length_le (by simp)]; simp [val]), Lib.hid (Blk.made _ _), Lib.hid (below_alloc _ _)⟩
  case round =>
    obtain ⟨k, rest, lo, hk, rfl, rfl, hr, hrest, hlen, hok, hval, hblk, hbel⟩ := hrel
    by_cases hlt : 0 < k
    · obtain ⟨i, rfl⟩ : ∃ i, k = i + 1 := ⟨k - 1, by omega⟩
      have hki : ((i + 1 : Nat) : Int) - 1 = (i : Int) := by omega
      rw [hki]
      obtain ⟨ad, rfl, hc⟩ := (H0.out.below hbel.out).at_ i (by omega)
      obtain ⟨x, hx⟩ : ∃ x : Nat, rd l0 i = (x : Int) := ⟨_, HD.out i⟩
      rw [hx] at hc
      have hxd : x = a / B32 ^ i % B32 := by have := HD.out i; rw [hx] at this; exact_mod_cast this
      have hx2 : x < 4294967296 := by rw [hxd]; exact Nat.mod_lt _ B32_pos
      have HX := Lib.hid hxd
      have hcell := hblk.out.cell i (by rw [hlen.out]; omega)
      have hfz := hblk.out.frozen i
      have hor := or_u64_32' (x := (x : Int)) (y := (rest : Int)) (by omega) (by omega) (by omega) (by omega)
      obtain ⟨q1, q2⟩ := div_high (H := a / B32 ^ (i + 1)) (x := x) (B := B32) hd
      rw [hxd, ← high_step, ← hxd, ← hrest.out] at q1 q2
      have HQ1 := Lib.hid q1
      have HQ2 := Lib.hid q2
      have hdig := div_digit (r := rest) (x := x) (d := d) (B := 4294967296) hr hx2
      have hmod := Nat.mod_lt (rest * 4294967296 + x) hd
      obtain ⟨Q, hQ⟩ : ∃ Q : Nat, (rest * 4294967296 + x) / d = Q := ⟨_, rfl⟩
      obtain ⟨M, hM⟩ : ∃ M : Nat, (rest * 4294967296 + x) % d = M := ⟨_, rfl⟩
      rw [hQ] at hdig
      rw [hM] at hmod
      have hQ' : ((rest : Int) * 4294967296 + (x : Int)) / (d : Int) = (Q : Int) := by rw [← hQ, Int.natCast_ediv, Int.natCast_add, Int.natCast_mul]; rfl
      have hM' : ((rest : Int) * 4294967296 + (x : Int)) % (d : Int) = (M : Int) := by rw [← hM, Int.natCast_emod, Int.natCast_add, Int.natCast_mul]; rfl
      have HM' := Lib.hid hM'
      clear hM'
      have HQ := Lib.hid hQ
      have HM := Lib.hid hM
      clear q1 q2 hxd hQ hM hx hki
      go_wp2
      go_roundw
      case rel =>
        refine ⟨i, M, _, by omega, rfl, congrArg (Value.int .u64) HM'.out, hmod, Lib.hid (HM.out.symm.trans HQ2.out.symm), Lib.hid (by rw [List.length_set]; exact hlen.out), Lib.hid (hok.out.set _ (by omega) (by rw [B32_cast]; omega)), Lib.hid ?_, hblk.out.set _ _, hbel.out.setCell (Nat.le_refl _) _⟩
        rw [drop_set_step (by rw [hlen.out]; omega), hval.out, HQ1.out, show (rest * B32 + x) / d = Q from HQ.out, Int.natCast_add, Int.natCast_mul, Int.mul_comm ((B32 : Nat) : Int), Int.add_comm]
      case measure => simp [intOf]
    · obtain rfl : k = 0 := by omega
      have hv2 := hval.out
      rw [List.drop_zero, Nat.pow_zero, Nat.div_one] at hv2
      have hr2 := hrest.out
      rw [Nat.pow_zero, Nat.div_one] at hr2
      subst hr2
      have E := Lib.hid hv2
      clear hv2
      go_wp2_with fail
      refine (wOf_blk _ _ _ _ _ hlen.out.symm hblk.out hok.out E.out (Nat.le_refl _) (by omega)).mono ?_
      rintro e w' ⟨rfl, rfl⟩
      go_wp2
      go_ret2
      exact ⟨_, _, rfl, rd_blk hblk.out hok.out E.out (by rw [hlen.out]; omega) (by omega), hbel.out⟩
end Go.Proofs.YtfmhplcpejmkhabDoor

namespace Go.Proofs.YtfmhplcpejmkhabDoor
set_option linter.unusedVariables false

/-- what a digit step is about: D = d1*B^(n+1) + d2*B^n + D0 (n+2 digits), X = top*B^(n+1) + u3*B^n + X0, P = B^n -/
structure Est (B P d1 d2 D0 D top u3 X0 X : Nat) : Prop where
  hD : D = d1 * (B * P) + d2 * P + D0
  hX : X = top * (B * P) + u3 * P + X0
  hD0 : D0 < P
  hX0 : X0 < P
  hd2 : d2 < B
  hu3 : u3 < B
  hd1 : 1 ≤ d1
  lt : X < D * B

theorem Est.pos {B P d1 d2 D0 D top u3 X0 X : Nat} (h : Est B P d1 d2 D0 D top u3 X0 X) : B * P ≤ D := by
  have := Nat.mul_le_mul_right (B * P) h.hd1
  have := h.hD
  omega
theorem Est.q_lt {B P d1 d2 D0 D top u3 X0 X : Nat} (h : Est B P d1 d2 D0 D top u3 X0 X) : X / D < B := by
  have hp := h.pos
  have := h.hD0
  by_cases hD : D = 0
  · have := h.lt; rw [hD] at this; simp at this
  · exact (Nat.div_lt_iff_lt_mul (by omega)).2 (by rw [Nat.mul_comm]; exact h.lt)
theorem Est.first {B P d1 d2 D0 D top u3 X0 X : Nat} (h : Est B P d1 d2 D0 D top u3 X0 X) : X / D ≤ top / d1 := by
  have h1 : X / D * D ≤ X := Nat.div_mul_le_self X D
  rw [Nat.le_div_iff_mul_le h.hd1]
  have hP : 0 < P := by have := h.hD0; omega
  have h2 : X / D * (d1 * (B * P)) ≤ X / D * D := Nat.mul_le_mul_left _ (by rw [h.hD]; omega)
  have hBP : 0 < B * P := Nat.mul_pos (by have := h.hd2; omega) hP
  have h3 : X < (top + 1) * (B * P) := by
    have e := h.hX
    have e2 : u3 * P + X0 < B * P := by
      have : (u3 + 1) * P ≤ B * P := Nat.mul_le_mul_right _ h.hu3
      rw [Nat.add_mul] at this
      have := h.hX0; omega
    rw [Nat.add_mul]; omega
  rw [← Nat.mul_assoc] at h2
  have h4 : X / D * d1 * (B * P) < (top + 1) * (B * P) := by omega
  have := Nat.lt_of_mul_lt_mul_right h4
  omega
theorem Est.down {B P d1 d2 D0 D top u3 X0 X G T : Nat} (h : Est B P d1 d2 D0 D top u3 X0 X) (hT : G * d1 + T = top) (hq : X / D ≤ G) (hc : B ≤ G ∨ T * B + u3 < G * d2) : X / D + 1 ≤ G := by
  rcases hc with hc | hc
  · have := h.q_lt; omega
  · rcases Nat.lt_or_ge (X / D) G with h' | h'
    · exact h'
    · exfalso
      have e : X / D = G := by omega
      have h1 : X / D * D ≤ X := Nat.div_mul_le_self X D
      rw [e] at h1
      have hP : 0 < P := by have := h.hD0; omega
      have h2 : (T * B + u3 + 1) * P ≤ G * d2 * P := Nat.mul_le_mul_right _ hc
      have e1 : G * D = G * d1 * (B * P) + G * d2 * P + G * D0 := by
        rw [h.hD, Nat.mul_add, Nat.mul_add, Nat.mul_assoc, Nat.mul_assoc]
      have e2 : X = G * d1 * (B * P) + T * B * P + u3 * P + X0 := by
        rw [h.hX, ← hT, Nat.add_mul, Nat.mul_assoc T B P]
      rw [Nat.add_mul, Nat.add_mul] at h2
      have := h.hX0
      omega
theorem Est.stop {B P d1 d2 D0 D top u3 X0 X G T : Nat} (h : Est B P d1 d2 D0 D top u3 X0 X) (hT : G * d1 + T = top) (hG : G < B) (hc : G * d2 ≤ T * B + u3) : G ≤ X / D + 1 := by
  have hP : 0 < P := by have := h.hD0; omega
  have hp := h.pos
  have hB : 0 < B := by omega
  have hD : 0 < D := Nat.lt_of_lt_of_le (Nat.mul_pos hB hP) hp
  have e1 : G * D = G * d1 * (B * P) + G * d2 * P + G * D0 := by
    rw [h.hD, Nat.mul_add, Nat.mul_add, Nat.mul_assoc, Nat.mul_assoc]
  have e2 : X = G * d1 * (B * P) + T * B * P + u3 * P + X0 := by
    rw [h.hX, ← hT, Nat.add_mul, Nat.mul_assoc T B P]
  have h2 : G * d2 * P ≤ (T * B + u3) * P := Nat.mul_le_mul_right _ hc
  rw [Nat.add_mul] at h2
  have h3 : G * D0 ≤ B * P := Nat.mul_le_mul (by omega) (by have := h.hD0; omega)
  have h3' : G * D0 < B * P := by
    rcases Nat.eq_zero_or_pos G with hz | hz
    · subst hz; rw [Nat.zero_mul]; exact Nat.mul_pos hB hP
    · calc G * D0 < G * P := Nat.mul_lt_mul_of_pos_left h.hD0 hz
        _ ≤ B * P := Nat.mul_le_mul_right _ (by omega)
  rcases Nat.eq_zero_or_pos G with hz | hz
  · rw [hz]; exact Nat.zero_le _
  · obtain ⟨k, rfl⟩ : ∃ k, G = k + 1 := ⟨G - 1, by omega⟩
    have : k ≤ X / D := by
      rw [Nat.le_div_iff_mul_le hD]
      have e3 : (k + 1) * D = k * D + D := by rw [Nat.add_mul, Nat.one_mul]
      omega
    omega
/-- the window's top digit is at most the divisor's, so a rest that is no digit ends the search -/
theorem Est.broke {B P d1 d2 D0 D top u3 X0 X G T un u2 : Nat} (h : Est B P d1 d2 D0 D top u3 X0 X) (hT : G * d1 + T = top) (htop : top = un * B + u2) (hu2 : u2 < B) (hb : B ≤ T) : G < B ∧ G * d2 ≤ T * B + u3 := by
  have hP : 0 < P := by have := h.hD0; omega
  have hB : 0 < B := by omega
  have hlt := h.lt
  have e1 : D < (d1 + 1) * (B * P) := by
    have e2 : d2 * P + D0 < B * P := by
      have : (d2 + 1) * P ≤ B * P := Nat.mul_le_mul_right _ h.hd2
      rw [Nat.add_mul] at this
      have := h.hD0; omega
    have := h.hD
    rw [Nat.add_mul]; omega
  have e2 : D * B ≤ (d1 + 1) * (B * P) * B := Nat.mul_le_mul_right _ (by omega)
  have e3 : un * B * (B * P) ≤ X := by
    have := h.hX
    have h5 : un * B * (B * P) ≤ top * (B * P) := Nat.mul_le_mul_right _ (by omega)
    omega
  have e4 : un * B * (B * P) < (d1 + 1) * B * (B * P) := by
    rw [Nat.mul_right_comm (d1 + 1) (B * P) B] at e2
    omega
  have e5 : un < d1 + 1 := Nat.lt_of_mul_lt_mul_right (Nat.lt_of_mul_lt_mul_right e4)
  have e6 : un * B ≤ d1 * B := Nat.mul_le_mul_right _ (by omega)
  have e7 : G * d1 < B * d1 := by rw [Nat.mul_comm B]; omega
  have e8 : G < B := Nat.lt_of_mul_lt_mul_right e7
  refine ⟨e8, ?_⟩
  have h9 : G * d2 ≤ B * B := Nat.mul_le_mul (by omega) (by have := h.hd2; omega)
  have h10 : B * B ≤ T * B := Nat.mul_le_mul_right _ hb
  omega
theorem div_eq_of {X D g r : Nat} (hD : r < D) (h : X = g * D + r) : X / D = g ∧ X % D = r := by
  subst h
  rw [Nat.add_comm, Nat.add_mul_div_right _ _ (by omega), Nat.add_mul_mod_self_right, Nat.div_eq_of_lt hD, Nat.mod_eq_of_lt hD]
  exact ⟨Nat.zero_add _, rfl⟩
end Go.Proofs.YtfmhplcpejmkhabDoor

namespace Go.Proofs.YtfmhplcpejmkhabDoor
open Go.RowKit Dig
set_option linter.unusedVariables false
set_option linter.unusedSimpArgs false

theorem Blk.midCell {w : World} {g : Nat} {P l S : List Int} (h : Blk w g (P ++ l ++ S)) (i : Nat) (hi : i < l.length) : w.cell? ⟨g, P.length + i, none⟩ = some (.int .u32 (Dig.rd l i)) := by
  rw [h.cell _ (by simp; omega)]
  simp [Dig.rd, List.getD_eq_getElem?_getD, List.getElem?_append, hi, show ¬ (P.length + i < P.length) by omega]
theorem Blk.midSet {w : World} {g : Nat} {P l S : List Int} (h : Blk w g (P ++ l ++ S)) (i : Nat) (hi : i < l.length) (x : Int) : Blk (w.setCell ⟨g, P.length + i, none⟩ (.int .u32 x)) g (P ++ l.set i x ++ S) := by
  have := h.set (P.length + i) x
  rwa [show (P ++ l ++ S).set (P.length + i) x = P ++ l.set i x ++ S from by
    rw [List.append_assoc, List.set_append_right _ _ (by omega), List.set_append_left _ _ (by omega), show P.length + i - P.length = i from by omega, List.append_assoc]] at this
theorem grown_set {w w' : World} {g : Nat} (h : w.grownBy w' (some g)) (i : Nat) (v : Value) : w.grownBy (w'.setCell ⟨g, i, none⟩ v) (some g) :=
  ⟨h.os, h.tape, h.output, by rw [World.size_setCell]; exact h.size, fun k hk hne => (Below.heap_setCell _ _ _ _ (fun e => hne (congrArg some e))).trans (h.block k hk hne)⟩
theorem grown_drewN {w w' : World} {row : Option Nat} (h : w.grownBy w' row) (n : Nat) : w.grownBy (w'.drewN n) row := ⟨h.os, h.tape, h.output, h.size, h.block⟩
theorem Blk.drewN {w : World} {g : Nat} {l : List Int} (h : Blk w g l) (n : Nat) : Blk (w.drewN n) g l := h
theorem Rd.grown {w w' : World} {A : Option Addr} {c g : Nat} {l : List Int} (h : Rd w A c l) (hg : w.grownBy w' (some g)) (hne : ∀ ad, A = some ad → ad.block ≠ g) : Rd w' A c l :=
  ⟨h.le, h.max, fun j hj => by
    obtain ⟨ad, e, hc⟩ := h.at_ j hj
    refine ⟨ad, e, hg.cell hc ?_⟩
    have : (ad.add j).block = ad.block := by unfold Addr.add; split <;> rfl
    rw [this]
    intro he
    exact hne ad e (Option.some.inj he)⟩

/-- what digit is called with: a window of n + 3 words in a block of the caller's own, and a divisor of n + 2 words whose most significant bit is 1 -/
structure Win (w : World) (gb : Nat) (P lw S ld : List Int) (A' : Option Addr) (c' cu n X D : Nat) : Prop where
  blk : Blk w gb (P ++ lw ++ S)
  rdd : Rd w A' c' ld
  ne : ∀ ad, A' = some ad → ad.block ≠ gb
  lw_len : lw.length = n + 3
  ld_len : ld.length = n + 2
  okw : Ok B32 lw
  okd : Ok B32 ld
  valw : val B32 lw = X
  vald : val B32 ld = D
  top : 2147483648 ≤ rd ld (n + 1)
  lt : X < D * B32
  cap : n + 3 ≤ cu
  capm : cu ≤ 9223372036854775807
  small : n ≤ 1048576

theorem est_ring1 (t p z b y : Int) : t + p * z + p * b * y = y * (b * p) + z * p + t := by grind
theorem est_ring2 (t p z b y x : Int) : t + p * z + p * b * y + p * b * b * x = (x * b + y) * (b * p) + z * p + t := by grind
theorem Win.est {w : World} {gb : Nat} {P lw S ld : List Int} {A' : Option Addr} {c' cu n X D : Nat} (h : Win w gb P lw S ld A' c' cu n X D) :
    Est B32 (B32 ^ n) (rd ld (n + 1)).toNat (rd ld n).toNat (val B32 (ld.take n)).toNat D ((rd lw (n + 2)).toNat * B32 + (rd lw (n + 1)).toNat) (rd lw n).toNat (val B32 (lw.take n)).toNat X := by
  have a1 := h.okd.rd B32_pos (n + 1)
  have a2 := h.okd.rd B32_pos n
  have a3 := val_nonneg (h.okd.take n)
  have a4 := val_lt (h.okd.take n)
  have b1 := h.okw.rd B32_pos (n + 2)
  have b2 := h.okw.rd B32_pos (n + 1)
  have b3 := h.okw.rd B32_pos n
  have b4 := val_nonneg (h.okw.take n)
  have b5 := val_lt (h.okw.take n)
  rw [List.length_take, Nat.min_eq_left (by have := h.ld_len; omega)] at a4
  rw [List.length_take, Nat.min_eq_left (by have := h.lw_len; omega)] at b5
  have top := h.top
  have eD : val B32 (ld.take (n + 1 + 1)) = D := by rw [List.take_of_length_le (by rw [h.ld_len]; omega)]; exact h.vald
  have eX : val B32 (lw.take (n + 1 + 1 + 1)) = X := by rw [List.take_of_length_le (by rw [h.lw_len]; omega)]; exact h.valw
  rw [val_take_any, val_take_any] at eD
  rw [val_take_any, val_take_any, val_take_any] at eX
  obtain ⟨d1, e1⟩ := Int.eq_ofNat_of_zero_le a1.1
  obtain ⟨d2, e2⟩ := Int.eq_ofNat_of_zero_le a2.1
  obtain ⟨D0, e3⟩ := Int.eq_ofNat_of_zero_le a3
  obtain ⟨un, e4⟩ := Int.eq_ofNat_of_zero_le b1.1
  obtain ⟨u2, e5⟩ := Int.eq_ofNat_of_zero_le b2.1
  obtain ⟨u3, e6⟩ := Int.eq_ofNat_of_zero_le b3.1
  obtain ⟨X0, e7⟩ := Int.eq_ofNat_of_zero_le b4
  rw [show n + 1 + 1 = n + 2 from rfl] at eX
  rw [e1, e2, e3] at eD
  rw [e4, e5, e6, e7] at eX
  rw [e1, e2, e3, e4, e5, e6, e7]
  simp only [Int.toNat_natCast]
  refine ⟨?_, ?_, by omega, by omega, by omega, by omega, by omega, h.lt⟩
  · apply Int.ofNat.inj
    show ((D : Nat) : Int) = ((_ : Nat) : Int)
    rw [← eD, Nat.pow_succ]
    simp only [Int.natCast_add, Int.natCast_mul]
    exact est_ring1 _ _ _ _ _
  · apply Int.ofNat.inj
    show ((X : Nat) : Int) = ((_ : Nat) : Int)
    rw [← eX, show B32 ^ (n + 2) = B32 ^ n * B32 * B32 from by rw [Nat.pow_succ, Nat.pow_succ], Nat.pow_succ]
    simp only [Int.natCast_add, Int.natCast_mul]
    exact est_ring2 _ _ _ _ _ _

theorem sub_wrap2 {x y br : Int} (h0 : 0 ≤ x) (h1 : x < 4294967296) (h2 : 0 ≤ y) (h3 : y < 4294967296) (h4 : 0 ≤ br) (h5 : br ≤ 1) :
    IntKind.u64.wrap (IntKind.u64.wrap (x - y) - br) / 9223372036854775808 = -((x - y - br) / 4294967296) ∧ IntKind.u64.wrap (IntKind.u64.wrap (x - y) - br) % 4294967296 = (x - y - br) % 4294967296 := by
  rw [wrap_u64, wrap_u64]; omega
theorem rd_drop (l : List Int) (i j : Nat) : rd (l.drop i) j = rd l (i + j) := by simp [rd, List.getD_eq_getElem?_getD, List.getElem?_drop]
theorem rd_of_drop {l r : List Int} {i : Nat} (h : l.drop i = r.drop i) : rd l i = rd r i ∧ l.drop (i + 1) = r.drop (i + 1) := by
  refine ⟨?_, ?_⟩
  · have := congrArg (fun z => rd z 0) h
    simpa only [rd_drop, Nat.add_zero] using this
  · rw [← List.drop_drop, ← List.drop_drop, h]
theorem digit_ring (A E p B u x G bo ca s0 s1 d b1 : Int) (hs : G * x + ca = s0 + B * s1) (ht : u - s0 - bo = d + B * b1) :
    (A - G * E + p * (bo + ca)) + p * d = (A + p * u) - G * (E + p * x) + p * B * (-b1 + s1) := by grind
theorem digit_step {B : Nat} {cur lw ld : List Int} {i : Nat} {G bo ca : Int} (hi : i < cur.length) (hu : rd cur i = rd lw i)
    (h : val B (cur.take i) = val B (lw.take i) - G * val B (ld.take i) + (B ^ i : Nat) * (bo + ca)) :
    val B ((cur.set i ((rd cur i - (G * rd ld i + ca) % B - bo) % B)).take (i + 1)) = val B (lw.take (i + 1)) - G * val B (ld.take (i + 1)) + (B ^ (i + 1) : Nat) * (-((rd cur i - (G * rd ld i + ca) % B - bo) / B) + (G * rd ld i + ca) / B) := by
  rw [store_step hi, val_take_any, val_take_any, h, Nat.pow_succ, Int.natCast_mul, hu]
  exact digit_ring _ _ _ _ _ _ _ _ _ _ _ _ _ (Int.emod_add_mul_ediv _ _).symm (Int.emod_add_mul_ediv _ _).symm
theorem drop_set_succ {l : List Int} {i : Nat} (x : Int) : (l.set i x).drop (i + 1) = l.drop (i + 1) := List.drop_set_of_lt (by omega)
theorem sub_fin {X D q G : Nat} {A p tt : Int} (hX : (X : Int) - G * D = A + p * tt) (hA : 0 ≤ A) (hA2 : A < p) (hq : X / D = q) (g1 : q ≤ G) (g2 : G ≤ q + 1) (hD : 0 < D) :
    (0 ≤ tt → G = q ∧ A + p * tt = ((X % D : Nat) : Int)) ∧ (tt < 0 → G = q + 1 ∧ A + p * tt = ((X % D : Nat) : Int) - D) := by
  have e := Nat.div_add_mod X D
  have hr := Nat.mod_lt X hD
  rw [hq] at e
  generalize X % D = r at *
  have e2 : (X : Int) = D * q + r := by rw [← e]; push_cast; rfl
  constructor
  · intro h
    have hp : 0 ≤ p * tt := Int.mul_nonneg (by omega) h
    rcases Nat.lt_or_ge q G with h1 | h1
    · exfalso
      have : G = q + 1 := by omega
      subst this
      rw [Int.natCast_add, Int.add_mul, Int.mul_comm (q : Int)] at hX
      omega
    · have : G = q := by omega
      subst this
      rw [Int.mul_comm (G : Int)] at hX
      exact ⟨rfl, by omega⟩
  · intro h
    have hp : p * tt ≤ -p := by
      have : p * (tt + 1) ≤ 0 := Int.mul_nonpos_of_nonneg_of_nonpos (by omega) (by omega)
      rw [Int.mul_add] at this; omega
    rcases Nat.lt_or_ge q G with h1 | h1
    · have : G = q + 1 := by omega
      subst this
      rw [Int.natCast_add, Int.add_mul, Int.mul_comm (q : Int)] at hX
      exact ⟨rfl, by omega⟩
    · exfalso
      have : G = q := by omega
      subst this
      rw [Int.mul_comm (G : Int)] at hX
      omega
theorem digit_fin {w : World} {gb : Nat} {P lw S ld cur : List Int} {A' : Option Addr} {c' cu n X D q G : Nat} {bo ca : Int} (h : Win w gb P lw S ld A' c' cu n X D)
    (hlen : cur.length = n + 3) (hok : Ok B32 cur) (hu : rd cur (n + 2) = rd lw (n + 2)) (hv : val B32 (cur.take (n + 2)) = val B32 (lw.take (n + 2)) - G * val B32 (ld.take (n + 2)) + (B32 ^ (n + 2) : Nat) * (bo + ca))
    (hq : X / D = q) (g1 : q ≤ G) (g2 : G ≤ q + 1) (c0 : 0 ≤ ca) (o0 : 0 ≤ bo) :
    (0 ≤ rd cur (n + 2) - ca - bo → G = q ∧ val B32 (cur.set (n + 2) ((rd cur (n + 2) - ca - bo) % 4294967296)) = ((X % D : Nat) : Int)) ∧
    (rd cur (n + 2) - ca - bo < 0 → G = q + 1 ∧ val B32 (cur.take (n + 2)) + (B32 ^ (n + 2) : Nat) * (rd cur (n + 2) - ca - bo) = ((X % D : Nat) : Int) - D) := by
  have hp := h.est.pos
  have hB := B32_pos
  have hD : 0 < D := Nat.lt_of_lt_of_le (Nat.mul_pos B32_pos (Nat.pow_pos B32_pos)) hp
  have eX : val B32 (lw.take (n + 2 + 1)) = X := by rw [List.take_of_length_le (by rw [h.lw_len]; omega)]; exact h.valw
  have eD : val B32 (ld.take (n + 2)) = D := by rw [List.take_of_length_le (by rw [h.ld_len]; omega)]; exact h.vald
  rw [val_take_any, ← hu] at eX
  rw [eD] at hv
  have hA := val_nonneg (hok.take (n + 2))
  have hA2 := val_lt (hok.take (n + 2))
  rw [List.length_take, Nat.min_eq_left (by omega)] at hA2
  have ht := hok.rd B32_pos (n + 2)
  rw [B32_cast] at ht
  have := sub_fin (X := X) (D := D) (q := q) (G := G) (A := val B32 (cur.take (n + 2))) (p := (B32 ^ (n + 2) : Nat)) (tt := rd cur (n + 2) - ca - bo) (by
    rw [hv, ← eX, Int.mul_sub, Int.mul_sub, Int.mul_add]; omega) hA hA2 hq g1 g2 hD
  refine ⟨fun h0 => ?_, this.2⟩
  obtain ⟨f1, f2⟩ := this.1 h0
  refine ⟨f1, ?_⟩
  rw [Int.emod_eq_of_lt h0 (by omega), ← f2]
  have : (cur.set (n + 2) (rd cur (n + 2) - ca - bo)).take (n + 2 + 1) = cur.set (n + 2) (rd cur (n + 2) - ca - bo) := List.take_of_length_le (by simp; omega)
  rw [← this, store_step (by omega)]
theorem back_fin {w : World} {gb : Nat} {P lw S ld cur2 lw1 : List Int} {A' : Option Addr} {c' cu n X D : Nat} {cb : Int} (h : Win w gb P lw S ld A' c' cu n X D)
    (hlen : cur2.length = n + 3) (hok : Ok B32 cur2) (hu : rd cur2 (n + 2) = rd lw1 (n + 2))
    (hF : val B32 (lw1.take (n + 2)) + (B32 ^ (n + 2) : Nat) * rd lw1 (n + 2) = ((X % D : Nat) : Int) - D + (B32 ^ (n + 2) : Nat) * 4294967296)
    (hv : val B32 (cur2.take (n + 2)) + (B32 ^ (n + 2) : Nat) * cb = val B32 (lw1.take (n + 2)) + val B32 (ld.take (n + 2))) :
    rd cur2 (n + 2) + cb = 4294967296 ∧ val B32 (cur2.set (n + 2) 0) = ((X % D : Nat) : Int) := by
  have hp := h.est.pos
  have hD : 0 < D := Nat.lt_of_lt_of_le (Nat.mul_pos B32_pos (Nat.pow_pos B32_pos)) hp
  have eD : val B32 (ld.take (n + 2)) = D := by rw [List.take_of_length_le (by rw [h.ld_len]; omega)]; exact h.vald
  have hDp : val B32 ld < (B32 ^ (n + 2) : Nat) := by have := val_lt h.okd; rwa [h.ld_len] at this
  rw [h.vald] at hDp
  rw [eD] at hv
  rw [← hu] at hF
  have hr := Nat.mod_lt X hD
  have hA := val_nonneg (hok.take (n + 2))
  have hA2 := val_lt (hok.take (n + 2))
  rw [List.length_take, Nat.min_eq_left (by omega)] at hA2
  generalize X % D = r at *
  generalize ((B32 ^ (n + 2) : Nat) : Int) = p at *
  have e : val B32 (cur2.take (n + 2)) = r + p * (4294967296 - cb - rd cur2 (n + 2)) := by
    rw [Int.mul_sub, Int.mul_sub]; omega
  have hz : 4294967296 - cb - rd cur2 (n + 2) = 0 := by
    clear hF hv
    generalize 4294967296 - cb - rd cur2 (n + 2) = K at *
    rcases Int.lt_trichotomy K 0 with h1 | h1 | h1
    · have : p * (K + 1) ≤ 0 := Int.mul_nonpos_of_nonneg_of_nonpos (by omega) (by omega)
      rw [Int.mul_add] at this; omega
    · exact h1
    · have : 0 ≤ p * (K - 1) := Int.mul_nonneg (by omega) (by omega)
      rw [Int.mul_sub] at this; omega
  rw [hz, Int.mul_zero, Int.add_zero] at e
  refine ⟨by omega, ?_⟩
  have : (cur2.set (n + 2) 0).take (n + 2 + 1) = cur2.set (n + 2) 0 := List.take_of_length_le (by simp; omega)
  rw [← this, store_step (by omega), e]; simp
theorem down_mul {G T d Y : Nat} (h : 1 ≤ G) (e : G * d + T = Y) : (G - 1) * d + (T + d) = Y := by
  obtain ⟨m, rfl⟩ : ∃ m, G = m + 1 := ⟨G - 1, by omega⟩
  rw [Nat.add_mul] at e
  rw [Nat.add_sub_cancel]; omega
set_option maxHeartbeats 4000000 in
set_option maxRecDepth 100000 in
theorem wdigit (w : World) (gb : Nat) (P lw S ld : List Int) (A' : Option Addr) (c' cu n X D : Nat) (h : Win w gb P lw S ld A' c' cu n X D) :
    Calls Tryd.prog 127 #[.slice (some ⟨gb, P.length, none⟩) (n + 3) cu, .slice A' (n + 2) c'] w fun e w' => e = .returned (.int .u32 (X / D : Nat)) ∧
      ∃ lw', lw'.length = n + 3 ∧ Ok B32 lw' ∧ val B32 lw' = ((X % D : Nat) : Int) ∧ Blk w' gb (P ++ lw' ++ S) ∧ w.grownBy w' (some gb) := by
  have hE := Lib.hid h.est
  have H := Lib.hid h
  have b1 := h.cap
  have b2 := h.capm
  have b3 := h.small
  have b4 : n + 2 ≤ c' := by have := h.rdd.le; have := h.ld_len; omega
  have b5 : c' ≤ 9223372036854775807 := h.rdd.max
  obtain ⟨ad, rfl⟩ := h.rdd.some_ (by have := h.ld_len; omega)
  have a1 := h.okd.rd B32_pos (n + 1)
  have a2 := h.okd.rd B32_pos n
  have a3 := h.okw.rd B32_pos (n + 2)
  have a4 := h.okw.rd B32_pos (n + 1)
  have a5 := h.okw.rd B32_pos n
  have atop := h.top
  obtain ⟨d1, e1⟩ := Int.eq_ofNat_of_zero_le a1.1
  obtain ⟨d2, e2⟩ := Int.eq_ofNat_of_zero_le a2.1
  obtain ⟨un, e3⟩ := Int.eq_ofNat_of_zero_le a3.1
  obtain ⟨u2, e4⟩ := Int.eq_ofNat_of_zero_le a4.1
  obtain ⟨u3, e5⟩ := Int.eq_ofNat_of_zero_le a5.1
  rw [B32_cast] at a1 a2 a3 a4 a5
  rw [e1] at a1 atop
  rw [e2] at a2
  rw [e3] at a3
  rw [e4] at a4
  rw [e5] at a5
  have a1 := a1.2
  have a2 := a2.2
  have a3 := a3.2
  have a4 := a4.2
  have a5 := a5.2
  have c1 := h.rdd.cell_succ n (by rw [h.ld_len]; omega)
  have c2 := h.rdd.cell n (by rw [h.ld_len]; omega)
  have c3 := h.blk.midCell (n + 2) (by rw [h.lw_len]; omega)
  have c4 := h.blk.midCell (n + 1) (by rw [h.lw_len]; omega)
  have c5 := h.blk.midCell n (by rw [h.lw_len]; omega)
  rw [e1] at c1
  rw [e2] at c2
  rw [e3] at c3
  rw [e4] at c4
  rw [e5] at c5
  replace hE := hE.out
  rw [e1, e2, e3, e4, e5] at hE
  simp only [Int.toNat_natCast] at hE
  have HE := Lib.hid hE
  obtain ⟨q, hqd⟩ : ∃ q, X / D = q := ⟨_, rfl⟩
  have HQ := Lib.hid hqd
  rw [hqd]
  have hqB := HE.out.q_lt
  rw [hqd] at hqB
  have HQB := Lib.hid hqB
  clear hqd hqB hE h e1 e2 e3 e4 e5
  have hor := or_u64_32' (x := (u2 : Int)) (y := (un : Int)) (by omega) (by omega) (by omega) (by omega)
  have hz1 : ((d1 : Int) == 0) = false := beq_eq_false_iff_ne.2 (by omega)
  go_enter Tryd.func127, Tryd.ntmps127
  go_wp2
  go_quiet (fail)
  go_wp2
  go_quiet (fail)
  go_upto_block 0 with fail
  go_cut [7] (fun v7 wc => ∃ G : Nat, v7 = .int .u64 G ∧ Hid (q ≤ G) ∧ Hid (G ≤ q + 1) ∧ G < 4294967296 ∧ ∃ nq, wc = w.drewN nq)
  case first =>
    go_wp2_with fail
    go_loopw [7, 8] (fun v7 v8 wr => ∃ G T : Nat, v7 = .int .u64 G ∧ v8 = .int .u64 T ∧ Hid (G * d1 + T = un * B32 + u2) ∧ Hid (q ≤ G) ∧ G ≤ 8589934592 ∧ T < 4294967296 ∧ ∃ nq, wr = w.drewN nq) (fun v7 _ _ => (intOf v7).toNat)
    case atStart =>
      refine ⟨(un * 4294967296 + u2) / d1, (un * 4294967296 + u2) % d1, ?_, ?_, Lib.hid ?_, Lib.hid (HQ.out ▸ HE.out.first), ?_, ?_, ?_⟩
      · rw [Int.natCast_ediv, Int.natCast_add, Int.natCast_mul]; rfl
      · rw [Int.natCast_emod, Int.natCast_add, Int.natCast_mul]; rfl
      · rw [Nat.mul_comm]; exact Nat.div_add_mod _ _
      · exact Nat.le_trans (Nat.div_le_div_left (show 2147483648 ≤ d1 by omega) (by omega)) (by omega)
      · have := Nat.mod_lt (un * 4294967296 + u2) (show 0 < d1 by omega); omega
      · first | exact ⟨_, rfl⟩ | exact ⟨_, (World.drewN_drewN ..)⟩
    case round =>
      obtain ⟨G, T, rfl, rfl, hT, hq, hG, hTl, nr, rfl⟩ := hrel
      have hor2 := or_u64_32' (x := (u3 : Int)) (y := (T : Int)) (by omega) (by omega) (by omega) (by omega)
      obtain ⟨K, hK⟩ : ∃ K : Int, (G : Int) / 4294967296 = K := ⟨_, rfl⟩
      obtain ⟨K2, hK2⟩ : ∃ K2 : Int, ((T : Int) + (d1 : Int)) / 4294967296 = K2 := ⟨_, rfl⟩
      have down : ∀ (hc : B32 ≤ G ∨ T * B32 + u3 < G * d2), Hid (q ≤ G - 1) ∧ Hid ((G - 1) * d1 + (T + d1) = un * B32 + u2) ∧ 1 ≤ G := by
        intro hc
        have h1 := HE.out.down hT.out (by rw [HQ.out]; exact hq.out) hc
        rw [HQ.out] at h1
        refine ⟨Lib.hid (by omega), Lib.hid ?_, by omega⟩
        exact down_mul (by omega) hT.out
      have stop : ∀ (_ : G < 4294967296) (_ : G * d2 ≤ T * B32 + u3), Hid (G ≤ q + 1) := fun h1 h2 => Lib.hid (HQ.out ▸ HE.out.stop hT.out h1 h2)
      have DOWN := Lib.hid down
      have STOP := Lib.hid stop
      clear down stop
      by_cases hc : B32 ≤ G ∨ T * B32 + u3 < G * d2
      · obtain ⟨dq, dT, d0⟩ := DOWN.out hc
        have hG1 : ((G : Int) - 1) = ((G - 1 : Nat) : Int) := by omega
        have brk : ∀ (_ : 4294967296 ≤ T + d1), Hid (G - 1 < 4294967296) ∧ Hid (G - 1 ≤ q + 1) := by
          intro hb
          obtain ⟨h1, h2⟩ := HE.out.broke (G := G - 1) (T := T + d1) dT.out rfl (by unfold B32; omega) hb
          exact ⟨Lib.hid h1, Lib.hid (HQ.out ▸ HE.out.stop dT.out h1 h2)⟩
        have BRK := Lib.hid brk
        clear brk
        by_cases hbig : 4294967296 ≤ G
        · have hz : (K != 0) = true := by rw [bne_iff_ne]; omega
          clear hc hor hor2
          by_cases hbr : T + d1 < 4294967296
          · have hz2 : (K2 != 0) = false := by rw [bne_eq_false_iff_eq]; omega
            go_wp2
            go_quiet (fail)
            go_wp2
            go_roundw
            case rel =>
              exact ⟨G - 1, T + d1, rfl, rfl, dT, dq, by omega, hbr, by first | exact ⟨_, rfl⟩ | exact ⟨_, World.drewN_drewN ..⟩⟩
            case measure => simp [intOf]; omega
          · have hz2 : (K2 != 0) = true := by rw [bne_iff_ne]; omega
            go_wp2
            go_quiet (fail)
            go_wp2
            go_meet
            exact ⟨G - 1, rfl, dq, (BRK.out (by omega)).2, (BRK.out (by omega)).1, by first | exact ⟨_, rfl⟩ | exact ⟨_, World.drewN_drewN ..⟩⟩
        · have hz : (K != 0) = false := by rw [bne_eq_false_iff_eq]; omega
          have hci : (T : Int) * 4294967296 + (u3 : Int) < (G : Int) * (d2 : Int) := by
            rcases hc with hc | hc
            · exact absurd hc (by unfold B32; omega)
            · have := Int.ofNat_lt.2 hc
              rw [Int.natCast_add, Int.natCast_mul, Int.natCast_mul] at this
              exact this
          obtain ⟨p1, p2⟩ := prod_bd (x := (G : Int)) (y := (d2 : Int)) (n := 4294967295) (by omega) (by omega) (by omega) (by omega)
          clear hc
          by_cases hbr : T + d1 < 4294967296
          · have hz2 : (K2 != 0) = false := by rw [bne_eq_false_iff_eq]; omega
            go_wp2
            go_quiet (fail)
            go_wp2
            go_roundw
            case rel =>
              exact ⟨G - 1, T + d1, rfl, rfl, dT, dq, by omega, hbr, by first | exact ⟨_, rfl⟩ | exact ⟨_, World.drewN_drewN ..⟩⟩
            case measure => simp [intOf]; omega
          · have hz2 : (K2 != 0) = true := by rw [bne_iff_ne]; omega
            go_wp2
            go_quiet (fail)
            go_wp2
            go_meet
            exact ⟨G - 1, rfl, dq, (BRK.out (by omega)).2, (BRK.out (by omega)).1, by first | exact ⟨_, rfl⟩ | exact ⟨_, World.drewN_drewN ..⟩⟩
      · have hlt : G < 4294967296 := by
          rcases Nat.lt_or_ge G 4294967296 with h | h
          · exact h
          · exact absurd (Or.inl h) hc
        have hge : G * d2 ≤ T * B32 + u3 := by
          rcases Nat.lt_or_ge (T * B32 + u3) (G * d2) with h | h
          · exact absurd (Or.inr h) hc
          · exact h
        have hq2 := STOP.out hlt hge
        have hz : (K != 0) = false := by rw [bne_eq_false_iff_eq]; omega
        have hci : decide ((T : Int) * 4294967296 + (u3 : Int) < (G : Int) * (d2 : Int)) = false := by
          have := Int.ofNat_le.2 hge
          rw [Int.natCast_add, Int.natCast_mul, Int.natCast_mul] at this
          exact decide_eq_false (Int.not_lt.2 this)
        obtain ⟨p1, p2⟩ := prod_bd (x := (G : Int)) (y := (d2 : Int)) (n := 4294967295) (by omega) (by omega) (by omega) (by omega)
        clear hc hge
        go_wp2
        go_quiet (fail)
        go_wp2
        go_meet
        exact ⟨G, rfl, hq, hq2, hlt, by first | exact ⟨_, rfl⟩ | exact ⟨_, World.drewN_drewN ..⟩⟩
  case rest =>
    obtain ⟨G, rfl, g1, g2, g3, nr, rfl⟩ := hcut
    clear c1 c2 c3 c4 c5 hor hz1 a1 a2 a3 a4 a5 atop
    go_wp2
    go_loopw [9, 10, 88] (fun v9 v10 v88 wr => ∃ (i : Nat) (bo ca : Int) (cur : List Int), i ≤ n + 2 ∧ v88 = .int .i64 i ∧ v9 = .int .u64 bo ∧ v10 = .int .u64 ca ∧ 0 ≤ bo ∧ bo ≤ 1 ∧ 0 ≤ ca ∧ ca < 4294967296 ∧ Hid (cur.length = n + 3) ∧ Hid (Ok B32 cur) ∧ Hid (cur.drop i = lw.drop i) ∧ Hid (val B32 (cur.take i) = val B32 (lw.take i) - G * val B32 (ld.take i) + (B32 ^ i : Nat) * (bo + ca)) ∧ Hid (Blk wr gb (P ++ cur ++ S)) ∧ Hid (w.grownBy wr (some gb))) (fun _ _ v88 _ => n + 2 - (intOf v88).toNat)
    case atStart => exact ⟨0, 0, 0, lw, Nat.zero_le _, rfl, rfl, rfl, by omega, by omega, by omega, by omega, Lib.hid H.out.lw_len, Lib.hid H.out.okw, Lib.hid rfl, Lib.hid (by simp [val]), Lib.hid H.out.blk, Lib.hid ⟨rfl, rfl, rfl, Nat.le_refl _, fun _ _ _ => rfl⟩⟩
    case round =>
      obtain ⟨i, bo, ca, cur, hi, rfl, rfl, rfl, o0, o1, c0, c1, hlen, hok, hdrop, hval, hblk, hgr⟩ := hrel
      by_cases hlt : i < n + 2
      · obtain ⟨t1, t2⟩ := H.out.okd.rd B32_pos i
        rw [B32_cast] at t2
        have hc := (H.out.rdd.grown hgr.out H.out.ne).cell i (by rw [H.out.ld_len]; omega)
        obtain ⟨t3, t4⟩ := hok.out.rd B32_pos i
        rw [B32_cast] at t4
        have hcell := hblk.out.midCell i (by rw [hlen.out]; omega)
        have hfz := hblk.out.frozen (P.length + i)
        obtain ⟨p1, p2⟩ := prod_bd (x := (G : Int)) (n := 4294967295) (by omega) (by omega) t1 (by omega)
        have hstep := digit_step (G := G) (ld := ld) (by rw [hlen.out]; omega) (rd_of_drop hdrop.out).1 hval.out
        simp only [B32_cast] at hstep
        have HS := Lib.hid hstep
        clear hstep
        have hw := Lib.hid (sub_wrap2 (x := rd cur i) (y := (G * rd ld i + ca) % 4294967296) (br := bo) t3 t4 (by omega) (by omega) o0 o1)
        go_wp2
        go_roundw
        case rel =>
          rw [hw.out.1, hw.out.2]
          exact ⟨i + 1, _, _, _, by omega, by go_num, rfl, rfl, by omega, by omega, by omega, by omega, Lib.hid (by rw [List.length_set]; exact hlen.out), Lib.hid (hok.out.set i (by omega) (by rw [B32_cast]; omega)),
            Lib.hid (by rw [drop_set_succ]; exact (rd_of_drop hdrop.out).2), HS, hblk.out.midSet i (by rw [hlen.out]; omega) _, grown_set hgr.out _ _⟩
        case measure => simp [intOf]; omega
      · obtain rfl : i = n + 2 := by omega
        have hdr := Lib.hid (rd_of_drop hdrop.out).1
        obtain ⟨t3, t4⟩ := hok.out.rd B32_pos (n + 2)
        rw [B32_cast] at t4
        have hcell := hblk.out.midCell (n + 2) (by rw [hlen.out]; omega)
        have hfz := hblk.out.frozen (P.length + (n + 2))
        obtain ⟨hw1, hw2⟩ := sub_wrap2 (x := rd cur (n + 2)) (y := ca) (br := bo) t3 t4 c0 c1 o0 o1
        have hfin := digit_fin H.out (cur := cur) (G := G) (bo := bo) (ca := ca) hlen.out hok.out hdr.out hval.out HQ.out g1.out g2.out c0 o0
        obtain ⟨tt, htt⟩ : ∃ tt, rd cur (n + 2) - ca - bo = tt := ⟨_, rfl⟩
        rw [htt] at hw1 hw2 hfin
        obtain ⟨KK, hKK⟩ : ∃ KK : Int, -(tt / 4294967296) = KK := ⟨_, rfl⟩
        rw [hKK] at hw1
        have HF := Lib.hid hfin
        have HL := Lib.hid hlen.out
        have HB := Lib.hid (hblk.out.midSet (n + 2) (by rw [hlen.out]; omega) (tt % 4294967296))
        have HG := Lib.hid (grown_set hgr.out (P.length + (n + 2)) (.int .u32 (tt % 4294967296)))
        have HO := Lib.hid (hok.out.set (n + 2) (x := tt % 4294967296) (by omega) (by rw [B32_cast]; omega))
        clear hfin
        by_cases hpos : 0 ≤ tt
        · have hk : (KK == 0) = true := by rw [beq_iff_eq]; omega
          clear htt hKK
          go_wp2
          go_ret
          obtain ⟨f1, f2⟩ := HF.out.1 hpos
          exact ⟨ret_int (by rw [f1]), _, by rw [List.length_set]; exact hlen.out, HO.out, f2, HB.out, HG.out⟩
        · have hk : (KK == 0) = false := by rw [beq_eq_false_iff_ne]; omega
          obtain ⟨f1, f2⟩ := HF.out.2 (by omega)
          have HF1 := Lib.hid f1
          have HF2 := Lib.hid f2
          have hL1 : (cur.set (n + 2) (tt % 4294967296)).length = n + 3 := by rw [List.length_set]; exact hlen.out
          have hF : val B32 ((cur.set (n + 2) (tt % 4294967296)).take (n + 2)) + (B32 ^ (n + 2) : Nat) * rd (cur.set (n + 2) (tt % 4294967296)) (n + 2) = ((X % D : Nat) : Int) - D + (B32 ^ (n + 2) : Nat) * 4294967296 := by
            rw [take_set_ge _ _ _ _ (Nat.le_refl _), rd_set_self _ _ _ (by rw [hlen.out]; omega), ← f2, show tt % 4294967296 = tt + 4294967296 from by omega, Int.mul_add]
            omega
          generalize cur.set (n + 2) (tt % 4294967296) = lw1 at hL1 hF HB HO
          have L1 := Lib.hid hL1
          have LF := Lib.hid hF
          have hG1 : 1 ≤ G := by omega
          clear htt hKK f1 f2 hL1 hF
          go_wp2
          go_loopw [10, 141] (fun v10 v141 wq => ∃ (i : Nat) (cb : Int) (cur2 : List Int), i ≤ n + 2 ∧ v141 = .int .i64 i ∧ v10 = .int .u64 cb ∧ 0 ≤ cb ∧ cb ≤ 1 ∧ Hid (cur2.length = n + 3) ∧ Hid (Ok B32 cur2) ∧ Hid (cur2.drop i = lw1.drop i) ∧ Hid (val B32 (cur2.take i) + (B32 ^ i : Nat) * cb = val B32 (lw1.take i) + val B32 (ld.take i)) ∧ Hid (Blk wq gb (P ++ cur2 ++ S)) ∧ Hid (w.grownBy wq (some gb))) (fun _ v141 _ => n + 2 - (intOf v141).toNat)
          case atStart => exact ⟨0, 0, lw1, Nat.zero_le _, rfl, rfl, by omega, by omega, L1, HO, Lib.hid rfl, Lib.hid (by simp [val]), HB, HG⟩
          case round =>
            obtain ⟨i, cb, cur2, hi2, rfl, rfl, k0, k1, hlen2, hok2, hdrop2, hval2, hblk2, hgr2⟩ := hrel
            clear hcell hfz t3 t4 hw1 hw2 hpos hk
            by_cases hlt2 : i < n + 2
            · obtain ⟨t1, t2⟩ := H.out.okd.rd B32_pos i
              rw [B32_cast] at t2
              have hc := (H.out.rdd.grown hgr2.out H.out.ne).cell i (by rw [H.out.ld_len]; omega)
              obtain ⟨t3, t4⟩ := hok2.out.rd B32_pos i
              rw [B32_cast] at t4
              have hcell := hblk2.out.midCell i (by rw [hlen2.out]; omega)
              have hfz := hblk2.out.frozen (P.length + i)
              have hstep := add_step (lo := cur2) (s := rd cur2 i + rd ld i + cb) (by rw [hlen2.out]; omega) (by rw [(rd_of_drop hdrop2.out).1]; omega) hval2.out
              simp only [B32_cast] at hstep
              have HS := Lib.hid hstep
              clear hstep
              go_wp2
              go_roundw
              case rel =>
                exact ⟨i + 1, _, _, by omega, by go_num, rfl, by omega, by omega, Lib.hid (by rw [List.length_set]; exact hlen2.out), Lib.hid (hok2.out.set i (by omega) (by rw [B32_cast]; omega)),
                  Lib.hid (by rw [drop_set_succ]; exact (rd_of_drop hdrop2.out).2), HS, hblk2.out.midSet i (by rw [hlen2.out]; omega) _, grown_set hgr2.out _ _⟩
              case measure => simp [intOf]; omega
            · obtain rfl : i = n + 2 := by omega
              obtain ⟨t3, t4⟩ := hok2.out.rd B32_pos (n + 2)
              rw [B32_cast] at t4
              have hcell := hblk2.out.midCell (n + 2) (by rw [hlen2.out]; omega)
              have hfz := hblk2.out.frozen (P.length + (n + 2))
              obtain ⟨z1, z2⟩ := back_fin H.out hlen2.out hok2.out (rd_of_drop hdrop2.out).1 LF.out hval2.out
              have hz : IntKind.u32.wrap (rd cur2 (n + 2) + cb) = 0 := by rw [IntKind.wrap_u32, z1]; rfl
              have Z2 := Lib.hid z2
              have HB3 := Lib.hid (hblk2.out.midSet (n + 2) (by rw [hlen2.out]; omega) 0)
              have HG3 := Lib.hid (grown_set hgr2.out (P.length + (n + 2)) (.int .u32 0))
              clear z1 z2
              go_wp2
              go_ret
              exact ⟨ret_int (by have := HF1.out; omega), _, by rw [List.length_set]; exact hlen2.out, hok2.out.set _ (by omega) (by rw [B32_cast]; omega), Z2.out, HB3.out, HG3.out⟩
end Go.Proofs.YtfmhplcpejmkhabDoor

namespace Go.Proofs.YtfmhplcpejmkhabDoor
open Go.RowKit Dig
set_option linter.unusedVariables false

theorem rd_append_left (l r : List Int) {i : Nat} (h : i < l.length) : rd (l ++ r) i = rd l i := by
  rw [rd, rd, List.getD_eq_getElem?_getD, List.getD_eq_getElem?_getD, List.getElem?_append_left h]
theorem rd_take (l : List Int) {i j : Nat} (h : i < j) : rd (l.take j) i = rd l i := by
  rw [rd, rd, List.getD_eq_getElem?_getD, List.getD_eq_getElem?_getD, List.getElem?_take, if_pos h]
/-- k digits of the quotient are to come -/
structure DivInv (A D n lq k : Nat) (lu qv : List Int) : Prop where
  ulen : lu.length = lq + n + 2
  qlen : qv.length = lq
  uok : Ok B32 lu
  qok : Ok B32 qv
  rest : val B32 (lu.drop k) = ((A / B32 ^ k % D : Nat) : Int)
  low : ∀ i, i < k → rd lu i = ((A / B32 ^ i % B32 : Nat) : Int)
  quot : val B32 (qv.drop k) = ((A / B32 ^ k / D : Nat) : Int)

theorem DivInv.window {A D n lq j : Nat} {lu qv : List Int} (h : DivInv A D n lq (j + 1) lu qv) (hj : j < lq) (hD : 0 < D) (hD2 : D < B32 ^ (n + 2)) :
    val B32 ((lu.drop j).take (n + 3)) = ((A / B32 ^ (j + 1) % D * B32 + A / B32 ^ j % B32 : Nat) : Int) ∧ val B32 (lu.drop (j + (n + 3))) = 0 ∧
    A / B32 ^ (j + 1) % D * B32 + A / B32 ^ j % B32 < D * B32 := by
  have e1 := val_drop_rd B32 lu j (by rw [h.ulen]; omega)
  rw [h.rest, h.low j (by omega)] at e1
  have e2 := val_split B32 (lu.drop j) (n + 3) (by rw [List.length_drop, h.ulen]; omega)
  rw [List.drop_drop] at e2
  have hx := Nat.mod_lt (A / B32 ^ j) B32_pos
  have hr := Nat.mod_lt (A / B32 ^ (j + 1)) hD
  have n1 := val_nonneg ((h.uok.drop j).take (n + 3))
  have n2 := val_nonneg (h.uok.drop (j + (n + 3)))
  generalize A / B32 ^ j % B32 = x at *
  generalize A / B32 ^ (j + 1) % D = r at *
  have hX : r * B32 + x < D * B32 := by
    have := Nat.mul_le_mul_right B32 hr
    rw [Nat.succ_mul] at this
    omega
  have hX2 : D * B32 ≤ B32 ^ (n + 3) := by
    rw [Nat.pow_succ B32 (n + 2)]
    exact Nat.mul_le_mul_right _ (Nat.le_of_lt hD2)
  have e3 : val B32 (lu.drop j) = ((r * B32 + x : Nat) : Int) := by
    rw [e1, Int.natCast_add, Int.natCast_mul, Int.mul_comm (r : Int), Int.add_comm]
  have hS : val B32 (lu.drop (j + (n + 3))) = 0 := by
    by_cases h1 : 0 < val B32 (lu.drop (j + (n + 3)))
    · have h2 : ((B32 ^ (n + 3) : Nat) : Int) * 1 ≤ (B32 ^ (n + 3) : Nat) * val B32 (lu.drop (j + (n + 3))) := Int.mul_le_mul_of_nonneg_left (by omega) (by omega)
      omega
    · omega
  refine ⟨?_, hS, hX⟩
  rw [hS, Int.mul_zero, Int.add_zero] at e2
  rw [← e2, e3]

theorem DivInv.step {A D n lq j X : Nat} {lu qv lw' : List Int} (h : DivInv A D n lq (j + 1) lu qv) (hj : j < lq) (hD : 0 < D)
    (hX : X = A / B32 ^ (j + 1) % D * B32 + A / B32 ^ j % B32) (hS : val B32 (lu.drop (j + (n + 3))) = 0)
    (hl : lw'.length = n + 3) (ho : Ok B32 lw') (hv : val B32 lw' = ((X % D : Nat) : Int)) :
    DivInv A D n lq j (lu.take j ++ lw' ++ lu.drop (j + (n + 3))) (qv.set j (X / D : Nat)) ∧ X / D < B32 := by
  have hx := Nat.mod_lt (A / B32 ^ j) B32_pos
  have hr := Nat.mod_lt (A / B32 ^ (j + 1)) hD
  have hdig : X / D < B32 := by rw [hX]; exact div_digit hr hx
  obtain ⟨q1, q2⟩ := div_high (H := A / B32 ^ (j + 1)) (x := A / B32 ^ j % B32) (B := B32) hD
  rw [← high_step, ← hX] at q1 q2
  have hlen := h.ulen
  have tl : (lu.take j).length = j := by rw [List.length_take]; omega
  refine ⟨⟨?_, ?_, ?_, ?_, ?_, ?_, ?_⟩, hdig⟩
  · simp [hl, hlen]; omega
  · rw [List.length_set]; exact h.qlen
  · exact ((h.uok.take j).app ho).app (h.uok.drop _)
  · exact h.qok.set _ (Int.natCast_nonneg _) (Int.ofNat_lt.2 hdig)
  · rw [List.append_assoc, List.drop_append, List.drop_of_length_le (by omega), List.nil_append, tl, Nat.sub_self, List.drop_zero, val_append, hS, hv, q2]
    simp
  · intro i hi
    rw [← h.low i (by omega)]
    rw [List.append_assoc, rd_append_left _ _ (by omega), rd_take _ hi]
  · rw [drop_set_step (by rw [h.qlen]; exact hj), h.quot, q1, Int.natCast_add, Int.natCast_mul, Int.mul_comm ((B32 : Nat) : Int), Int.add_comm]
theorem take_drop_window (lu : List Int) (j m : Nat) : lu = lu.take j ++ (lu.drop j).take m ++ lu.drop (j + m) := by
  rw [List.append_assoc, ← List.drop_drop, List.take_append_drop, List.take_append_drop]
end Go.Proofs.YtfmhplcpejmkhabDoor

namespace Go.Proofs.YtfmhplcpejmkhabDoor
open Go.RowKit Dig
set_option linter.unusedVariables false
set_option linter.unusedSimpArgs false

theorem Rd.block_lt {w : World} {ad : Addr} {c : Nat} {l : List Int} (h : Rd w (some ad) c l) (hl : 0 < l.length) : ad.block < w.heap.size := by
  have := World.block_lt_of_cell? w _ (h.cell 0 hl)
  have e : (ad.add 0).block = ad.block := by unfold Addr.add; simp
  rwa [e] at this
theorem bLead (x : Int) (w : World) (h0 : 0 ≤ x) (h1 : x ≤ 4294967295) :
    Calls Tryd.prog 126 #[.int .u32 x] w fun e w' => e = .returned (.int .i64 ((32 - bl x.toNat : Nat) : Int)) ∧ w = w' := by
  refine (bLeadingZeros32 x w h0 h1).mono ?_
  rintro e w' ⟨rfl, rfl⟩
  have e1 : Lib.bitLen x.toNat = bl x.toNat := bitLen_bl (by omega)
  have e2 : bl x.toNat ≤ 32 := bl_le_of_lt (by omega)
  refine ⟨ret_int ?_, rfl⟩
  rw [e1]; omega
/-- the divisor shifted till its most significant bit is 1 -/
theorem norm_facts {b n s : Nat} (hlen : (W b).length = n + 2) (hs : 32 - bl (b / B32 ^ (n + 1)) = s) :
    s < 32 ∧ (W (b * 2 ^ s)).length = n + 2 ∧ 2147483648 ≤ rd (W (b * 2 ^ s)) (n + 1) ∧ B32 ^ (n + 1) * 2 ^ s ≤ b * 2 ^ s := by
  have hlo : B32 ^ (n + 1) ≤ b := by
    have := pow_length_le B32_two (n := b) (by rintro rfl; simp [W_zero] at hlen)
    rwa [show (dig B32 b).length = n + 2 from hlen] at this
  have hhi : b < B32 ^ (n + 2) := by
    have := lt_pow_length B32_two b
    rwa [show (dig B32 b).length = n + 2 from hlen] at this
  have hp : 0 < B32 ^ (n + 1) := Nat.pow_pos B32_pos
  have ht1 : b / B32 ^ (n + 1) ≠ 0 := by have := Nat.div_pos hlo hp; omega
  have ht2 : b / B32 ^ (n + 1) < 2 ^ 32 := by
    rw [Nat.div_lt_iff_lt_mul hp]; rw [Nat.pow_succ'] at hhi; exact hhi
  have b1 := bl_le ht1
  have b2 := lt_bl (b / B32 ^ (n + 1))
  have b3 := bl_pos ht1
  have b4 := bl_le_of_lt ht2
  have hdm := Nat.div_add_mod b (B32 ^ (n + 1))
  have hr := Nat.mod_lt b hp
  generalize b / B32 ^ (n + 1) = t at *
  generalize b % B32 ^ (n + 1) = r at *
  have e32 : 2 ^ bl t * 2 ^ s = B32 := by
    rw [← Nat.pow_add, show bl t + s = 32 from by omega]; rfl
  have e31 : 2 ^ (bl t - 1) * 2 ^ s = 2147483648 := by
    rw [← Nat.pow_add, show bl t - 1 + s = 31 from by omega]
  have hlow : 2147483648 * B32 ^ (n + 1) ≤ b * 2 ^ s := by
    rw [← e31, Nat.mul_right_comm]
    apply Nat.mul_le_mul_right
    have := Nat.mul_le_mul_right (B32 ^ (n + 1)) b1
    rw [Nat.mul_comm t] at this
    omega
  have hupp : b * 2 ^ s < B32 ^ (n + 2) := by
    have h1 : b < 2 ^ bl t * B32 ^ (n + 1) := by
      have := Nat.mul_le_mul_right (B32 ^ (n + 1)) b2
      rw [Nat.succ_mul, Nat.mul_comm t] at this
      omega
    have h2 := Nat.mul_lt_mul_of_pos_right h1 (Nat.two_pow_pos s)
    rw [Nat.mul_right_comm, e32, ← Nat.pow_succ'] at h2
    exact h2
  refine ⟨by omega, ?_, ?_, Nat.mul_le_mul_right _ hlo⟩
  · have l1 := (dig_length_le B32_two (b * 2 ^ s) (n + 2)).2 hupp
    have l2 := (dig_length_lt B32_two (b * 2 ^ s) (n + 1)).2 (Nat.le_trans (by omega) hlow)
    unfold W; omega
  · rw [W_rd, Nat.mod_eq_of_lt]
    · have := (Nat.le_div_iff_mul_le hp).2 hlow
      omega
    · rw [Nat.div_lt_iff_lt_mul hp, ← Nat.pow_succ']; exact hupp

theorem wDiv_lt (a b : Nat) (w : World) (A A' : Option Addr) (c c' : Nat) (h : Rd w A c (W a)) (h' : Rd w A' c' (W b)) (hlt : a < b) :
    Calls Tryd.prog 109 #[.slice A (W a).length c, .slice A' (W b).length c'] w fun e w' => ∃ A c A' c', e = .returned (.tuple #[.slice A (W (a / b)).length c, .slice A' (W (a % b)).length c']) ∧ Rd w' A c (W (a / b)) ∧ Rd w' A' c' (W (a % b)) ∧ Below w.heap.size w w' := by
  have H0 := Lib.hid h
  have H1 := Lib.hid h'
  clear h h'
  have hc := cmpI_lt hlt
  have HC := Lib.hid hc
  have hlt2 := Lib.hid hlt
  clear hc hlt
  go_enter Tryd.func109, Tryd.ntmps109
  go_wp2_with fail
  refine (wCmp a b _ _ _ _ _ H0.out H1.out).mono ?_
  rintro e w1 ⟨rfl, hb1⟩
  have HB := Lib.hid hb1
  clear hb1
  rw [HC.out]
  go_wp2
  go_ret2
  rw [Nat.div_eq_of_lt hlt2.out, Nat.mod_eq_of_lt hlt2.out, W_zero]
  exact ⟨none, 0, _, _, rfl, Rd.nil _ _ _ (by omega), H0.out.below HB.out, HB.out⟩

set_option maxHeartbeats 1000000 in
theorem wDiv_one (a b : Nat) (w : World) (A A' : Option Addr) (c c' : Nat) (h : Rd w A c (W a)) (h' : Rd w A' c' (W b)) (hs : (W a).length ≤ 1048576) (hle : b ≤ a) (h1 : (W b).length = 1) :
    Calls Tryd.prog 109 #[.slice A (W a).length c, .slice A' (W b).length c'] w fun e w' => ∃ A c A' c', e = .returned (.tuple #[.slice A (W (a / b)).length c, .slice A' (W (a % b)).length c']) ∧ Rd w' A c (W (a / b)) ∧ Rd w' A' c' (W (a % b)) ∧ Below w.heap.size w w' := by
  have H0 := Lib.hid h
  have H1 := Lib.hid h'
  have hb0 : rd (W b) 0 = b := W_length_one h1
  have hbt := (ok_W b).rd B32_pos 0
  rw [hb0, B32_cast] at hbt
  have hbz : b ≠ 0 := by rintro rfl; simp [W_zero] at h1
  have hc : 0 ≤ cmpI a b := by unfold cmpI; rw [if_neg (by omega)]; split <;> omega
  have hl1 : (((W b).length : Int) == 1) = true := by rw [beq_iff_eq]; omega
  have HL := Lib.hid h1
  have HB0 := Lib.hid hb0
  have hlen : 0 < (W b).length := by omega
  have hb32 : b < 4294967296 := by omega
  obtain ⟨ad, rfl⟩ := h'.some_ hlen
  clear h h' h1 hb0 hle hbt
  go_enter Tryd.func109, Tryd.ntmps109
  go_wp2_with fail
  refine (wCmp a b _ _ _ _ _ H0.out H1.out).mono ?_
  rintro e w1 ⟨rfl, hb1⟩
  have HB := Lib.hid hb1
  have H0' := Lib.hid (H0.out.below hb1)
  have hcell := (H1.out.below hb1).cell 0 hlen
  rw [HB0.out] at hcell
  replace hcell : w1.cell? ad = some (.int .u32 b) := by simpa [Addr.add] using hcell
  clear hb1
  go_wp2_with fail
  refine (wDivSmall a b _ _ _ H0'.out hs (by omega) hb32).mono ?_
  rintro e w2 ⟨A2, c2, rfl, hr2, hb2⟩
  have HR2 := Lib.hid hr2
  have HB2 := Lib.hid hb2
  clear hr2 hb2 hcell
  have hm := Nat.mod_lt a (show 0 < b by omega)
  go_wp2_with fail
  refine (wSmall _ ((a % b : Nat) : Int) (by omega) (by omega)).mono ?_
  rintro e w3 ⟨A3, c3, rfl, hr3, hb3⟩
  have HR3 := Lib.hid hr3
  have HB3 := Lib.hid hb3
  clear hr3 hb3
  rw [Int.toNat_natCast] at *
  go_wp2
  go_ret2
  refine ⟨_, _, _, _, rfl, HR2.out.below HB3.out, HR3.out, ?_⟩
  exact below_step (below_step HB.out HB.out.size HB2.out) (Nat.le_trans HB.out.size HB2.out.size) HB3.out

theorem copy_src {w : World} {A : Option Addr} {c : Nat} {l : List Int} (h : Rd w A c l) :
    0 < l.length → ∃ ad, A = some ad ∧ ∀ (j : Nat) (x : Int), l[j]? = some x → w.cell? (ad.add j) = some (Value.int IntKind.u32 x) := by
  intro hl
  obtain ⟨ad, rfl⟩ := h.some_ hl
  refine ⟨ad, rfl, fun j x hx => ?_⟩
  have hj : j < l.length := (List.getElem?_eq_some_iff.1 hx).1
  rw [h.cell j hj, rd, List.getD_eq_getElem?_getD, hx]; rfl
/-- a list of digits, filled up with zeros -/
def pad (l : List Int) (N : Nat) : List Int := l ++ List.replicate (N - l.length) 0
theorem pad_length {l : List Int} {N : Nat} (h : l.length ≤ N) : (pad l N).length = N := by simp [pad]; omega
theorem copy_blk {w : World} {g N : Nat} {l : List Int} (h : l.length ≤ N) (hg : Hid (w.heap[g]? = some (.cells (splice (List.replicate N (Value.int .u32 0)) 0 (l.map (Value.int .u32))).toArray 72 (0, 0)))) : Blk w g (pad l N) := by
  unfold Blk pad
  rw [hg.out]
  simp [splice, List.map_append]
theorem pad_ok {B N : Nat} {l : List Int} (hB : 0 < B) (h : Ok B l) : Ok B (pad l N) := h.app (Ok.replicate hB _)
theorem pad_rd (l : List Int) (N i : Nat) : rd (pad l N) i = rd l i := by
  rcases Nat.lt_or_ge i l.length with h | h
  · simp [pad, rd, List.getD_eq_getElem?_getD, List.getElem?_append, h]
  · rw [rd_ge h]
    simp only [pad, rd, List.getD_eq_getElem?_getD, List.getElem?_append, show ¬ (i < l.length) by omega, if_false, List.getElem?_replicate]
    split <;> rfl
theorem wdigit_at (w : World) (gb j : Nat) (P lw S ld : List Int) (A' : Option Addr) (c' cu n X D : Nat) (hP : P.length = j) (h : Win w gb P lw S ld A' c' cu n X D) :
    Calls Tryd.prog 127 #[.slice (some ⟨gb, j, none⟩) (n + 3) cu, .slice A' (n + 2) c'] w fun e w' => e = .returned (.int .u32 (X / D : Nat)) ∧
      ∃ lw', lw'.length = n + 3 ∧ Ok B32 lw' ∧ val B32 lw' = ((X % D : Nat) : Int) ∧ Blk w' gb (P ++ lw' ++ S) ∧ w.grownBy w' (some gb) := by
  subst hP; exact wdigit w gb P lw S ld A' c' cu n X D h
theorem Blk.grown {w w' : World} {g g2 : Nat} {l : List Int} (h : Blk w g l) (hg : w.grownBy w' (some g2)) (hne : g ≠ g2) : Blk w' g l :=
  h.other (hg.block g h.lt (fun e => hne (Option.some.inj e)))
theorem DivInv.start {A2 D n lq : Nat} (hl : (W A2).length ≤ lq + n + 2) (hD : A2 / B32 ^ lq < D) : DivInv A2 D n lq lq (pad (W A2) (lq + n + 2)) (List.replicate lq 0) := by
  refine ⟨pad_length hl, by simp, pad_ok B32_pos (ok_W _), Ok.replicate B32_pos _, ?_, ?_, ?_⟩
  · rw [Nat.mod_eq_of_lt hD]
    rcases Nat.lt_or_ge lq (W A2).length with h | h
    · unfold pad
      rw [List.drop_append_of_le_length (by omega), val_append, val_replicate, Int.mul_zero, Int.add_zero]
      unfold W
      rw [dig_drop B32_two, val_dig B32_two]
    · have hz : A2 / B32 ^ lq = 0 := Nat.div_eq_of_lt ((dig_length_le B32_two _ _).1 h)
      rw [hz]
      unfold pad
      rw [List.drop_append, List.drop_of_length_le h, List.nil_append, List.drop_replicate, val_replicate]
      rfl
  · intro i _
    rw [pad_rd, W_rd]
  · rw [List.drop_of_length_le (by simp), Nat.div_eq_of_lt hD]; rfl
theorem pos_of_len {b n : Nat} (h : (W b).length = n + 2) : 0 < b := by
  rcases Nat.eq_zero_or_pos b with hz | hz
  · rw [hz, W_zero] at h; simp at h
  · exact hz
theorem top_small {a b s n lq : Nat} (hle : b ≤ a) (h : a < B32 ^ (dig B32 a).length) (hl : (dig B32 a).length = lq + (n + 1)) (hb : B32 ^ (n + 1) * 2 ^ s ≤ b * 2 ^ s) : a * 2 ^ s / B32 ^ lq < b * 2 ^ s := by
  refine Nat.lt_of_lt_of_le ?_ hb
  rw [Nat.div_lt_iff_lt_mul (Nat.pow_pos B32_pos), Nat.mul_right_comm, ← Nat.pow_add]
  rw [hl, Nat.add_comm] at h
  exact Nat.mul_lt_mul_of_pos_right h (Nat.two_pow_pos s)
set_option maxHeartbeats 4000000 in
set_option maxRecDepth 100000 in
theorem wDiv_big (a b n : Nat) (w : World) (A A' : Option Addr) (c c' : Nat) (h : Rd w A c (W a)) (h' : Rd w A' c' (W b)) (hs : (W a).length ≤ 1000000) (hle : b ≤ a) (hn : (W b).length = n + 2) :
    Calls Tryd.prog 109 #[.slice A (W a).length c, .slice A' (W b).length c'] w fun e w' => ∃ A c A' c', e = .returned (.tuple #[.slice A (W (a / b)).length c, .slice A' (W (a % b)).length c']) ∧ Rd w' A c (W (a / b)) ∧ Rd w' A' c' (W (a % b)) ∧ Below w.heap.size w w' := by
  have H0 := Lib.hid h
  have H1 := Lib.hid h'
  have hc : 0 ≤ cmpI a b := by unfold cmpI; rw [if_neg (by omega)]; split <;> omega
  have hl1 : ((((n + 2 : Nat) : Int)) == 1) = false := by rw [beq_eq_false_iff_ne]; omega
  have hl : n + 2 ≤ (W a).length := by rw [← hn]; exact dig_length_mono B32_two hle
  have hcb : decide (cmpI a b < 0) = false := decide_eq_false (by omega)
  have HL := Lib.hid hn
  have HLE := Lib.hid hle
  obtain ⟨s, hs2⟩ : ∃ s, 32 - bl (b / B32 ^ (n + 1)) = s := ⟨_, rfl⟩
  obtain ⟨s1, s2, s3, s4⟩ := norm_facts hn hs2
  have HS2 := Lib.hid s2
  have HS3 := Lib.hid s3
  have HS4 := Lib.hid s4
  have ht := W_rd b (n + 1)
  have htop := W_top (a := b) (by omega)
  rw [hn, show n + 2 - 1 = n + 1 from rfl] at htop
  have hx : (rd (W b) (n + 1)).toNat = b / B32 ^ (n + 1) := by rw [htop.1, Int.toNat_natCast]; rfl
  have HX := Lib.hid hx
  have HSS := Lib.hid hs2
  have hb1 := (ok_W b).rd B32_pos (n + 1)
  rw [B32_cast] at hb1
  obtain ⟨t1, t2⟩ := hb1
  obtain ⟨ad, rfl⟩ := h'.some_ (by omega)
  have hcc := h'.le
  rw [hn] at hcc
  have hcm := h'.max
  rw [hn]
  have HB0 := Lib.hid (pos_of_len hn)
  clear h h' hn hle s2 s3 s4 ht htop hx hs2
  go_enter Tryd.func109, Tryd.ntmps109
  go_wp2_with fail
  rw [← HL.out]
  refine (wCmp a b _ _ _ _ _ H0.out H1.out).mono ?_
  rintro e w1 ⟨rfl, hb1⟩
  rw [HL.out]
  have HB1 := Lib.hid hb1
  have hcell := (H1.out.below hb1).cell_succ n (by rw [HL.out]; omega)
  clear hb1
  go_wp2_with fail
  refine (bLead _ _ t1 (by omega)).mono ?_
  rintro e w2 ⟨rfl, rfl⟩
  rw [HX.out, HSS.out]
  go_wp2_with fail
  rw [← HL.out]
  refine (wShl b s _ _ _ ((H1.out.below HB1.out)) (by rw [HL.out]; omega) (by omega)).mono ?_
  rintro e w3 ⟨A3, c3, rfl, hr3, hb3⟩
  rw [HL.out, HS2.out]
  have HR3 := Lib.hid hr3
  have HB3 := Lib.hid (below_step HB1.out HB1.out.size hb3)
  have hcc3 := hr3.le
  rw [HS2.out] at hcc3
  have hcm3 := hr3.max
  obtain ⟨ad3, rfl⟩ := hr3.some_ (by rw [HS2.out]; omega)
  clear hr3 hb3 hcell
  have hmk := make_u32' ((W a).length + 1) (((W a).length : Int) + 1) (by omega) (by omega)
  go_wp2_with fail
  have hma := Blk.made w3 ((W a).length + 1)
  have hba := below_alloc w3 (.cells (madeCells #[Value.int .u32 0] ((W a).length + 1)) 72)
  refine (wShl a s _ _ _ ((H0.out.below HB3.out).below hba) (by omega) (by omega)).mono ?_
  rintro e w5 ⟨A5, c5, rfl, hr5, hb5⟩
  have HR5 := Lib.hid hr5
  have HM5 := Lib.hid (hma.below hb5)
  have HB5 := Lib.hid (below_step hba (by simp) hb5)
  have HSZ := Lib.hid (show w3.heap.size < w5.heap.size by have := hb5.size; simp at this; omega)
  have h5l : (W (a * 2 ^ s)).length ≤ (W a).length + 1 := by
    apply (dig_length_le B32_two _ _).2
    have h1 := lt_pow_length B32_two a
    have h2 : 2 ^ s ≤ B32 := Nat.pow_le_pow_right (n := 2) (by omega) (show s ≤ 32 by omega)
    rw [Nat.pow_succ]
    exact Nat.lt_of_lt_of_le (Nat.mul_lt_mul_of_pos_right h1 (Nat.two_pow_pos s)) (Nat.mul_le_mul_left _ h2)
  have H5L := Lib.hid h5l
  clear hr5 hb5 hma hba h5l hmk
  go_wp2_with (refine wpList_copy_splice rfl (.tmp 47) (.tmp 50) 22 63 rfl 72 Tryd.underlying22 (by kernel_rfl) _ _ _ _ _ _ rfl rfl w3.heap.size 0 ((List.replicate ((W a).length + 1) 0).map (Value.int .u32)) 72 ?c1 ((W (a * 2 ^ s)).map (Value.int .u32)) ?c2 ?c3 ?c4 ?c5 w3.heap.size w3 ?c6 (Nat.le_refl _) ?_)
  case c1 => exact HM5.out
  case c2 => rw [List.length_map]; exact (Nat.min_eq_left H5L.out).symm
  case c3 => exact copy_src HR5.out
  case c4 => rw [List.length_map, List.length_map, List.length_replicate]; have := H5L.out; omega
  case c5 => exact ints_oneCell .u32 _
  case c6 => exact HB5.out
  intro w6 hg6 hb6
  have HM6 := Lib.hid (copy_blk (N := (W a).length + 1) H5L.out hg6)
  have HB6 := Lib.hid hb6
  have HR6 := Lib.hid (HR3.out.below hb6)
  have HSZ6 := Lib.hid (show w3.heap.size < w6.heap.size by exact HM6.out.lt)
  clear hg6 hb6 HM5 HR5 HB5 HSZ
  have hmk := make_u32' ((W a).length - n - 1) (((W a).length : Int) - ((n : Int) + 2) + 1) (by omega) (by omega)
  obtain ⟨lq, hlq⟩ : ∃ lq, (W a).length - n - 1 = lq := ⟨_, rfl⟩
  have hla : (W a).length + 1 = lq + n + 2 := by omega
  rw [hlq] at hmk
  have HLQ := Lib.hid hlq
  have hq0 : 0 < lq := by omega
  have hqs : lq ≤ 1000000 := by omega
  have HLA := Lib.hid hla
  have hla1 : (W a).length + 1 ≤ lq + n + 2 := by omega
  have hla2 : lq + n + 2 ≤ (W a).length + 1 := by omega
  clear hlq hla
  go_wp2_with fail
  go_loopw [12] (fun v12 wr => ∃ (k : Nat) (lu qv : List Int), k ≤ lq ∧ v12 = .int .i64 ((k : Int) - 1) ∧ Hid (DivInv (a * 2 ^ s) (b * 2 ^ s) n lq k lu qv) ∧ Hid (Blk wr w3.heap.size lu) ∧ Hid (Blk wr w6.heap.size qv) ∧ Hid (Below w3.heap.size w3 wr)) (fun v12 _ => (intOf v12 + 1).toNat)
  case atStart =>
    refine ⟨lq, _, _, Nat.le_refl _, rfl, Lib.hid (DivInv.start ?_ ?_), Lib.hid ?_, Lib.hid (Blk.made _ _), Lib.hid ?_⟩
    · rw [← HLA.out]; exact H5L.out
    · exact top_small HLE.out (lt_pow_length B32_two a) (show (W a).length = lq + (n + 1) by omega) HS4.out
    · rw [← HLA.out]; exact HM6.out.below (below_alloc _ _)
    · exact below_step HB6.out HB6.out.size (below_alloc _ _)
  case round =>
    obtain ⟨k, lu, qv, hk, rfl, hinv, hbu, hbq, hbel⟩ := hrel
    by_cases hlt : 0 < k
    · obtain ⟨j, rfl⟩ : ∃ j, k = j + 1 := ⟨k - 1, by omega⟩
      have hki : ((j + 1 : Nat) : Int) - 1 = (j : Int) := by omega
      rw [hki]
      clear hki hmk
      have hD : 0 < b * 2 ^ s := Nat.mul_pos HB0.out (Nat.two_pow_pos s)
      have hD2 : b * 2 ^ s < B32 ^ (n + 2) := by
        have := lt_pow_length B32_two (b * 2 ^ s)
        rwa [show (dig B32 (b * 2 ^ s)).length = n + 2 from HS2.out] at this
      obtain ⟨x1, x2, x3⟩ := hinv.out.window (by omega) hD hD2
      obtain ⟨X, hX⟩ : ∃ X, a * 2 ^ s / B32 ^ (j + 1) % (b * 2 ^ s) * B32 + a * 2 ^ s / B32 ^ j % B32 = X := ⟨_, rfl⟩
      rw [hX] at x1 x3
      have hwin : Win wr w3.heap.size (lu.take j) ((lu.drop j).take (n + 3)) (lu.drop (j + (n + 3))) (W (b * 2 ^ s)) (some ad3) c3 ((W a).length + 1 - j) n X (b * 2 ^ s) := by
        have ul := hinv.out.ulen
        refine ⟨by rw [← take_drop_window]; exact hbu.out, HR3.out.below hbel.out, ?_, ?_, HS2.out, (hinv.out.uok.drop j).take _, ok_W _, x1, val_W _, HS3.out, x3, by omega, by omega, by omega⟩
        · intro ad' e
          have := HR3.out.block_lt (by rw [HS2.out]; omega)
          cases e; omega
        · rw [List.length_take, List.length_drop]; omega
      have hPl : (lu.take j).length = j := by have := hinv.out.ulen; rw [List.length_take]; omega
      have HW := Lib.hid hwin
      have HPL := Lib.hid hPl
      have HSTEP := Lib.hid (fun lw' h1 h2 h3 => hinv.out.step (lw' := lw') (by omega) hD hX.symm x2 h1 h2 h3)
      clear hD hD2 x1 x2 x3 hX hwin hPl
      go_wp2_with fail
      rw [show j + (n + 2) + 1 - j = n + 3 from by omega]
      refine (wdigit_at _ _ _ _ _ _ _ _ _ _ _ _ _ HPL.out HW.out).mono ?_
      rintro e w7 ⟨rfl, lw', l1, l2, l3, l4, l5⟩
      obtain ⟨st, hdig⟩ := HSTEP.out lw' l1 l2 l3
      have hq7 := hbq.out.grown l5 (by have := HSZ6.out; omega)
      have hcell := hq7.cell j (by rw [hinv.out.qlen]; omega)
      have hfz := hq7.frozen j
      obtain ⟨Q, hQ⟩ : ∃ Q, X / (b * 2 ^ s) = Q := ⟨_, rfl⟩
      rw [hQ] at st hdig
      rw [hQ]
      have ST := Lib.hid st
      have HU := Lib.hid (l4.other (w' := w7.setCell ⟨w6.heap.size, j, none⟩ (.int .u32 (Q : Nat))) (Below.heap_setCell _ _ _ _ (by have := HSZ6.out; show w3.heap.size ≠ w6.heap.size; omega)))
      have HQ7 := Lib.hid (hq7.set j (Q : Nat))
      have HW7 := Lib.hid ((hbel.out.grown l5 hbel.out.size (by intro k hk; cases hk; exact Nat.le_refl _)).setCell (p := ⟨w6.heap.size, j, none⟩) (by have := HSZ6.out; show w3.heap.size ≤ w6.heap.size; omega) (.int .u32 (Q : Nat)))
      clear st l1 l2 l3 l4 l5 hQ hq7
      go_wp2
      go_roundw
      case rel => exact ⟨j, _, _, by omega, rfl, ST, HU, HQ7, HW7⟩
      case measure => simp [intOf]
    · obtain rfl : k = 0 := by omega
      have v1 := hinv.out.quot
      have v2 := hinv.out.rest
      rw [List.drop_zero, Nat.pow_zero, Nat.div_one] at v1 v2
      rw [Nat.mul_div_mul_right _ _ (Nat.two_pow_pos s)] at v1
      rw [Nat.mul_mod_mul_right] at v2
      have V1 := Lib.hid v1
      have V2 := Lib.hid v2
      clear v1 v2 hmk
      go_wp2_with fail
      refine (wOf_blk _ _ _ _ _ hinv.out.qlen.symm hbq.out hinv.out.qok V1.out (Nat.le_refl _) (by omega)).mono ?_
      rintro e w8 ⟨rfl, rfl⟩
      have R1 := Lib.hid (rd_blk (c := lq) hbq.out hinv.out.qok V1.out (by rw [hinv.out.qlen]; omega) (by omega))
      go_wp2_with fail
      refine (wOf_blk _ _ _ _ _ (by rw [hinv.out.ulen]; exact HLA.out) hbu.out hinv.out.uok V2.out (Nat.le_refl _) (by omega)).mono ?_
      rintro e w8 ⟨rfl, rfl⟩
      have R2 := Lib.hid (rd_blk (c := (W a).length + 1) hbu.out hinv.out.uok V2.out (by rw [hinv.out.ulen, HLA.out]; omega) (by omega))
      have hl2 : (W (a % b * 2 ^ s)).length ≤ 1048576 := by
        have h1 : (W (a % b * 2 ^ s)).length ≤ (W (a * 2 ^ s)).length := dig_length_mono B32_two (Nat.mul_le_mul_right _ (Nat.mod_le _ _))
        have := H5L.out
        omega
      go_wp2_with fail
      refine (wShr (a % b * 2 ^ s) s _ _ _ R2.out hl2 (by omega)).mono ?_
      rintro e w9 ⟨A9, c9, rfl, hr9, hb9⟩
      rw [Nat.mul_div_cancel _ (Nat.two_pow_pos s)] at *
      have R9 := Lib.hid hr9
      have B9 := Lib.hid hb9
      clear hr9 hb9
      go_wp2
      go_ret2
      refine ⟨_, _, _, _, rfl, R1.out.below B9.out, R9.out, ?_⟩
      exact below_step (below_step HB3.out HB3.out.size hbel.out) (Nat.le_trans HB3.out.size hbel.out.size) B9.out

theorem wDiv (a b : Nat) (w : World) (A A' : Option Addr) (c c' : Nat) (h : Rd w A c (W a)) (h' : Rd w A' c' (W b)) (hs : (W a).length ≤ 1000000) (hb : 0 < b) :
    Calls Tryd.prog 109 #[.slice A (W a).length c, .slice A' (W b).length c'] w fun e w' => ∃ A c A' c', e = .returned (.tuple #[.slice A (W (a / b)).length c, .slice A' (W (a % b)).length c']) ∧ Rd w' A c (W (a / b)) ∧ Rd w' A' c' (W (a % b)) ∧ Below w.heap.size w w' := by
  rcases Nat.lt_or_ge a b with hlt | hle
  · exact wDiv_lt a b w A A' c c' h h' hlt
  · by_cases h1 : (W b).length = 1
    · exact wDiv_one a b w A A' c c' h h' (by omega) hle h1
    · have h0 : (W b).length ≠ 0 := by
        intro e
        have := W_length_zero (a := b) (by omega)
        omega
      obtain ⟨n, hn⟩ : ∃ n, (W b).length = n + 2 := ⟨(W b).length - 2, by omega⟩
      exact wDiv_big a b n w A A' c c' h h' hs hle hn
end Go.Proofs.YtfmhplcpejmkhabDoor

namespace Go.Proofs.YtfmhplcpejmkhabDoor
open Go.RowKit Dig
set_option linter.unusedVariables false
set_option linter.unusedSimpArgs false

set_option maxHeartbeats 1000000 in
theorem wGCD (a b : Nat) (w : World) (A A' : Option Addr) (c c' : Nat) (h : Rd w A c (W a)) (h' : Rd w A' c' (W b)) (hs : (W a).length ≤ 1000000) (hs' : (W b).length ≤ 1000000) :
    Calls Tryd.prog 122 #[.slice A (W a).length c, .slice A' (W b).length c'] w fun e w' => ∃ A c, e = .returned (.slice A (W (Nat.gcd a b)).length c) ∧ Rd w' A c (W (Nat.gcd a b)) ∧ Below w.heap.size w w' := by
  have H0 := Lib.hid h
  have H1 := Lib.hid h'
  clear h h'
  go_enter Tryd.func122, Tryd.ntmps122
  go_wp2
  go_loopg [0, 1] b (fun k v0 v1 wr => ∃ (x y : Nat) (A0 A1 : Option Addr) (c0 c1 : Nat), v0 = .slice A0 (W x).length c0 ∧ v1 = .slice A1 (W y).length c1 ∧ y ≤ k ∧ Hid (Nat.gcd x y = Nat.gcd a b) ∧ (W x).length ≤ 1000000 ∧ (W y).length ≤ 1000000 ∧ Hid (Rd wr A0 c0 (W x)) ∧ Hid (Rd wr A1 c1 (W y)) ∧ Hid (Below w.heap.size w wr))
  case atStart => exact ⟨a, b, A, A', c, c', rfl, rfl, Nat.le_refl _, Lib.hid rfl, hs, hs', H0, H1, Lib.hid (Below.refl _ _)⟩
  case round =>
    obtain ⟨x, y, A0, A1, c0, c1, rfl, rfl, hk, hg, l0, l1, R0, R1, hb⟩ := hrel
    by_cases hy : 0 < (W y).length
    · have hy0 : 0 < y := by
        rcases Nat.eq_zero_or_pos y with hz | hz
        · subst hz; simp [W_zero] at hy
        · exact hz
      go_wp2_with fail
      refine (wDiv x y _ _ _ _ _ R0.out R1.out l0 hy0).mono ?_
      rintro e w2 ⟨A2, c2, A3, c3, rfl, hr2, hr3, hb2⟩
      have R1' := Lib.hid (R1.out.below hb2)
      have R3 := Lib.hid hr3
      have HB := Lib.hid (below_step hb.out hb.out.size hb2)
      have hm := Nat.mod_lt x hy0
      have l3 : (W (x % y)).length ≤ 1000000 := Nat.le_trans (dig_length_mono B32_two (Nat.le_of_lt hm)) l1
      have hg2 := Lib.hid (show Nat.gcd y (x % y) = Nat.gcd a b by rw [← hg.out, Nat.gcd_comm x y, Nat.gcd_rec y x, Nat.gcd_comm])
      clear hr2 hr3 hb2
      go_wp2
      go_roundg (x % y)
      case measure => omega
      case rel => exact ⟨y, x % y, _, _, _, _, rfl, rfl, Nat.le_refl _, hg2, l1, l3, R1', R3, HB⟩
    · have hz := W_length_zero hy
      subst hz
      have hg2 := hg.out
      rw [Nat.gcd_zero_right] at hg2
      subst hg2
      go_wp2
      go_ret
      exact ⟨_, _, rfl, R0.out, hb.out⟩

theorem W_mul_length (a b : Nat) : (W (a * b)).length ≤ (W a).length + (W b).length := by
  refine (dig_length_le B32_two _ _).2 ?_
  have h1 := lt_pow_length B32_two a
  have h2 := lt_pow_length B32_two b
  rw [Nat.pow_add]
  exact Nat.mul_lt_mul'' h1 h2
theorem W_pow_length (a e : Nat) : (W (a ^ e)).length ≤ (W a).length * e + 1 := by
  induction e with
  | zero => rw [Nat.pow_zero]; exact (dig_length_le B32_two _ _).2 (by unfold B32; simp)
  | succ e ih =>
    rw [Nat.pow_succ]
    have := W_mul_length (a ^ e) a
    rw [Nat.mul_add]; omega
theorem wraps_i64 (n : Int) (h0 : 0 ≤ n) (h1 : n < 2 ^ 63) : IntKind.i64.wrap n = n := by rw [IntKind.wrap_i64]; omega
theorem and_one {n : Nat} (h : n ≤ 1000000) : bits .and .i64 (n : Int) 1 = ((n % 2 : Nat) : Int) := by
  have := bits_mask .i64 63 (by decide) wraps_i64 1 (by decide) (n : Int) (by omega) (by omega)
  rw [show ((2 : Int) ^ 1 - 1) = 1 from rfl] at this
  rw [this]; omega
theorem pow_len {a e n L : Nat} (h : (W a).length * n ≤ L) (he : e ≤ n) : (W (a ^ e)).length ≤ L + 1 := by
  have := W_pow_length a e
  have h2 : (W a).length * e ≤ (W a).length * n := Nat.mul_le_mul_left _ he
  omega

set_option maxHeartbeats 1000000 in
theorem wPow (a n : Nat) (w : World) (A : Option Addr) (c : Nat) (h : Rd w A c (W a)) (hn : n ≤ 1000000) (hs : (W a).length * n ≤ 500000) :
    Calls Tryd.prog 95 #[.slice A (W a).length c, .int .i64 n] w fun e w' => ∃ A c, e = .returned (.slice A (W (a ^ n)).length c) ∧ Rd w' A c (W (a ^ n)) ∧ Below w.heap.size w w' := by
  have H0 := Lib.hid h
  have HS := Lib.hid hs
  clear h hs
  go_enter Tryd.func95, Tryd.ntmps95
  go_wp2_with fail
  refine (wSmall _ 1 (by omega) (by omega)).mono ?_
  rintro e w1 ⟨A1, c1, rfl, hr1, hb1⟩
  have R1 := Lib.hid hr1
  have HB1 := Lib.hid hb1
  have R0 := Lib.hid (H0.out.below hb1)
  clear hr1 hb1
  go_wp2
  go_loopw [0, 1, 5] (fun v0 v1 v5 wr => ∃ (e f m : Nat) (A0 A5 : Option Addr) (c0 c5 : Nat), v0 = .slice A0 (W (a ^ e)).length c0 ∧ v1 = .int .i64 m ∧ v5 = .slice A5 (W (a ^ f)).length c5 ∧ m ≤ n ∧ Hid (f + e * m = n) ∧ Hid (Rd wr A0 c0 (W (a ^ e))) ∧ Hid (Rd wr A5 c5 (W (a ^ f))) ∧ Hid (Below w.heap.size w wr)) (fun _ v1 _ _ => (intOf v1).toNat)
  case atStart =>
    exact ⟨1, 0, n, _, _, _, _, by rw [Nat.pow_one], rfl, by rw [Nat.pow_zero], Nat.le_refl _, Lib.hid (by omega), by rw [Nat.pow_one]; exact R0, by rw [Nat.pow_zero]; exact R1, HB1⟩
  case round =>
    obtain ⟨e, f, m, A0, A5, c0, c5, rfl, rfl, rfl, hm, hf, R0, R5, hb⟩ := hrel
    have hand := and_one (n := m) (by omega)
    by_cases hm0 : 0 < m
    · have hlen0 : (W (a ^ e)).length ≤ 500001 := pow_len HS.out (by
        have := Nat.le_mul_of_pos_right e hm0; have := hf.out; omega)
      have hlen5 : (W (a ^ f)).length ≤ 500001 := pow_len HS.out (by have := hf.out; omega)
      obtain ⟨m2, hm2, hm3⟩ : ∃ m2 : Nat, m / 2 = m2 ∧ m = 2 * m2 + m % 2 := ⟨m / 2, rfl, by omega⟩
      have HM2 := Lib.hid hm2
      have HM3 := Lib.hid hm3
      have hmi : (m : Int) / 2 = (m2 : Int) := by omega
      clear hm2 hm3
      by_cases hodd : m % 2 = 1
      · rw [hodd] at hand
        have HF := Lib.hid (show f + e + (e + e) * m2 = n by
          have h1 := hf.out; have h2 := HM3.out; rw [hodd] at h2
          rw [h2, Nat.mul_add, Nat.mul_left_comm] at h1
          rw [Nat.add_mul]; omega)
        have HO := Lib.hid hodd
        clear hodd
        go_wp2_with fail
        refine (wMul (a ^ f) (a ^ e) _ _ _ _ _ R5.out R0.out (by omega) (by omega)).mono ?_
        rintro e2 w2 ⟨A2, c2, rfl, hr2, hb2⟩
        rw [← Nat.pow_add] at hr2
        rw [← Nat.pow_add]
        have R2 := Lib.hid hr2
        have R0' := Lib.hid (R0.out.below hb2)
        have HB2 := Lib.hid (below_step hb.out hb.out.size hb2)
        clear hr2 hb2
        by_cases hm1 : 1 < m
        · go_wp2_with fail
          refine (wMul (a ^ e) (a ^ e) _ _ _ _ _ R0'.out R0'.out (by omega) (by omega)).mono ?_
          rintro e3 w3 ⟨A3, c3, rfl, hr3, hb3⟩
          rw [← Nat.pow_add] at hr3
          rw [← Nat.pow_add]
          have R3 := Lib.hid hr3
          have R2' := Lib.hid (R2.out.below hb3)
          have HB3 := Lib.hid (below_step HB2.out HB2.out.size hb3)
          clear hr3 hb3
          go_wp2
          go_roundw
          case rel => exact ⟨e + e, f + e, m2, _, _, _, _, rfl, rfl, rfl, by have := HM2.out; omega, HF, R3, R2', HB3⟩
          case measure => first | (simp [intOf]; done) | (simp [intOf]; have := HM2.out; omega)
        · have hm20 : m2 = 0 := by have := HM2.out; omega
          have HFz := Lib.hid (show f + e + e * m2 = n by have := HF.out; rw [hm20] at this ⊢; omega)
          clear hm20
          go_wp2
          go_roundw
          case rel => exact ⟨e, f + e, m2, _, _, _, _, rfl, rfl, rfl, by have := HM2.out; omega, HFz, R0', R2, HB2⟩
          case measure => first | (simp [intOf]; done) | (simp [intOf]; have := HM2.out; omega)
      · have hev : m % 2 = 0 := by omega
        rw [hev] at hand
        have HF := Lib.hid (show f + (e + e) * m2 = n by
          have h1 := hf.out; have h2 := HM3.out; rw [hev] at h2
          rw [h2, Nat.add_zero, Nat.mul_left_comm] at h1
          rw [Nat.add_mul]; omega)
        have hm1 : 1 < m := by omega
        clear hodd hev
        go_wp2_with fail
        refine (wMul (a ^ e) (a ^ e) _ _ _ _ _ R0.out R0.out (by omega) (by omega)).mono ?_
        rintro e3 w3 ⟨A3, c3, rfl, hr3, hb3⟩
        rw [← Nat.pow_add] at hr3
        rw [← Nat.pow_add]
        have R3 := Lib.hid hr3
        have R5' := Lib.hid (R5.out.below hb3)
        have HB3 := Lib.hid (below_step hb.out hb.out.size hb3)
        clear hr3 hb3
        go_wp2
        go_roundw
        case rel => exact ⟨e + e, f, m2, _, _, _, _, rfl, rfl, rfl, by have := HM2.out; omega, HF, R3, R5', HB3⟩
        case measure => first | (simp [intOf]; done) | (simp [intOf]; have := HM2.out; omega)
    · obtain rfl : m = 0 := by omega
      have hf2 := hf.out
      rw [Nat.mul_zero, Nat.add_zero] at hf2
      subst hf2
      clear hand
      go_wp2
      go_ret
      exact ⟨_, _, rfl, R5.out, hb.out⟩
end Go.Proofs.YtfmhplcpejmkhabDoor

namespace Go.Proofs.YtfmhplcpejmkhabDoor
set_option linter.unusedVariables false

def irtAux (n a : Nat) : Nat → Nat
  | 0 => 0
  | k + 1 => if (k + 1) ^ n ≤ a then k + 1 else irtAux n a k
/-- the whole part of the root of a with the index n -/
def irt (n a : Nat) : Nat := irtAux n a a
theorem irtAux_le {n a : Nat} (hn : 0 < n) (k : Nat) : irtAux n a k ^ n ≤ a := by
  induction k with
  | zero => simp [irtAux, Nat.zero_pow hn]
  | succ k ih => unfold irtAux; split <;> assumption
theorem irtAux_ge {n a k r : Nat} (hr : r ≤ k) (h : r ^ n ≤ a) : r ≤ irtAux n a k := by
  induction k with
  | zero => omega
  | succ k ih =>
    unfold irtAux
    split
    · exact hr
    · rename_i h2
      rcases Nat.lt_or_ge r (k + 1) with h3 | h3
      · exact ih (by omega)
      · have : r = k + 1 := by omega
        subst this; exact absurd h h2
theorem irt_le {n a : Nat} (hn : 0 < n) : irt n a ^ n ≤ a := irtAux_le hn a
theorem le_irt {n a r : Nat} (hn : 0 < n) (h : r ^ n ≤ a) : r ≤ irt n a := by
  refine irtAux_ge ?_ h
  rcases Nat.eq_zero_or_pos r with h0 | h0
  · omega
  · exact Nat.le_trans (by have := Nat.pow_le_pow_right h0 hn; simpa using this) h
theorem irt_lt {n a : Nat} (hn : 0 < n) : a < (irt n a + 1) ^ n := by
  rcases Nat.lt_or_ge a ((irt n a + 1) ^ n) with h | h
  · exact h
  · have := le_irt hn h; omega
theorem irt_unique {n a r : Nat} (hn : 0 < n) (h1 : r ^ n ≤ a) (h2 : a < (r + 1) ^ n) : irt n a = r := by
  have a1 := le_irt hn h1
  rcases Nat.lt_or_ge r (irt n a) with h | h
  · have h3 : (r + 1) ^ n ≤ irt n a ^ n := Nat.pow_le_pow_left h n
    have := irt_le (a := a) hn
    omega
  · omega
theorem irt_zero {n : Nat} (hn : 0 < n) : irt n 0 = 0 := irt_unique hn (by simp [Nat.zero_pow hn]) (by simp)
/-- the tangent lies below the power -/
theorem tangent (n : Nat) (r x : Int) (hr : 0 ≤ r) (hx : 0 ≤ x) : (n + 1 : Int) * (x ^ n * r) ≤ r ^ (n + 1) + n * x ^ (n + 1) := by
  induction n with
  | zero => simp; grind
  | succ n ih =>
    have h1 : r * ((n + 1 : Int) * (x ^ n * r)) ≤ r * (r ^ (n + 1) + n * x ^ (n + 1)) := Int.mul_le_mul_of_nonneg_left ih hr
    have h2 : 0 ≤ (n + 1 : Int) * (x ^ n * ((x - r) * (x - r))) := by
      refine Int.mul_nonneg (by omega) (Int.mul_nonneg (Int.pow_nonneg hx) ?_)
      rcases Int.le_total x r with h | h
      · exact Int.mul_nonneg_of_nonpos_of_nonpos (by omega) (by omega)
      · exact Int.mul_nonneg (by omega) (by omega)
    push_cast
    rw [Int.pow_succ r (n + 1), Int.pow_succ x (n + 1), Int.pow_succ x n] at *
    generalize x ^ n = p at *
    generalize r ^ (n + 1) = q at *
    generalize (n : Int) = m at *
    have e1 : r * ((m + 1) * (p * r)) = m * p * r * r + p * r * r := by grind
    have e2 : r * (q + m * (p * x)) = r * q + m * p * x * r := by grind
    have e3 : (m + 1) * (p * ((x - r) * (x - r))) = m * p * x * x + p * x * x - 2 * (m * p * x * r) - 2 * (p * x * r) + m * p * r * r + p * r * r := by grind
    have e4 : (m + 1 + 1) * (p * x * r) = m * p * x * r + 2 * (p * x * r) := by grind
    have e5 : q * r + (m + 1) * (p * x * x) = r * q + m * p * x * x + p * x * x := by grind
    omega
/-- Newton's step from x does not fall below the root .. -/
theorem newton_ge {n a x : Nat} (hx : 0 < x) : irt (n + 1) a ≤ (x * n + a / x ^ n) / (n + 1) := by
  have hr := irt_le (n := n + 1) (a := a) (by omega)
  generalize irt (n + 1) a = r at *
  rw [Nat.le_div_iff_mul_le (by omega)]
  have ht := tangent n r x (by omega) (by omega)
  have ht2 : (n + 1) * (x ^ n * r) ≤ r ^ (n + 1) + n * x ^ (n + 1) := by exact_mod_cast ht
  rcases Nat.lt_or_ge (x * n) (r * (n + 1)) with h | h
  · have h2 : r * (n + 1) - x * n ≤ a / x ^ n := by
      rw [Nat.le_div_iff_mul_le (Nat.pow_pos hx), Nat.sub_mul]
      have e1 : r * (n + 1) * x ^ n = (n + 1) * (x ^ n * r) := by grind
      have e2 : x * n * x ^ n = n * x ^ (n + 1) := by grind
      rw [e1, e2]; omega
    omega
  · have := Nat.zero_le (a / x ^ n)
    omega
/-- .. and falls where x is above the root -/
theorem newton_lt {n a x : Nat} (hx : a < x ^ (n + 1)) (hx0 : 0 < x) : (x * n + a / x ^ n) / (n + 1) < x := by
  rw [Nat.div_lt_iff_lt_mul (by omega)]
  have : a / x ^ n < x := by rw [Nat.div_lt_iff_lt_mul (Nat.pow_pos hx0), ← Nat.pow_succ']; exact hx
  rw [Nat.mul_add]; omega
theorem newton_stop {n a x : Nat} (hx0 : 0 < x) (hr : irt (n + 1) a ≤ x) (h : x ≤ (x * n + a / x ^ n) / (n + 1)) : irt (n + 1) a = x := by
  rcases Nat.lt_or_ge a (x ^ (n + 1)) with h1 | h1
  · have := newton_lt h1 hx0; omega
  · have := le_irt (by omega) h1; omega
end Go.Proofs.YtfmhplcpejmkhabDoor

namespace Go.Proofs.YtfmhplcpejmkhabDoor
open Go.RowKit Dig
set_option linter.unusedVariables false
set_option linter.unusedSimpArgs false

/-- Newton's start is above the root -/
theorem root_start {a n : Nat} (hn : 0 < n) : irt n a ≤ 2 ^ ((bl a + n - 1) / n + 1) := by
  have h1 := irt_le (a := a) hn
  have h2 := lt_bl a
  have h3 : irt n a ^ n < (2 ^ ((bl a + n - 1) / n + 1)) ^ n := by
    refine Nat.lt_of_le_of_lt h1 (Nat.lt_of_lt_of_le h2 ?_)
    rw [← Nat.pow_mul]
    apply Nat.pow_le_pow_right (by omega)
    have h4 := Nat.div_add_mod (bl a + n - 1) n
    have h5 := Nat.mod_lt (bl a + n - 1) hn
    rw [Nat.add_mul, Nat.mul_comm]
    omega
  rcases Nat.lt_or_ge (2 ^ ((bl a + n - 1) / n + 1)) (irt n a) with h | h
  · have := Nat.pow_le_pow_left (Nat.le_of_lt h) n
    omega
  · exact h
theorem W_add_length (a b : Nat) : (W (a + b)).length ≤ (W a).length + (W b).length + 1 := by
  refine (dig_length_le B32_two _ _).2 ?_
  have h1 := lt_pow_length B32_two a
  have h2 := lt_pow_length B32_two b
  have e1 : B32 ^ (dig B32 a).length ≤ B32 ^ ((W a).length + (W b).length) := Nat.pow_le_pow_right B32_pos (by unfold W; omega)
  have e2 : B32 ^ (dig B32 b).length ≤ B32 ^ ((W a).length + (W b).length) := Nat.pow_le_pow_right B32_pos (by unfold W; omega)
  rw [Nat.pow_succ]
  have := Nat.mul_le_mul_left (B32 ^ ((W a).length + (W b).length)) B32_two
  omega
theorem cmpI_beq (a b : Nat) : (cmpI a b == 0) = decide (a = b) := by
  unfold cmpI
  by_cases h1 : a < b
  · rw [if_pos h1]; have : a ≠ b := by omega
    simp [this]
  · rw [if_neg h1]
    by_cases h2 : a = b
    · simp [h2]
    · rw [if_neg h2]; simp [h2]
theorem W_two_pow (k : Nat) : (W (2 ^ k)).length ≤ k / 32 + 1 := by
  refine (dig_length_le B32_two _ _).2 ?_
  rw [show B32 = 2 ^ 32 from rfl, ← Nat.pow_mul]
  exact Nat.pow_lt_pow_right (by omega) (by omega)
theorem bl_length (a : Nat) : bl a ≤ 32 * (W a).length := by
  refine bl_le_of_lt ?_
  have := lt_pow_length B32_two a
  rw [show B32 = 2 ^ 32 from rfl, ← Nat.pow_mul] at this
  exact this

set_option maxHeartbeats 2000000 in
theorem wRoot_pos (a m : Nat) (w : World) (A : Option Addr) (c : Nat) (h : Rd w A c (W a)) (hs : (W a).length ≤ 2000) (hm : m ≤ 10) (ha : a ≠ 0) :
    Calls Tryd.prog 73 #[.slice A (W a).length c, .int .i64 (((m + 2 : Nat)) : Int)] w fun e w' => ∃ A c, e = .returned (.tuple #[.slice A (W (irt (m + 2) a)).length c, .bool (decide (irt (m + 2) a ^ (m + 2) = a))]) ∧ Rd w' A c (W (irt (m + 2) a)) ∧ Below w.heap.size w w' := by
  have H0 := Lib.hid h
  have hl : (((W a).length : Int) == 0) = false := by
    rw [beq_eq_false_iff_ne]
    intro e
    exact ha (W_length_zero (a := a) (by omega))
  have HA := Lib.hid ha
  clear h ha
  have hbl := bl_length a
  obtain ⟨k, hk⟩ : ∃ k, (bl a + (m + 2) - 1) / (m + 2) = k := ⟨_, rfl⟩
  have hk2 : ((bl a : Int) + ((m : Int) + 2) - 1) / ((m : Int) + 2) = (k : Int) := by
    rw [← hk, Int.natCast_ediv, show ((bl a + (m + 2) - 1 : Nat) : Int) = (bl a : Int) + ((m : Int) + 2) - 1 from by omega]; rfl
  have hkb : k ≤ 32 * (W a).length + 12 := by rw [← hk]; exact Nat.le_trans (Nat.div_le_self _ _) (by omega)
  have hst := root_start (a := a) (n := m + 2) (by omega)
  rw [hk] at hst
  have HST := Lib.hid hst
  clear hk hst
  go_enter Tryd.func73, Tryd.ntmps73
  go_wp2_with fail
  refine (wSmall _ 1 (by omega) (by omega)).mono ?_
  rintro e w1 ⟨A1, c1, rfl, hr1, hb1⟩
  have R1 := Lib.hid hr1
  have HB1 := Lib.hid hb1
  have R0 := Lib.hid (H0.out.below hb1)
  clear hr1 hb1
  go_wp2_with fail
  refine (wBits a _ _ _ R0.out (by omega)).mono ?_
  rintro e w2 ⟨rfl, rfl⟩
  go_wp2_with fail
  rw [show (k : Int) + 1 = ((k + 1 : Nat) : Int) from rfl]
  have l1 : (W 1).length ≤ 1 := (dig_length_le B32_two _ _).2 (by unfold B32; omega)
  refine (wShl 1 (k + 1) _ _ _ R1.out (by omega) (by omega)).mono ?_
  rintro e w3 ⟨A3, c3, rfl, hr3, hb3⟩
  rw [Nat.one_mul] at hr3
  rw [Nat.one_mul]
  have R3 := Lib.hid hr3
  have R0' := Lib.hid (R0.out.below hb3)
  have HB3 := Lib.hid (below_step HB1.out HB1.out.size hb3)
  have hl3 := W_two_pow (k + 1)
  clear hr3 hb3 hk2
  go_wp2_with fail
  go_loopg [6] (2 ^ (k + 1)) (fun kk v6 wr => ∃ (x : Nat) (A6 : Option Addr) (c6 : Nat), v6 = .slice A6 (W x).length c6 ∧ Hid (x ≤ kk) ∧ Hid (irt (m + 2) a ≤ x) ∧ Hid (0 < x) ∧ (W x).length ≤ 2 * (W a).length + 50 ∧ Hid (Rd wr A6 c6 (W x)) ∧ Hid (Below w.heap.size w wr))
  case atStart => exact ⟨_, _, _, rfl, Lib.hid (Nat.le_refl _), HST, Lib.hid (Nat.two_pow_pos _), by omega, R3, HB3⟩
  case round =>
    obtain ⟨x, A6, c6, rfl, hx, hr, hx0, hl6, R6, hb⟩ := hrel
    have R0r := Lib.hid (H0.out.below hb.out)
    have hm1 : (W x).length * (m + 1) ≤ 45000 := by
      have := Nat.mul_le_mul hl6 (show m + 1 ≤ 11 by omega)
      omega
    have hm2 : (W x).length * (m + 2) ≤ 49500 := by
      have := Nat.mul_le_mul hl6 (show m + 2 ≤ 12 by omega)
      omega
    go_wp2_with fail
    rw [show (m : Int) + 2 - 1 = ((m + 1 : Nat) : Int) from by omega]
    refine (wPow x (m + 1) _ _ _ R6.out (by omega) (by omega)).mono ?_
    rintro e w4 ⟨A4, c4, rfl, hr4, hb4⟩
    have R4 := Lib.hid hr4
    have R0a := Lib.hid (R0r.out.below hb4)
    have R6a := Lib.hid (R6.out.below hb4)
    have HB4 := Lib.hid (below_step hb.out hb.out.size hb4)
    have hp0 := Lib.hid (Nat.pow_pos (n := m + 1) hx0.out)
    clear hr4 hb4
    go_wp2_with fail
    refine (wDiv a (x ^ (m + 1)) _ _ _ _ _ R0a.out R4.out (by omega) hp0.out).mono ?_
    rintro e w5 ⟨A5, c5, A5', c5', rfl, hr5, _, hb5⟩
    have R5 := Lib.hid hr5
    have R6b := Lib.hid (R6a.out.below hb5)
    have R0b := Lib.hid (R0a.out.below hb5)
    have HB5 := Lib.hid (below_step HB4.out HB4.out.size hb5)
    have l5 : (W (a / x ^ (m + 1))).length ≤ (W a).length := dig_length_mono B32_two (Nat.div_le_self _ _)
    clear hr5 hb5
    go_wp2_with fail
    rw [show (m : Int) + 2 - 1 = ((m + 1 : Nat) : Int) from by omega]
    refine (wSmall _ _ (by omega) (by omega)).mono ?_
    rintro e w6 ⟨A7, c7, rfl, hr7, hb7⟩
    rw [Int.toNat_natCast] at hr7
    rw [Int.toNat_natCast]
    have R7 := Lib.hid hr7
    have R6c := Lib.hid (R6b.out.below hb7)
    have R0c := Lib.hid (R0b.out.below hb7)
    have R5c := Lib.hid (R5.out.below hb7)
    have HB7 := Lib.hid (below_step HB5.out HB5.out.size hb7)
    have l7 : (W (m + 1)).length ≤ 1 := (dig_length_le B32_two _ _).2 (by unfold B32; omega)
    clear hr7 hb7
    go_wp2_with fail
    refine (wMul x (m + 1) _ _ _ _ _ R6c.out R7.out (by omega) (by omega)).mono ?_
    rintro e w8 ⟨A8, c8, rfl, hr8, hb8⟩
    have R8 := Lib.hid hr8
    have R6d := Lib.hid (R6c.out.below hb8)
    have R0d := Lib.hid (R0c.out.below hb8)
    have R5d := Lib.hid (R5c.out.below hb8)
    have HB8 := Lib.hid (below_step HB7.out HB7.out.size hb8)
    have l8 := W_mul_length x (m + 1)
    clear hr8 hb8
    go_wp2_with fail
    refine (wAdd (x * (m + 1)) (a / x ^ (m + 1)) _ _ _ _ _ R8.out R5d.out (by omega) (by omega)).mono ?_
    rintro e w9 ⟨A9, c9, rfl, hr9, hb9⟩
    have R9 := Lib.hid hr9
    have R6e := Lib.hid (R6d.out.below hb9)
    have R0e := Lib.hid (R0d.out.below hb9)
    have HB9 := Lib.hid (below_step HB8.out HB8.out.size hb9)
    have l9 := W_add_length (x * (m + 1)) (a / x ^ (m + 1))
    clear hr9 hb9
    go_wp2_with fail
    rw [show (m : Int) + 2 = ((m + 2 : Nat) : Int) from rfl]
    refine (wDivSmall (x * (m + 1) + a / x ^ (m + 1)) (m + 2) _ _ _ R9.out (by omega) (by omega) (by omega)).mono ?_
    rintro e w10 ⟨A10, c10, rfl, hr10, hb10⟩
    obtain ⟨y, hy⟩ : ∃ y, (x * (m + 1) + a / x ^ (m + 1)) / (m + 2) = y := ⟨_, rfl⟩
    rw [hy] at hr10
    rw [hy]
    have R10 := Lib.hid hr10
    have R6f := Lib.hid (R6e.out.below hb10)
    have R0f := Lib.hid (R0e.out.below hb10)
    have HB10 := Lib.hid (below_step HB9.out HB9.out.size hb10)
    have hge := newton_ge (n := m + 1) (a := a) hx0.out
    rw [hy] at hge
    have HGE := Lib.hid hge
    have hstop := newton_stop (n := m + 1) (a := a) hx0.out hr.out
    rw [hy] at hstop
    have HSTOP := Lib.hid hstop
    clear hr10 hb10 hy hge hstop
    go_wp2_with fail
    refine (wCmp y x _ _ _ _ _ R10.out R6f.out).mono ?_
    rintro e w11 ⟨rfl, hb11⟩
    have R10g := Lib.hid (R10.out.below hb11)
    have R6g := Lib.hid (R6f.out.below hb11)
    have R0g := Lib.hid (R0f.out.below hb11)
    have HB11 := Lib.hid (below_step HB10.out HB10.out.size hb11)
    clear hb11
    by_cases hyx : x ≤ y
    · have hc : 0 ≤ cmpI y x := by unfold cmpI; rw [if_neg (by omega)]; split <;> omega
      have e := HSTOP.out hyx
      have E := Lib.hid e
      clear e
      go_wp2_with fail
      rw [show (m : Int) + 2 = ((m + 2 : Nat) : Int) from rfl]
      refine (wPow x (m + 2) _ _ _ R6g.out (by omega) (by omega)).mono ?_
      rintro e w12 ⟨A12, c12, rfl, hr12, hb12⟩
      have R12 := Lib.hid hr12
      have R6h := Lib.hid (R6g.out.below hb12)
      have R0h := Lib.hid (R0g.out.below hb12)
      have HB12 := Lib.hid (below_step HB11.out HB11.out.size hb12)
      clear hr12 hb12
      go_wp2_with fail
      refine (wCmp (x ^ (m + 2)) a _ _ _ _ _ R12.out R0h.out).mono ?_
      rintro e w13 ⟨rfl, hb13⟩
      have R6i := Lib.hid (R6h.out.below hb13)
      have HB13 := Lib.hid (below_step HB12.out HB12.out.size hb13)
      have hbe := cmpI_beq (x ^ (m + 2)) a
      clear hb13 hc hyx
      go_wp2
      go_ret2
      rw [E.out]
      exact ⟨_, _, rfl, R6i.out, HB13.out⟩
    · have hc : cmpI y x < 0 := by rw [cmpI_lt (by omega)]; omega
      have hyp : 0 < y := by
        have := HGE.out
        have h1 : 1 ≤ irt (m + 1 + 1) a := le_irt (by omega) (by have := HA.out; simp; omega)
        omega
      have HYP := Lib.hid hyp
      have HLT := Lib.hid (show y < x by omega)
      have ly : (W y).length ≤ (W x).length := dig_length_mono B32_two (by omega)
      clear hyp hyx
      go_wp2
      go_roundg y
      case measure => have := HLT.out; have := hx.out; omega
      case rel => exact ⟨y, _, _, rfl, Lib.hid (Nat.le_refl _), HGE, HYP, by omega, R10g, HB11⟩

theorem wRoot (a m : Nat) (w : World) (A : Option Addr) (c : Nat) (h : Rd w A c (W a)) (hs : (W a).length ≤ 2000) (hm : m ≤ 10) :
    Calls Tryd.prog 73 #[.slice A (W a).length c, .int .i64 (((m + 2 : Nat)) : Int)] w fun e w' => ∃ A c, e = .returned (.tuple #[.slice A (W (irt (m + 2) a)).length c, .bool (decide (irt (m + 2) a ^ (m + 2) = a))]) ∧ Rd w' A c (W (irt (m + 2) a)) ∧ Below w.heap.size w w' := by
  by_cases ha : a = 0
  · subst ha
    have hl : (((W 0).length : Int) == 0) = true := by simp [W_zero]
    have hi := Lib.hid (irt_zero (n := m + 2) (by omega))
    clear h
    go_enter Tryd.func73, Tryd.ntmps73
    go_wp2
    go_ret2
    rw [hi.out, W_zero]
    refine ⟨none, 0, ?_, Rd.nil _ _ _ (by omega), Below.refl _ _⟩
    simp
  · exact wRoot_pos a m w A c h hs hm ha
end Go.Proofs.YtfmhplcpejmkhabDoor

namespace Go.Proofs.YtfmhplcpejmkhabDoor
open Go.RowKit Dig
set_option linter.unusedVariables false
set_option linter.unusedSimpArgs false
theorem R_inj {a b : Nat} (h : R a = R b) : a = b := dig_inj B16_two h
set_option maxHeartbeats 400000 in
theorem rTrim (w : World) (A : Option Addr) (l : List Int) (c : Nat) (h : Rd w A c l) :
    Calls Tryd.prog 105 #[.slice A l.length c] w fun e w' => e = .returned (.slice A (strip l).length c) ∧ w = w' := by
  have h1 := h.max
  have h2 := h.le
  have H := Lib.hid h
  clear h
  go_enter Tryd.func105, Tryd.ntmps105
  go_wp2
  go_loop [3] (fun t => ∃ k : Nat, k ≤ l.length ∧ t = .int .i64 k ∧ Hid (strip (l.take k) = strip l)) (fun t => (intOf t).toNat)
  case atStart => exact ⟨l.length, Nat.le_refl _, rfl, Lib.hid (by rw [List.take_length])⟩
  case round =>
    obtain ⟨k, hk, rfl, hs⟩ := hrel
    by_cases h0 : 0 < k
    · obtain ⟨ad, rfl, hc⟩ := H.out.at_ (k - 1) (by omega)
      by_cases hz : rd l (k - 1) = 0
      · have e := strip_take_zero h0 hk hz
        have E := Lib.hid e
        clear e
        have hz' : (rd l (k - 1) == 0) = true := beq_iff_eq.2 hz
        clear hz
        go_wp2
        go_round
        case rel => exact ⟨k - 1, by omega, by go_num, Lib.hid (E.out.trans hs.out)⟩
        case measure => simp [intOf]; omega
      · have e := strip_take_ne h0 hk hz
        have E := Lib.hid e
        clear e
        have hz' : (rd l (k - 1) == 0) = false := beq_eq_false_iff_ne.2 hz
        clear hz
        go_wp2
        go_ret
        refine ⟨ret_slice ?_, rfl⟩
        rw [← hs.out, E.out, List.length_take]
        omega
    · obtain rfl : k = 0 := by omega
      go_wp2
      go_ret
      refine ⟨ret_slice ?_, rfl⟩
      rw [← hs.out]
      rfl
set_option maxHeartbeats 400000 in
theorem rCmp (a b : Nat) (w : World) (A A' : Option Addr) (c c' : Nat) (h : Rd w A c (R a)) (h' : Rd w A' c' (R b)) :
    Calls Tryd.prog 49 #[.slice A (R a).length c, .slice A' (R b).length c'] w fun e w' => e = .returned (.int .i64 (cmpI a b)) ∧ Below w.heap.size w w' := by
  have h1 := h.max
  have h2 := h.le
  have h1' := h'.max
  have h2' := h'.le
  have H := Lib.hid h
  have H' := Lib.hid h'
  clear h h'
  by_cases hn : (R a).length = (R b).length
  · have hn' : (((R a).length : Int) != ((R b).length : Int)) = false := by simp [hn]
    have HN := Lib.hid hn
    have hle : (R a).length ≤ (R b).length := by omega
    have hge : (R b).length ≤ (R a).length := by omega
    clear hn
    go_enter Tryd.func49, Tryd.ntmps49
    go_wp2
    go_loopw [5] (fun t wr => ∃ k : Nat, k ≤ (R a).length ∧ t = .int .i64 ((k : Int) - 1) ∧ Hid ((R a).drop k = (R b).drop k) ∧ Hid (Below w.heap.size w wr)) (fun t _ => (intOf t + 1).toNat)
    case atStart => exact ⟨(R a).length, Nat.le_refl _, rfl, Lib.hid (by rw [List.drop_length, HN.out, List.drop_length]), Lib.hid (Below.refl _ _)⟩
    case round =>
      obtain ⟨k, hk, rfl, hd, hb⟩ := hrel
      by_cases h0 : 0 < k
      · obtain ⟨ad, rfl, hc⟩ := (H.out.below hb.out).at_ (k - 1) (by omega)
        obtain ⟨ad', rfl, hc'⟩ := (H'.out.below hb.out).at_ (k - 1) (by omega)
        have hlast : (((k : Int) - 1) + 1).toNat = k := by omega
        by_cases hlt : rd (R a) (k - 1) < rd (R b) (k - 1)
        · go_wp2
          go_quiet (fail)
          go_wp2
          go_ret
          refine ⟨ret_int (cmpI_lt (dig_lt_at B16_two (k := k - 1) (by unfold R at *; omega) (by unfold R at *; omega) (by rw [Nat.sub_add_cancel h0]; exact hd.out) hlt)).symm, ?_⟩
          first | exact hb.out.drewN _ | exact (hb.out.drewN _).drewN _
        · by_cases hgt : rd (R b) (k - 1) < rd (R a) (k - 1)
          · go_wp2
            go_quiet (fail)
            go_wp2
            go_quiet (fail)
            go_wp2
            go_ret
            refine ⟨ret_int (cmpI_gt (dig_lt_at B16_two (k := k - 1) (by unfold R at *; omega) (by unfold R at *; omega) (by rw [Nat.sub_add_cancel h0]; exact hd.out.symm) hgt)).symm, ?_⟩
            first | exact hb.out.drewN _ | exact (hb.out.drewN _).drewN _
          · have he : rd (R a) (k - 1) = rd (R b) (k - 1) := by omega
            have hd' : (R a).drop (k - 1) = (R b).drop (k - 1) := by
              rw [drop_rd _ _ (by omega), drop_rd (R b) _ (by omega), he, Nat.sub_add_cancel h0, hd.out]
            have HD := Lib.hid hd'
            clear hd' he
            go_wp2
            go_quiet (fail)
            go_wp2
            go_quiet (fail)
            go_wp2
            go_roundw
            case rel => exact ⟨k - 1, by omega, by go_num, HD, Lib.hid (hb.out.drewN _)⟩
            case measure => simp [intOf]; omega
      · obtain rfl : k = 0 := by omega
        have e : a = b := R_inj (by simpa using hd.out)
        have E := Lib.hid e
        clear e
        go_wp2
        go_ret
        exact ⟨ret_int (cmpI_eq E.out).symm, hb.out⟩
  · have hn' : (((R a).length : Int) != ((R b).length : Int)) = true := by simp; omega
    by_cases hlt : (R a).length < (R b).length
    · go_enter Tryd.func49, Tryd.ntmps49
      go_wp2
      go_ret
      exact ⟨ret_int (cmpI_lt (dig_lt_of_length B16_two hlt)).symm, Below.refl _ _⟩
    · have hgt : (R b).length < (R a).length := by omega
      go_enter Tryd.func49, Tryd.ntmps49
      go_wp2
      go_ret
      exact ⟨ret_int (cmpI_gt (dig_lt_of_length B16_two hgt)).symm, Below.refl _ _⟩
end Go.Proofs.YtfmhplcpejmkhabDoor

namespace Go.Proofs.YtfmhplcpejmkhabDoor
open Go.RowKit Dig
set_option linter.unusedVariables false
set_option linter.unusedSimpArgs false

/-- the slice v owns the words l, in blocks from B on -/
def Own (w : World) (B : Nat) (v : Value) (l : List Int) : Prop := w.ownsRow B 72 1 v l.length (l.map (Value.int .u32))
theorem Own.rd {w : World} {B : Nat} {v : Value} {l : List Int} (h : Own w B v l) : ∃ A c, v = .slice A l.length c ∧ Rd w A c l := by
  rcases h.2 with ⟨e, h0⟩ | ⟨g, cap, cur, e, hb, hg, hn, hm, hs, ht⟩
  · have hl : l = [] := List.eq_nil_of_length_eq_zero h0
    subst hl
    exact ⟨none, 0, e, Rd.nil _ _ _ (by omega)⟩
  · refine ⟨some ⟨g, 0, none⟩, cap, e, ⟨hn, by simp only [maxLen] at hm; omega, fun j hj => ⟨_, rfl, ?_⟩⟩⟩
    rw [h.cells (g := g) (by rw [e]; rfl) j (.int .u32 (Dig.rd l j)) (by simp [Dig.rd, List.getD_eq_getElem?_getD, List.getElem?_map, List.getElem?_eq_getElem hj])]
theorem oneCell_u32 (l : List Int) : ∀ u ∈ l.map (Value.int .u32), u.oneCell' = true := by
  intro u hu; obtain ⟨x, _, rfl⟩ := List.mem_map.1 hu; rfl
theorem Rd.news {w : World} {ad : Addr} {c : Nat} {l : List Int} (h : Rd w (some ad) c l) : ∀ j u, (l.map (Value.int .u32))[j]? = some u → w.cell? (ad.add j) = some u := by
  intro j u hj
  have hjl : j < l.length := by have := (List.getElem?_eq_some_iff.1 hj).1; simpa using this
  rw [h.cell j hjl, ← hj]
  simp [rd, List.getD_eq_getElem?_getD, List.getElem?_map, List.getElem?_eq_getElem hjl]

set_option maxHeartbeats 2000000 in
set_option maxRecDepth 100000 in
theorem sClone_some (w : World) (ad : Addr) (l : List Int) (c : Nat) (h : Rd w (some ad) c l) (hs : l.length ≤ 4000000) :
    Calls Tryd.prog 99 #[.slice (some ad) l.length c] w fun e w' => ∃ A' c', e = .returned (.slice A' l.length c') ∧ Rd w' A' c' l ∧ Below w.heap.size w w' := by
  have H := Lib.hid (h.below (below_alloc w (.cells #[] 72)))
  clear h
  obtain ⟨i0, hi, hz0, hz1, hz2⟩ := info_parts info32
  have q22 : ∀ (w : World) (a : Option Addr) (n c n' c' : Nat), (binOp .eql 22 (.slice a n c) (.slice none n' c')).run Tryd.prog w = .ok (.bool a.isNone) w := fun w a n c n' c' => Lib.run_eql_slice_nil w _ _ a n c n' c' Tryd.underlying22
  have u22 : ∀ w, Sem.run Tryd.prog (underlying 22) w = .ok (TypeDesc.slice 72) w := run_underlying Tryd.underlying22
  go_enter Tryd.func99, Tryd.ntmps99
  go_wp2_with (at_builtin; refine wpList_append_own _ rfl _ _ 22 rfl w.heap.size 72 i0 (.int .u32 0) 1 4 Tryd.underlying22 hi hz0 hz1 hz2 rfl (by decide) _ _ _ rfl (World.ownsRow_made w #[] 0 (Nat.le_refl _) (Nat.zero_le _) rfl) ad l.length c (l.map (Value.int .u32)) rfl ?qc1 ?qc2 ?qc3 ?qc4 ?qc5 ?qc6 ?_)
  case qc1 => simp
  case qc2 => exact H.out.news
  case qc3 => exact oneCell_u32 _
  case qc4 => unfold maxLen; omega
  case qc5 => omega
  case qc6 => simp
  intro v' w1 hown hgrow hnil
  go_wp2
  go_ret
  have ho : Own w1 w.heap.size v' l := by unfold Own; simpa using hown
  obtain ⟨A', c', e, hr⟩ := ho.rd
  subst e
  exact ⟨A', c', rfl, hr, ((Below.refl _ w).alloc (Nat.le_refl _) _).grown hgrow (by simp) (by intro k hk; simp [Value.ownBlock] at hk; omega)⟩
set_option maxHeartbeats 2000000 in
set_option maxRecDepth 100000 in
theorem sClone_none (w : World) (n c : Nat) : Calls Tryd.prog 99 #[.slice none n c] w fun e w' => e = .returned (.slice none 0 0) ∧ w = w' := by
  have q22 : ∀ (w : World) (a : Option Addr) (n c n' c' : Nat), (binOp .eql 22 (.slice a n c) (.slice none n' c')).run Tryd.prog w = .ok (.bool a.isNone) w := fun w a n c n' c' => Lib.run_eql_slice_nil w _ _ a n c n' c' Tryd.underlying22
  go_enter Tryd.func99, Tryd.ntmps99
  go_wp2
  go_ret
  exact ⟨rfl, rfl⟩
/-- slices.Clone of words -/
theorem sClone (w : World) (A : Option Addr) (l : List Int) (c : Nat) (h : Rd w A c l) (hs : l.length ≤ 4000000) :
    Calls Tryd.prog 99 #[.slice A l.length c] w fun e w' => ∃ A' c', e = .returned (.slice A' l.length c') ∧ Rd w' A' c' l ∧ Below w.heap.size w w' := by
  match A with
  | some ad => exact sClone_some w ad l c h hs
  | none =>
    have hl : l.length = 0 := by
      rcases Nat.eq_zero_or_pos l.length with h0 | h0
      · exact h0
      · obtain ⟨ad, e⟩ := h.some_ h0; cases e
    have hl2 : l = [] := List.eq_nil_of_length_eq_zero hl
    subst hl2
    refine (sClone_none w _ c).mono ?_
    rintro e w' ⟨rfl, rfl⟩
    exact ⟨none, 0, rfl, Rd.nil _ _ _ (by omega), Below.refl _ _⟩
end Go.Proofs.YtfmhplcpejmkhabDoor

namespace Go.Proofs.YtfmhplcpejmkhabDoor
open Go.RowKit Dig
set_option linter.unusedVariables false
set_option linter.unusedSimpArgs false
theorem Own.nil (w : World) (B : Nat) : Own w B (.slice none 0 0) [] := World.ownsRow_nil w B 72 1
theorem Own.below {w w' : World} {B : Nat} {v : Value} {l : List Int} (h : Own w B v l) (hb : Below w.heap.size w w') : Own w' B v l := by
  refine ⟨h.1, ?_⟩
  rcases h.2 with ⟨e, h0⟩ | ⟨g, cap, cur, e, h1, hg, r⟩
  · exact Or.inl ⟨e, h0⟩
  · exact Or.inr ⟨g, cap, cur, e, h1, (hb.block g (Array.getElem?_eq_some_iff.1 hg).1).trans hg, r⟩
/-- what an append of one word leaves -/
theorem Own.push {w0 w w1 : World} {B : Nat} {v v' : Value} {l : List Int} {x : Int} (h : Own w B v l) (hb : Below B w0 w) (hB : B ≤ w.heap.size)
    (hown : w1.ownsRow B 72 1 v' (l.length + 1) (l.map (Value.int .u32) ++ [.int .u32 x])) (hgrow : (w.alloc (.cells #[.int .u32 x] 72)).grownBy w1 v.ownBlock) : Own w1 B v' (l ++ [x]) ∧ Below B w0 w1 := by
  refine ⟨?_, ?_⟩
  · unfold Own
    rw [List.length_append, List.map_append]
    exact hown
  · exact (hb.alloc hB _).grown hgrow (by simp; omega) (fun k hk => (h.lt k hk).1)
theorem rd_single (w : World) (x : Int) : ∀ j u, [Value.int .u32 x][j]? = some u → (w.alloc (.cells #[.int .u32 x] 72)).cell? ((⟨w.heap.size, 0, none⟩ : Addr).add j) = some u := by
  intro j u hj
  match j, hj with
  | 0, hj => simp at hj; subst hj; simp [Addr.add]
theorem one_single (x : Int) : ∀ u ∈ [Value.int .u32 x], u.oneCell' = true := by intro u hu; simp at hu; subst hu; rfl
set_option maxHeartbeats 1000000 in
set_option maxRecDepth 100000 in
theorem rNatOf (n : Nat) (w : World) (hn : n < 18446744073709551616) :
    Calls Tryd.prog 69 #[.int .u64 n] w fun e w' => ∃ A c, e = .returned (.slice A (R n).length c) ∧ Rd w' A c (R n) ∧ Below w.heap.size w w' := by
  obtain ⟨i0, hi, hz0, hz1, hz2⟩ := info_parts info32
  have hlen : (R n).length ≤ 4 := (dig_length_le B16_two n 4).2 (by unfold B16; omega)
  go_enter Tryd.func69, Tryd.ntmps69
  go_wp2
  go_loopw [0, 3] (fun t v wr => ∃ (m : Nat) (l : List Int), t = .int .u64 m ∧ m < 18446744073709551616 ∧ Hid (R n = l ++ R m) ∧ Hid (Own wr w.heap.size v l) ∧ Hid (Below w.heap.size w wr)) (fun t _ _ => (intOf t).toNat)
  case atStart => exact ⟨n, [], rfl, hn, Lib.hid rfl, Lib.hid (Own.nil _ _), Lib.hid (Below.refl _ _)⟩
  case round =>
    obtain ⟨m, l, rfl, hm, hl, ho, hb⟩ := hrel
    by_cases h0 : 0 < m
    · have hd : R m = ((m % B16 : Nat) : Int) :: R (m / B16) := dig_pos B16_two (by omega)
      have hlt : l.length < 4 := by have h1 := hl.out; rw [hd] at h1; rw [h1] at hlen; simp at hlen; omega
      have HD := Lib.hid hd
      have hs := hb.out.size
      clear hd
      go_wp2_with (at_builtin; refine wpList_append_own _ rfl _ _ 37 rfl w.heap.size 72 i0 (.int .u32 0) 1 4 (by kernel_rfl) hi hz0 hz1 hz2 rfl (by decide) _ _ _ rfl (ho.out.alloc _) ⟨wr.heap.size, 0, none⟩ 1 1 [.int .u32 ((m : Int) % 65536)] rfl rfl (rd_single _ _) (one_single _) (by unfold maxLen; omega) (by omega) (by simp; omega) ?_)
      intro v' w1 hown hgrow _
      obtain ⟨p1, p2⟩ := ho.out.push hb.out hs hown hgrow
      have P1 := Lib.hid p1
      have P2 := Lib.hid p2
      clear p1 p2 hown hgrow hs
      go_wp2
      go_roundw
      case rel => exact ⟨m / 65536, l ++ [(m : Int) % 65536], by go_num, by omega, Lib.hid (by rw [hl.out, HD.out, List.append_assoc]; rfl), P1, P2⟩
      case measure => simp [intOf]; omega
    · obtain rfl : m = 0 := by omega
      go_wp2
      go_ret
      have e : R n = l := by rw [hl.out, R_zero, List.append_nil]
      obtain ⟨A, c, rfl, hr⟩ := ho.out.rd
      rw [e]
      exact ⟨A, c, rfl, hr, hb.out⟩
end Go.Proofs.YtfmhplcpejmkhabDoor

namespace Go.Proofs.YtfmhplcpejmkhabDoor
open Go.RowKit Dig
set_option linter.unusedVariables false
set_option linter.unusedSimpArgs false
theorem make_cap (n : Nat) (m : Int) (hm : m = n) (h : n ≤ 70368744177664) : ∀ w : World, (Instr.makeSlice 37 (.int .i64 0) (.int .i64 m)).run Tryd.prog w = .ok (.slice (some ⟨w.heap.size, 0, none⟩) 0 n) (w.alloc (.cells (madeCells #[.int .u32 0] n) 72)) := by
  subst hm
  intro w
  obtain ⟨i0, hi, hz0, hz1, hz2⟩ := info_parts info32
  have := run_make (P := Tryd.prog) w 37 72 i0 (.int .u32 0) (by kernel_rfl) hi hz0 .i64 .i64 0 n (by omega) (by omega) (by rw [hz2]; omega) (by omega)
  rw [this, hz1]
  simp [Value.cells]
theorem Own.made {w : World} {B n : Nat} (hB : B ≤ w.heap.size) (hn : n ≤ 70368744177664) : Own (w.alloc (.cells (madeCells #[.int .u32 0] n) 72)) B (.slice (some ⟨w.heap.size, 0, none⟩) 0 n) [] :=
  World.ownsRow_made w _ n hB (by unfold maxLen; omega) (by simp [madeCells])
theorem full_R {lo : List Int} {N : Nat} (h : Ok B16 lo) (hv : val B16 lo = N) (hl : lo.length ≤ (R N).length) : lo = R N := by
  have h1 := strip_R h hv
  have h2 := strip_length_le lo
  rw [h1] at h2
  have h3 := strip_eq_take lo
  rw [h1, List.take_of_length_le (by omega)] at h3
  exact h3.symm
theorem app_step {B : Nat} {lo la lb : List Int} {i : Nat} {cr s : Int} (hi : lo.length = i) (hs : s = rd la i + cr + rd lb i)
    (h : val B lo + (B ^ i : Nat) * cr = val B (la.take i) + val B (lb.take i)) :
    val B (lo ++ [s % B]) + (B ^ (i + 1) : Nat) * (s / B) = val B (la.take (i + 1)) + val B (lb.take (i + 1)) := by
  rw [val_snoc, hi, val_take_any, val_take_any, Int.add_assoc, pow_split, hs, Int.mul_add, Int.mul_add]
  omega
theorem B16_cast : ((B16 : Nat) : Int) = 65536 := rfl
theorem val_u64 {N : Nat} {l : List Int} {cr : Int} {n : Nat} (hl : l.length = n) (h : val B16 l + (B16 ^ n : Nat) * cr = N) (h0 : cr = 0) : val B16 l = N := by rw [h0] at h; simpa using h
set_option maxHeartbeats 2000000 in
set_option maxRecDepth 100000 in
theorem rAdd (a b : Nat) (w : World) (A A' : Option Addr) (c c' : Nat) (h : Rd w A c (R a)) (h' : Rd w A' c' (R b)) (hs : (R a).length ≤ 2097152) (hs' : (R b).length ≤ 2097152) :
    Calls Tryd.prog 129 #[.slice A (R a).length c, .slice A' (R b).length c'] w fun e w' => ∃ A c, e = .returned (.slice A (R (a + b)).length c) ∧ Rd w' A c (R (a + b)) ∧ Below w.heap.size w w' := by
  have H := Lib.hid h
  have H' := Lib.hid h'
  clear h h'
  obtain ⟨i0, hi0, hz0, hz1, hz2⟩ := info_parts info32
  go_enter Tryd.func129, Tryd.ntmps129
  go_upto_if 13 with (fail)
  go_cut [0, 1] (fun v0 v1 wc => ∃ A0 c0 x A1 c1 y, v0 = .slice A0 (List.length (R x)) c0 ∧ v1 = .slice A1 (List.length (R y)) c1 ∧ (R y).length ≤ (R x).length ∧ (R x).length ≤ 2097152 ∧ Hid (Rd w A0 c0 (R x)) ∧ Hid (Rd w A1 c1 (R y)) ∧ Hid (x + y = a + b) ∧ wc = w)
  case first =>
    by_cases hlt : (R a).length < (R b).length
    · go_wp2
      go_meet
      case rel => exact ⟨_, _, b, _, _, a, rfl, rfl, by omega, hs', H', H, Lib.hid (Nat.add_comm _ _), rfl⟩
    · go_wp2
      go_meet
      case rel => exact ⟨_, _, a, _, _, b, rfl, rfl, by omega, hs, H, H', Lib.hid rfl, rfl⟩
  case rest =>
    obtain ⟨A0, c0, x, A1, c1, y, rfl, rfl, hle, hm, H0, H1, hv, rfl⟩ := hcut
    have K0 := Lib.hid (ok_R x)
    have K1 := Lib.hid (ok_R y)
    have V0 := Lib.hid (val_R x)
    have V1 := Lib.hid (val_R y)
    have HX := Lib.hid (show (R x).length ≤ (R (a + b)).length by rw [← hv.out]; exact dig_length_mono B16_two (Nat.le_add_right _ _))
    obtain ⟨l0, hl0⟩ : ∃ l, R x = l := ⟨_, rfl⟩
    obtain ⟨l1, hl1⟩ : ∃ l, R y = l := ⟨_, rfl⟩
    rw [hl0] at H0 K0 V0 HX hm
    rw [hl1] at H1 K1 V1
    rw [hl0, hl1] at hle
    rw [hl0, hl1]
    clear hl0 hl1
    have hmk := make_cap (l0.length + 1) ((l0.length : Int) + 1) (by omega) (by omega)
    go_wp2
    go_loopw [5, 6, 22] (fun v5 v6 v22 wr => ∃ (i : Nat) (cr : Int) (lo : List Int), i ≤ l0.length ∧ v22 = .int .i64 i ∧ v6 = .int .u32 cr ∧ 0 ≤ cr ∧ cr ≤ 1 ∧ Hid (lo.length = i) ∧ Hid (Ok B16 lo) ∧ Hid (val B16 lo + (B16 ^ i : Nat) * cr = val B16 (l0.take i) + val B16 (l1.take i)) ∧ Hid (Own wr wc.heap.size v5 lo) ∧ Hid (Below wc.heap.size wc wr)) (fun _ _ v22 _ => l0.length - (intOf v22).toNat)
    case atStart => exact ⟨0, 0, [], Nat.zero_le _, rfl, rfl, by omega, by omega, Lib.hid rfl, Lib.hid (Ok.nil _), Lib.hid (by simp [val]), Lib.hid (Own.made (Nat.le_refl _) (by omega)), Lib.hid (below_alloc _ _)⟩
    case round =>
      obtain ⟨i, cr, lo, hi, rfl, rfl, hc0, hc1, hlen, hok, hval, hown, hbel⟩ := hrel
      have hsz := hbel.out.size
      have hll : lo.length ≤ 2097152 := by rw [hlen.out]; omega
      by_cases hlt : i < l0.length
      · obtain ⟨ad, rfl, hc⟩ := (H0.out.below hbel.out).at_ i hlt
        obtain ⟨t1, t2⟩ := K0.out.rd B16_pos i
        unfold B16 at t2
        have hstep := fun s (hs : s = rd l0 i + cr + rd l1 i) => app_step hlen.out hs hval.out
        simp only [B16_cast] at hstep
        have HS := Lib.hid hstep
        clear hstep
        by_cases hlt' : i < l1.length
        · obtain ⟨ad', rfl, hc'⟩ := (H1.out.below hbel.out).at_ i hlt'
          obtain ⟨t3, t4⟩ := K1.out.rd B16_pos i
          unfold B16 at t4
          go_wp2_with (at_builtin; refine wpList_append_own _ rfl _ _ 37 rfl wc.heap.size 72 i0 (.int .u32 0) 1 4 (by kernel_rfl) hi0 hz0 hz1 hz2 rfl (by decide) _ _ _ rfl (hown.out.alloc _) ⟨wr.heap.size, 0, none⟩ 1 1 [.int .u32 ((rd l0 i + cr + rd l1 i) % 65536)] rfl rfl (rd_single _ _) (one_single _) (by unfold maxLen; omega) (by omega) (by simp; omega) ?_)
          intro v' w1 hown1 hgrow _
          obtain ⟨p1, p2⟩ := hown.out.push hbel.out hsz hown1 hgrow
          have P1 := Lib.hid p1
          have P2 := Lib.hid p2
          clear p1 p2 hown1 hgrow hc hc'
          go_wp2
          go_roundw
          case rel => exact ⟨i + 1, (rd l0 i + cr + rd l1 i) / 65536, lo ++ [(rd l0 i + cr + rd l1 i) % 65536], by omega, by go_num, by go_num, by omega, by omega, Lib.hid (by rw [List.length_append, hlen.out]; rfl), Lib.hid (hok.out.snoc (by omega) (by unfold B16; omega)), Lib.hid (HS.out _ rfl), P1, P2⟩
          case measure => simp [intOf]; omega
        · have hz : rd l1 i = 0 := rd_ge (by omega)
          have HS2 := Lib.hid (HS.out (rd l0 i + cr) (by rw [hz]; omega))
          clear hz
          go_wp2_with (at_builtin; refine wpList_append_own _ rfl _ _ 37 rfl wc.heap.size 72 i0 (.int .u32 0) 1 4 (by kernel_rfl) hi0 hz0 hz1 hz2 rfl (by decide) _ _ _ rfl (hown.out.alloc _) ⟨wr.heap.size, 0, none⟩ 1 1 [.int .u32 ((rd l0 i + cr) % 65536)] rfl rfl (rd_single _ _) (one_single _) (by unfold maxLen; omega) (by omega) (by simp; omega) ?_)
          intro v' w1 hown1 hgrow _
          obtain ⟨p1, p2⟩ := hown.out.push hbel.out hsz hown1 hgrow
          have P1 := Lib.hid p1
          have P2 := Lib.hid p2
          clear p1 p2 hown1 hgrow hc
          go_wp2
          go_roundw
          case rel => exact ⟨i + 1, (rd l0 i + cr) / 65536, lo ++ [(rd l0 i + cr) % 65536], by omega, by go_num, by go_num, by omega, by omega, Lib.hid (by rw [List.length_append, hlen.out]; rfl), Lib.hid (hok.out.snoc (by omega) (by unfold B16; omega)), HS2, P1, P2⟩
          case measure => simp [intOf]; omega
      · obtain rfl : i = l0.length := by omega
        have hfin : val B16 lo + (B16 ^ l0.length : Nat) * cr = ((a + b : Nat) : Int) := by
          rw [hval.out, List.take_length, List.take_of_length_le hle, V0.out, V1.out, ← hv.out]; simp
        have HF := Lib.hid hfin
        clear hfin
        by_cases hcr : 0 < cr
        · have h1 : cr = 1 := by omega
          subst h1
          go_wp2_with (at_builtin; refine wpList_append_own _ rfl _ _ 37 rfl wc.heap.size 72 i0 (.int .u32 0) 1 4 (by kernel_rfl) hi0 hz0 hz1 hz2 rfl (by decide) _ _ _ rfl (hown.out.alloc _) ⟨wr.heap.size, 0, none⟩ 1 1 [.int .u32 ((1 : Int))] rfl rfl (rd_single _ _) (one_single _) (by unfold maxLen; omega) (by omega) (by simp; omega) ?_)
          intro v' w1 hown1 hgrow _
          obtain ⟨p1, p2⟩ := hown.out.push hbel.out hsz hown1 hgrow
          have e : lo ++ [(1 : Int)] = R (a + b) := dig_of B16_two (hok.out.snoc (by omega) (by unfold B16; omega)) (by simp) (by rw [val_snoc, hlen.out]; exact HF.out)
          rw [e] at p1
          have P1 := Lib.hid p1
          have P2 := Lib.hid p2
          clear p1 p2 hown1 hgrow e
          go_wp2
          go_ret
          obtain ⟨A9, c9, rfl, hr⟩ := P1.out.rd
          exact ⟨A9, c9, rfl, hr, P2.out⟩
        · have h0 : cr = 0 := by omega
          have e : lo = R (a + b) := full_R hok.out (val_u64 hlen.out HF.out h0) (by rw [hlen.out]; exact HX.out)
          have E := Lib.hid e
          clear e
          go_wp2
          go_ret
          have ho := hown.out
          rw [E.out] at ho
          obtain ⟨A9, c9, rfl, hr⟩ := ho.rd
          exact ⟨A9, c9, rfl, hr, hbel.out⟩
end Go.Proofs.YtfmhplcpejmkhabDoor

namespace Go.Proofs.YtfmhplcpejmkhabDoor
open Go.RowKit Dig
set_option linter.unusedVariables false
set_option linter.unusedSimpArgs false
theorem sub_app {B : Nat} {lo la lb : List Int} {i : Nat} {br t x b' : Int} (hi : lo.length = i) (ht : t = rd la i - br - rd lb i) (hx : x - (B : Int) * b' = t)
    (h : val B lo + (B ^ i : Nat) * (-br) = val B (la.take i) - val B (lb.take i)) :
    val B (lo ++ [x]) + (B ^ (i + 1) : Nat) * (-b') = val B (la.take (i + 1)) - val B (lb.take (i + 1)) := by
  rw [val_snoc, hi, val_take_any, val_take_any, Nat.pow_succ, Int.natCast_mul]
  have : x = t + (B : Int) * b' := by omega
  subst this ht
  grind
theorem sub_last {B : Nat} {lo : List Int} {n a b : Nat} {br : Int} (hn : lo.length = n) (ho : Ok B lo) (hb : br = 0 ∨ br = 1) (hle : b ≤ a)
    (h : val B lo + (B ^ n : Nat) * (-br) = (a : Int) - (b : Int)) : val B lo = ((a - b : Nat) : Int) := by
  have h2 := val_lt ho
  rw [hn] at h2
  rcases hb with rfl | rfl
  · simp at h; omega
  · omega
set_option maxHeartbeats 2000000 in
set_option maxRecDepth 100000 in
theorem rSub (a b : Nat) (w : World) (A A' : Option Addr) (c c' : Nat) (h : Rd w A c (R a)) (h' : Rd w A' c' (R b)) (hs : (R a).length ≤ 2097152) (hle : b ≤ a) :
    Calls Tryd.prog 130 #[.slice A (R a).length c, .slice A' (R b).length c'] w fun e w' => ∃ A c, e = .returned (.slice A (R (a - b)).length c) ∧ Rd w' A c (R (a - b)) ∧ Below w.heap.size w w' := by
  have H0 := Lib.hid h
  have H1 := Lib.hid h'
  have K0 := Lib.hid (ok_R a)
  have K1 := Lib.hid (ok_R b)
  have hll : (R b).length ≤ (R a).length := dig_length_mono B16_two hle
  have hv := Lib.hid (show val B16 (R a) - val B16 (R b) = (a : Int) - (b : Int) by rw [val_R, val_R])
  have hle := Lib.hid hle
  clear h h'
  generalize hA : R a = l0 at *
  generalize hB : R b = l1 at *
  clear hA hB
  obtain ⟨i0, hi0, hz0, hz1, hz2⟩ := info_parts info32
  go_enter Tryd.func130, Tryd.ntmps130
  have hmk := make_cap l0.length (l0.length : Int) rfl (by omega)
  go_wp2
  go_loopw [5, 6, 15] (fun v5 v6 v15 wr => ∃ (i : Nat) (br : Int) (lo : List Int), i ≤ l0.length ∧ v15 = .int .i64 i ∧ v6 = .int .u32 br ∧ 0 ≤ br ∧ br ≤ 1 ∧ Hid (lo.length = i) ∧ Hid (Ok B16 lo) ∧ Hid (val B16 lo + (B16 ^ i : Nat) * (-br) = val B16 (l0.take i) - val B16 (l1.take i)) ∧ Hid (Own wr w.heap.size v5 lo) ∧ Hid (Below w.heap.size w wr)) (fun _ _ v15 _ => l0.length - (intOf v15).toNat)
  case atStart => exact ⟨0, 0, [], Nat.zero_le _, rfl, rfl, by omega, by omega, Lib.hid rfl, Lib.hid (Ok.nil _), Lib.hid (by simp [val]), Lib.hid (Own.made (Nat.le_refl _) (by omega)), Lib.hid (below_alloc _ _)⟩
  case round =>
    obtain ⟨i, br, lo, hi, rfl, rfl, hc0, hc1, hlen, hok, hval, hown, hbel⟩ := hrel
    have hsz := hbel.out.size
    have hlo : lo.length ≤ 2097152 := by rw [hlen.out]; omega
    by_cases hlt : i < l0.length
    · obtain ⟨ad, rfl, hc⟩ := (H0.out.below hbel.out).at_ i hlt
      obtain ⟨t1, t2⟩ := K0.out.rd B16_pos i
      unfold B16 at t2
      have hstep := fun t x b' (ht : t = rd l0 i - br - rd l1 i) hx => sub_app (x := x) (b' := b') hlen.out ht hx hval.out
      simp only [B16_cast] at hstep
      have HS := Lib.hid hstep
      clear hstep
      by_cases hlt' : i < l1.length
      · obtain ⟨ad', rfl, hc'⟩ := (H1.out.below hbel.out).at_ i hlt'
        obtain ⟨t3, t4⟩ := K1.out.rd B16_pos i
        unfold B16 at t4
        by_cases hneg : rd l0 i < br + rd l1 i
        · go_wp2_with (at_builtin; refine wpList_append_own _ rfl _ _ 37 rfl w.heap.size 72 i0 (.int .u32 0) 1 4 (by kernel_rfl) hi0 hz0 hz1 hz2 rfl (by decide) _ _ _ rfl (hown.out.alloc _) ⟨wr.heap.size, 0, none⟩ 1 1 [.int .u32 (rd l0 i + 65536 - (br + rd l1 i))] rfl rfl (rd_single _ _) (one_single _) (by unfold maxLen; omega) (by omega) (by simp; omega) ?_)
          intro v' w1 hown1 hgrow _
          obtain ⟨p1, p2⟩ := hown.out.push hbel.out hsz hown1 hgrow
          have P1 := Lib.hid p1
          have P2 := Lib.hid p2
          clear p1 p2 hown1 hgrow
          go_wp2
          go_roundw
          case rel => exact ⟨i + 1, 1, lo ++ [rd l0 i + 65536 - (br + rd l1 i)], by omega, by go_num, by go_num, by omega, by omega, Lib.hid (by rw [List.length_append, hlen.out]; rfl), Lib.hid (hok.out.snoc (by omega) (by unfold B16; omega)), Lib.hid (HS.out _ _ _ rfl (by omega)), P1, P2⟩
          case measure => simp [intOf]; omega
        · have hneg' : br + rd l1 i ≤ rd l0 i := by omega
          go_wp2_with (at_builtin; refine wpList_append_own _ rfl _ _ 37 rfl w.heap.size 72 i0 (.int .u32 0) 1 4 (by kernel_rfl) hi0 hz0 hz1 hz2 rfl (by decide) _ _ _ rfl (hown.out.alloc _) ⟨wr.heap.size, 0, none⟩ 1 1 [.int .u32 (rd l0 i - (br + rd l1 i))] rfl rfl (rd_single _ _) (one_single _) (by unfold maxLen; omega) (by omega) (by simp; omega) ?_)
          intro v' w1 hown1 hgrow _
          obtain ⟨p1, p2⟩ := hown.out.push hbel.out hsz hown1 hgrow
          have P1 := Lib.hid p1
          have P2 := Lib.hid p2
          clear p1 p2 hown1 hgrow
          go_wp2
          go_roundw
          case rel => exact ⟨i + 1, 0, lo ++ [rd l0 i - (br + rd l1 i)], by omega, by go_num, by go_num, by omega, by omega, Lib.hid (by rw [List.length_append, hlen.out]; rfl), Lib.hid (hok.out.snoc (by omega) (by unfold B16; omega)), Lib.hid (HS.out _ _ _ rfl (by omega)), P1, P2⟩
          case measure => simp [intOf]; omega
      · have hz : rd l1 i = 0 := rd_ge (by omega)
        have HZ := Lib.hid hz
        clear hz
        by_cases hneg : rd l0 i < br
        · go_wp2_with (at_builtin; refine wpList_append_own _ rfl _ _ 37 rfl w.heap.size 72 i0 (.int .u32 0) 1 4 (by kernel_rfl) hi0 hz0 hz1 hz2 rfl (by decide) _ _ _ rfl (hown.out.alloc _) ⟨wr.heap.size, 0, none⟩ 1 1 [.int .u32 (rd l0 i + 65536 - br)] rfl rfl (rd_single _ _) (one_single _) (by unfold maxLen; omega) (by omega) (by simp; omega) ?_)
          intro v' w1 hown1 hgrow _
          obtain ⟨p1, p2⟩ := hown.out.push hbel.out hsz hown1 hgrow
          have P1 := Lib.hid p1
          have P2 := Lib.hid p2
          clear p1 p2 hown1 hgrow
          go_wp2
          go_roundw
          case rel => exact ⟨i + 1, 1, lo ++ [rd l0 i + 65536 - br], by omega, by go_num, by go_num, by omega, by omega, Lib.hid (by rw [List.length_append, hlen.out]; rfl), Lib.hid (hok.out.snoc (by omega) (by unfold B16; omega)), Lib.hid (HS.out (rd l0 i - br) _ _ (by rw [HZ.out]; omega) (by omega)), P1, P2⟩
          case measure => simp [intOf]; omega
        · have hneg' : br ≤ rd l0 i := by omega
          go_wp2_with (at_builtin; refine wpList_append_own _ rfl _ _ 37 rfl w.heap.size 72 i0 (.int .u32 0) 1 4 (by kernel_rfl) hi0 hz0 hz1 hz2 rfl (by decide) _ _ _ rfl (hown.out.alloc _) ⟨wr.heap.size, 0, none⟩ 1 1 [.int .u32 (rd l0 i - br)] rfl rfl (rd_single _ _) (one_single _) (by unfold maxLen; omega) (by omega) (by simp; omega) ?_)
          intro v' w1 hown1 hgrow _
          obtain ⟨p1, p2⟩ := hown.out.push hbel.out hsz hown1 hgrow
          have P1 := Lib.hid p1
          have P2 := Lib.hid p2
          clear p1 p2 hown1 hgrow
          go_wp2
          go_roundw
          case rel => exact ⟨i + 1, 0, lo ++ [rd l0 i - br], by omega, by go_num, by go_num, by omega, by omega, Lib.hid (by rw [List.length_append, hlen.out]; rfl), Lib.hid (hok.out.snoc (by omega) (by unfold B16; omega)), Lib.hid (HS.out (rd l0 i - br) _ _ (by rw [HZ.out]; omega) (by omega)), P1, P2⟩
          case measure => simp [intOf]; omega
    · obtain rfl : i = l0.length := by omega
      have hv2 := hval.out
      rw [List.take_length, List.take_of_length_le hll, hv.out] at hv2
      have E := Lib.hid (sub_last hlen.out hok.out (by omega) hle.out hv2)
      clear hv2
      obtain ⟨A9, c9, rfl, hr⟩ := hown.out.rd
      have HR := Lib.hid hr
      have ES := Lib.hid (strip_R hok.out E.out)
      clear hr
      go_wp2_with fail
      refine (rTrim _ _ _ _ HR.out).mono ?_
      rintro e w' ⟨rfl, rfl⟩
      rw [ES.out]
      go_wp2
      go_ret
      exact ⟨_, _, rfl, by rw [← ES.out]; exact HR.out.strip, hbel.out⟩
end Go.Proofs.YtfmhplcpejmkhabDoor

namespace Go.Proofs.YtfmhplcpejmkhabDoor
open Go.RowKit Dig
set_option linter.unusedVariables false
set_option linter.unusedSimpArgs false
theorem make_rn (n : Nat) (m : Int) (hm : m = n) (h : n ≤ 70368744177664) : ∀ w : World, (Instr.makeSlice 37 (.int .i64 m) (.int .i64 m)).run Tryd.prog w = .ok (.slice (some ⟨w.heap.size, 0, none⟩) n n) (w.alloc (.cells (madeCells #[.int .u32 0] n) 72)) := by
  subst hm
  intro w
  obtain ⟨i0, hi, hz0, hz1, hz2⟩ := info_parts info32
  have := run_make (P := Tryd.prog) w 37 72 i0 (.int .u32 0) (by kernel_rfl) hi hz0 .i64 .i64 n n (by omega) (by omega) (by rw [hz2]; omega) (by omega)
  rw [this, hz1]
  simp [Value.cells]

set_option maxHeartbeats 1000000 in
theorem rMul_pos (a b : Nat) (w : World) (A A' : Option Addr) (c c' : Nat) (h : Rd w A c (R a)) (h' : Rd w A' c' (R b)) (hs : (R a).length ≤ 2097152) (hs' : (R b).length ≤ 2097152) (ha : 0 < (R a).length) (hb : 0 < (R b).length) :
    Calls Tryd.prog 96 #[.slice A (R a).length c, .slice A' (R b).length c'] w fun e w' => ∃ A c, e = .returned (.slice A (R (a * b)).length c) ∧ Rd w' A c (R (a * b)) ∧ Below w.heap.size w w' := by
  have H0 := Lib.hid h
  have H1 := Lib.hid h'
  have K0 := Lib.hid (ok_R a)
  have K1 := Lib.hid (ok_R b)
  have hv := Lib.hid (show val B16 (R a) * val B16 (R b) = ((a * b : Nat) : Int) by rw [val_R, val_R, Int.natCast_mul])
  clear h h'
  generalize R a = l0 at *
  generalize R b = l1 at *
  have za : ((l0.length : Int) == 0) = false := beq_eq_false_iff_ne.2 (by omega)
  have zb : ((l1.length : Int) == 0) = false := beq_eq_false_iff_ne.2 (by omega)
  go_enter Tryd.func96, Tryd.ntmps96
  have hmk := make_rn (l0.length + l1.length) ((l0.length : Int) + (l1.length : Int)) (by omega) (by omega)
  go_wp2
  go_loopw [28] (fun v28 wr => ∃ (i : Nat) (lo : List Int), i ≤ l0.length ∧ v28 = .int .i64 i ∧ Hid (lo.length = l0.length + l1.length) ∧ Hid (Ok B16 lo) ∧ Hid (val B16 (lo.take (i + l1.length)) = val B16 (l0.take i) * val B16 l1) ∧ Hid (Blk wr w.heap.size lo) ∧ Hid (Below w.heap.size w wr)) (fun v28 _ => l0.length - (intOf v28).toNat)
  case atStart => exact ⟨0, List.replicate (l0.length + l1.length) 0, Nat.zero_le _, rfl, Lib.hid (by simp), Lib.hid (Ok.replicate B16_pos _), Lib.hid (by simp [val, val_replicate]), Lib.hid (Blk.made _ _), Lib.hid (below_alloc _ _)⟩
  case round =>
    obtain ⟨i, lo, hi, rfl, hlen, hok, hval, hblk, hbel⟩ := hrel
    by_cases hlt : i < l0.length
    · obtain ⟨ad, rfl, hc⟩ := (H0.out.below hbel.out).at_ i hlt
      obtain ⟨t1, t2⟩ := K0.out.rd B16_pos i
      rw [B16_cast] at t2
      obtain ⟨wo, rfl⟩ : ∃ wo : World, wo = wr := ⟨_, rfl⟩
      go_wp2
      go_loopw [8, 35] (fun v8 v35 wr => ∃ (j : Nat) (cr : Int) (ln : List Int), j ≤ l1.length ∧ v35 = .int .i64 j ∧ v8 = .int .u64 cr ∧ 0 ≤ cr ∧ cr < 65536 ∧ Hid (ln.length = l0.length + l1.length) ∧ Hid (Ok B16 ln) ∧ Hid (val B16 (ln.take (i + l1.length)) + (B16 ^ (i + j) : Nat) * cr = val B16 (l0.take i) * val B16 l1 + (B16 ^ i : Nat) * (rd l0 i * val B16 (l1.take j))) ∧ Hid (Blk wr w.heap.size ln) ∧ Hid (Below w.heap.size w wr)) (fun _ v35 _ => l1.length - (intOf v35).toNat)
      case atStart => exact ⟨0, 0, lo, Nat.zero_le _, rfl, rfl, by omega, by omega, hlen, hok, Lib.hid (by simp [val]; exact hval.out), hblk, hbel⟩
      case round =>
        obtain ⟨j, cr, ln, hj, rfl, rfl, hc0, hc1, hlen', hok', hval', hblk', hbel'⟩ := hrel
        clear hval hblk hbel hok hlen
        by_cases hlt' : j < l1.length
        · obtain ⟨ad', rfl, hc'⟩ := (H1.out.below hbel'.out).at_ j hlt'
          obtain ⟨t3, t4⟩ := K1.out.rd B16_pos j
          rw [B16_cast] at t4
          have hcell := hblk'.out.cell (i + j) (by rw [hlen'.out]; omega)
          have hfz := hblk'.out.frozen (i + j)
          obtain ⟨t5, t6⟩ := hok'.out.rd B16_pos (i + j)
          rw [B16_cast] at t6
          obtain ⟨p1, p2⟩ := prod_bd (n := 65535) t1 (by omega) t3 (by omega)
          have hstep := fun s (hs : s = rd ln (i + j) + rd l0 i * rd l1 j + cr) => mul_step (s := s) hlt' (by rw [hlen'.out]; omega) (by omega) hval'.out
          simp only [B16_cast] at hstep
          have HS := Lib.hid hstep
          clear hstep
          go_wp2
          go_roundw
          case rel =>
            exact ⟨j + 1, _, _, by omega, by go_num, rfl, by omega, by omega, Lib.hid (by rw [List.length_set]; exact hlen'.out), Lib.hid (hok'.out.set _ (by omega) (by rw [B16_cast]; omega)),
              HS.out _ rfl, hblk'.out.set _ _, hbel'.out.setCell (Nat.le_refl _) _⟩
          case measure => simp [intOf]; omega
        · obtain rfl : j = l1.length := by omega
          have hcell := hblk'.out.cell (i + l1.length) (by rw [hlen'.out]; omega)
          have hfz := hblk'.out.frozen (i + l1.length)
          have hv3 := hval'.out
          rw [List.take_length] at hv3
          have E := Lib.hid (mul_last hlt (by rw [hlen'.out]; omega) hv3)
          clear hv3
          go_wp2
          go_roundw
          case rel =>
            exact ⟨i + 1, _, by omega, by go_num, Lib.hid (by rw [List.length_set]; exact hlen'.out), Lib.hid (hok'.out.set _ hc0 (by rw [B16_cast]; omega)),
              E, hblk'.out.set _ _, hbel'.out.setCell (Nat.le_refl _) _⟩
          case measure => simp [intOf]; omega
    · obtain rfl : i = l0.length := by omega
      have hv2 := hval.out
      rw [List.take_length, List.take_of_length_le (by rw [hlen.out]; omega), hv.out] at hv2
      have E := Lib.hid hv2
      clear hv2
      go_wp2_with fail
      have hr := hblk.out.rd lo.length (Nat.le_refl _) (by rw [hlen.out]; omega)
      rw [← hlen.out]
      refine (rTrim _ _ _ _ hr).mono ?_
      rintro e w' ⟨rfl, rfl⟩
      go_wp2
      go_ret
      exact ⟨_, _, ret_slice (by rw [strip_R hok.out E.out]), by rw [← strip_R hok.out E.out]; exact hr.strip, hbel.out⟩

theorem R_length_zero {a : Nat} (h : ¬ 0 < (R a).length) : a = 0 := R_inj ((List.eq_nil_of_length_eq_zero (by omega)).trans R_zero.symm)
theorem rMul (a b : Nat) (w : World) (A A' : Option Addr) (c c' : Nat) (h : Rd w A c (R a)) (h' : Rd w A' c' (R b)) (hs : (R a).length ≤ 2097152) (hs' : (R b).length ≤ 2097152) :
    Calls Tryd.prog 96 #[.slice A (R a).length c, .slice A' (R b).length c'] w fun e w' => ∃ A c, e = .returned (.slice A (R (a * b)).length c) ∧ Rd w' A c (R (a * b)) ∧ Below w.heap.size w w' := by
  by_cases ha : 0 < (R a).length
  · by_cases hb : 0 < (R b).length
    · exact rMul_pos a b w A A' c c' h h' hs hs' ha hb
    · have hz := R_length_zero hb
      subst hz
      have za : (((R a).length : Int) == 0) = false := beq_eq_false_iff_ne.2 (by omega)
      have zb : (((R 0).length : Int) == 0) = true := by simp [R_zero]
      clear h h' hb
      go_enter Tryd.func96, Tryd.ntmps96
      go_wp2
      go_ret
      rw [Nat.mul_zero, R_zero]
      exact ⟨none, 0, rfl, Rd.nil _ _ _ (by omega), Below.refl _ _⟩
  · have hz := R_length_zero ha
    subst hz
    have za : (((R 0).length : Int) == 0) = true := by simp [R_zero]
    clear h h' ha
    go_enter Tryd.func96, Tryd.ntmps96
    go_wp2
    all_goals go_ret
    all_goals
      rw [Nat.zero_mul, R_zero]
      exact ⟨none, 0, rfl, Rd.nil _ _ _ (by omega), Below.refl _ _⟩
end Go.Proofs.YtfmhplcpejmkhabDoor

namespace Go.Proofs.YtfmhplcpejmkhabDoor
open Go.RowKit Dig
set_option linter.unusedVariables false
set_option linter.unusedSimpArgs false
theorem R_rd (a : Nat) (i : Nat) : rd (R a) i = ((a / B16 ^ i % B16 : Nat) : Int) := dig_getD B16_two a i
set_option maxHeartbeats 1000000 in
set_option maxRecDepth 100000 in
theorem rSmall (a d : Nat) (w : World) (A : Option Addr) (c : Nat) (h : Rd w A c (R a)) (hs : (R a).length ≤ 2097152) (hd : 0 < d) (hd2 : d < 65536) :
    Calls Tryd.prog 123 #[.slice A (R a).length c, .int .u32 d] w fun e w' => ∃ A c, e = .returned (.tuple #[.slice A (R (a / d)).length c, .int .u32 (a % d : Nat)]) ∧ Rd w' A c (R (a / d)) ∧ Below w.heap.size w w' := by
  have H0 := Lib.hid h
  have h1 := h.max
  have h2 := h.le
  have hlt2 := Lib.hid (lt_pow_length B16_two a)
  clear h
  have HD := Lib.hid (R_rd a)
  rw [show dig B16 a = R a from rfl] at hlt2
  generalize R a = l0 at *
  have hmk := make_rn l0.length (l0.length : Int) rfl (by omega)
  have hd0 : ((d : Int) == 0) = false := beq_eq_false_iff_ne.2 (by omega)
  go_enter Tryd.func123, Tryd.ntmps123
  go_wp2
  go_loopw [7, 8] (fun v7 v8 wr => ∃ (k rest : Nat) (lo : List Int), k ≤ l0.length ∧ v8 = .int .i64 ((k : Int) - 1) ∧ v7 = .int .u32 rest ∧ rest < d ∧ Hid (rest = a / B16 ^ k % d) ∧ Hid (lo.length = l0.length) ∧ Hid (Ok B16 lo) ∧ Hid (val B16 (lo.drop k) = ((a / B16 ^ k / d : Nat) : Int)) ∧ Hid (Blk wr w.heap.size lo) ∧ Hid (Below w.heap.size w wr)) (fun _ v8 _ => (intOf v8 + 1).toNat)
  case atStart =>
    have e : a / B16 ^ l0.length = 0 := Nat.div_eq_of_lt hlt2.out
    exact ⟨l0.length, 0, List.replicate l0.length 0, Nat.le_refl _, rfl, rfl, hd, Lib.hid (by rw [e]; simp), Lib.hid (by simp), Lib.hid (Ok.replicate B16_pos _), Lib.hid (by rw [e, List.drop_of_length_le (by simp)]; simp [val]), Lib.hid (Blk.made _ _), Lib.hid (below_alloc _ _)⟩
  case round =>
    obtain ⟨k, rest, lo, hk, rfl, rfl, hr, hrest, hlen, hok, hval, hblk, hbel⟩ := hrel
    by_cases hlt : 0 < k
    · obtain ⟨i, rfl⟩ : ∃ i, k = i + 1 := ⟨k - 1, by omega⟩
      have hki : ((i + 1 : Nat) : Int) - 1 = (i : Int) := by omega
      rw [hki]
      obtain ⟨ad, rfl, hc⟩ := (H0.out.below hbel.out).at_ i (by omega)
      obtain ⟨x, hx⟩ : ∃ x : Nat, rd l0 i = (x : Int) := ⟨_, HD.out i⟩
      rw [hx] at hc
      have hxd : x = a / B16 ^ i % B16 := by have := HD.out i; rw [hx] at this; exact_mod_cast this
      have hx2 : x < 65536 := by rw [hxd]; exact Nat.mod_lt _ B16_pos
      have HX := Lib.hid hxd
      have hcell := hblk.out.cell i (by rw [hlen.out]; omega)
      have hfz := hblk.out.frozen i
      obtain ⟨q1, q2⟩ := div_high (H := a / B16 ^ (i + 1)) (x := x) (B := B16) hd
      rw [hxd, ← high_step, ← hxd, ← hrest.out] at q1 q2
      have HQ1 := Lib.hid q1
      have HQ2 := Lib.hid q2
      have hdig := div_digit (r := rest) (x := x) (d := d) (B := 65536) hr hx2
      have hmod := Nat.mod_lt (rest * 65536 + x) hd
      obtain ⟨Q, hQ⟩ : ∃ Q : Nat, (rest * 65536 + x) / d = Q := ⟨_, rfl⟩
      obtain ⟨M, hM⟩ : ∃ M : Nat, (rest * 65536 + x) % d = M := ⟨_, rfl⟩
      rw [hQ] at hdig
      rw [hM] at hmod
      have hQ' : ((rest : Int) * 65536 + (x : Int)) / (d : Int) = (Q : Int) := by rw [← hQ, Int.natCast_ediv, Int.natCast_add, Int.natCast_mul]; rfl
      have hM' : ((rest : Int) * 65536 + (x : Int)) % (d : Int) = (M : Int) := by rw [← hM, Int.natCast_emod, Int.natCast_add, Int.natCast_mul]; rfl
      have HM' := Lib.hid hM'
      clear hM'
      have HQ := Lib.hid hQ
      have HM := Lib.hid hM
      clear q1 q2 hxd hQ hM hx hki
      go_wp2
      go_roundw
      case rel =>
        refine ⟨i, M, _, by omega, rfl, congrArg (Value.int .u32) HM'.out, hmod, Lib.hid (HM.out.symm.trans HQ2.out.symm), Lib.hid (by rw [List.length_set]; exact hlen.out), Lib.hid (hok.out.set _ (by omega) (by rw [B16_cast]; omega)), Lib.hid ?_, hblk.out.set _ _, hbel.out.setCell (Nat.le_refl _) _⟩
        rw [drop_set_step (by rw [hlen.out]; omega), hval.out, HQ1.out, show (rest * B16 + x) / d = Q from HQ.out, Int.natCast_add, Int.natCast_mul, Int.mul_comm ((B16 : Nat) : Int), Int.add_comm]
      case measure => simp [intOf]
    · obtain rfl : k = 0 := by omega
      have hv2 := hval.out
      rw [List.drop_zero, Nat.pow_zero, Nat.div_one] at hv2
      have hr2 := hrest.out
      rw [Nat.pow_zero, Nat.div_one] at hr2
      subst hr2
      have E := Lib.hid hv2
      clear hv2
      go_wp2_with fail
      have hr9 := hblk.out.rd lo.length (Nat.le_refl _) (by rw [hlen.out]; omega)
      rw [← hlen.out]
      refine (rTrim _ _ _ _ hr9).mono ?_
      rintro e w' ⟨rfl, rfl⟩
      go_wp2
      go_ret2
      exact ⟨_, _, by rw [strip_R hok.out E.out]; rfl, by rw [← strip_R hok.out E.out]; exact hr9.strip, hbel.out⟩
end Go.Proofs.YtfmhplcpejmkhabDoor
