/-
  Plain laws of the lifted program: NLib.
-/
import Derived.Test.YtgfadkdgifpddaaQPLib
set_option linter.unusedVariables false
/- Naturals as rows of limbs: values, the one trimd row of a value. Plain Lean. -/
namespace Go.AM.PL
abbrev BB : Nat := 4294967296
def nv : List Int → Nat
  | [] => 0
  | x :: l => x.toNat + 4294967296 * nv l
def limbs (l : List Int) : Prop := ∀ x ∈ l, 0 ≤ x ∧ x < 4294967296
def ofN (n : Nat) : List Int := if h : n = 0 then [] else ((n % 4294967296 : Nat) : Int) :: ofN (n / 4294967296)
termination_by n
decreasing_by omega
theorem ofN_zero : ofN 0 = [] := by rw [ofN]; rfl
theorem ofN_pos {n : Nat} (h : n ≠ 0) : ofN n = ((n % 4294967296 : Nat) : Int) :: ofN (n / 4294967296) := by rw [ofN, dif_neg h]
theorem limbs_nil : limbs [] := fun _ h => nomatch h
theorem limbs_cons {x : Int} {l : List Int} : limbs (x :: l) ↔ (0 ≤ x ∧ x < 4294967296) ∧ limbs l := by
  unfold limbs; simp [List.forall_mem_cons]
theorem limbs_append {a b : List Int} : limbs (a ++ b) ↔ limbs a ∧ limbs b := by
  unfold limbs; simp only [List.mem_append]
  exact ⟨fun h => ⟨fun x hx => h x (.inl hx), fun x hx => h x (.inr hx)⟩, fun h x hx => hx.elim (h.1 x) (h.2 x)⟩
theorem limbs_take {a : List Int} (h : limbs a) (n : Nat) : limbs (a.take n) := fun x hx => h x (List.mem_of_mem_take hx)
theorem limbs_drop {a : List Int} (h : limbs a) (n : Nat) : limbs (a.drop n) := fun x hx => h x (List.mem_of_mem_drop hx)
theorem limbs_replicate (n : Nat) : limbs (List.replicate n 0) := fun x hx => by
  have := (List.mem_replicate.1 hx).2; omega
theorem limbs_set {a : List Int} (h : limbs a) (i : Nat) {x : Int} (h0 : 0 ≤ x) (h1 : x < 4294967296) : limbs (a.set i x) := fun y hy => by
  rcases List.mem_or_eq_of_mem_set hy with h' | h'
  · exact h y h'
  · subst h'; exact ⟨h0, h1⟩
theorem limbs_nth {a : List Int} (h : limbs a) (i : Int) : 0 ≤ nth a i 0 ∧ nth a i 0 < 4294967296 := by
  unfold nth
  rw [List.getD_eq_getElem?_getD]
  cases hx : a[i.toNat]? with
  | none => simp
  | some x => exact h x (List.mem_of_getElem? hx)
theorem limbs_nthN {a : List Int} (h : limbs a) (i : Nat) : 0 ≤ nthN a i 0 ∧ nthN a i 0 < 4294967296 := limbs_nth h i
theorem limbs_ofN (n : Nat) : limbs (ofN n) := by
  induction n using Nat.strongRecOn with
  | _ n ih =>
    by_cases h : n = 0
    · subst h; rw [ofN_zero]; exact limbs_nil
    · rw [ofN_pos h]
      exact limbs_cons.2 ⟨by omega, ih _ (by omega)⟩
@[simp] theorem nv_nil : nv [] = 0 := rfl
@[simp] theorem nv_cons (x : Int) (l : List Int) : nv (x :: l) = x.toNat + 4294967296 * nv l := rfl
@[simp] theorem nv_ofN (n : Nat) : nv (ofN n) = n := by
  induction n using Nat.strongRecOn with
  | _ n ih =>
    by_cases h : n = 0
    · subst h; rw [ofN_zero]; rfl
    · rw [ofN_pos h, nv_cons, ih _ (by omega)]; omega
theorem nv_append (a b : List Int) : nv (a ++ b) = nv a + 4294967296 ^ a.length * nv b := by
  induction a with
  | nil => simp
  | cons x a ih => simp only [List.cons_append, nv_cons, ih, List.length_cons, Nat.pow_succ, Nat.mul_add]; rw [← Nat.mul_assoc, Nat.mul_comm 4294967296 (4294967296 ^ a.length)]; omega
theorem nv_lt {l : List Int} (h : limbs l) : nv l < 4294967296 ^ l.length := by
  induction l with
  | nil => simp
  | cons x l ih =>
    have h' := limbs_cons.1 h
    have := ih h'.2
    simp only [nv_cons, List.length_cons, Nat.pow_succ]
    omega
@[simp] theorem nv_replicate (n : Nat) : nv (List.replicate n 0) = 0 := by
  induction n with
  | zero => rfl
  | succ n ih => simp [List.replicate_succ, ih]
/-- Trimmed. -/
def trimd (l : List Int) : Prop := ∀ x, l.getLast? = some x → x ≠ 0
theorem trimd_nil : trimd [] := fun _ h => nomatch h
theorem trimd_tail {x : Int} {l : List Int} (h : trimd (x :: l)) : trimd l := by
  cases l with
  | nil => exact trimd_nil
  | cons y l => intro z hz; exact h z (by simpa [List.getLast?_cons_cons] using hz)
theorem nv_pos {l : List Int} (h : limbs l) (ht : trimd l) (hn : l ≠ []) : nv l ≠ 0 := by
  induction l with
  | nil => exact absurd rfl hn
  | cons x l ih =>
    have h' := limbs_cons.1 h
    cases l with
    | nil =>
      have := ht x rfl
      simp; omega
    | cons y l =>
      have := ih h'.2 (trimd_tail ht) (by simp)
      rw [nv_cons]; omega
theorem ofN_nv {l : List Int} (h : limbs l) (ht : trimd l) : ofN (nv l) = l := by
  induction l with
  | nil => exact ofN_zero
  | cons x l ih =>
    have h' := limbs_cons.1 h
    have h1 := ih h'.2 (trimd_tail ht)
    rw [ofN_pos (nv_pos h ht (by simp)), nv_cons]
    have e1 : (x.toNat + 4294967296 * nv l) % 4294967296 = x.toNat := by omega
    have e2 : (x.toNat + 4294967296 * nv l) / 4294967296 = nv l := by omega
    rw [e1, e2, h1]
    congr 1; omega
theorem trimd_ofN (n : Nat) : trimd (ofN n) := by
  induction n using Nat.strongRecOn with
  | _ n ih =>
    by_cases h : n = 0
    · subst h; rw [ofN_zero]; exact trimd_nil
    · rw [ofN_pos h]
      intro x hx
      by_cases h2 : n / 4294967296 = 0
      · rw [h2, ofN_zero] at hx
        simp at hx; omega
      · have := ih (n / 4294967296) (by omega)
        have hne : ofN (n / 4294967296) ≠ [] := by rw [ofN_pos h2]; simp
        refine this x ?_
        rw [← hx]
        cases hc : ofN (n / 4294967296) with
        | nil => exact absurd hc hne
        | cons y l => rw [List.getLast?_cons_cons]
theorem ofN_inj {a b : Nat} (h : ofN a = ofN b) : a = b := by rw [← nv_ofN a, ← nv_ofN b, h]
theorem ofN_eq_nil {n : Nat} : ofN n = [] ↔ n = 0 := by
  constructor
  · intro h; rw [← nv_ofN n, h]; rfl
  · rintro rfl; exact ofN_zero
/-- A row with noughts behind a trimd one. -/
theorem nv_append_zero (l : List Int) : nv (l ++ [0]) = nv l := by simp [nv_append]
theorem ofN_len_le {n k : Nat} : (ofN n).length ≤ k ↔ n < 4294967296 ^ k := by
  induction k generalizing n with
  | zero =>
    simp only [Nat.le_zero_eq, List.length_eq_zero_iff, ofN_eq_nil, Nat.pow_zero]; omega
  | succ k ih =>
    by_cases h : n = 0
    · subst h; rw [ofN_zero]; simp [Nat.pow_pos]
    · rw [ofN_pos h, List.length_cons, Nat.pow_succ, Nat.add_le_add_iff_right, ih]
      rw [Nat.div_lt_iff_lt_mul (by omega)]
theorem ofN_len_lt {n k : Nat} : k < (ofN n).length ↔ 4294967296 ^ k ≤ n := by
  have := ofN_len_le (n := n) (k := k); omega
theorem ofN_nv_len {l : List Int} (h : limbs l) : (ofN (nv l)).length ≤ l.length := ofN_len_le.2 (nv_lt h)
/-- The highest limb. -/
theorem nth_append_r {a b : List Int} (i : Int) (h : (a.length : Int) ≤ i) : nth (a ++ b) i 0 = nth b (i - a.length) 0 := by
  unfold nth
  rw [List.getD_eq_getElem?_getD, List.getD_eq_getElem?_getD, List.getElem?_append_right (by omega)]
  congr 2; omega
theorem nth_append_l {a b : List Int} (i : Int) (h0 : 0 ≤ i) (h : i < (a.length : Int)) : nth (a ++ b) i 0 = nth a i 0 := by
  unfold nth
  rw [List.getD_eq_getElem?_getD, List.getD_eq_getElem?_getD, List.getElem?_append_left (by omega)]
theorem take_succ_nth (a : List Int) (i : Nat) (h : i < a.length) : a.take (i + 1) = a.take i ++ [nth a i 0] := by
  rw [List.take_succ_eq_append_getElem h]; simp [nth, h]
theorem nv_take_succ {a : List Int} {i : Nat} (h : i < a.length) : nv (a.take (i + 1)) = nv (a.take i) + 4294967296 ^ i * (nth a i 0).toNat := by
  rw [take_succ_nth a i h, nv_append]
  have : (a.take i).length = i := by simp; omega
  simp [this]
theorem nv_split (a : List Int) (i : Nat) (h : i ≤ a.length) : nv a = nv (a.take i) + 4294967296 ^ i * nv (a.drop i) := by
  have := nv_append (a.take i) (a.drop i)
  rw [List.take_append_drop] at this
  rw [this]; congr 3; simp; omega
theorem nv_drop_nth {a : List Int} {i : Nat} (h : i < a.length) : nv (a.drop i) = (nth a i 0).toNat + 4294967296 * nv (a.drop (i + 1)) := by
  rw [List.drop_eq_getElem_cons h, nv_cons]; simp [nth, h, List.getD_eq_getElem?_getD]
/-- One limb set. -/
theorem take_set_lt {α : Type} (a : List α) (i j : Nat) (x : α) (h : j ≤ i) : (a.set i x).take j = a.take j := by
  rw [List.take_set_of_le h]
theorem set_take_succ (a : List Int) (i : Nat) (x : Int) (h : i < a.length) : (a.set i x).take (i + 1) = a.take i ++ [x] := by
  rw [take_succ_nth _ _ (by simpa using h), List.take_set_of_le (Nat.le_refl _)]
  simp [nth, h]
theorem set_drop_succ (a : List Int) (i : Nat) (x : Int) : (a.set i x).drop (i + 1) = a.drop (i + 1) := by
  rw [List.drop_set_of_lt (by omega)]
end Go.AM.PL

namespace Go.AM.T
variable {σ ρ : Type}
/-- A loop by an invariant and a measure: what holds where it ends. -/
theorem loop_post {r : σ → T (σ ⊕ ρ)} (I : σ → Prop) (μ : σ → Nat) (Q : ρ → Prop)
    (h : ∀ s, I s → (∃ s', (r s).run = some (.inl s') ∧ I s' ∧ μ s' < μ s) ∨ (∃ x, (r s).run = some (.inr x) ∧ Q x)) {s : σ} (hs : I s) : ∃ x, (loop r s).run = some x ∧ Q x := by
  generalize hm : μ s = m
  induction m using Nat.strongRecOn generalizing s with
  | _ m ih =>
    rcases h s hs with ⟨s', h1, h2, h3⟩ | ⟨x, h1, h2⟩
    · rw [loop_step h1]
      exact ih (μ s') (by omega) h2 rfl
    · exact ⟨x, loop_done h1, h2⟩
end Go.AM.T
namespace Go.AM.PL
/-- Limb i; 0 behind the last one. -/
def lm (a : List Int) (i : Nat) : Nat := (nth a (i : Int) 0).toNat
theorem lm_lt {a : List Int} (h : limbs a) (i : Nat) : lm a i < 4294967296 := by have := limbs_nth h i; unfold lm; omega
theorem nth_lm {a : List Int} (h : limbs a) (i : Nat) : nth a (i : Int) 0 = (lm a i : Int) := by have := limbs_nth h i; unfold lm; omega
theorem nthN_lm {a : List Int} (h : limbs a) (i : Nat) : nthN a i 0 = (lm a i : Int) := by have := nth_lm h i; unfold nth at this; unfold nthN; simpa using this
theorem lm_ge {a : List Int} {i : Nat} (h : a.length ≤ i) : lm a i = 0 := by
  unfold lm nth; simp [List.getD_eq_getElem?_getD, List.getElem?_eq_none h]
theorem nv_take_lm (a : List Int) (i : Nat) : nv (a.take (i + 1)) = nv (a.take i) + 4294967296 ^ i * lm a i := by
  by_cases h : i < a.length
  · exact nv_take_succ h
  · rw [lm_ge (by omega), List.take_of_length_le (by omega), List.take_of_length_le (by omega)]; simp
theorem nv_take_all {a : List Int} {i : Nat} (h : a.length ≤ i) : nv (a.take i) = nv a := by rw [List.take_of_length_le h]
theorem nv_take_le (a : List Int) (i : Nat) : nv (a.take i) ≤ nv a := by
  have := nv_append (a.take i) (a.drop i)
  rw [List.take_append_drop] at this; omega
theorem lm_set {a : List Int} {i j : Nat} {x : Int} (h : i < a.length) : lm (a.set i x) j = if i = j then x.toNat else lm a j := by
  unfold lm nth
  simp only [Int.toNat_natCast, List.getD_eq_getElem?_getD, List.getElem?_set]
  by_cases e : i = j
  · subst e; simp [h]
  · simp [e]
theorem nv_set {a : List Int} {i : Nat} (x : Int) (h : i < a.length) : nv (a.set i x) + 4294967296 ^ i * lm a i = nv a + 4294967296 ^ i * x.toNat := by
  have h1 := nv_split (a.set i x) (i + 1) (by simp; omega)
  have h2 := nv_split a (i + 1) (by omega)
  rw [set_drop_succ, set_take_succ a i x h, nv_append] at h1
  rw [nv_take_lm] at h2
  have h3 : (a.take i).length = i := by simp; omega
  rw [h3] at h1
  simp only [nv_cons, nv_nil, Nat.mul_zero, Nat.add_zero] at h1
  omega
theorem nv_set_take {a : List Int} {i : Nat} (x : Int) (h : i < a.length) : nv ((a.set i x).take (i + 1)) = nv (a.take i) + 4294967296 ^ i * x.toNat := by
  rw [set_take_succ a i x h, nv_append]
  have h3 : (a.take i).length = i := by simp; omega
  rw [h3]; simp
theorem pow_pos' (i : Nat) : 0 < 4294967296 ^ i := Nat.pow_pos (by omega)
theorem nv_take_lt {a : List Int} (h : limbs a) (i : Nat) : nv (a.take i) < 4294967296 ^ i := by
  have := nv_lt (limbs_take h i)
  have h2 : (4294967296 : Nat) ^ (a.take i).length ≤ 4294967296 ^ i := Nat.pow_le_pow_right (by omega) (by simp; omega)
  omega
/-- -1, 0, 1. -/
def cmpI (a b : Nat) : Int := if a < b then -1 else if b < a then 1 else 0
theorem cmp_loop {r : Int → T (Int ⊕ (Unit ⊕ Int))} (x y : List Int) (hx : limbs x) (hy : limbs y) (hl : x.length = y.length)
    (h : ∀ i : Nat, i < x.length → (r (i : Int)).run = some (if nth x i 0 < nth y i 0 then .inr (.inr (-1)) else if nth y i 0 < nth x i 0 then .inr (.inr 1) else .inl ((i : Int) - 1)))
    (h0 : (r (-1)).run = some (.inr (.inl ()))) : (T.loop r ((x.length : Int) - 1)).run = some (if nv x < nv y then .inr (-1) else if nv y < nv x then .inr 1 else .inl ()) := by
  have key : ∀ n : Nat, n ≤ x.length → (T.loop r ((n : Int) - 1)).run = some (if nv (x.take n) < nv (y.take n) then .inr (-1) else if nv (y.take n) < nv (x.take n) then .inr 1 else .inl ()) := by
    intro n
    induction n with
    | zero => intro _; simpa using T.loop_done h0
    | succ n ih =>
      intro hn
      have e1 : ((n + 1 : Nat) : Int) - 1 = (n : Int) := by omega
      rw [e1]
      have hr := h n (by omega)
      rw [nth_lm hx, nth_lm hy] at hr
      have a1 := nv_take_lt hx n
      have a2 := nv_take_lt hy n
      rw [nv_take_lm, nv_take_lm]
      rcases Nat.lt_trichotomy (lm x n) (lm y n) with c | c | c
      · have hm := Nat.mul_le_mul_left (4294967296 ^ n) (show lm x n + 1 ≤ lm y n by omega)
        rw [Nat.mul_add] at hm
        rw [if_pos (by omega)] at hr
        rw [if_pos (by omega)]
        exact T.loop_done hr
      · rw [if_neg (by omega), if_neg (by omega)] at hr
        rw [T.loop_step hr, ih (by omega), c]
        simp only [Nat.add_lt_add_iff_right]
      · have hm := Nat.mul_le_mul_left (4294967296 ^ n) (show lm y n + 1 ≤ lm x n by omega)
        rw [Nat.mul_add] at hm
        rw [if_neg (by omega), if_pos (by omega)] at hr
        rw [if_neg (by omega), if_pos (by omega)]
        exact T.loop_done hr
  have := key x.length (Nat.le_refl _)
  rw [List.take_length] at this
  rw [hl, List.take_length, ← hl] at this
  exact this
theorem len_lt_nv {A B : Nat} (h : (ofN A).length < (ofN B).length) : A < B := by
  have h1 := ofN_len_le.1 (Nat.le_refl (ofN A).length)
  have h2 := ofN_len_lt.1 h
  omega
end Go.AM.PL
