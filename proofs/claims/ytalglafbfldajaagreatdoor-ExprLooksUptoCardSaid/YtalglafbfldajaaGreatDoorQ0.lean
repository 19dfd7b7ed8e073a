/-
  Plain laws of the lifted program, part 0.
-/
import Derived.Test.YtalglafbfldajaaGreatDoorLf0
import Derived.Test.YtalglafbfldajaaGreatDoorAmA
import Derived.Test.YtalglafbfldajaaGreatDoorAmD
set_option linter.unusedVariables false
namespace Go.AM.PL
def ixF {α : Type} (p : α → Bool) (i : Int) : List α → Int
 | [] => -1
 | x :: r => if p x = true then i else ixF p (i + 1) r
theorem ixF_any {α : Type} (p : α → Bool) (l : List α) (i : Int) (h : 0 ≤ i) : decide (0 ≤ ixF p i l) = l.any p := by
 induction l generalizing i with
 | nil => rfl
 | cons x r ih =>
  simp only [ixF, List.any_cons]
  split
  ·rename_i hp; rw [hp]; simp [h]
  ·rename_i hp; rw [ih (i + 1) (by omega)]; simp [hp]
theorem ix_loop {α : Type} (l : List α) (d : α) (p : α → Bool) {r : Int → T (Int ⊕ (Unit ⊕ Int))}
  (h1 : ∀ i, 0 ≤ i → i < (l.length : Int) → p (nth l i d) = true → (r i).run = some (.inr (.inr i)))
  (h2 : ∀ i, 0 ≤ i → i < (l.length : Int) → p (nth l i d) = false → (r i).run = some (.inl (i + 1)))
  (h3 : ∀ i, ¬ i < (l.length : Int) → (r i).run = some (.inr (.inl ()))) : (T.loop r 0).run = some (if ixF p 0 l = -1 then .inl () else .inr (ixF p 0 l)) := by
 have := T.loop_run (r := r) (fun i => 0 ≤ i) (fun i => ((l.length : Int) - i).toNat) (fun i => if ixF p i (l.drop i.toNat) = -1 then .inl () else .inr (ixF p i (l.drop i.toNat))) (fun i h => ?_) (s := 0) (Int.le_refl 0)
 ·simpa using this
 ·by_cases hi : i < l.length
  ·rw [drop_get l d h hi]
   cases hp : p (nth l i d) with
   | true =>
    right
    have : ¬ i = -1 := by omega
    rw [h1 i h hi hp]
    simp [ixF, hp, this]
   | false =>
    left
    exact ⟨i + 1, h2 i h hi hp, by omega, by omega, by simp [ixF, hp]⟩
  ·right
   rw [drop_end _ hi, h3 i hi]
   rfl
theorem strEq_iff (a b : Str) : strEq a b = decide (a = b) := by
 unfold strEq
 by_cases h : a = b
 ·subst h; simp
 ·simp [h]
end Go.AM.PL
namespace Go.AM.Lf
open PL
theorem contains7_run (l : List Str) (v : Str) (hl : (l.length : Int) ≤ 4611686018427387904) : (slices_Contains_sl_string l v).run = some (l.any (strEq v)) := by
 have key : (slices_Index_sl_string_L0 l v (l.length : Int) 0).run = some (if ixF (strEq v) 0 l = -1 then .inl () else .inr (ixF (strEq v) 0 l)) := by
  refine ix_loop l (dflt .str) (strEq v) (fun i h hi hp => ?_) (fun i h hi hp => ?_) (fun i hi => ?_)
  ·simp (disch := omega) [slices_Index_sl_string_R0, hi, hp]
  ·simp (disch := omega) [slices_Index_sl_string_R0, hi, hp]
  ·simp [slices_Index_sl_string_R0, hi]
 have hx : (slices_Index_sl_string l v).run = some (ixF (strEq v) 0 l) := by
  unfold slices_Index_sl_string
  rw [T.run_bind_of key]
  split <;> rename_i h <;> simp [h]
 unfold slices_Contains_sl_string
 rw [T.run_bind_of hx, T.run_ret, ixF_any _ _ _ (Int.le_refl 0)]
mutual
def nmE : Expr → List Str → List Str
 | .mk k _ s l, acc => nmEs l (if k = 2 ∧ acc.any (strEq s) = false then acc ++ [s] else acc)
def nmEs : List Expr → List Str → List Str
 | [], acc => acc
 | e :: r, acc => nmEs r (nmE e acc)
end
mutual
def allE : Expr → List Str
 | .mk k _ s l => (if k = 2 then [s] else []) ++ allEs l
def allEs : List Expr → List Str
 | [] => []
 | e :: r => allE e ++ allEs r
end
mutual
theorem nmE_len : ∀ (e : Expr) (acc : List Str), (nmE e acc).length ≤ acc.length + bkE e
 | .mk k n s l, acc => by
  have := nmEs_len l (if k = 2 ∧ acc.any (strEq s) = false then acc ++ [s] else acc)
  have h2 : (if k = 2 ∧ acc.any (strEq s) = false then acc ++ [s] else acc).length ≤ acc.length + 1 := by split <;> simp
  simp only [nmE, bkE]
  omega
theorem nmEs_len : ∀ (l : List Expr) (acc : List Str), (nmEs l acc).length ≤ acc.length + bkEs l
 | [], acc => by simp [nmEs]
 | e :: r, acc => by
  have h1 := nmE_len e acc
  have h2 := nmEs_len r (nmE e acc)
  simp only [nmEs, bkEs]
  omega
end
theorem bkE_pos (e : Expr) : 1 ≤ bkE e := by cases e; simp only [bkE]; omega
theorem bkEs_mem {l : List Expr} {e : Expr} (h : e ∈ l) : bkE e ≤ bkEs l := by
 induction l with
 | nil => cases h
 | cons x r ih =>
  simp only [bkEs]
  rcases List.mem_cons.1 h with rfl | h
  ·omega
  ·have := ih h; omega
theorem bkEs_kids (e : Expr) : bkEs e.kids < bkE e := by cases e; simp only [Expr.kids, bkE]; omega
theorem bkEs_len (l : List Expr) : l.length ≤ bkEs l := by
 induction l with
 | nil => exact Nat.le_refl _
 | cons x r ih => have := bkE_pos x; simp only [bkEs, List.length_cons]; omega
theorem names_run (e : Expr) (l : List Str) (hb : l.length + bkE e ≤ 1000000000) : (expr_names_S e l).run = some (nmE e l) := by
 unfold expr_names_S
 refine T.fix_run (fun x : Expr × List Str => x.2.length + bkE x.1 ≤ 1000000000) (fun x => bkE x.1) (fun x => nmE x.1 x.2) (fun x hx g hg => ?_) (x := (e, l)) hb
 obtain ⟨e, l⟩ := x
 simp only at hx hg
 have hk := bkEs_kids e
 have hkl := bkEs_len e.kids
 have loop : ∀ acc : List Str, acc.length + bkEs e.kids ≤ 1000000000 → (expr_names_S_L0 (fun y0 y1 => g (y0, y1)) e.kids (e.kids.length : Int) (0, acc)).run = some (nmEs e.kids acc) := by
  intro acc hacc
  refine T.loop_list e.kids (dflt .expr) (fun b i => (i, b)) (fun b r => b.length + bkEs r ≤ 1000000000 ∧ ∀ x ∈ r, x ∈ e.kids) (fun r b => nmEs r b) ?_ ?_ ⟨hacc, fun x hx => hx⟩
  ·rintro b x xs i h0 hi hx ⟨h1, h2⟩
   simp only [bkEs] at h1
   have hm := bkEs_mem (h2 x List.mem_cons_self)
   have hl := nmE_len x b
   have hr := hg (x, b) (by simp only; omega) (by simp only; omega)
   refine .inl ⟨nmE x b, ?_, ⟨by omega, fun y hy => h2 y (List.mem_cons_of_mem _ hy)⟩, rfl⟩
   simp only at hr
   simp (disch := omega) [expr_names_S_R0, hi, hx, hr]
  ·rintro b _
   simp [expr_names_S_R0, nmEs]
 unfold expr_names_S_B
 cases e with | mk k n s kids =>
 simp only [Expr.kids, Expr.kind, Expr.name, bkE] at *
 have hc := contains7_run l s (by omega)
 by_cases hk2 : k = 2
 ·cases ha : l.any (strEq s) with
  | true =>
   have hL := loop l (by omega)
   simp (disch := omega) [hk2, hc, ha, hL, nmE]
  | false =>
   have hL := loop (l ++ [s]) (by simp; omega)
   simp (disch := omega) [hk2, hc, ha, hL, nmE]
 ·have hL := loop l (by omega)
  simp (disch := omega) [hk2, hL, nmE]
theorem namesN_run (e : Expr) (l : List Str) (hx : l.length + bkE e ≤ 1000000000) : (expr_names_SN e l).run = some (nmE e l) := by
 have hk := bkEs_kids e
 have hkl := bkEs_len e.kids
 have loop : ∀ acc : List Str, acc.length + bkEs e.kids ≤ 1000000000 → (expr_names_SN_L0 e.kids (e.kids.length : Int) (0, acc)).run = some (nmEs e.kids acc) := by
  intro acc hacc
  refine T.loop_list e.kids (dflt .expr) (fun b i => (i, b)) (fun b r => b.length + bkEs r ≤ 1000000000 ∧ ∀ x ∈ r, x ∈ e.kids) (fun r b => nmEs r b) ?_ ?_ ⟨hacc, fun x hx => hx⟩
  ·rintro b x xs i h0 hi hx ⟨h1, h2⟩
   simp only [bkEs] at h1
   have hm := bkEs_mem (h2 x List.mem_cons_self)
   have hl := nmE_len x b
   have hr := names_run x b (by omega)
   refine .inl ⟨nmE x b, ?_, ⟨by omega, fun y hy => h2 y (List.mem_cons_of_mem _ hy)⟩, rfl⟩
   simp (disch := omega) [expr_names_SN_R0, hi, hx, hr]
  ·rintro b _
   simp [expr_names_SN_R0, nmEs]
 unfold expr_names_SN
 cases e with | mk k n s kids =>
 simp only [Expr.kids, Expr.kind, Expr.name, bkE] at *
 have hc := contains7_run l s (by omega)
 by_cases hk2 : k = 2
 ·cases ha : l.any (strEq s) with
  | true =>
   have hL := loop l (by omega)
   simp (disch := omega) [hk2, hc, ha, hL, nmE]
  | false =>
   have hL := loop (l ++ [s]) (by simp; omega)
   simp (disch := omega) [hk2, hc, ha, hL, nmE]
 ·have hL := loop l (by omega)
  simp (disch := omega) [hk2, hL, nmE]
theorem Names_run (e : Expr) (hb : bkE e ≤ 1000000000) : (expr_Names e).run = some (nmE e []) := by
 have := namesN_run e [] (by simpa using hb)
 simp [expr_Names, this]
end Go.AM.Lf
namespace Go.AM.Lf
open PL
mutual
def wtE : Expr → Int → Int
 | .mk _ n s l, left => wtEs l (left - 3 - s.length - 8 * n.2.1.length - 8 * n.2.2.1.length)
def wtEs : List Expr → Int → Int
 | [], left => left
 | e :: r, left => if 0 ≤ left then wtEs r (wtE e left) else left
end
mutual
theorem wtE_le : ∀ (e : Expr) (left : Int), wtE e left ≤ left ∧ left - 16 * bkE e ≤ wtE e left
 | .mk _ n s l, left => by
  have := wtEs_le l (left - 3 - s.length - 8 * n.2.1.length - 8 * n.2.2.1.length)
  simp only [wtE, bkE]
  constructor <;> omega
theorem wtEs_le : ∀ (l : List Expr) (left : Int), wtEs l left ≤ left ∧ left - 16 * bkEs l ≤ wtEs l left
 | [], left => by simp [wtEs, bkEs]
 | e :: r, left => by
  have h1 := wtE_le e left
  have h2 := wtEs_le r (wtE e left)
  simp only [wtEs, bkEs]
  split <;> constructor <;> omega
end
theorem wtEs_neg (l : List Expr) (left : Int) (h : ¬ 0 ≤ left) : wtEs l left = left := by cases l <;> simp [wtEs, h]
end Go.AM.Lf
namespace Go.AM.PL
def nv : List Int → Nat
 | [] => 0
 | x :: l => x.toNat + 4294967296 * nv l
def limbs (l : List Int) : Prop := ∀ x ∈ l, 0 ≤ x ∧ x < 4294967296
def ofN (n : Nat) : List Int := if h : n = 0 then [] else ((n % 4294967296 : Nat) : Int) :: ofN (n / 4294967296)
termination_by n
decreasing_by omega
theorem ofN_zero : ofN 0 = [] := by rw [ofN]; rfl
theorem ofN_pos {n : Nat} (h : n ≠ 0) : ofN n = ((n % 4294967296 : Nat) : Int) :: ofN (n / 4294967296) := by rw [ofN, dif_neg h]
theorem limbs_nil : limbs [] := fun _ h => nomatch h
theorem limbs_cons {x : Int} {l : List Int} : limbs (x :: l) ↔ (0 ≤ x ∧ x < 4294967296) ∧ limbs l := by
 unfold limbs; simp [List.forall_mem_cons]
theorem limbs_append {a b : List Int} : limbs (a ++ b) ↔ limbs a ∧ limbs b := by
 unfold limbs; simp only [List.mem_append]
 exact ⟨fun h => ⟨fun x hx => h x (.inl hx), fun x hx => h x (.inr hx)⟩, fun h x hx => hx.elim (h.1 x) (h.2 x)⟩
theorem limbs_take {a : List Int} (h : limbs a) (n : Nat) : limbs (a.take n) := fun x hx => h x (List.mem_of_mem_take hx)
theorem limbs_drop {a : List Int} (h : limbs a) (n : Nat) : limbs (a.drop n) := fun x hx => h x (List.mem_of_mem_drop hx)
theorem limbs_replicate (n : Nat) : limbs (List.replicate n 0) := fun x hx => by
 have := (List.mem_replicate.1 hx).2; omega
theorem limbs_set {a : List Int} (h : limbs a) (i : Nat) {x : Int} (h0 : 0 ≤ x) (h1 : x < 4294967296) : limbs (a.set i x) := fun y hy => by
 rcases List.mem_or_eq_of_mem_set hy with h' | h'
 ·exact h y h'
 ·subst h'; exact ⟨h0, h1⟩
theorem limbs_nth {a : List Int} (h : limbs a) (i : Int) : 0 ≤ nth a i 0 ∧ nth a i 0 < 4294967296 := by
 unfold nth
 rw [List.getD_eq_getElem?_getD]
 cases hx : a[i.toNat]? with
 | none => simp
 | some x => exact h x (List.mem_of_getElem? hx)
theorem limbs_ofN (n : Nat) : limbs (ofN n) := by
 induction n using Nat.strongRecOn with
 | _ n ih =>
  by_cases h : n = 0
  ·subst h; rw [ofN_zero]; exact limbs_nil
  ·rw [ofN_pos h]
   exact limbs_cons.2 ⟨by omega, ih _ (by omega)⟩
@[simp] theorem nv_nil : nv [] = 0 := rfl
@[simp] theorem nv_cons (x : Int) (l : List Int) : nv (x :: l) = x.toNat + 4294967296 * nv l := rfl
@[simp] theorem nv_ofN (n : Nat) : nv (ofN n) = n := by
 induction n using Nat.strongRecOn with
 | _ n ih =>
  by_cases h : n = 0
  ·subst h; rw [ofN_zero]; rfl
  ·rw [ofN_pos h, nv_cons, ih _ (by omega)]; omega
theorem nv_append (a b : List Int) : nv (a ++ b) = nv a + 4294967296 ^ a.length * nv b := by
 induction a with
 | nil => simp
 | cons x a ih => simp only [List.cons_append, nv_cons, ih, List.length_cons, Nat.pow_succ, Nat.mul_add]; rw [← Nat.mul_assoc, Nat.mul_comm 4294967296 (4294967296 ^ a.length)]; omega
theorem nv_lt {l : List Int} (h : limbs l) : nv l < 4294967296 ^ l.length := by
 induction l with
 | nil => simp
 | cons x l ih =>
  have h' := limbs_cons.1 h
  have := ih h'.2
  simp only [nv_cons, List.length_cons, Nat.pow_succ]
  omega
@[simp] theorem nv_replicate (n : Nat) : nv (List.replicate n 0) = 0 := by
 induction n with
 | zero => rfl
 | succ n ih => simp [List.replicate_succ, ih]
def trimd (l : List Int) : Prop := ∀ x, l.getLast? = some x → x ≠ 0
theorem trimd_nil : trimd [] := fun _ h => nomatch h
theorem trimd_tail {x : Int} {l : List Int} (h : trimd (x :: l)) : trimd l := by
 cases l with
 | nil => exact trimd_nil
 | cons y l => intro z hz; exact h z (by simpa [List.getLast?_cons_cons] using hz)
theorem nv_pos {l : List Int} (h : limbs l) (ht : trimd l) (hn : l ≠ []) : nv l ≠ 0 := by
 induction l with
 | nil => exact absurd rfl hn
 | cons x l ih =>
  have h' := limbs_cons.1 h
  cases l with
  | nil =>
   have := ht x rfl
   simp; omega
  | cons y l =>
   have := ih h'.2 (trimd_tail ht) (by simp)
   rw [nv_cons]; omega
theorem ofN_nv {l : List Int} (h : limbs l) (ht : trimd l) : ofN (nv l) = l := by
 induction l with
 | nil => exact ofN_zero
 | cons x l ih =>
  have h' := limbs_cons.1 h
  have h1 := ih h'.2 (trimd_tail ht)
  rw [ofN_pos (nv_pos h ht (by simp)), nv_cons]
  have e1 : (x.toNat + 4294967296 * nv l) % 4294967296 = x.toNat := by omega
  have e2 : (x.toNat + 4294967296 * nv l) / 4294967296 = nv l := by omega
  rw [e1, e2, h1]
  congr 1; omega
theorem trimd_ofN (n : Nat) : trimd (ofN n) := by
 induction n using Nat.strongRecOn with
 | _ n ih =>
  by_cases h : n = 0
  ·subst h; rw [ofN_zero]; exact trimd_nil
  ·rw [ofN_pos h]
   intro x hx
   by_cases h2 : n / 4294967296 = 0
   ·rw [h2, ofN_zero] at hx
    simp at hx; omega
   ·have := ih (n / 4294967296) (by omega)
    have hne : ofN (n / 4294967296) ≠ [] := by rw [ofN_pos h2]; simp
    refine this x ?_
    rw [← hx]
    cases hc : ofN (n / 4294967296) with
    | nil => exact absurd hc hne
    | cons y l => rw [List.getLast?_cons_cons]
theorem ofN_eq_nil {n : Nat} : ofN n = [] ↔ n = 0 := by
 constructor
 ·intro h; rw [← nv_ofN n, h]; rfl
 ·rintro rfl; exact ofN_zero
theorem nv_append_zero (l : List Int) : nv (l ++ [0]) = nv l := by simp [nv_append]
theorem ofN_len_le {n k : Nat} : (ofN n).length ≤ k ↔ n < 4294967296 ^ k := by
 induction k generalizing n with
 | zero =>
  simp only [Nat.le_zero_eq, List.length_eq_zero_iff, ofN_eq_nil, Nat.pow_zero]; omega
 | succ k ih =>
  by_cases h : n = 0
  ·subst h; rw [ofN_zero]; simp [Nat.pow_pos]
  ·rw [ofN_pos h, List.length_cons, Nat.pow_succ, Nat.add_le_add_iff_right, ih]
   rw [Nat.div_lt_iff_lt_mul (by omega)]
theorem ofN_len_lt {n k : Nat} : k < (ofN n).length ↔ 4294967296 ^ k ≤ n := by
 have := ofN_len_le (n := n) (k := k); omega
theorem ofN_nv_len {l : List Int} (h : limbs l) : (ofN (nv l)).length ≤ l.length := ofN_len_le.2 (nv_lt h)
theorem nth_append_r {a b : List Int} (i : Int) (h : (a.length : Int) ≤ i) : nth (a ++ b) i 0 = nth b (i - a.length) 0 := by
 unfold nth
 rw [List.getD_eq_getElem?_getD, List.getD_eq_getElem?_getD, List.getElem?_append_right (by omega)]
 congr 2; omega
theorem take_succ_nth (a : List Int) (i : Nat) (h : i < a.length) : a.take (i + 1) = a.take i ++ [nth a i 0] := by
 rw [List.take_succ_eq_append_getElem h]; simp [nth, h]
theorem nv_take_succ {a : List Int} {i : Nat} (h : i < a.length) : nv (a.take (i + 1)) = nv (a.take i) + 4294967296 ^ i * (nth a i 0).toNat := by
 rw [take_succ_nth a i h, nv_append]
 have : (a.take i).length = i := by simp; omega
 simp [this]
theorem nv_split (a : List Int) (i : Nat) (h : i ≤ a.length) : nv a = nv (a.take i) + 4294967296 ^ i * nv (a.drop i) := by
 have := nv_append (a.take i) (a.drop i)
 rw [List.take_append_drop] at this
 rw [this]; congr 3; simp; omega
theorem nv_drop_nth {a : List Int} {i : Nat} (h : i < a.length) : nv (a.drop i) = (nth a i 0).toNat + 4294967296 * nv (a.drop (i + 1)) := by
 rw [List.drop_eq_getElem_cons h, nv_cons]; simp [nth, h, List.getD_eq_getElem?_getD]
theorem take_set_lt {α : Type} (a : List α) (i j : Nat) (x : α) (h : j ≤ i) : (a.set i x).take j = a.take j := by
 rw [List.take_set_of_le h]
theorem set_take_succ (a : List Int) (i : Nat) (x : Int) (h : i < a.length) : (a.set i x).take (i + 1) = a.take i ++ [x] := by
 rw [take_succ_nth _ _ (by simpa using h), List.take_set_of_le (Nat.le_refl _)]
 simp [nth, h]
theorem set_drop_succ (a : List Int) (i : Nat) (x : Int) : (a.set i x).drop (i + 1) = a.drop (i + 1) := by
 rw [List.drop_set_of_lt (by omega)]
end Go.AM.PL
namespace Go.AM.T
variable {σ ρ : Type}
theorem loop_post {r : σ → T (σ ⊕ ρ)} (I : σ → Prop) (μ : σ → Nat) (Q : ρ → Prop)
  (h : ∀ s, I s → (∃ s', (r s).run = some (.inl s') ∧ I s' ∧ μ s' < μ s) ∨ (∃ x, (r s).run = some (.inr x) ∧ Q x)) {s : σ} (hs : I s) : ∃ x, (loop r s).run = some x ∧ Q x := by
 generalize hm : μ s = m
 induction m using Nat.strongRecOn generalizing s with
 | _ m ih =>
  rcases h s hs with ⟨s', h1, h2, h3⟩ | ⟨x, h1, h2⟩
  ·rw [loop_step h1]
   exact ih (μ s') (by omega) h2 rfl
  ·exact ⟨x, loop_done h1, h2⟩
end Go.AM.T
namespace Go.AM.PL
def lm (a : List Int) (i : Nat) : Nat := (nth a (i : Int) 0).toNat
theorem lm_lt {a : List Int} (h : limbs a) (i : Nat) : lm a i < 4294967296 := by have := limbs_nth h i; unfold lm; omega
theorem nth_lm {a : List Int} (h : limbs a) (i : Nat) : nth a (i : Int) 0 = (lm a i : Int) := by have := limbs_nth h i; unfold lm; omega
theorem nthN_lm {a : List Int} (h : limbs a) (i : Nat) : nthN a i 0 = (lm a i : Int) := by have := nth_lm h i; unfold nth at this; unfold nthN; simpa using this
theorem lm_ge {a : List Int} {i : Nat} (h : a.length ≤ i) : lm a i = 0 := by
 unfold lm nth; simp [List.getD_eq_getElem?_getD, List.getElem?_eq_none h]
theorem nv_take_lm (a : List Int) (i : Nat) : nv (a.take (i + 1)) = nv (a.take i) + 4294967296 ^ i * lm a i := by
 by_cases h : i < a.length
 ·exact nv_take_succ h
 ·rw [lm_ge (by omega), List.take_of_length_le (by omega), List.take_of_length_le (by omega)]; simp
theorem nv_take_all {a : List Int} {i : Nat} (h : a.length ≤ i) : nv (a.take i) = nv a := by rw [List.take_of_length_le h]
theorem nv_take_le (a : List Int) (i : Nat) : nv (a.take i) ≤ nv a := by
 have := nv_append (a.take i) (a.drop i)
 rw [List.take_append_drop] at this; omega
theorem lm_set {a : List Int} {i j : Nat} {x : Int} (h : i < a.length) : lm (a.set i x) j = if i = j then x.toNat else lm a j := by
 unfold lm nth
 simp only [Int.toNat_natCast, List.getD_eq_getElem?_getD, List.getElem?_set]
 by_cases e : i = j
 ·subst e; simp [h]
 ·simp [e]
theorem nv_set {a : List Int} {i : Nat} (x : Int) (h : i < a.length) : nv (a.set i x) + 4294967296 ^ i * lm a i = nv a + 4294967296 ^ i * x.toNat := by
 have h1 := nv_split (a.set i x) (i + 1) (by simp; omega)
 have h2 := nv_split a (i + 1) (by omega)
 rw [set_drop_succ, set_take_succ a i x h, nv_append] at h1
 rw [nv_take_lm] at h2
 have h3 : (a.take i).length = i := by simp; omega
 rw [h3] at h1
 simp only [nv_cons, nv_nil, Nat.mul_zero, Nat.add_zero] at h1
 omega
theorem nv_set_take {a : List Int} {i : Nat} (x : Int) (h : i < a.length) : nv ((a.set i x).take (i + 1)) = nv (a.take i) + 4294967296 ^ i * x.toNat := by
 rw [set_take_succ a i x h, nv_append]
 have h3 : (a.take i).length = i := by simp; omega
 rw [h3]; simp
theorem pow_pos' (i : Nat) : 0 < 4294967296 ^ i := Nat.pow_pos (by omega)
theorem nv_take_lt {a : List Int} (h : limbs a) (i : Nat) : nv (a.take i) < 4294967296 ^ i := by
 have := nv_lt (limbs_take h i)
 have h2 : (4294967296 : Nat) ^ (a.take i).length ≤ 4294967296 ^ i := Nat.pow_le_pow_right (by omega) (by simp; omega)
 omega
def cmpI (a b : Nat) : Int := if a < b then -1 else if b < a then 1 else 0
theorem cmp_loop {r : Int → T (Int ⊕ (Unit ⊕ Int))} (x y : List Int) (hx : limbs x) (hy : limbs y) (hl : x.length = y.length)
  (h : ∀ i : Nat, i < x.length → (r (i : Int)).run = some (if nth x i 0 < nth y i 0 then .inr (.inr (-1)) else if nth y i 0 < nth x i 0 then .inr (.inr 1) else .inl ((i : Int) - 1)))
  (h0 : (r (-1)).run = some (.inr (.inl ()))) : (T.loop r ((x.length : Int) - 1)).run = some (if nv x < nv y then .inr (-1) else if nv y < nv x then .inr 1 else .inl ()) := by
 have key : ∀ n : Nat, n ≤ x.length → (T.loop r ((n : Int) - 1)).run = some (if nv (x.take n) < nv (y.take n) then .inr (-1) else if nv (y.take n) < nv (x.take n) then .inr 1 else .inl ()) := by
  intro n
  induction n with
  | zero => intro _; simpa using T.loop_done h0
  | succ n ih =>
   intro hn
   have e1 : ((n + 1 : Nat) : Int) - 1 = (n : Int) := by omega
   rw [e1]
   have hr := h n (by omega)
   rw [nth_lm hx, nth_lm hy] at hr
   have a1 := nv_take_lt hx n
   have a2 := nv_take_lt hy n
   rw [nv_take_lm, nv_take_lm]
   rcases Nat.lt_trichotomy (lm x n) (lm y n) with c | c | c
   ·have hm := Nat.mul_le_mul_left (4294967296 ^ n) (show lm x n + 1 ≤ lm y n by omega)
    rw [Nat.mul_add] at hm
    rw [if_pos (by omega)] at hr
    rw [if_pos (by omega)]
    exact T.loop_done hr
   ·rw [if_neg (by omega), if_neg (by omega)] at hr
    rw [T.loop_step hr, ih (by omega), c]
    simp only [Nat.add_lt_add_iff_right]
   ·have hm := Nat.mul_le_mul_left (4294967296 ^ n) (show lm y n + 1 ≤ lm x n by omega)
    rw [Nat.mul_add] at hm
    rw [if_neg (by omega), if_pos (by omega)] at hr
    rw [if_neg (by omega), if_pos (by omega)]
    exact T.loop_done hr
 have := key x.length (Nat.le_refl _)
 rw [List.take_length] at this
 rw [hl, List.take_length, ← hl] at this
 exact this
theorem len_lt_nv {A B : Nat} (h : (ofN A).length < (ofN B).length) : A < B := by
 have h1 := ofN_len_le.1 (Nat.le_refl (ofN A).length)
 have h2 := ofN_len_lt.1 h
 omega
end Go.AM.PL
namespace Go.AM.PL
theorem distr1 (q a b c : Nat) : q * (a * c + b) = (q * a) * c + q * b := by grind
theorem distr2 (a b : Nat) : (a + 1) * b = a * b + b := by grind
theorem distr3 (a b c : Nat) : (a + b) * c = a * c + b * c := by grind
theorem guess_up {u2 u1 u0 v1 v2 q r : Nat} (hr : q * v1 + r = u2 * 4294967296 + u1) (h : q * v2 ≤ r * 4294967296 + u0) :
  q * (v1 * 4294967296 + v2) ≤ u2 * 18446744073709551616 + u1 * 4294967296 + u0 := by
 rw [distr1]
 generalize q * v1 = x at *
 generalize q * v2 = y at *
 omega
theorem guess_dn {u2 u1 u0 v1 v2 q r : Nat} (hr : q * v1 + r = u2 * 4294967296 + u1) (h : r * 4294967296 + u0 < q * v2) :
  u2 * 18446744073709551616 + u1 * 4294967296 + u0 < q * (v1 * 4294967296 + v2) := by
 rw [distr1]
 generalize q * v1 = x at *
 generalize q * v2 = y at *
 grind
theorem guess_gt {U V q : Nat} (hV : 0 < V) (h : U < q * V) : U / V < q := (Nat.div_lt_iff_lt_mul hV).2 h
theorem guess_init {u2 u1 u0 v1 v2 : Nat} (hv : 0 < v1) (hu0 : u0 < 4294967296) : (u2 * 18446744073709551616 + u1 * 4294967296 + u0) / (v1 * 4294967296 + v2) ≤ (u2 * 4294967296 + u1) / v1 := by
 rw [Nat.le_div_iff_mul_le hv]
 have h := Nat.div_mul_le_self (u2 * 18446744073709551616 + u1 * 4294967296 + u0) (v1 * 4294967296 + v2)
 generalize (u2 * 18446744073709551616 + u1 * 4294967296 + u0) / (v1 * 4294967296 + v2) = q at *
 have e := distr1 q v1 v2 4294967296
 rw [e] at h; omega
theorem guess_top {u2 u1 u0 v1 v2 : Nat} (hv : 2147483648 ≤ v1) (hv2 : v2 < 4294967296) (h : u2 * 18446744073709551616 + u1 * 4294967296 + u0 < (v1 * 4294967296 + v2 + 1) * 4294967296) :
  (u2 * 4294967296 + u1) ≤ v1 * 4294967296 + v2 ∧ (u2 * 4294967296 + u1) / v1 ≤ 4294967297 := by
 have h1 : u2 * 4294967296 + u1 ≤ v1 * 4294967296 + v2 := by omega
 refine ⟨h1, ?_⟩
 rw [Nat.div_le_iff_le_mul (by omega)]
 omega
theorem guess_q {U V D U3 V2 X Y q : Nat} (hU : U = U3 * D + X) (hX : X < D) (hV : V = V2 * D + Y) (hY : Y < D) (hVt : 2147483648 * 4294967296 ≤ V2) (hUV : U < V * 4294967296) (hq : q = min (U3 / V2) 4294967295) :
  U / V ≤ q ∧ q ≤ U / V + 1 := by
 have hD : 0 < D := by omega
 have hV2 : 0 < V2 := by omega
 have hVp : 0 < V := by rw [hV]; have := Nat.mul_pos hV2 hD; omega
 constructor
 ·rw [hq, Nat.le_min]
  constructor
  ·rw [Nat.le_div_iff_mul_le hV2]
   have h := Nat.div_mul_le_self U V
   generalize U / V = z at *
   rw [hV, hU] at h
   have e := distr1 z V2 Y D
   rw [e] at h
   have h2 : (z * V2) * D < (U3 + 1) * D := by 
    rw [distr2]
    generalize z * V2 * D = m at *
    generalize z * Y = m2 at *
    omega
   exact Nat.lt_succ_iff.1 (Nat.lt_of_mul_lt_mul_right h2)
  ·have : U / V < 4294967296 := (Nat.div_lt_iff_lt_mul hVp).2 (by rw [Nat.mul_comm]; exact hUV)
   omega
 ·have h3 : q ≤ U3 / V2 := by omega
  have h4 : q ≤ 4294967295 := by omega
  have h5 : q * V2 ≤ U3 := (Nat.le_div_iff_mul_le hV2).1 h3
  cases q with
  | zero => exact Nat.zero_le _
  | succ q =>
   have : q ≤ U / V := by
    rw [Nat.le_div_iff_mul_le hVp, hV, hU]
    have e := distr1 q V2 Y D
    have e2 := distr2 q V2
    have h6 : (q * V2 + V2) * D ≤ U3 * D := Nat.mul_le_mul_right D (by omega)
    have e3 := distr3 (q * V2) V2 D
    have h7 : q * Y ≤ 4294967295 * D := Nat.mul_le_mul (by omega) (by omega)
    have h8 : 4294967295 * D ≤ V2 * D := Nat.mul_le_mul_right D (by omega)
    rw [e]; omega
   omega
end Go.AM.PL
namespace Go.AM.PL
theorem wrap_u64_nat (n : Nat) (h : n < 18446744073709551616) : IntKind.wrap .u64 (n : Int) = n := wu64_in (by omega) (by omega)
theorem wrap_u32_nat (n : Nat) (h : n < 4294967296) : IntKind.wrap .u32 (n : Int) = n := wu32_in (by omega) (by omega)
theorem wu64n {n : Nat} (h : n < 18446744073709551616) : wu64 (n : Int) = n := wu64_in (by omega) (by omega)
theorem wu32n {n : Nat} (h : n < 4294967296) : wu32 (n : Int) = n := wu32_in (by omega) (by omega)
theorem limbs_setN {a : List Int} (h : limbs a) (i : Nat) {n : Nat} (h1 : n < 4294967296) : limbs (a.set i (n : Int)) := limbs_set h i (by omega) (by omega)
theorem andI_u32 {x y : Nat} (hx : x < 4294967296) (hy : y < 4294967296) : andI .u32 (x : Int) (y : Int) = ((x &&& y : Nat) : Int) := by
 show IntKind.wrap .u32 (((BitVec.ofInt 32 (x : Int) &&& BitVec.ofInt 32 (y : Int)).toNat : Nat) : Int) = _
 have e : (BitVec.ofInt 32 (x : Int) &&& BitVec.ofInt 32 (y : Int)).toNat = x &&& y := by
  simp [BitVec.ofInt_natCast, Nat.mod_eq_of_lt hx, Nat.mod_eq_of_lt hy]
 rw [e]
 exact wrap_u32_nat _ (Nat.lt_of_le_of_lt Nat.and_le_left hx)
theorem orI_u32 {x y : Nat} (hx : x < 4294967296) (hy : y < 4294967296) : orI .u32 (x : Int) (y : Int) = ((x ||| y : Nat) : Int) := by
 show IntKind.wrap .u32 (((BitVec.ofInt 32 (x : Int) ||| BitVec.ofInt 32 (y : Int)).toNat : Nat) : Int) = _
 have e : (BitVec.ofInt 32 (x : Int) ||| BitVec.ofInt 32 (y : Int)).toNat = x ||| y := by
  simp [BitVec.ofInt_natCast, Nat.mod_eq_of_lt hx, Nat.mod_eq_of_lt hy]
 rw [e]
 exact wrap_u32_nat _ (Nat.or_lt_two_pow (n := 32) hx hy)
theorem xorI_u32 {x y : Nat} (hx : x < 4294967296) (hy : y < 4294967296) : xorI .u32 (x : Int) (y : Int) = ((x ^^^ y : Nat) : Int) := by
 show IntKind.wrap .u32 (((BitVec.ofInt 32 (x : Int) ^^^ BitVec.ofInt 32 (y : Int)).toNat : Nat) : Int) = _
 have e : (BitVec.ofInt 32 (x : Int) ^^^ BitVec.ofInt 32 (y : Int)).toNat = x ^^^ y := by
  simp [BitVec.ofInt_natCast, Nat.mod_eq_of_lt hx, Nat.mod_eq_of_lt hy]
 rw [e]
 exact wrap_u32_nat _ (Nat.xor_lt_two_pow (n := 32) hx hy)
theorem orI_u64 {x y : Nat} (hx : x < 18446744073709551616) (hy : y < 18446744073709551616) : orI .u64 (x : Int) (y : Int) = ((x ||| y : Nat) : Int) := by
 show IntKind.wrap .u64 (((BitVec.ofInt 64 (x : Int) ||| BitVec.ofInt 64 (y : Int)).toNat : Nat) : Int) = _
 have e : (BitVec.ofInt 64 (x : Int) ||| BitVec.ofInt 64 (y : Int)).toNat = x ||| y := by
  simp [BitVec.ofInt_natCast, Nat.mod_eq_of_lt hx, Nat.mod_eq_of_lt hy]
 rw [e]
 exact wrap_u64_nat _ (Nat.or_lt_two_pow (n := 64) hx hy)
theorem or_add (x y m : Nat) (hy : y < 2 ^ m) : x * 2 ^ m ||| y = x * 2 ^ m + y := by
 have := Nat.shiftLeft_add_eq_or_of_lt hy x
 rw [Nat.shiftLeft_eq] at this
 exact this.symm
theorem shl32 {x : Int} (h0 : 0 ≤ x) (h1 : x < 4294967296) : shlI .u64 x 32 = x * 4294967296 := by
 have e : shlI .u64 x 32 = wu64 (x * 4294967296) := rfl
 rw [e, wu64_in (by omega) (by omega)]
theorem hilo {x y : Int} (h0 : 0 ≤ x) (h1 : x < 4294967296) (h2 : 0 ≤ y) (h3 : y < 4294967296) : orI .u64 (shlI .u64 x 32) (wu64 y) = x * 4294967296 + y := by
 rw [shl32 h0 h1, wu64_in h2 (by omega)]
 obtain ⟨a, rfl⟩ := Int.eq_ofNat_of_zero_le h0
 obtain ⟨b, rfl⟩ := Int.eq_ofNat_of_zero_le h2
 have e := orI_u64 (x := a * 4294967296) (y := b) (by omega) (by omega)
 rw [or_add a b 32 (by simpa using by omega)] at e
 simpa using e
theorem hilo2 {x y : Int} (h0 : 0 ≤ x) (h1 : x < 4294967296) (h2 : 0 ≤ y) (h3 : y < 4294967296) : orI .u64 (shlI .u64 x 32) y = x * 4294967296 + y := by
 have := hilo h0 h1 h2 h3
 rwa [wu64_in h2 (by omega)] at this
theorem shr32 {x : Int} (h0 : 0 ≤ x) : shrI .u64 x 32 = x / 4294967296 := by
 show Int.fdiv x 4294967296 = _
 rw [Int.fdiv_eq_ediv_of_nonneg _ (by omega)]
theorem tdiv_pos {x y : Int} (h : 0 ≤ x) : Int.tdiv x y = x / y := Int.tdiv_eq_ediv_of_nonneg h
theorem tmod_pos {x y : Int} (h : 0 ≤ x) : Int.tmod x y = x % y := Int.tmod_eq_emod_of_nonneg h
theorem bit31 {v : Nat} (h : v < 4294967296) : v / 2147483648 = if v.testBit 31 = true then 1 else 0 := by
 have e : v.testBit 31 = decide (v / 2 ^ 31 % 2 = 1) := by rw [Nat.testBit_eq_decide_div_mod_eq]
 rw [e]
 by_cases h2 : v < 2147483648
 ·have : v / 2147483648 = 0 := by omega
  simp [this]
 ·have : v / 2147483648 = 1 := by omega
  simp [this]
theorem bit31' {v : Nat} (h : v < 4294967296) : v.testBit 31 = decide (2147483648 ≤ v) := by
 rw [Nat.testBit_eq_decide_div_mod_eq]
 by_cases h2 : v < 2147483648
 ·have : v / 2 ^ 31 = 0 := by omega
  simp [this]; omega
 ·have : v / 2 ^ 31 = 1 := by omega
  simp [this]; omega
theorem sub32 {x y b : Nat} (hx : x < 4294967296) (hy : y < 4294967296) (hb : b ≤ 1) :
  wu32 (wu32 ((x : Int) - y) - b) = (((x + 4294967296 * (if x < y + b then 1 else 0)) - y - b : Nat) : Int) := by
 rw [wu32_mod, wu32_mod]
 split <;> omega
theorem borrow32 {x y b d : Nat} (hx : x < 4294967296) (hy : y < 4294967296) (hb : b ≤ 1) (hd : d = (x + 4294967296 * (if x < y + b then 1 else 0)) - y - b) :
  shrI .u32 (orI .u32 (andI .u32 (xorI .u32 (4294967295 : Int) x) y) (andI .u32 (xorI .u32 (4294967295 : Int) (xorI .u32 x y)) (d : Int))) 31 = if x < y + b then 1 else 0 := by
 have hdl : d < 4294967296 := by rw [hd]; split <;> omega
 have e1 := xorI_u32 (x := 4294967295) (y := x) (by omega) hx
 have h1 : 4294967295 ^^^ x < 4294967296 := Nat.xor_lt_two_pow (n := 32) (by omega) hx
 have e2 := andI_u32 h1 hy
 have h2 : (4294967295 ^^^ x) &&& y < 4294967296 := Nat.lt_of_le_of_lt Nat.and_le_left h1
 have e3 := xorI_u32 hx hy
 have h3 : x ^^^ y < 4294967296 := Nat.xor_lt_two_pow (n := 32) hx hy
 have e4 := xorI_u32 (x := 4294967295) (y := x ^^^ y) (by omega) h3
 have h4 : 4294967295 ^^^ (x ^^^ y) < 4294967296 := Nat.xor_lt_two_pow (n := 32) (by omega) h3
 have e5 := andI_u32 h4 hdl
 have h5 : (4294967295 ^^^ (x ^^^ y)) &&& d < 4294967296 := Nat.lt_of_le_of_lt Nat.and_le_left h4
 have e6 := orI_u32 h2 h5
 have h6 := Nat.or_lt_two_pow (n := 32) h2 h5
 have ec : (4294967295 : Int) = ((4294967295 : Nat) : Int) := rfl
 rw [ec, e1, e2, e3, e4, e5, e6]
 show Int.fdiv _ 2147483648 = _
 rw [Int.fdiv_eq_ediv_of_nonneg _ (by omega)]
 have e7 := bit31 h6
 have e8 : (((((4294967295 ^^^ x) &&& y) ||| ((4294967295 ^^^ (x ^^^ y)) &&& d) : Nat) : Int)) / 2147483648 = (((((4294967295 ^^^ x) &&& y) ||| ((4294967295 ^^^ (x ^^^ y)) &&& d)) / 2147483648 : Nat) : Int) := by omega
 rw [e8, e7]
 have t1 : (4294967295 : Nat).testBit 31 = true := by decide
 simp only [Nat.testBit_or, Nat.testBit_and, Nat.testBit_xor, t1, bit31' hx, bit31' hy, bit31' hdl]
 by_cases c : x < y + b
 ·rw [if_pos c] at hd ⊢
  by_cases p : 2147483648 ≤ x <;> by_cases q : 2147483648 ≤ y <;> by_cases r : 2147483648 ≤ d <;> simp [p, q, r] <;> omega
 ·rw [if_neg c] at hd ⊢
  by_cases p : 2147483648 ≤ x <;> by_cases q : 2147483648 ≤ y <;> by_cases r : 2147483648 ≤ d <;> simp [p, q, r] <;> omega
end Go.AM.PL
namespace Go.AM.Lf
open PL
@[simp] theorem dflt_u32 : dflt (.int .u32) = (0 : Int) := rfl
theorem nth_last (l : List Int) (x : Int) : nth (l ++ [x]) ((l ++ [x]).length - 1 : Int) 0 = x := by
 rw [nth_append_r _ (by simp)]; simp [nth]
theorem trim_run (a : List Int) (h : limbs a) (hl : a.length ≤ 4000000000) : (nat_trim a).run = some (ofN (nv a)) := by
 have key : (nat_trim_L0 a).run = some (ofN (nv a)) := by
  unfold nat_trim_L0
  refine T.loop_run (fun a => limbs a ∧ a.length ≤ 4000000000) (fun a => a.length) (fun a => ofN (nv a)) ?_ ⟨h, hl⟩
  rintro s ⟨h1, h2⟩
  rcases List.eq_nil_or_concat s with rfl | ⟨l, x, rfl⟩
  ·right; simp [nat_trim_R0, nat_Is, ofN_zero]
  ·rw [List.concat_eq_append] at *
   have hx := nth_last l x
   have hlen : (l ++ [x]).length = l.length + 1 := by simp
   have hw : w64 (((l ++ [x]).length : Int) - 1) = ((l ++ [x]).length : Int) - 1 := w64_in (by omega) (by omega)
   have hIs : (nat_Is (l ++ [x])).run = some (x != 0) := by
    unfold nat_Is
    rw [T.run_obl]
    ·simp only [hw, dflt_u32, hx, T.run_ret]
     congr 1
     have : (((l ++ [x]).length : Int) == 0) = false := by simp; omega
     rw [this]; rfl
    ·intro _; rw [hw]; exact ⟨by omega, by omega⟩
   unfold nat_trim_R0
   rw [T.run_bind_of hIs]
   by_cases hx0 : x = 0
   ·left
    subst hx0
    refine ⟨l, ?_, ⟨(limbs_append.1 h1).1, by omega⟩, by omega, by rw [nv_append_zero]⟩
    have hc : cutL (e := .int .u32) 0 (((l ++ [(0 : Int)]).length : Int) - 1) (l ++ [0]) = l := by
     unfold cutL; simp
    rw [hw, hc]
    simp only [bne_self_eq_false, Bool.not_false, T.run_ite_true]
    rw [T.run_sl _ (by omega) (by omega) (by omega), T.run_ret]
   ·right
    have hb : (x != 0) = true := by simpa using hx0
    rw [hb]
    simp only [Bool.not_true, T.run_ite_false, T.run_ret]
    rw [ofN_nv h1]
    intro y hy
    simp at hy; omega
 unfold nat_trim
 rw [T.run_bind_of key, T.run_ret]
theorem clone_run (a : List Int) (hl : a.length ≤ 4000000000) : (slices_Clone_sl_uint32 a).run = some a := by
 unfold slices_Clone_sl_uint32
 rw [T.run_obl]
 ·cases a with
  | nil => simp
  | cons x a => simp only [List.length_cons] at hl; simp (disch := omega)
 ·rintro rfl r hr
  first
  | simpa [T.leads] using hr
  | (obtain ⟨_, _, hr⟩ := hr; simpa [T.leads] using hr)
theorem Trim_run (a : List Int) (h : limbs a) (hl : a.length ≤ 4000000000) : (nat_Trim a).run = some (ofN (nv a)) := by
 unfold nat_Trim
 rw [T.run_bind_of (trim_run a h hl), T.run_bind_of (clone_run _ (Nat.le_trans (ofN_nv_len h) hl)), T.run_ret]
theorem rTrim_run (a : List Int) (h : limbs a) (hl : a.length ≤ 4000000000) : (ref1_Trim a).run = some (ofN (nv a)) := by
 have key : ∀ n : Nat, n ≤ a.length → nv (a.take n) = nv a → (ref1_Trim_L0 a (n : Int)).run = some ((ofN (nv a)).length : Int) ∧ (ofN (nv a)) = a.take (ofN (nv a)).length := by
  intro n
  induction n with
  | zero =>
   intro _ hn
   have h0 : nv a = 0 := by rw [← hn]; rfl
   rw [h0, ofN_zero]
   refine ⟨T.loop_done ?_, rfl⟩
   simp [ref1_Trim_R0]
  | succ n ih =>
   intro hle hn
   have e1 : w64 (((n + 1 : Nat) : Int) - 1) = (n : Int) := by rw [w64_in (by omega) (by omega)]; omega
   by_cases hx : nth a (n : Int) 0 = 0
   ·have h2 : nv (a.take n) = nv a := by rw [← hn, nv_take_succ (by omega), hx]; simp
    obtain ⟨g1, g2⟩ := ih (by omega) h2
    refine ⟨?_, g2⟩
    rw [← g1]
    refine T.loop_step ?_
    unfold ref1_Trim_R0
    simp only [e1, dflt_u32, hx]
    rw [T.run_obl (fun _ => ⟨by omega, by omega⟩)]
    simp
   ·have ht : trimd (a.take (n + 1)) := by
     rw [take_succ_nth _ _ (by omega)]
     intro y hy; simp at hy; rw [← hy]; exact hx
    have he := ofN_nv (limbs_take h (n + 1)) ht
    rw [hn] at he
    have hlen : (ofN (nv a)).length = n + 1 := by rw [he]; simp; omega
    rw [hlen]
    refine ⟨T.loop_done ?_, he⟩
    unfold ref1_Trim_R0
    simp only [e1, dflt_u32]
    rw [T.run_obl (fun _ => ⟨by omega, by omega⟩)]
    simp [hx]
 obtain ⟨g1, g2⟩ := key a.length (Nat.le_refl _) (by simp)
 have hle := ofN_nv_len h
 unfold ref1_Trim
 rw [T.run_bind_of g1]
 have hc : cutL (e := .int .u32) 0 ((ofN (nv a)).length : Int) a = ofN (nv a) := by
  unfold cutL; simp only [Int.toNat_natCast, Int.toNat_zero, List.drop_zero]; exact g2.symm
 simp only [hc]
 rw [T.run_sl _ (by omega) (by omega) (by omega)]
 cases hz : ofN (nv a) with
 | nil => simp
 | cons x l =>
  rw [hz] at hle
  simp only [List.length_cons] at hle
  simp (disch := omega)
end Go.AM.Lf
namespace Go.AM.Lf
open PL
theorem nat_Of_run (n : Nat) (h : n < 18446744073709551616) : (nat_Of (n : Int)).run = some (ofN n) := by
 have e2 : wu32 (shrI .u64 (n : Int) 32) = ((n / 4294967296 : Nat) : Int) := by rw [shr32 (by omega), wu32_mod]; omega
 have e1 : wu32 (n : Int) = ((n % 4294967296 : Nat) : Int) := by rw [wu32_mod]; omega
 have h1 : limbs [((n % 4294967296 : Nat) : Int), ((n / 4294967296 : Nat) : Int)] := by
  intro x hx; simp only [List.mem_cons, List.not_mem_nil, or_false] at hx; rcases hx with rfl | rfl <;> omega
 have h2 := trim_run _ h1 (by simp)
 have h3 : nv [((n % 4294967296 : Nat) : Int), ((n / 4294967296 : Nat) : Int)] = n := by simp only [nv_cons, nv_nil]; omega
 unfold nat_Of
 rw [T.run_leI _ (by omega), e1, e2, T.run_bind_of h2, h3, T.run_ret]
theorem ref1_Of_run (n : Nat) (h : n < 18446744073709551616) : (ref1_Of (n : Int)).run = some (ofN n) := by
 have e2 : wu32 (shrI .u64 (n : Int) 32) = ((n / 4294967296 : Nat) : Int) := by rw [shr32 (by omega), wu32_mod]; omega
 have e1 : wu32 (n : Int) = ((n % 4294967296 : Nat) : Int) := by rw [wu32_mod]; omega
 have h1 : limbs [((n % 4294967296 : Nat) : Int), ((n / 4294967296 : Nat) : Int)] := by
  intro x hx; simp only [List.mem_cons, List.not_mem_nil, or_false] at hx; rcases hx with rfl | rfl <;> omega
 have h2 := rTrim_run _ h1 (by simp)
 have h3 : nv [((n % 4294967296 : Nat) : Int), ((n / 4294967296 : Nat) : Int)] = n := by simp only [nv_cons, nv_nil]; omega
 unfold ref1_Of
 rw [T.run_leI _ (by omega), e1, e2, T.run_bind_of h2, h3, T.run_ret]
theorem nat_Cmp_run (a b : List Int) (ha : limbs a) (hb : limbs b) (la : a.length ≤ 1000000000) (lb : b.length ≤ 1000000000) : (nat_Cmp a b).run = some (cmpI (nv a) (nv b)) := by
 unfold nat_Cmp
 rw [T.run_bind_of (trim_run a ha (by omega)), T.run_bind_of (trim_run b hb (by omega))]
 have qa := ofN_nv_len ha
 have qb := ofN_nv_len hb
 generalize nv a = A at *
 generalize nv b = B at *
 by_cases hl : (ofN A).length = (ofN B).length
 ·rw [hl, bne_self_eq_false, T.run_ite_false]
  have key := cmp_loop (r := nat_Cmp_R0 (ofN A) (ofN B)) (ofN A) (ofN B) (limbs_ofN A) (limbs_ofN B) hl (fun i hi => ?_) ?_
  ·rw [← hl, w64_in (by omega) (by omega)]
   unfold nat_Cmp_L0
   rw [T.run_bind_of key, nv_ofN, nv_ofN]
   unfold cmpI
   by_cases p : A < B
   ·simp [p]
   ·by_cases q : B < A <;> simp [p, q]
  ·have e : w64 ((i : Int) - 1) = (i : Int) - 1 := w64_in (by omega) (by omega)
   unfold nat_Cmp_R0
   have hi' : i < (ofN B).length := by omega
   have x1 := nth_lm (limbs_ofN A) i
   have x2 := nth_lm (limbs_ofN B) i
   rcases Nat.lt_trichotomy (lm (ofN A) i) (lm (ofN B) i) with c | c | c
   ·have c2 : ¬ (lm (ofN A) i = lm (ofN B) i) := by omega
    simp (disch := omega) [e, x1, x2, c, c2, hi, hi'] <;> omega
   ·simp (disch := omega) [e, x1, x2, c, hi, hi']
   ·have c2 : ¬ (lm (ofN A) i = lm (ofN B) i) := by omega
    have c3 : ¬ (lm (ofN A) i < lm (ofN B) i) := by omega
    simp (disch := omega) [e, x1, x2, c, c2, c3, hi, hi'] <;> omega
  ·simp [nat_Cmp_R0]
 ·rw [T.run_ite_t (by simp; omega)]
  unfold cmpI
  by_cases c : (ofN A).length < (ofN B).length
  ·have := len_lt_nv c
   simp [c, this]
  ·have h2 := len_lt_nv (show (ofN B).length < (ofN A).length by omega)
   have h3 : ¬ A < B := by omega
   simp [c, h2, h3]
theorem ref1_Cmp_run (a b : List Int) (ha : limbs a) (hb : limbs b) (la : a.length ≤ 1000000000) (lb : b.length ≤ 1000000000) : (ref1_Cmp a b).run = some (cmpI (nv a) (nv b)) := by
 unfold ref1_Cmp
 rw [T.run_bind_of (rTrim_run a ha (by omega)), T.run_bind_of (rTrim_run b hb (by omega))]
 have qa := ofN_nv_len ha
 have qb := ofN_nv_len hb
 generalize nv a = A at *
 generalize nv b = B at *
 by_cases hl : (ofN A).length = (ofN B).length
 ·rw [hl, bne_self_eq_false, T.run_ite_false]
  have key := cmp_loop (r := ref1_Cmp_R0 (ofN A) (ofN B)) (ofN A) (ofN B) (limbs_ofN A) (limbs_ofN B) hl (fun i hi => ?_) ?_
  ·rw [← hl, w64_in (by omega) (by omega)]
   unfold ref1_Cmp_L0
   rw [T.run_bind_of key, nv_ofN, nv_ofN]
   unfold cmpI
   by_cases p : A < B
   ·simp [p]
   ·by_cases q : B < A <;> simp [p, q]
  ·have e : w64 ((i : Int) - 1) = (i : Int) - 1 := w64_in (by omega) (by omega)
   unfold ref1_Cmp_R0
   have hi' : i < (ofN B).length := by omega
   have x1 := nth_lm (limbs_ofN A) i
   have x2 := nth_lm (limbs_ofN B) i
   rcases Nat.lt_trichotomy (lm (ofN A) i) (lm (ofN B) i) with c | c | c
   ·have c2 : ¬ (lm (ofN A) i = lm (ofN B) i) := by omega
    simp (disch := omega) [e, x1, x2, c, c2, hi, hi'] <;> omega
   ·simp (disch := omega) [e, x1, x2, c, hi, hi']
   ·have c2 : ¬ (lm (ofN A) i = lm (ofN B) i) := by omega
    have c3 : ¬ (lm (ofN A) i < lm (ofN B) i) := by omega
    simp (disch := omega) [e, x1, x2, c, c2, c3, hi, hi'] <;> omega
  ·simp [ref1_Cmp_R0]
 ·rw [T.run_ite_t (by simp; omega)]
  unfold cmpI
  by_cases c : (ofN A).length < (ofN B).length
  ·have := len_lt_nv c
   simp [c, this]
  ·have h2 := len_lt_nv (show (ofN B).length < (ofN A).length by omega)
   have h3 : ¬ A < B := by omega
   simp [c, h2, h3]
theorem ref1_at_run (a : List Int) (ha : limbs a) (i : Nat) : (ref1_at a (i : Int)).run = some (lm a i : Int) := by
 unfold ref1_at
 have := lm_lt ha i
 by_cases h : i < a.length
 ·rw [T.run_ite_t (by simpa using h), T.run_idx _ (by omega) (by omega), T.run_ret, dflt_u32, nth_lm ha, wu64_in (by omega) (by omega)]
 ·rw [T.run_ite_f (by simpa using h), T.run_ret, lm_ge (by omega)]; rfl
end Go.AM.Lf
namespace Go.AM.Lf
open PL
theorem to_step (x l P v : Nat) : (x * 4294967296 + l) * P + v = x * (P * 4294967296) + (v + P * l) := by grind
theorem ref1_To_run (a : List Int) (ha : limbs a) (la : a.length ≤ 1000000000) : (ref1_To a).run = some (if nv a < 18446744073709551616 then ((nv a : Int), true) else (0, false)) := by
 unfold ref1_To
 rw [T.run_bind_of (rTrim_run a ha (by omega))]
 generalize nv a = A
 have h2 := @ofN_len_le A 2
 have hp : (4294967296 : Nat) ^ 2 = 18446744073709551616 := by decide
 rw [hp] at h2
 by_cases c : A < 18446744073709551616
 ·have hl := h2.2 c
  rw [if_pos c, T.run_ite_f (by simp; omega)]
  have h3 := ofN_pos (n := A)
  have key : ∀ n : Nat, n ≤ (ofN A).length → ∀ x : Nat, x < 4294967296 ^ (2 - n) → (ref1_To_L0 (ofN A) ((x : Int), (n : Int) - 1)).run = some ((x * 4294967296 ^ n + nv ((ofN A).take n) : Nat) : Int) := by
   intro n
   induction n with
   | zero =>
    intro _ x hx
    refine T.loop_done ?_
    simp [ref1_To_R0]
   | succ n ih =>
    intro hn x hx
    have hx1 : x < 4294967296 := by
     have : (4294967296 : Nat) ^ (2 - (n + 1)) ≤ 4294967296 ^ 1 := Nat.pow_le_pow_right (by omega) (by omega)
     omega
    have e1 : ((n + 1 : Nat) : Int) - 1 = (n : Int) := by omega
    have e2 : w64 ((n : Int) - 1) = (n : Int) - 1 := w64_in (by omega) (by omega)
    have hl2 := lm_lt (limbs_ofN A) n
    have e3 := hilo2 (x := (x : Int)) (y := (lm (ofN A) n : Int)) (by omega) (by omega) (by omega) (by omega)
    have hs : (ref1_To_R0 (ofN A) ((x : Int), (n : Int))).run = some (.inl (((x * 4294967296 + lm (ofN A) n : Nat) : Int), (n : Int) - 1)) := by
     unfold ref1_To_R0
     simp (disch := omega) [nth_lm (limbs_ofN A), e2, e3]
    rw [e1]
    refine (T.loop_step hs).trans ?_
    have hn2 : n + 1 ≤ 2 := by omega
    have hlt : x * 4294967296 + lm (ofN A) n < 4294967296 ^ (2 - n) := by
     have e4 : (4294967296 : Nat) ^ (2 - n) = 4294967296 ^ (2 - (n + 1)) * 4294967296 := by
      rw [← Nat.pow_succ]; congr 1; omega
     rw [e4]
     have := Nat.mul_le_mul_right 4294967296 (show x + 1 ≤ 4294967296 ^ (2 - (n + 1)) from hx)
     omega
    refine (ih (by omega) _ hlt).trans ?_
    rw [nv_take_lm, Nat.pow_succ]
    have e5 := to_step x (lm (ofN A) n) (4294967296 ^ n) (nv ((ofN A).take n))
    rw [e5]
  have := key (ofN A).length (Nat.le_refl _) 0 (Nat.pow_pos (by omega))
  rw [List.take_length, nv_ofN] at this
  rw [w64_in (by omega) (by omega)]
  simp only [Nat.zero_mul, Nat.zero_add, Int.natCast_zero] at this
  rw [T.run_bind_of (by simpa using this), T.run_ret]
 ·rw [if_neg c, T.run_ite_t (by simp; omega), T.run_ret]
theorem add_carry {c x y : Nat} (hc : c ≤ 1) (hx : x < 4294967296) (hy : y < 4294967296) : wu64 (wu64 ((c : Int) + x) + y) = ((c + x + y : Nat) : Int) := by
 rw [wu64_in (x := (c : Int) + x) (by omega) (by omega), wu64_in (by omega) (by omega)]; omega
theorem lo32 (n : Nat) : wu32 (n : Int) = ((n % 4294967296 : Nat) : Int) := by rw [wu32_mod]; omega
theorem hi32 (n : Nat) : shrI .u64 (n : Int) 32 = ((n / 4294967296 : Nat) : Int) := by rw [shr32 (by omega)]; omega
theorem carry_step {P X c a b p q : Nat} (h : X + c * P = a + b) : X + P * ((c + p + q) % 4294967296) + (c + p + q) / 4294967296 * (P * 4294967296) = (a + P * p) + (b + P * q) := by
 have e : (c + p + q) = (c + p + q) % 4294967296 + 4294967296 * ((c + p + q) / 4294967296) := by omega
 generalize (c + p + q) % 4294967296 = lo at *
 generalize (c + p + q) / 4294967296 = hi at *
 have e2 : P * (c + p + q) = P * (lo + 4294967296 * hi) := by rw [e]
 simp only [Nat.mul_add] at e2
 rw [Nat.mul_comm c P] at h
 have e3 : hi * (P * 4294967296) = P * (4294967296 * hi) := by rw [Nat.mul_comm hi, Nat.mul_assoc]
 omega
theorem nat_Add_run (a b : List Int) (ha : limbs a) (hb : limbs b) (la : a.length ≤ 1000000000) (lb : b.length ≤ 1000000000) : (nat_Add a b).run = some (ofN (nv a + nv b)) := by
 have qa := ofN_nv_len ha
 have qb := ofN_nv_len hb
 unfold nat_Add
 rw [T.run_bind_of (trim_run a ha (by omega)), T.run_bind_of (trim_run b hb (by omega))]
 generalize nv a = A at *
 generalize nv b = B at *
 obtain ⟨x, y, hxy, lx, ly, le, hsw, hsw2⟩ : ∃ x y : List Int, (nv x + nv y = A + B) ∧ limbs x ∧ limbs y ∧ (y.length ≤ x.length ∧ x.length ≤ 1000000000) ∧
   (bif decide (((ofN A).length : Int) < ((ofN B).length : Int)) then ofN B else ofN A) = x ∧ (bif decide (((ofN A).length : Int) < ((ofN B).length : Int)) then ofN A else ofN B) = y := by
  by_cases c : (ofN A).length < (ofN B).length
  ·exact ⟨ofN B, ofN A, by simp; omega, limbs_ofN _, limbs_ofN _, ⟨by omega, by omega⟩, by simp [c], by simp [c]⟩
  ·exact ⟨ofN A, ofN B, by simp, limbs_ofN _, limbs_ofN _, ⟨by omega, by omega⟩, by simp [c], by simp [c]⟩
 rw [hsw, hsw2]
 obtain ⟨le1, le2⟩ := le
 have ew : w64 ((x.length : Int) + 1) = ((x.length + 1 : Nat) : Int) := by rw [w64_in (by omega) (by omega)]; omega
 rw [ew]
 simp only [Int.toNat_natCast, List.length_replicate]
 have loop : ∃ r : Int × List Int, (nat_Add_L0 x y x (x.length : Int) (0, 0, List.replicate (x.length + 1) 0)).run = some r ∧ ∃ c : Nat, r.1 = (c : Int) ∧ c ≤ 1 ∧ limbs r.2 ∧ r.2.length = x.length + 1 ∧ nv (r.2.take x.length) + c * 4294967296 ^ x.length = nv x + nv y := by
  refine T.loop_post (fun s : Int × Int × List Int => ∃ (c i : Nat), s.1 = (c : Int) ∧ s.2.1 = (i : Int) ∧ c ≤ 1 ∧ i ≤ x.length ∧ limbs s.2.2 ∧ s.2.2.length = x.length + 1 ∧ nv (s.2.2.take i) + c * 4294967296 ^ i = nv (x.take i) + nv (y.take i))
   (fun s => x.length - s.2.1.toNat) _ ?_ ⟨0, 0, rfl, rfl, by omega, by omega, limbs_replicate _, by simp, by simp⟩
  rintro ⟨_, _, xs⟩ ⟨c, i, rfl, rfl, hc, hi, hl, hn, hv⟩
  simp only at hl hn hv ⊢
  by_cases hlt : i < x.length
  ·left
   have hx := lm_lt lx i
   have hy := lm_lt ly i
   have hsum : (bif decide ((i : Int) < (y.length : Int)) then wu64 (wu64 ((c : Int) + wu64 (lm x i : Int)) + wu64 (nth y (i : Int) 0)) else wu64 ((c : Int) + wu64 (lm x i : Int))) = ((c + lm x i + lm y i : Nat) : Int) := by
    rw [nth_lm ly, wu64_in (x := (lm x i : Int)) (by omega) (by omega), wu64_in (x := (lm y i : Int)) (by omega) (by omega)]
    by_cases q : i < y.length
    ·rw [show decide ((i : Int) < (y.length : Int)) = true by simpa using q, cond_true, add_carry hc hx hy]
    ·rw [show decide ((i : Int) < (y.length : Int)) = false by simpa using q, cond_false, lm_ge (a := y) (by omega), wu64_in (by omega) (by omega)]; omega
   have ei : w64 ((i : Int) + 1) = ((i + 1 : Nat) : Int) := by rw [w64_in (by omega) (by omega)]; omega
   refine ⟨((((c + lm x i + lm y i) / 4294967296 : Nat) : Int), ((i + 1 : Nat) : Int), xs.set i (((c + lm x i + lm y i) % 4294967296 : Nat) : Int)), ?_, ⟨_, i + 1, rfl, rfl, by omega, by omega, limbs_set hl _ (by omega) (by omega), by simpa using hn, ?_⟩, by simp; omega⟩
   ·unfold nat_Add_R0
    simp only [dflt_u32, nth_lm lx, hsum, lo32, hi32, ei]
    simp (disch := omega) [hlt, hn]
    rw [T.run_obl (fun hq => ⟨by omega, by omega⟩)]
    simp (disch := omega) [hlt, hn]
   ·simp only
    rw [nv_set_take _ (by omega), nv_take_lm, nv_take_lm, Nat.pow_succ, Int.toNat_natCast]
    exact carry_step hv
  ·right
   have hi2 : i = x.length := by omega
   subst hi2
   refine ⟨((c : Int), xs), ?_, c, rfl, hc, hl, hn, ?_⟩
   ·unfold nat_Add_R0
    simp
   ·simpa [List.take_length, nv_take_all le1] using hv
 obtain ⟨⟨_, xs⟩, hr, c, rfl, hc, hl, hn, hv⟩ := loop
 simp only at hl hn hv
 rw [T.run_mk _ (by omega) (by omega) (by omega) (by omega), T.run_cur _ rfl rfl rfl, T.run_true, T.run_bind_of hr]
 simp only [Int.toNat_natCast, Nat.zero_add, List.drop_zero, lo32]
 rw [T.run_idx _ (by omega) (by omega), T.run_e _ rfl (by omega), T.run_true]
 have e1 : (xs.set x.length ((c % 4294967296 : Nat) : Int)).take xs.length = xs.set x.length ((c % 4294967296 : Nat) : Int) := List.take_of_length_le (by simp)
 rw [e1]
 have h3 := trim_run (xs.set x.length ((c % 4294967296 : Nat) : Int)) (limbs_set hl _ (by omega) (by omega)) (by simp; omega)
 rw [T.run_bind_of h3, T.run_ret]
 have e2 := nv_set_take (a := xs) (i := x.length) ((c % 4294967296 : Nat) : Int) (by omega)
 rw [nv_take_all (by simp; omega)] at e2
 rw [e2, Int.toNat_natCast, Nat.mod_eq_of_lt (by omega), Nat.mul_comm, hv, hxy]
end Go.AM.Lf
namespace Go.AM.Lf
open PL
theorem i1 (i : Nat) (h : i ≤ 4000000000) : w64 ((i : Int) + 1) = ((i + 1 : Nat) : Int) := by rw [w64_in (by omega) (by omega)]; omega
theorem im1 (i : Nat) (h : i ≤ 4000000000) : w64 (((i + 1 : Nat) : Int) - 1) = (i : Int) := by rw [w64_in (by omega) (by omega)]; omega
theorem limbs_snoc {xs : List Int} (h : limbs xs) {x : Int} (h0 : 0 ≤ x) (h1 : x < 4294967296) : limbs (xs ++ [x]) := limbs_append.2 ⟨h, fun y hy => by simp at hy; subst hy; exact ⟨h0, h1⟩⟩
theorem nv_snoc (xs : List Int) (x : Int) : nv (xs ++ [x]) = nv xs + 4294967296 ^ xs.length * x.toNat := by rw [nv_append]; simp
theorem ref1_Add_run (a b : List Int) (ha : limbs a) (hb : limbs b) (la : a.length ≤ 1000000000) (lb : b.length ≤ 1000000000) : (ref1_Add a b).run = some (ofN (nv a + nv b)) := by
 have hm : ∃ m : Nat, m = max a.length b.length := ⟨_, rfl⟩
 obtain ⟨m, hm⟩ := hm
 have em : w64 (maxI (a.length : Int) (b.length : Int) + 1) = ((m + 1 : Nat) : Int) := by
  have : maxI (a.length : Int) (b.length : Int) = (m : Int) := by unfold maxI; split <;> omega
  rw [this, i1 m (by omega)]
 have tot : nv a + nv b < 4294967296 ^ (m + 1) := by
  have h1 := nv_lt ha
  have h2 := nv_lt hb
  have h3 : (4294967296 : Nat) ^ a.length ≤ 4294967296 ^ m := Nat.pow_le_pow_right (by omega) (by omega)
  have h4 : (4294967296 : Nat) ^ b.length ≤ 4294967296 ^ m := Nat.pow_le_pow_right (by omega) (by omega)
  rw [Nat.pow_succ]; omega
 have loop : ∃ r : List Int, (ref1_Add_L0 a b (0, 0, [])).run = some r ∧ limbs r ∧ r.length = m + 1 ∧ nv r = nv a + nv b := by
  refine T.loop_post (fun s : Int × Int × List Int => ∃ (c i : Nat), s.1 = (c : Int) ∧ s.2.1 = (i : Int) ∧ c ≤ 1 ∧ i ≤ m + 1 ∧ limbs s.2.2 ∧ s.2.2.length = i ∧ nv s.2.2 + c * 4294967296 ^ i = nv (a.take i) + nv (b.take i))
   (fun s => m + 1 - s.2.1.toNat) _ ?_ ⟨0, 0, rfl, rfl, by omega, by omega, limbs_nil, rfl, by simp⟩
  rintro ⟨_, _, xs⟩ ⟨c, i, rfl, rfl, hc, hi, hl, hn, hv⟩
  simp only at hl hn hv ⊢
  by_cases hlt : i < m + 1
  ·left
   have hx := lm_lt ha i
   have hy := lm_lt hb i
   refine ⟨((((c + lm a i + lm b i) / 4294967296 : Nat) : Int), ((i + 1 : Nat) : Int), xs ++ [(((c + lm a i + lm b i) % 4294967296 : Nat) : Int)]), ?_, ⟨_, i + 1, rfl, rfl, by omega, by omega, limbs_snoc hl (by omega) (by omega), by simp; omega, ?_⟩, by simp; omega⟩
   ·unfold ref1_Add_R0
    simp only [em, T.run_iteS]
    rw [if_pos (by simp; omega), T.run_bind_of (ref1_at_run a ha i), T.run_bind_of (ref1_at_run b hb i)]
    simp only [add_carry hc hx hy, lo32, hi32, i1 i (by omega)]
    simp (disch := omega) [hn]
   ·simp only
    rw [nv_snoc, hn, nv_take_lm, nv_take_lm, Nat.pow_succ, Int.toNat_natCast]
    exact carry_step hv
  ·right
   have hi2 : i = m + 1 := by omega
   subst hi2
   refine ⟨xs, ?_, hl, hn, ?_⟩
   ·unfold ref1_Add_R0
    simp [em]
   ·rw [nv_take_all (by omega), nv_take_all (by omega)] at hv
    have : c = 0 := by
     rcases Nat.eq_zero_or_pos c with h | h
     ·exact h
     ·have : c = 1 := by omega
      subst this; omega
    subst this; omega
 obtain ⟨xs, hr, hl, hn, hv⟩ := loop
 unfold ref1_Add
 simp (disch := omega) only [T.run_cur, T.run_true, T.run_bind_of hr]
 simp only [List.drop_zero, Nat.zero_add, List.take_length]
 rw [T.run_bind_of (rTrim_run xs hl (by omega)), hv, T.run_ret]
theorem borrow_step {P X Y c x y : Nat} {Z : Nat} (h : X + Y = Z + c * P) (hc : c ≤ 1) (hx : x < 4294967296) (hy : y < 4294967296) :
  X + P * ((x + 4294967296 * (if x < y + c then 1 else 0)) - (y + c)) + (Y + P * y) = Z + P * x + (if x < y + c then 1 else 0) * (P * 4294967296) := by
 have key : ∀ k : Nat, y + c ≤ x + 4294967296 * k → X + P * (x + 4294967296 * k - (y + c)) + (Y + P * y) = Z + P * x + k * (P * 4294967296) := by
  intro k hk
  obtain ⟨d, hd⟩ : ∃ d, d = x + 4294967296 * k - (y + c) := ⟨_, rfl⟩
  have hd2 : d + (y + c) = x + 4294967296 * k := by omega
  rw [← hd]
  have e2 : P * (d + (y + c)) = P * (x + 4294967296 * k) := by rw [hd2]
  simp only [Nat.mul_add] at e2
  have e3 : k * (P * 4294967296) = P * (4294967296 * k) := by rw [Nat.mul_comm k, Nat.mul_assoc]
  rw [Nat.mul_comm c P] at h
  omega
 split
 ·exact key 1 (by omega)
 ·exact key 0 (by omega)
theorem ref1_Sub_run (a b : List Int) (ha : limbs a) (hb : limbs b) (la : a.length ≤ 1000000000) (lb : b.length ≤ 1000000000) : (ref1_Sub a b).run = some (if nv a < nv b then ([], false) else (ofN (nv a - nv b), true)) := by
 unfold ref1_Sub
 rw [T.run_bind_of (ref1_Cmp_run a b ha hb la lb)]
 by_cases hlt0 : nv a < nv b
 ·rw [if_pos hlt0]; simp [cmpI, hlt0]
 rw [if_neg hlt0, T.run_ite_f (by unfold cmpI; rw [if_neg hlt0]; split <;> simp)]
 have loop : ∃ r : List Int, (ref1_Sub_L0 a b (0, 0, [])).run = some r ∧ limbs r ∧ r.length = a.length ∧ nv r + nv b = nv a := by
  refine T.loop_post (fun s : Int × Int × List Int => ∃ (c i : Nat), s.1 = (c : Int) ∧ s.2.1 = (i : Int) ∧ c ≤ 1 ∧ i ≤ a.length ∧ limbs s.2.2 ∧ s.2.2.length = i ∧ nv s.2.2 + nv (b.take i) = nv (a.take i) + c * 4294967296 ^ i)
   (fun s => a.length - s.2.1.toNat) _ ?_ ⟨0, 0, rfl, rfl, by omega, by omega, limbs_nil, rfl, by simp⟩
  rintro ⟨_, _, xs⟩ ⟨c, i, rfl, rfl, hc, hi, hl, hn, hv⟩
  simp only at hl hn hv ⊢
  by_cases hlt : i < a.length
  ·left
   have hx := lm_lt ha i
   have hy := lm_lt hb i
   refine ⟨(((if lm a i < lm b i + c then 1 else 0 : Nat) : Int), ((i + 1 : Nat) : Int), xs ++ [(((lm a i + 4294967296 * (if lm a i < lm b i + c then 1 else 0)) - (lm b i + c) : Nat) : Int)]), ?_, ⟨_, i + 1, rfl, rfl, by split <;> omega, by omega, limbs_snoc hl (by omega) (by split <;> omega), by simp; omega, ?_⟩, by simp; omega⟩
   ·unfold ref1_Sub_R0
    have e0 : wu64 ((lm b i : Int) + (c : Int)) = ((lm b i + c : Nat) : Int) := by rw [wu64_in (by omega) (by omega)]; omega
    simp only [T.run_iteS]
    rw [if_pos (by simpa using hlt), T.run_bind_of (ref1_at_run a ha i), T.run_bind_of (ref1_at_run b hb i)]
    simp only [e0, i1 i (by omega)]
    have e1 : (bif decide ((lm a i : Int) < ((lm b i + c : Nat) : Int)) then (1 : Int) else 0) = ((if lm a i < lm b i + c then 1 else 0 : Nat) : Int) := by
     by_cases q : lm a i < lm b i + c
     ·rw [if_pos q, show decide ((lm a i : Int) < ((lm b i + c : Nat) : Int)) = true from decide_eq_true (by omega)]; rfl
     ·rw [if_neg q, show decide ((lm a i : Int) < ((lm b i + c : Nat) : Int)) = false from decide_eq_false (by omega)]; rfl
    have e2 : wu32 (wu64 ((bif decide ((lm a i : Int) < ((lm b i + c : Nat) : Int)) then wu64 ((lm a i : Int) + 4294967296) else (lm a i : Int)) - ((lm b i + c : Nat) : Int))) = (((lm a i + 4294967296 * (if lm a i < lm b i + c then 1 else 0)) - (lm b i + c) : Nat) : Int) := by
     by_cases q : lm a i < lm b i + c
     ·rw [if_pos q, show decide ((lm a i : Int) < ((lm b i + c : Nat) : Int)) = true from decide_eq_true (by omega), cond_true, wu64_in (x := (lm a i : Int) + 4294967296) (by omega) (by omega), wu64_in (by omega) (by omega), wu32_in (by omega) (by omega)]; omega
     ·rw [if_neg q, show decide ((lm a i : Int) < ((lm b i + c : Nat) : Int)) = false from decide_eq_false (by omega), cond_false, wu64_in (by omega) (by omega), wu32_in (by omega) (by omega)]; omega
    simp only [e1, e2]
    simp (disch := omega) [hn]
   ·simp only
    rw [nv_snoc, hn, nv_take_lm, nv_take_lm, Nat.pow_succ, Int.toNat_natCast]
    exact borrow_step hv hc hx hy
  ·right
   have hi2 : i = a.length := by omega
   subst hi2
   refine ⟨xs, ?_, hl, hn, ?_⟩
   ·unfold ref1_Sub_R0
    simp
   ·rw [List.take_length] at hv
    have h1 := nv_split b (min a.length b.length) (by omega)
    have hlt2 := nv_lt ha
    have hb0 : nv (b.take a.length) = nv b := by
     by_cases q : b.length ≤ a.length
     ·exact nv_take_all q
     ·rw [show min a.length b.length = a.length by omega] at h1
      rcases Nat.eq_zero_or_pos (nv (b.drop a.length)) with z | z
      ·rw [z] at h1; omega
      ·have := Nat.mul_le_mul_left (4294967296 ^ a.length) z
       omega
    have hxs := nv_lt hl
    rw [hn] at hxs
    rw [hb0] at hv
    have : c = 0 := by
     rcases Nat.eq_zero_or_pos c with h | h
     ·exact h
     ·have : c = 1 := by omega
      subst this; omega
    subst this; omega
 obtain ⟨xs, hr, hl, hn, hv⟩ := loop
 simp (disch := omega) only [T.run_cur, T.run_true, T.run_bind_of hr]
 simp only [List.drop_zero, Nat.zero_add, List.take_length]
 rw [T.run_bind_of (rTrim_run xs hl (by omega)), T.run_ret, show nv xs = nv a - nv b by omega]
end Go.AM.Lf
namespace Go.AM.Lf
open PL
theorem mul_le_64 {x y : Nat} (hx : x < 4294967296) (hy : y < 4294967296) : x * y ≤ 18446744065119617025 := Nat.mul_le_mul (show x ≤ 4294967295 by omega) (show y ≤ 4294967295 by omega)
theorem mac {c v w o : Nat} (hc : c < 4294967296) (hv : v < 4294967296) (hw : w < 4294967296) (ho : o < 4294967296) :
  wu64 ((c : Int) + wu64 (wu64 ((v : Int) * (w : Int)) + (o : Int))) = ((c + v * w + o : Nat) : Int) ∧ c + v * w + o < 18446744073709551616 ∧ (c + v * w + o) / 4294967296 < 4294967296 := by
 have h := mul_le_64 hv hw
 have e : (v : Int) * (w : Int) = ((v * w : Nat) : Int) := by simp
 rw [e]
 generalize v * w = z at *
 rw [wu64_in (x := (z : Int)) (by omega) (by omega), wu64_in (x := (z : Int) + o) (by omega) (by omega), wu64_in (by omega) (by omega)]
 omega
theorem mac2 {c v w o : Nat} (hc : c < 4294967296) (hv : v < 4294967296) (hw : w < 4294967296) (ho : o < 4294967296) :
  wu64 (wu64 ((c : Int) + wu64 ((v : Int) * (w : Int))) + (o : Int)) = ((c + v * w + o : Nat) : Int) := by
 have h := mul_le_64 hv hw
 have e : (v : Int) * (w : Int) = ((v * w : Nat) : Int) := by simp
 rw [e]
 generalize v * w = z at *
 rw [wu64_in (x := (z : Int)) (by omega) (by omega), wu64_in (x := (c : Int) + z) (by omega) (by omega), wu64_in (by omega) (by omega)]
 omega
theorem mul_step {P Q X Z c v w o W t : Nat} (h : X + c * P = Z + Q * (v * W)) (hP : P = Q * t) :
  X + P * ((c + v * w + o) % 4294967296) + (c + v * w + o) / 4294967296 * (P * 4294967296) = Z + P * o + Q * (v * (W + t * w)) := by
 have e : (c + v * w + o) = (c + v * w + o) % 4294967296 + 4294967296 * ((c + v * w + o) / 4294967296) := by omega
 generalize (c + v * w + o) % 4294967296 = lo at *
 generalize (c + v * w + o) / 4294967296 = hi at *
 have e2 : P * (c + v * w + o) = P * (lo + 4294967296 * hi) := by rw [e]
 have e3 : X + P * lo + hi * (P * 4294967296) = X + P * (lo + 4294967296 * hi) := by grind
 rw [e3, ← e2]
 have e4 : X + P * (c + v * w + o) = (X + c * P) + P * (v * w) + P * o := by grind
 rw [e4, h, hP]
 grind
theorem nth_set_ne (xs : List Int) (i : Nat) (x : Int) (j : Nat) (h : i ≠ j) : lm (xs.set i x) j = lm xs j := by
 by_cases hi : i < xs.length
 ·rw [lm_set hi, if_neg h]
 ·rw [List.set_eq_of_length_le (by omega)]
theorem nat_Mul_inner (b : List Int) (hb : limbs b) (lb : b.length ≤ 1000000000) (P : List Int) (hP : limbs P) (i : Nat) (hi : i ≤ 1000000000) (hPl : i + b.length < P.length) (v : Nat) (hv : v < 4294967296) (x3 : List Int) (x4 : Int) :
  ∃ r : Int × List Int, (nat_Mul_L1 b (i : Int) (v : Int) x3 x4 (i : Int) b (b.length : Int) (0, 0, P)).run = some r ∧ ∃ c : Nat, r.1 = (c : Int) ∧ c < 4294967296 ∧ limbs r.2 ∧ r.2.length = P.length ∧
   nv (r.2.take (i + b.length)) + c * 4294967296 ^ (i + b.length) = nv (P.take (i + b.length)) + 4294967296 ^ i * (v * nv b) := by
 refine T.loop_post (fun s : Int × Int × List Int => ∃ (c k : Nat), s.1 = (c : Int) ∧ s.2.1 = (k : Int) ∧ c < 4294967296 ∧ k ≤ b.length ∧ limbs s.2.2 ∧ s.2.2.length = P.length ∧ (∀ j, i + k ≤ j → lm s.2.2 j = lm P j) ∧
   nv (s.2.2.take (i + k)) + c * 4294967296 ^ (i + k) = nv (P.take (i + k)) + 4294967296 ^ i * (v * nv (b.take k)))
  (fun s => b.length - s.2.1.toNat) _ ?_ ⟨0, 0, rfl, rfl, by omega, by omega, hP, rfl, fun _ _ => rfl, by simp⟩
 rintro ⟨_, _, xs⟩ ⟨c, k, rfl, rfl, hc, hk, hl, hn, hj, hv2⟩
 simp only at hl hn hj hv2 ⊢
 by_cases hlt : k < b.length
 ·left
  have hw := lm_lt hb k
  have ho := lm_lt hl (i + k)
  obtain ⟨m1, m2, m3⟩ := mac hc hv hw ho
  have eik : w64 ((i : Int) + (k : Int)) = ((i + k : Nat) : Int) := by rw [w64_in (by omega) (by omega)]; omega
  refine ⟨((((c + v * lm b k + lm xs (i + k)) / 4294967296 : Nat) : Int), ((k + 1 : Nat) : Int), xs.set (i + k) (((c + v * lm b k + lm xs (i + k)) % 4294967296 : Nat) : Int)), ?_, ⟨_, k + 1, rfl, rfl, m3, by omega, limbs_set hl _ (by omega) (by omega), by simpa using hn, fun j h => by simp only; rw [nth_set_ne _ _ _ _ (by omega), hj j (by omega)], ?_⟩, by simp; omega⟩
  ·unfold nat_Mul_R1
   have ev : wu64 (v : Int) = v := wu64_in (by omega) (by omega)
   have ew : wu64 (lm b k : Int) = lm b k := wu64_in (by omega) (by omega)
   have eo : wu64 (lm xs (i + k) : Int) = lm xs (i + k) := wu64_in (by omega) (by omega)
   simp only [dflt_u32, eik, Int.toNat_natCast, Nat.zero_add, nth_lm hb, nthN_lm hl, ev, ew, eo, m1, lo32, hi32, i1 k (by omega)]
   simp (disch := omega) [hlt, hn]
  ·simp only
   rw [show i + (k + 1) = (i + k) + 1 by omega, nv_set_take _ (by omega), nv_take_lm, nv_take_lm, Nat.pow_succ, Int.toNat_natCast, ← hj (i + k) (by omega)]
   exact mul_step hv2 (Nat.pow_add _ _ _)
 ·right
  have : k = b.length := by omega
  subst this
  refine ⟨((c : Int), xs), ?_, c, rfl, hc, hl, hn, ?_⟩
  ·unfold nat_Mul_R1
   simp
  ·simpa [List.take_length] using hv2
theorem row_step {T V c P A Bn Q a : Nat} (h : V + c * P = T + Q * (a * Bn)) (hT : T = A * Bn) : V + P * c = (A + Q * a) * Bn := by
 have : V + P * c = V + c * P := by rw [Nat.mul_comm]
 rw [this, h, hT]; grind
theorem nat_Mul_run (a b : List Int) (ha : limbs a) (hb : limbs b) (la : a.length ≤ 1000000000) (lb : b.length ≤ 1000000000) : (nat_Mul a b).run = some (ofN (nv a * nv b)) := by
 have qa := ofN_nv_len ha
 have qb := ofN_nv_len hb
 unfold nat_Mul
 rw [T.run_bind_of (trim_run a ha (by omega)), T.run_bind_of (trim_run b hb (by omega))]
 generalize nv a = A at *
 generalize nv b = B at *
 have hx := limbs_ofN A
 have hy := limbs_ofN B
 have hxn := nv_ofN A
 have hyn := nv_ofN B
 generalize ofN A = x at *
 generalize ofN B = y at *
 have ew : w64 ((x.length : Int) + (y.length : Int)) = ((x.length + y.length : Nat) : Int) := by rw [w64_in (by omega) (by omega)]; omega
 rw [ew]
 simp only [Int.toNat_natCast, List.length_replicate]
 have loop : ∃ r : List Int, (nat_Mul_L0 y x (x.length : Int) (0, List.replicate (x.length + y.length) 0)).run = some r ∧ limbs r ∧ r.length = x.length + y.length ∧ nv r = A * B := by
  refine T.loop_post (fun s : Int × List Int => ∃ i : Nat, s.1 = (i : Int) ∧ i ≤ x.length ∧ limbs s.2 ∧ s.2.length = x.length + y.length ∧ nv (s.2.take (i + y.length)) = nv (x.take i) * B)
   (fun s => x.length - s.1.toNat) _ ?_ ⟨0, rfl, by omega, limbs_replicate _, by simp, by simp [List.take_replicate]⟩
  rintro ⟨_, xs⟩ ⟨i, rfl, hi, hl, hn, hv⟩
  simp only at hl hn hv ⊢
  by_cases hlt : i < x.length
  ·left
   have hxl := lm_lt hx i
   obtain ⟨⟨_, ys⟩, hr, c, rfl, hc, hl2, hn2, hv2⟩ := nat_Mul_inner y hy (by omega) xs hl i (by omega) (by omega) (lm x i) hxl x (x.length : Int)
   simp only at hl2 hn2 hv2
   have eik : w64 ((i : Int) + (y.length : Int)) = ((i + y.length : Nat) : Int) := by rw [w64_in (by omega) (by omega)]; omega
   refine ⟨(((i + 1 : Nat) : Int), ys.set (i + y.length) (c : Int)), ?_, ⟨i + 1, rfl, by omega, limbs_set hl2 _ (by omega) (by omega), by simp; omega, ?_⟩, by simp; omega⟩
   ·unfold nat_Mul_R0
    have ec : wu32 (c : Int) = c := wu32_in (by omega) (by omega)
    simp only [T.run_iteS, dflt_u32, nth_lm hx, eik, Int.toNat_natCast, Nat.zero_add, ec, i1 i (by omega)]
    rw [if_pos (by simpa using hlt), T.run_idx _ (by omega) (by omega), T.run_cur _ rfl rfl rfl, T.run_true, T.run_bind_of hr]
    simp (disch := omega) [hn2]
   ·simp only
    rw [show i + 1 + y.length = (i + y.length) + 1 by omega, nv_set_take _ (by omega), nv_take_lm, Int.toNat_natCast]
    rw [hyn] at hv2
    exact row_step hv2 hv
  ·right
   have : i = x.length := by omega
   subst this
   refine ⟨xs, ?_, hl, hn, ?_⟩
   ·unfold nat_Mul_R0
    simp
   ·rw [nv_take_all (by omega), List.take_length, hxn] at hv; exact hv
 obtain ⟨xs, hr, hl, hn, hv⟩ := loop
 rw [T.run_mk _ (by omega) (by omega) (by omega) (by omega), T.run_cur _ rfl rfl rfl, T.run_true, T.run_bind_of hr]
 simp only [Nat.zero_add, List.drop_zero, List.take_length]
 rw [T.run_true, T.run_bind_of (trim_run xs hl (by omega)), T.run_ret, hv]
theorem mul_step1 {N P Q X' X Z c v w o W t : Nat} (hX : X' + P * o = X + P * ((c + v * w + o) % 4294967296)) (h : X + c * P = Z + Q * (v * W)) (hP : P = Q * t) :
  X' + (c + v * w + o) / 4294967296 * (P * 4294967296) = Z + Q * (v * (W + t * w)) := by
 have := mul_step (P := P) (Q := Q) (X := X) (Z := Z) (c := c) (v := v) (w := w) (o := o) (W := W) (t := t) h hP
 omega
theorem ref1_Mul_inner (a b : List Int) (ha : limbs a) (hb : limbs b) (la : a.length ≤ 1000000000) (lb : b.length ≤ 1000000000) (P : List Int) (hP : limbs P) (i : Nat) (hi : i < a.length) (hPl : P.length = a.length + b.length)
  (hbd : nv P + 4294967296 ^ i * (lm a i * nv b) < 4294967296 ^ (a.length + b.length)) :
  ∃ r : List Int, (ref1_Mul_L1 a b (i : Int) (0, 0, P)).run = some r ∧ limbs r ∧ r.length = P.length ∧ nv r = nv P + 4294967296 ^ i * (lm a i * nv b) := by
 have hv := lm_lt ha i
 refine T.loop_post (fun s : Int × Int × List Int => ∃ (c k : Nat), s.1 = (c : Int) ∧ s.2.1 = (k : Int) ∧ c < 4294967296 ∧ i + k ≤ a.length + b.length ∧ limbs s.2.2 ∧ s.2.2.length = P.length ∧
   nv s.2.2 + c * 4294967296 ^ (i + k) = nv P + 4294967296 ^ i * (lm a i * nv (b.take k)))
  (fun s => a.length + b.length - s.2.1.toNat) _ ?_ ⟨0, 0, rfl, rfl, by omega, by omega, hP, rfl, by simp⟩
 rintro ⟨_, _, xs⟩ ⟨c, k, rfl, rfl, hc, hk, hl, hn, hv2⟩
 simp only at hl hn hv2 ⊢
 have eik : w64 ((i : Int) + (k : Int)) = ((i + k : Nat) : Int) := by rw [w64_in (by omega) (by omega)]; omega
 by_cases hgo : k < b.length ∨ 0 < c
 ·have eg : (decide ((k : Int) < (b.length : Int)) || decide ((0 : Int) < (c : Int))) = true := by simpa using hgo
  by_cases hbr : a.length + b.length ≤ i + k
  ·right
   refine ⟨xs, ?_, hl, hn, ?_⟩
   ·unfold ref1_Mul_R1
    simp only [eg, eik, T.run_ite_true, hn, hPl]
    rw [T.run_ite_t (by simpa using (by omega))]
    simp (disch := omega)
   ·rw [nv_take_all (by omega)] at hv2
    have hxs := nv_lt hl
    rw [hn, hPl] at hxs
    have e : i + k = a.length + b.length := by omega
    rw [e] at hv2
    rcases Nat.eq_zero_or_pos c with z | z
    ·subst z; omega
    ·have := Nat.mul_le_mul_right (4294967296 ^ (a.length + b.length)) z
     omega
  ·left
   have hw := lm_lt hb k
   have ho := lm_lt hl (i + k)
   obtain ⟨m1, m2, m3⟩ := mac hc hv hw ho
   have m4 := mac2 hc hv hw ho
   refine ⟨((((c + lm a i * lm b k + lm xs (i + k)) / 4294967296 : Nat) : Int), ((k + 1 : Nat) : Int), xs.set (i + k) (((c + lm a i * lm b k + lm xs (i + k)) % 4294967296 : Nat) : Int)), ?_, ⟨_, k + 1, rfl, rfl, m3, by omega, limbs_set hl _ (by omega) (by omega), by simpa using hn, ?_⟩, by simp; omega⟩
   ·unfold ref1_Mul_R1
    have ev : wu64 (lm a i : Int) = lm a i := wu64_in (by omega) (by omega)
    have eo : wu64 (lm xs (i + k) : Int) = lm xs (i + k) := wu64_in (by omega) (by omega)
    simp only [eg, T.run_ite_true, hn, eik]
    rw [T.run_ite_f (by simpa using (by omega)), T.run_idx _ (by omega) (by omega), T.run_bind_of (ref1_at_run b hb k)]
    simp only [dflt_u32, nth_lm ha, nthN_lm hl, Int.toNat_natCast, Nat.zero_add, ev, eo, m4, lo32, hi32, i1 k (by omega)]
    simp (disch := omega) [hn]
   ·simp only
    rw [show i + (k + 1) = (i + k) + 1 by omega, nv_take_lm, Nat.pow_succ]
    have hset := nv_set (a := xs) (i := i + k) ((((c + lm a i * lm b k + lm xs (i + k)) % 4294967296 : Nat) : Int)) (by omega)
    rw [Int.toNat_natCast] at hset
    exact mul_step1 (N := 0) hset hv2 (Nat.pow_add _ _ _)
 ·right
  have hk2 : b.length ≤ k ∧ c = 0 := by omega
  obtain ⟨hk2, rfl⟩ := hk2
  refine ⟨xs, ?_, hl, hn, ?_⟩
  ·unfold ref1_Mul_R1
   rw [T.run_ite_f (by simpa using hk2)]
   simp (disch := omega)
  ·rw [nv_take_all hk2] at hv2; simpa using hv2
theorem ref1_Mul_run (a b : List Int) (ha : limbs a) (hb : limbs b) (la : a.length ≤ 1000000000) (lb : b.length ≤ 1000000000) : (ref1_Mul a b).run = some (ofN (nv a * nv b)) := by
 have ew : w64 ((a.length : Int) + (b.length : Int)) = ((a.length + b.length : Nat) : Int) := by rw [w64_in (by omega) (by omega)]; omega
 unfold ref1_Mul
 rw [ew]
 simp only [Int.toNat_natCast, List.length_replicate]
 have htot : nv a * nv b < 4294967296 ^ (a.length + b.length) := by
  rw [Nat.pow_add]
  exact Nat.mul_lt_mul'' (nv_lt ha) (nv_lt hb)
 have loop : ∃ r : List Int, (ref1_Mul_L0 a b (0, List.replicate (a.length + b.length) 0)).run = some r ∧ limbs r ∧ r.length = a.length + b.length ∧ nv r = nv a * nv b := by
  refine T.loop_post (fun s : Int × List Int => ∃ i : Nat, s.1 = (i : Int) ∧ i ≤ a.length ∧ limbs s.2 ∧ s.2.length = a.length + b.length ∧ nv s.2 = nv (a.take i) * nv b)
   (fun s => a.length - s.1.toNat) _ ?_ ⟨0, rfl, by omega, limbs_replicate _, by simp, by simp⟩
  rintro ⟨_, xs⟩ ⟨i, rfl, hi, hl, hn, hv⟩
  simp only at hl hn hv ⊢
  by_cases hlt : i < a.length
  ·left
   have e1 : nv xs + 4294967296 ^ i * (lm a i * nv b) = nv (a.take (i + 1)) * nv b := by rw [hv, nv_take_lm]; grind
   have hle : nv (a.take (i + 1)) * nv b ≤ nv a * nv b := Nat.mul_le_mul_right _ (nv_take_le a (i + 1))
   obtain ⟨ys, hr, hl2, hn2, hv2⟩ := ref1_Mul_inner a b ha hb la lb xs hl i hlt hn (by rw [e1]; exact Nat.lt_of_le_of_lt hle htot)
   refine ⟨(((i + 1 : Nat) : Int), ys), ?_, ⟨i + 1, rfl, by omega, hl2, hn2.trans hn, hv2.trans e1⟩, by simp; omega⟩
   unfold ref1_Mul_R0
   simp only [T.run_iteS, i1 i (by omega)]
   rw [if_pos (by simpa using hlt), T.run_cur _ rfl rfl rfl, T.run_true, T.run_bind_of hr]
   simp (disch := omega)
  ·right
   have : i = a.length := by omega
   subst this
   refine ⟨xs, ?_, hl, hn, ?_⟩
   ·unfold ref1_Mul_R0
    simp
   ·rw [List.take_length] at hv; exact hv
 obtain ⟨xs, hr, hl, hn, hv⟩ := loop
 rw [T.run_mk _ (by omega) (by omega) (by omega) (by omega), T.run_cur _ rfl rfl rfl, T.run_true, T.run_bind_of hr]
 simp only [Nat.zero_add, List.drop_zero, List.take_length]
 rw [T.run_true, T.run_bind_of (rTrim_run xs hl (by omega)), T.run_ret, hv]
end Go.AM.Lf
namespace Go.AM.Lf
open PL
theorem lm_drop {a : List Int} {i : Nat} (h : i < a.length) : nv (a.drop i) = lm a i + 4294967296 * nv (a.drop (i + 1)) := nv_drop_nth h
theorem set_drop {a : List Int} {i : Nat} (x : Int) (h : i < a.length) : nv ((a.set i x).drop i) = x.toNat + 4294967296 * nv (a.drop (i + 1)) := by
 rw [lm_drop (by simpa using h), set_drop_succ, lm_set h, if_pos rfl]
theorem div32_run {hi lo y : Nat} (h0 : hi < y) (h1 : lo < 4294967296) (h2 : y < 4294967296) :
  (math_bits_Div32 (hi : Int) (lo : Int) (y : Int)).run = some ((((hi * 4294967296 + lo) / y : Nat) : Int), (((hi * 4294967296 + lo) % y : Nat) : Int)) := by
 have e1 := hilo2 (x := (hi : Int)) (y := (lo : Int)) (by omega) (by omega) (by omega) (by omega)
 have ey : wu64 (y : Int) = y := wu64_in (by omega) (by omega)
 have eh : wu64 (hi : Int) = hi := wu64_in (by omega) (by omega)
 have el : wu64 (lo : Int) = lo := wu64_in (by omega) (by omega)
 have hq : (hi * 4294967296 + lo) / y < 4294967296 := by
  rw [Nat.div_lt_iff_lt_mul (by omega)]
  have := Nat.mul_le_mul_left 4294967296 (show hi + 1 ≤ y from h0)
  omega
 have hr : (hi * 4294967296 + lo) % y < y := Nat.mod_lt _ (by omega)
 have e2 : (hi : Int) * 4294967296 + (lo : Int) = ((hi * 4294967296 + lo : Nat) : Int) := by omega
 have e3 : Int.tdiv ((hi * 4294967296 + lo : Nat) : Int) (y : Int) = (((hi * 4294967296 + lo) / y : Nat) : Int) := by rw [tdiv_pos (by omega)]; rfl
 have e4 : Int.tmod ((hi * 4294967296 + lo : Nat) : Int) (y : Int) = (((hi * 4294967296 + lo) % y : Nat) : Int) := by rw [tmod_pos (by omega)]; rfl
 unfold math_bits_Div32
 rw [T.run_ite_f (by simp; omega)]
 simp only [ey, eh, el, e1, e2, e3, e4]
 rw [T.run_leI _ (by omega), T.run_neI _ (by omega), T.run_neI _ (by omega), T.run_ret, wu64n (by omega), wu32n hq, wu32n (by omega)]
theorem small_step {A Q r y l q : Nat} (h : A = Q * y + r) (hq : q = (r * 4294967296 + l) / y) : l + 4294967296 * A = (q + 4294967296 * Q) * y + (r * 4294967296 + l) % y := by
 have := Nat.div_add_mod (r * 4294967296 + l) y
 rw [← hq] at this
 generalize (r * 4294967296 + l) % y = m at *
 rw [h]
 have e : (q + 4294967296 * Q) * y + m = (y * q + m) + 4294967296 * (Q * y) := by grind
 rw [e, this]; omega
theorem nat_small_run (a : List Int) (ha : limbs a) (la : a.length ≤ 1000000000) (y : Nat) (h0 : 0 < y) (h1 : y < 4294967296) : (nat_small a (y : Int)).run = some (ofN (nv a / y), ((nv a % y : Nat) : Int)) := by
 have loop : ∃ r : Int × List Int, (nat_small_L0 a (y : Int) (0, (a.length : Int) - 1, List.replicate a.length 0)).run = some r ∧ ∃ m : Nat, r.1 = (m : Int) ∧ m < y ∧ limbs r.2 ∧ r.2.length = a.length ∧ nv a = nv r.2 * y + m := by
  refine T.loop_post (fun s : Int × Int × List Int => ∃ (m i : Nat), s.1 = (m : Int) ∧ s.2.1 = (i : Int) - 1 ∧ m < y ∧ i ≤ a.length ∧ limbs s.2.2 ∧ s.2.2.length = a.length ∧ nv (a.drop i) = nv (s.2.2.drop i) * y + m)
   (fun s => (s.2.1 + 1).toNat) _ ?_ ⟨0, a.length, rfl, rfl, h0, Nat.le_refl _, limbs_replicate _, by simp, by simp⟩
  rintro ⟨_, _, xs⟩ ⟨m, i, rfl, rfl, hm, hi, hl, hn, hv⟩
  simp only at hl hn hv ⊢
  cases i with
  | zero =>
   right
   refine ⟨((m : Int), xs), ?_, m, rfl, hm, hl, hn, by simpa using hv⟩
   unfold nat_small_R0
   simp
  | succ i =>
   left
   have hx := lm_lt ha i
   have e1 : ((i + 1 : Nat) : Int) - 1 = (i : Int) := by omega
   have hd := div32_run hm hx h1
   have hq : (m * 4294967296 + lm a i) / y < 4294967296 := by
    rw [Nat.div_lt_iff_lt_mul (by omega)]
    have := Nat.mul_le_mul_left 4294967296 (show m + 1 ≤ y from hm)
    omega
   have ei : w64 ((i : Int) - 1) = (i : Int) - 1 := w64_in (by omega) (by omega)
   refine ⟨((((m * 4294967296 + lm a i) % y : Nat) : Int), (i : Int) - 1, xs.set i (((m * 4294967296 + lm a i) / y : Nat) : Int)), ?_, ⟨_, i, rfl, rfl, Nat.mod_lt _ h0, by omega, limbs_setN hl _ hq, by simpa using hn, ?_⟩, by simp⟩
   ·unfold nat_small_R0
    simp only [e1, dflt_u32, nth_lm ha, T.run_iteS, ei]
    rw [if_pos (by simp), T.run_idx _ (by omega) (by omega), T.run_bind_of hd]
    simp (disch := omega) [hn]
   ·simp only
    rw [lm_drop (by omega), set_drop _ (by omega), Int.toNat_natCast]
    exact small_step hv rfl
 obtain ⟨⟨_, xs⟩, hr, m, rfl, hm, hl, hn, hv⟩ := loop
 simp only at hl hn hv
 unfold nat_small
 rw [w64_in (by omega) (by omega)]
 simp only [Int.toNat_natCast, List.length_replicate]
 rw [T.run_mk _ (by omega) (by omega) (by omega) (by omega), T.run_cur _ rfl rfl rfl, T.run_true, T.run_bind_of hr]
 simp only [Nat.zero_add, List.drop_zero, List.take_length]
 have e1 : nv a / y = nv xs := by rw [hv, Nat.mul_comm, Nat.mul_add_div h0, Nat.div_eq_of_lt hm, Nat.add_zero]
 have e2 : nv a % y = m := by rw [hv, Nat.mul_comm, Nat.mul_add_mod, Nat.mod_eq_of_lt hm]
 rw [T.run_true, T.run_bind_of (trim_run xs hl (by omega)), T.run_ret, e1, e2]
theorem ref1_small_run (a : List Int) (ha : limbs a) (la : a.length ≤ 1000000000) (y : Nat) (h0 : 0 < y) (h1 : y < 4294967296) : (ref1_small a (y : Int)).run = some (ofN (nv a / y), ((nv a % y : Nat) : Int)) := by
 have loop : ∃ r : Int × List Int, (ref1_small_L0 a (y : Int) (0, (a.length : Int) - 1, List.replicate a.length 0)).run = some r ∧ ∃ m : Nat, r.1 = (m : Int) ∧ m < y ∧ limbs r.2 ∧ r.2.length = a.length ∧ nv a = nv r.2 * y + m := by
  refine T.loop_post (fun s : Int × Int × List Int => ∃ (m i : Nat), s.1 = (m : Int) ∧ s.2.1 = (i : Int) - 1 ∧ m < y ∧ i ≤ a.length ∧ limbs s.2.2 ∧ s.2.2.length = a.length ∧ nv (a.drop i) = nv (s.2.2.drop i) * y + m)
   (fun s => (s.2.1 + 1).toNat) _ ?_ ⟨0, a.length, rfl, rfl, h0, Nat.le_refl _, limbs_replicate _, by simp, by simp⟩
  rintro ⟨_, _, xs⟩ ⟨m, i, rfl, rfl, hm, hi, hl, hn, hv⟩
  simp only at hl hn hv ⊢
  cases i with
  | zero =>
   right
   refine ⟨((m : Int), xs), ?_, m, rfl, hm, hl, hn, by simpa using hv⟩
   unfold ref1_small_R0
   simp
  | succ i =>
   left
   have hx := lm_lt ha i
   have e1 : ((i + 1 : Nat) : Int) - 1 = (i : Int) := by omega
   have hq : (m * 4294967296 + lm a i) / y < 4294967296 := by
    rw [Nat.div_lt_iff_lt_mul (by omega)]
    have := Nat.mul_le_mul_left 4294967296 (show m + 1 ≤ y from hm)
    omega
   have ei : w64 ((i : Int) - 1) = (i : Int) - 1 := w64_in (by omega) (by omega)
   have el : wu64 (lm a i : Int) = lm a i := wu64_in (by omega) (by omega)
   have e5 := hilo2 (x := (m : Int)) (y := (lm a i : Int)) (by omega) (by omega) (by omega) (by omega)
   have e2 : (m : Int) * 4294967296 + (lm a i : Int) = ((m * 4294967296 + lm a i : Nat) : Int) := by omega
   have e3 : Int.tdiv ((m * 4294967296 + lm a i : Nat) : Int) (y : Int) = (((m * 4294967296 + lm a i) / y : Nat) : Int) := by rw [tdiv_pos (by omega)]; rfl
   have e4 : Int.tmod ((m * 4294967296 + lm a i : Nat) : Int) (y : Int) = (((m * 4294967296 + lm a i) % y : Nat) : Int) := by rw [tmod_pos (by omega)]; rfl
   have e6 : wu32 (wu64 (((m * 4294967296 + lm a i) / y : Nat) : Int)) = (((m * 4294967296 + lm a i) / y : Nat) : Int) := by rw [wu64n (by omega), wu32n hq]
   refine ⟨((((m * 4294967296 + lm a i) % y : Nat) : Int), (i : Int) - 1, xs.set i (((m * 4294967296 + lm a i) / y : Nat) : Int)), ?_, ⟨_, i, rfl, rfl, Nat.mod_lt _ h0, by omega, limbs_setN hl _ hq, by simpa using hn, ?_⟩, by simp⟩
   ·unfold ref1_small_R0
    simp only [e1, dflt_u32, nth_lm ha, T.run_iteS, ei, el, e5, e2, e3, e4, e6]
    have hy : y ≠ 0 := by omega
    rw [if_pos (by simp)]
    simp (disch := omega) [hn, hy]
   ·simp only
    rw [lm_drop (by omega), set_drop _ (by omega), Int.toNat_natCast]
    exact small_step hv rfl
 obtain ⟨⟨_, xs⟩, hr, m, rfl, hm, hl, hn, hv⟩ := loop
 simp only at hl hn hv
 unfold ref1_small
 rw [w64_in (by omega) (by omega)]
 simp only [Int.toNat_natCast, List.length_replicate]
 rw [T.run_mk _ (by omega) (by omega) (by omega) (by omega), T.run_cur _ rfl rfl rfl, T.run_true, T.run_bind_of hr]
 simp only [Nat.zero_add, List.drop_zero, List.take_length]
 have e1 : nv a / y = nv xs := by rw [hv, Nat.mul_comm, Nat.mul_add_div h0, Nat.div_eq_of_lt hm, Nat.add_zero]
 have e2 : nv a % y = m := by rw [hv, Nat.mul_comm, Nat.mul_add_mod, Nat.mod_eq_of_lt hm]
 rw [T.run_true, T.run_bind_of (rTrim_run xs hl (by omega)), T.run_ret, e1, e2]
end Go.AM.Lf
namespace Go.AM.Lf
open PL
theorem shlI64 {v s : Nat} (hv : v < 4294967296) (hs : s ≤ 32) : shlI .u64 (v : Int) (s : Int) = ((v * 2 ^ s : Nat) : Int) := by
 have h1 : 2 ^ s ≤ 2 ^ 32 := Nat.pow_le_pow_right (by omega) hs
 have h2 : v * 2 ^ s ≤ 4294967295 * 4294967296 := Nat.mul_le_mul (by omega) h1
 have e : min (s : Int).toNat 64 = s := by simp; omega
 show wu64 ((v : Int) * 2 ^ (min (s : Int).toNat 64)) = _
 rw [e]
 have e2 : (v : Int) * 2 ^ s = ((v * 2 ^ s : Nat) : Int) := by simp
 rw [e2, wu64n (by omega)]
theorem shrI64 {v s : Nat} (hs : s ≤ 64) : shrI .u64 (v : Int) (s : Int) = ((v / 2 ^ s : Nat) : Int) := by
 have e : min (s : Int).toNat 64 = s := by simp; omega
 show Int.fdiv (v : Int) (2 ^ (min (s : Int).toNat 64)) = _
 rw [e]
 have e2 : (2 : Int) ^ s = ((2 ^ s : Nat) : Int) := by simp
 rw [e2, Int.fdiv_eq_ediv_of_nonneg _ (Int.natCast_nonneg _)]; rfl
theorem or_low {h m s : Nat} (hh : h < 2 ^ s) : h ||| m * 2 ^ s = h + m * 2 ^ s := by rw [Nat.or_comm, or_add m h s hh, Nat.add_comm]
theorem mod_pow_mul (v s : Nat) (hs : s ≤ 32) : v * 2 ^ s % 4294967296 = (v % 2 ^ (32 - s)) * 2 ^ s := by
 have e : (4294967296 : Nat) = 2 ^ (32 - s) * 2 ^ s := by rw [← Nat.pow_add]; rw [show 32 - s + s = 32 by omega]
 rw [e, Nat.mul_mod_mul_right]
theorem left_step {h v s : Nat} (hh : h < 2 ^ s) (hv : v < 4294967296) (hs : s < 32) :
  orI .u32 (h : Int) (wu32 ((v * 2 ^ s : Nat) : Int)) = ((h + v * 2 ^ s % 4294967296 : Nat) : Int) ∧ h + v * 2 ^ s % 4294967296 < 4294967296 ∧ v * 2 ^ s / 4294967296 < 2 ^ s := by
 have h1 : 2 ^ s ≤ 2 ^ 31 := Nat.pow_le_pow_right (by omega) (by omega)
 have e1 := mod_pow_mul v s (by omega)
 have e2 : (v % 2 ^ (32 - s)) * 2 ^ s + 2 ^ s ≤ 4294967296 := by
  have : v % 2 ^ (32 - s) + 1 ≤ 2 ^ (32 - s) := Nat.mod_lt _ (Nat.pow_pos (by omega))
  have := Nat.mul_le_mul_right (2 ^ s) this
  rw [← Nat.pow_add, show 32 - s + s = 32 by omega] at this
  rw [Nat.add_mul] at this
  omega
 refine ⟨?_, by rw [e1]; omega, ?_⟩
 ·rw [lo32, orI_u32 (by omega) (by omega), e1, or_low hh]
 ·rw [Nat.div_lt_iff_lt_mul (by omega), Nat.mul_comm]
  exact Nat.mul_lt_mul_of_pos_left hv (Nat.pow_pos (by omega))
theorem left_alg {X h P V v t A : Nat} (hv : X + h * P = V * t) (hA : A = v * t) : X + P * (h + A % 4294967296) + A / 4294967296 * (P * 4294967296) = (V + P * v) * t := by
 have e : A = A % 4294967296 + 4294967296 * (A / 4294967296) := by omega
 generalize A % 4294967296 = lo at *
 generalize A / 4294967296 = hi at *
 have e2 : X + P * (h + lo) + hi * (P * 4294967296) = (X + h * P) + P * (lo + 4294967296 * hi) := by grind
 rw [e2, hv, ← e, hA]; grind
theorem left_loop (a : List Int) (ha : limbs a) (la : a.length ≤ 1000000000) (s n : Nat) (hs : s < 32) (hn1 : a.length ≤ n) (hn2 : n ≤ a.length + 1) (hfit : nv a * 2 ^ s < 4294967296 ^ n) :
  ∃ r, (nat_left_L0 (s : Int) (n : Int) a (a.length : Int) (0, List.replicate n 0)).run = some r ∧ limbs r ∧ r.length = n ∧ nv r = nv a * 2 ^ s := by
 refine T.loop_post (fun z : Int × List Int => ∃ i h : Nat, z.1 = (i : Int) ∧ i ≤ a.length ∧ limbs z.2 ∧ z.2.length = n ∧ h < 2 ^ s ∧ (i < n → lm z.2 i = h) ∧ nv (z.2.take i) + h * 4294967296 ^ i = nv (a.take i) * 2 ^ s)
  (fun z => a.length - z.1.toNat) _ ?_ ⟨0, 0, rfl, by omega, limbs_replicate _, by simp, Nat.pow_pos (by omega), fun _ => ?_, by simp⟩
 ·rintro ⟨_, xs⟩ ⟨i, h, rfl, hi, hl, hn, hh, hli, hv⟩
  simp only at hl hn hli hv ⊢
  by_cases hlt : i < a.length
  ·left
   have hx := lm_lt ha i
   obtain ⟨s1, s2, s3⟩ := left_step hh hx hs
   have hb : wu64 (lm a i : Int) = lm a i := wu64n (by omega)
   have hlx := hli (by omega)
   have hp : 2 ^ s ≤ 2 ^ 31 := Nat.pow_le_pow_right (by omega) (by omega)
   have e2 : wu32 ((lm a i * 2 ^ s / 4294967296 : Nat) : Int) = ((lm a i * 2 ^ s / 4294967296 : Nat) : Int) := wu32n (by omega)
   by_cases hin : i + 1 < n
   all_goals have hin' : ((i : Int) + 1 < (n : Int)) ↔ (i + 1 < n) := by omega
   ·refine ⟨(((i + 1 : Nat) : Int), (xs.set i ((h + lm a i * 2 ^ s % 4294967296 : Nat) : Int)).set (i + 1) ((lm a i * 2 ^ s / 4294967296 : Nat) : Int)), ?_,
     ⟨i + 1, lm a i * 2 ^ s / 4294967296, rfl, by omega, limbs_setN (limbs_setN hl _ s2) _ (by omega), by simpa using hn, s3, fun _ => ?_, ?_⟩, by simp; omega⟩
    ·unfold nat_left_R0
     simp only [dflt_u32, nth_lm ha, Int.toNat_natCast, Nat.zero_add, nthN_lm hl, hb, shlI64 hx (show s ≤ 32 by omega), hlx, s1, i1 i (by omega), hi32, e2]
     simp (disch := omega) [hlt, hn, hin, hin']
    ·simp only
     rw [lm_set (by simp; omega), if_pos rfl, Int.toNat_natCast]
    ·simp only
     rw [take_set_lt _ _ _ _ (Nat.le_refl _), nv_set_take _ (by omega), nv_take_lm, Int.toNat_natCast, Nat.pow_succ]
     exact left_alg hv rfl
   ·refine ⟨(((i + 1 : Nat) : Int), xs.set i ((h + lm a i * 2 ^ s % 4294967296 : Nat) : Int)), ?_,
     ⟨i + 1, lm a i * 2 ^ s / 4294967296, rfl, by omega, limbs_setN hl _ s2, by simpa using hn, s3, fun _ => by omega, ?_⟩, by simp; omega⟩
    ·unfold nat_left_R0
     simp only [dflt_u32, nth_lm ha, Int.toNat_natCast, Nat.zero_add, nthN_lm hl, hb, shlI64 hx (show s ≤ 32 by omega), hlx, s1, i1 i (by omega), hi32, e2]
     simp (disch := omega) [hlt, hn, hin, hin']
    ·simp only
     rw [nv_set_take _ (by omega), nv_take_lm, Int.toNat_natCast, Nat.pow_succ]
     exact left_alg hv rfl
  ·right
   have : i = a.length := by omega
   subst this
   refine ⟨xs, ?_, hl, hn, ?_⟩
   ·unfold nat_left_R0
    simp
   ·rw [List.take_length] at hv
    by_cases q : n = a.length
    ·rw [nv_take_all (by omega)] at hv
     rcases Nat.eq_zero_or_pos h with z | z
     ·subst z; omega
     ·have := Nat.mul_le_mul_right (4294967296 ^ a.length) z
      rw [q] at hfit; omega
    ·have hne : n = a.length + 1 := by omega
     have := nv_take_lm xs a.length
     rw [nv_take_all (by omega), hli (by omega), Nat.mul_comm] at this
     omega
 ·show lm (List.replicate n 0) 0 = 0
  unfold lm nth
  cases n <;> simp [List.replicate_succ]
theorem nat_left_run (a : List Int) (ha : limbs a) (la : a.length ≤ 1000000000) (s n : Nat) (hs : s < 32) (hn1 : a.length ≤ n) (hn2 : n ≤ a.length + 1) (hfit : nv a * 2 ^ s < 4294967296 ^ n) :
  ∃ r, (nat_left a (s : Int) (n : Int)).run = some r ∧ limbs r ∧ r.length = n ∧ nv r = nv a * 2 ^ s := by
 obtain ⟨r, h1, h2, h3, h4⟩ := left_loop a ha la s n hs hn1 hn2 hfit
 refine ⟨r, ?_, h2, h3, h4⟩
 unfold nat_left
 simp only [Int.toNat_natCast, List.length_replicate]
 rw [T.run_mk _ (by omega) (by omega) (by omega) (by omega), T.run_cur _ rfl rfl rfl, T.run_true, T.run_bind_of h1]
 simp
theorem nat_left_S_run (a : List Int) (ha : limbs a) (la : a.length ≤ 1000000000) (s n : Nat) (hs : s < 32) (hn1 : a.length ≤ n) (hn2 : n ≤ a.length + 1) (hfit : nv a * 2 ^ s < 4294967296 ^ n) :
  ∃ r, (nat_left_S a (s : Int) (n : Int)).run = some r ∧ limbs r ∧ r.length = n ∧ nv r = nv a * 2 ^ s := by
 obtain ⟨r, h1, h2, h3, h4⟩ := left_loop a ha la s n hs hn1 hn2 hfit
 refine ⟨r, ?_, h2, h3, h4⟩
 have h1' : (nat_left_S_L0 (s : Int) (n : Int) a (a.length : Int) (0, List.replicate n 0)).run = some r := h1
 unfold nat_left_S
 simp only [Int.toNat_natCast, List.length_replicate]
 rw [T.run_mk _ (by omega) (by omega) (by omega) (by omega), T.run_cur _ rfl rfl rfl, T.run_true, T.run_bind_of h1']
 simp
end Go.AM.Lf
namespace Go.AM.Lf
open PL
theorem or_hi {a b s : Nat} (hs : s ≤ 32) (ha : a < 2 ^ (32 - s)) : a ||| b * 2 ^ (32 - s) = a + b * 2 ^ (32 - s) := by rw [Nat.or_comm, or_add b a (32 - s) ha, Nat.add_comm]
theorem pow_split (s : Nat) (h : s ≤ 32) : (4294967296 : Nat) = 2 ^ (32 - s) * 2 ^ s := by rw [← Nat.pow_add, show 32 - s + s = 32 by omega]
theorem shr_w {v s : Nat} (hs : s ≤ 32) : v * 4294967296 / 2 ^ s = v * 2 ^ (32 - s) := by
 rw [pow_split s hs, ← Nat.mul_assoc, Nat.mul_div_cancel _ (Nat.pow_pos (by omega))]
theorem shr_hi {v s : Nat} (hs : s ≤ 32) : v * 2 ^ (32 - s) / 4294967296 = v / 2 ^ s := by
 rw [pow_split s hs, Nat.mul_comm v, Nat.mul_div_mul_left _ _ (Nat.pow_pos (by omega))]
theorem shr_lo {v s : Nat} (hs : s ≤ 32) : v * 2 ^ (32 - s) % 4294967296 = (v % 2 ^ s) * 2 ^ (32 - s) := by
 rw [pow_split s hs, Nat.mul_comm (2 ^ (32 - s)), Nat.mul_mod_mul_right]
theorem shr_alg {V v P s C : Nat} (hs : s ≤ 32) (hC : C = V / 2 ^ s) : C + P * ((v % 2 ^ s) * 2 ^ (32 - s)) + P * 4294967296 * (v / 2 ^ s) = (V + P * 4294967296 * v) / 2 ^ s := by
 have hp : 0 < 2 ^ s := Nat.pow_pos (by omega)
 have e1 : V + P * 4294967296 * v = V + (P * 2 ^ (32 - s) * v) * 2 ^ s := by
  have : P * 4294967296 * v = P * (2 ^ (32 - s) * 2 ^ s) * v := by rw [← pow_split s hs]
  rw [this]; grind
 rw [e1, Nat.add_mul_div_right _ _ hp, hC]
 have e2 : v = v % 2 ^ s + 2 ^ s * (v / 2 ^ s) := by have := Nat.div_add_mod v (2 ^ s); omega
 have e3 : P * 4294967296 * (v / 2 ^ s) = P * (2 ^ (32 - s) * 2 ^ s) * (v / 2 ^ s) := by rw [← pow_split s hs]
 rw [e3]
 have e4 : P * 2 ^ (32 - s) * v = P * 2 ^ (32 - s) * (v % 2 ^ s + 2 ^ s * (v / 2 ^ s)) := by rw [← e2]
 rw [e4]
 generalize v % 2 ^ s = lo
 generalize v / 2 ^ s = hi
 grind
theorem shr_loop (x : List Int) (hx : limbs x) (lx : x.length ≤ 4000000000) (s : Nat) (hs : s < 32) :
  ∃ r, (nat_Shift_L0 (s : Int) x (x.length : Int) (0, List.replicate x.length 0)).run = some r ∧ limbs r ∧ r.length = x.length ∧ nv r = nv x / 2 ^ s := by
 refine T.loop_post (fun z : Int × List Int => ∃ i : Nat, z.1 = (i : Int) ∧ i ≤ x.length ∧ limbs z.2 ∧ z.2.length = x.length ∧ (∀ j, i ≤ j → lm z.2 j = 0) ∧ (∀ j, i = j + 1 → lm z.2 j = lm x j / 2 ^ s) ∧ nv (z.2.take i) = nv (x.take i) / 2 ^ s)
  (fun z => x.length - z.1.toNat) _ ?_ ⟨0, rfl, by omega, limbs_replicate _, by simp, fun j _ => ?_, fun j h => by omega, by simp⟩
 ·rintro ⟨_, xs⟩ ⟨i, rfl, hi, hl, hn, hz, hp, hv⟩
  simp only at hl hn hz hp hv ⊢
  by_cases hlt : i < x.length
  ·left
   have hxl := lm_lt hx i
   have hb : wu64 (lm x i : Int) = lm x i := wu64n (by omega)
   have h32 : (32 : Int) = ((32 : Nat) : Int) := rfl
   have w1 : shrI .u64 (shlI .u64 (lm x i : Int) 32) (s : Int) = ((lm x i * 2 ^ (32 - s) : Nat) : Int) := by
    rw [h32, shlI64 hxl (by omega), shrI64 (by omega), ← shr_w (by omega)]
   have hq : lm x i / 2 ^ s < 4294967296 := Nat.lt_of_le_of_lt (Nat.div_le_self _ _) hxl
   have w2 : wu32 (shrI .u64 ((lm x i * 2 ^ (32 - s) : Nat) : Int) 32) = ((lm x i / 2 ^ s : Nat) : Int) := by rw [hi32, shr_hi (by omega), wu32n hq]
   have w3 : orI .u32 (nthN xs i 0) ((lm x i / 2 ^ s : Nat) : Int) = ((lm x i / 2 ^ s : Nat) : Int) := by
    rw [nthN_lm hl, hz i (Nat.le_refl _), orI_u32 (by omega) hq, Nat.zero_or]
   cases i with
   | zero =>
    refine ⟨(1, xs.set 0 ((lm x 0 / 2 ^ s : Nat) : Int)), ?_, ⟨1, rfl, by omega, limbs_setN hl _ hq, by simpa using hn, fun j h => ?_, fun j h => ?_, ?_⟩, by simp; omega⟩
    ·have w3' := w3
     simp only [Int.natCast_zero] at *
     have hx0 : nth x 0 0 = (lm x 0 : Int) := nth_lm hx 0
     unfold nat_Shift_R0
     simp only [dflt_u32, hx0, Int.toNat_natCast, Nat.zero_add, hb, w1, w2, w3]
     have w3'' : orI .u32 (nthN xs (Int.toNat 0) 0) ((lm x 0 / 2 ^ s : Nat) : Int) = ((lm x 0 / 2 ^ s : Nat) : Int) := w3
     generalize lm x 0 / 2 ^ s = q at *
     simp only [w3'']
     simp (disch := omega) [hlt, hn]
    ·rw [nth_set_ne _ _ _ _ (by omega)]; exact hz j (by omega)
    ·have : j = 0 := by omega
     subst this
     rw [lm_set (by omega), if_pos rfl, Int.toNat_natCast]
    ·simp only
     rw [nv_set_take _ (by omega), nv_take_lm]; simp only [Int.toNat_natCast, List.take_zero, nv_nil, Nat.pow_zero, Nat.one_mul, Nat.zero_add]
   | succ i =>
    have hpi := hp i rfl
    have hxl2 := lm_lt hx i
    have hq2 : lm xs i < 2 ^ (32 - s) := by
     rw [hpi, Nat.div_lt_iff_lt_mul (Nat.pow_pos (by omega)), ← pow_split s (by omega)]; exact hxl2
    have hq3 : lm x (i + 1) * 2 ^ (32 - s) % 4294967296 = (lm x (i + 1) % 2 ^ s) * 2 ^ (32 - s) := shr_lo (by omega)
    have hq4 : lm xs i + (lm x (i + 1) % 2 ^ s) * 2 ^ (32 - s) < 4294967296 := by
     have h1 : lm x (i + 1) % 2 ^ s + 1 ≤ 2 ^ s := Nat.mod_lt _ (Nat.pow_pos (by omega))
     have h2 := Nat.mul_le_mul_right (2 ^ (32 - s)) h1
     rw [Nat.mul_comm (2 ^ s), ← pow_split s (by omega), Nat.add_mul] at h2
     omega
    have hxi := lm_lt hl i
    have w4 : ∀ ys : List Int, limbs ys → lm ys i = lm xs i → orI .u32 (nthN ys i 0) (wu32 ((lm x (i + 1) * 2 ^ (32 - s) : Nat) : Int)) = ((lm xs i + (lm x (i + 1) % 2 ^ s) * 2 ^ (32 - s) : Nat) : Int) := by
     intro ys hys he
     rw [nthN_lm hys, he, lo32, orI_u32 hxi (Nat.mod_lt _ (by omega)), hq3, or_hi (by omega) hq2]
    have w5 := w4 _ (limbs_setN hl (i + 1) hq) (nth_set_ne _ _ _ _ (by omega))
    refine ⟨(((i + 1 + 1 : Nat) : Int), (xs.set (i + 1) ((lm x (i + 1) / 2 ^ s : Nat) : Int)).set i ((lm xs i + (lm x (i + 1) % 2 ^ s) * 2 ^ (32 - s) : Nat) : Int)), ?_,
     ⟨i + 1 + 1, rfl, by omega, limbs_setN (limbs_setN hl _ hq) _ hq4, by simpa using hn, fun j h => ?_, fun j h => ?_, ?_⟩, by simp; omega⟩
    ·unfold nat_Shift_R0
     simp only [dflt_u32, nth_lm hx, Int.toNat_natCast, Nat.zero_add, hb, w1, w2, w3, i1 (i + 1) (by omega), im1 i (by omega), w5]
     rw [T.run_ite_t (by simp; omega)]
     have hpos : decide ((0 : Int) < ((i + 1 : Nat) : Int)) = true := by simp
     generalize hG : (xs.set (i + 1) ((lm x (i + 1) / 2 ^ s : Nat) : Int)).set i ((lm xs i + (lm x (i + 1) % 2 ^ s) * 2 ^ (32 - s) : Nat) : Int) = G
     have hGl : G.length = xs.length := by rw [← hG]; simp
     rw [T.run_idx _ (by omega) (by omega), T.run_leI _ (by omega), T.run_leI _ (by omega), T.run_idx _ (by omega) (by omega), T.run_e _ rfl (by omega), T.run_leI _ (by omega), T.run_idx _ (by omega) (by omega), T.run_e _ rfl (by omega), T.run_ite_t hpos,
      T.run_idx _ (by omega) (by omega), T.run_e _ (by simp) (by simp; omega), T.run_idx _ (by omega) (by omega), T.run_e _ (by simp) (by simp; omega), T.run_cur _ (by omega) rfl (by omega), T.run_eqN _ (by omega), T.run_ret]
    ·rw [nth_set_ne _ _ _ _ (by omega), nth_set_ne _ _ _ _ (by omega)]; exact hz j (by omega)
    ·have : j = i + 1 := by omega
     subst this
     rw [nth_set_ne _ _ _ _ (by omega), lm_set (by omega), if_pos rfl, Int.toNat_natCast]
    ·simp only
     rw [nv_take_lm, nth_set_ne _ _ _ _ (by omega), lm_set (by omega), if_pos rfl, Int.toNat_natCast, nv_set_take _ (by simp; omega), take_set_lt _ _ _ _ (by omega), Int.toNat_natCast, nv_take_lm, Nat.pow_succ]
     have hv2 := hv
     rw [nv_take_lm] at hv2
     have e : nv (xs.take i) + 4294967296 ^ i * (lm xs i + lm x (i + 1) % 2 ^ s * 2 ^ (32 - s)) = (nv (xs.take i) + 4294967296 ^ i * lm xs i) + 4294967296 ^ i * (lm x (i + 1) % 2 ^ s * 2 ^ (32 - s)) := by rw [Nat.mul_add]; omega
     rw [e]
     exact shr_alg (by omega) hv2
  ·right
   have : i = x.length := by omega
   subst this
   refine ⟨xs, ?_, hl, hn, ?_⟩
   ·unfold nat_Shift_R0
    simp
   ·rw [List.take_length, nv_take_all (by omega)] at hv; exact hv
 ·show lm (List.replicate x.length 0) j = 0
  unfold lm nth
  simp [List.getD_eq_getElem?_getD, List.getElem?_replicate]
  split <;> simp
end Go.AM.Lf
namespace Go.AM.Lf
open PL
theorem len_pow {A k : Nat} (h : (ofN A).length ≤ k) : A < 4294967296 ^ k := ofN_len_le.1 h
theorem pow32 (k : Nat) : (4294967296 : Nat) ^ (k / 32) * 2 ^ (k % 32) = 2 ^ k := by
 have : (4294967296 : Nat) = 2 ^ 32 := by decide
 rw [this, ← Nat.pow_mul, ← Nat.pow_add]; congr 1; omega
theorem Shift_neg_run (a : List Int) (ha : limbs a) (la : a.length ≤ 1000000000) (k : Nat) (hk : k ≤ 4096) (h0 : 0 < k) : (nat_Shift a (-(k : Int))).run = some (ofN (nv a / 2 ^ k)) := by
 have qa := ofN_nv_len ha
 unfold nat_Shift
 rw [T.run_bind_of (trim_run a ha (by omega))]
 generalize nv a = A at *
 have e1 : minI (maxI (-(k : Int)) (-4096)) 4096 = -(k : Int) := by unfold minI maxI; repeat' split <;> omega
 have e2 : w64 (0 - -(k : Int)) = (k : Int) := by rw [w64_in (by omega) (by omega)]; omega
 have e3 : w64 (Int.tdiv (k : Int) 32) = ((k / 32 : Nat) : Int) := by rw [tdiv_pos (by omega), w64_in (by omega) (by omega)]; omega
 have e4 : wu64 (Int.tmod (k : Int) 32) = ((k % 32 : Nat) : Int) := by rw [tmod_pos (by omega), wu64_in (by omega) (by omega)]; omega
 simp only [e1, e2, e3, e4]
 rw [T.run_ite_t (by simp; omega), T.run_neI _ (by omega)]
 have hx := limbs_ofN A
 by_cases c : (ofN A).length ≤ k / 32
 ·rw [T.run_ite_t (by simp; omega), T.run_ret]
  have h1 := len_pow c
  have h2 := pow32 k
  have h3 : 4294967296 ^ (k / 32) ≤ 2 ^ k := by rw [← h2]; exact Nat.le_mul_of_pos_right _ (Nat.pow_pos (by omega))
  rw [Nat.div_eq_of_lt (by omega), ofN_zero]
 ·rw [T.run_ite_f (by simp; omega), T.run_neI _ (by omega)]
  have e5 : w64 (((ofN A).length : Int) - ((k / 32 : Nat) : Int)) = (((ofN A).length - k / 32 : Nat) : Int) := by rw [w64_in (by omega) (by omega)]; omega
  have e6 : cutL (e := .int .u32) ((k / 32 : Nat) : Int) ((ofN A).length : Int) (ofN A) = (ofN A).drop (k / 32) := by unfold cutL; simp only [Int.toNat_natCast, List.take_length]
  obtain ⟨r, g1, g2, g3, g4⟩ := shr_loop ((ofN A).drop (k / 32)) (limbs_drop hx _) (by simp; omega) (k % 32) (Nat.mod_lt _ (by omega))
  have hlen : ((ofN A).drop (k / 32)).length = (ofN A).length - k / 32 := List.length_drop
  rw [hlen] at g1
  simp only [e5, e6, Int.toNat_natCast, List.length_replicate, hlen]
  rw [T.run_mk _ (by omega) (by omega) (by omega) (by omega), T.run_sl _ (by omega) (by omega) (by omega), T.run_cur _ rfl rfl rfl, T.run_true, T.run_bind_of g1]
  simp only [Nat.zero_add, List.drop_zero, List.take_length]
  rw [T.run_true, T.run_bind_of (trim_run r g2 (by omega)), T.run_ret, g4]
  have h1 := nv_split (ofN A) (k / 32) (by omega)
  rw [nv_ofN] at h1
  have h2 := nv_take_lt hx (k / 32)
  have h3 : A / 4294967296 ^ (k / 32) = nv ((ofN A).drop (k / 32)) := by
   refine (congrArg (· / 4294967296 ^ (k / 32)) h1).trans ?_
   rw [Nat.add_mul_div_left _ _ (pow_pos' _), Nat.div_eq_of_lt h2, Nat.zero_add]
  rw [← h3, Nat.div_div_eq_div_mul, pow32]
theorem nv_zeros_app (k : Nat) (l : List Int) : nv (List.replicate k 0 ++ l) = 4294967296 ^ k * nv l := by rw [nv_append]; simp
theorem Shift_pos_run (a : List Int) (ha : limbs a) (la : a.length ≤ 1000000000) (k : Nat) (hk : k ≤ 4096) : (nat_Shift a (k : Int)).run = some (ofN (nv a * 2 ^ k)) := by
 have qa := ofN_nv_len ha
 unfold nat_Shift
 rw [T.run_bind_of (trim_run a ha (by omega))]
 generalize nv a = A at *
 have e1 : minI (maxI (k : Int) (-4096)) 4096 = (k : Int) := by unfold minI maxI; repeat' split <;> omega
 have e3 : w64 (Int.tdiv (k : Int) 32) = ((k / 32 : Nat) : Int) := by rw [tdiv_pos (by omega), w64_in (by omega) (by omega)]; omega
 have e4 : wu64 (Int.tmod (k : Int) 32) = ((k % 32 : Nat) : Int) := by rw [tmod_pos (by omega), wu64_in (by omega) (by omega)]; omega
 have hx := limbs_ofN A
 have e5 : w64 ((ofN A).length + 1 : Int) = (((ofN A).length + 1 : Nat) : Int) := i1 _ (by omega)
 have e6 : w64 (w64 (((k / 32 : Nat) : Int) + (ofN A).length) + 1) = ((k / 32 + (ofN A).length + 1 : Nat) : Int) := by rw [w64_in (x := ((k / 32 : Nat) : Int) + (ofN A).length) (by omega) (by omega), w64_in (by omega) (by omega)]; omega
 have hfit : nv (ofN A) * 2 ^ (k % 32) < 4294967296 ^ ((ofN A).length + 1) := by
  have h1 := nv_lt hx
  have h2 : 2 ^ (k % 32) ≤ 2 ^ 32 := Nat.pow_le_pow_right (by omega) (by omega)
  rw [Nat.pow_succ]
  exact Nat.mul_lt_mul_of_lt_of_le h1 h2 (by omega)
 obtain ⟨r, g1, g2, g3, g4⟩ := nat_left_run (ofN A) hx (by omega) (k % 32) ((ofN A).length + 1) (Nat.mod_lt _ (by omega)) (by omega) (by omega) hfit
 simp only [e1, e3, e4, e5, e6]
 rw [T.run_ite_f (by simp), T.run_neI _ (by omega), T.run_mk _ (by omega) (by omega) (by omega) (by omega), T.run_sl _ (by omega) (by simp; omega) (by simp), T.run_neI _ (by omega), T.run_bind_of g1]
 simp only [Int.toNat_natCast, Nat.zero_add, List.length_replicate, List.drop_zero]
 rw [T.run_cpy _ rfl (by omega), T.run_true]
 have ec : ((copyL (k / 32) (k / 32 + (ofN A).length + 1 - k / 32) (List.replicate (k / 32 + (ofN A).length + 1) (0 : Int)) r)) = List.replicate (k / 32) 0 ++ r := by
  unfold copyL
  rw [List.take_replicate, List.drop_replicate, List.take_of_length_le (by omega)]
  rw [show k / 32 + (ofN A).length + 1 - (k / 32 + min (k / 32 + (ofN A).length + 1 - k / 32) r.length) = 0 by omega]
  rw [show min (k / 32) (k / 32 + (ofN A).length + 1) = k / 32 by omega]
  simp
 rw [ec, List.take_of_length_le (by simp; omega)]
 rw [T.run_bind_of (trim_run _ (limbs_append.2 ⟨limbs_replicate _, g2⟩) (by simp; omega)), T.run_ret, nv_zeros_app, g4, nv_ofN]
 congr 2
 rw [← pow32 k]; grind
theorem ref1_Shift1_run (a : List Int) (ha : limbs a) (la : a.length ≤ 1000000000) : (ref1_Shift a 1).run = some (ofN (nv a * 2)) := by
 have qa := ofN_nv_len ha
 unfold ref1_Shift
 rw [T.run_bind_of (rTrim_run a ha (by omega))]
 generalize nv a = A at *
 have hx := limbs_ofN A
 have hxn := nv_ofN A
 generalize ofN A = x at *
 have e1 : minI (maxI (1 : Int) (-4096)) 4096 = 1 := by decide
 have e3 : w64 (Int.tdiv (1 : Int) 32) = 0 := by decide
 have e4 : wu64 (Int.tmod (1 : Int) 32) = 1 := by decide
 have e5 : w64 ((x.length : Int) + 1) = ((x.length + 1 : Nat) : Int) := i1 _ (by omega)
 simp only [e1, e3, e4]
 rw [T.run_ite_f (by decide), T.run_neI _ (by omega), T.run_mk _ (by omega) (by omega) (by omega) (by omega), T.run_neI _ (by omega)]
 simp only [Int.toNat_zero, List.replicate_zero, List.length_nil]
 have loop : ∃ r : List Int, (ref1_Shift_L1 x 1 (0, 0, [])).run = some r ∧ limbs r ∧ r.length = x.length + 1 ∧ nv r = A * 2 := by
  refine T.loop_post (fun s : Int × Int × List Int => ∃ (c i : Nat), s.1 = (c : Int) ∧ s.2.1 = (i : Int) ∧ c < 2 ^ 1 ∧ i ≤ x.length + 1 ∧ limbs s.2.2 ∧ s.2.2.length = i ∧ nv s.2.2 + c * 4294967296 ^ i = nv (x.take i) * 2 ^ 1)
   (fun s => x.length + 1 - s.2.1.toNat) _ ?_ ⟨0, 0, rfl, rfl, by omega, by omega, limbs_nil, rfl, by simp⟩
  rintro ⟨_, _, xs⟩ ⟨c, i, rfl, rfl, hc, hi, hl, hn, hv⟩
  simp only at hl hn hv ⊢
  by_cases hlt : i < x.length + 1
  ·left
   have hxl := lm_lt hx i
   obtain ⟨s1, s2, s3⟩ := left_step hc hxl (show 1 < 32 by omega)
   have w1 : shlI .u64 (lm x i : Int) 1 = ((lm x i * 2 ^ 1 : Nat) : Int) := shlI64 (s := 1) hxl (by omega)
   have w2 : wu32 (orI .u64 ((lm x i * 2 ^ 1 : Nat) : Int) (c : Int)) = ((c + lm x i * 2 ^ 1 % 4294967296 : Nat) : Int) := by
    rw [orI_u64 (by omega) (by omega), or_add _ _ 1 hc, lo32]; omega
   refine ⟨(((lm x i * 2 ^ 1 / 4294967296 : Nat) : Int), ((i + 1 : Nat) : Int), xs ++ [((c + lm x i * 2 ^ 1 % 4294967296 : Nat) : Int)]), ?_, ⟨_, i + 1, rfl, rfl, s3, by omega, limbs_snoc hl (by omega) (by omega), by simp; omega, ?_⟩, by simp; omega⟩
   ·unfold ref1_Shift_R1
    simp only [T.run_iteS, e5]
    rw [if_pos (by simp; omega), T.run_bind_of (ref1_at_run x hx i)]
    simp only [w1, w2, hi32, i1 i (by omega)]
    simp (disch := omega) [hn]
   ·simp only
    rw [nv_snoc, hn, nv_take_lm, Nat.pow_succ, Int.toNat_natCast]
    exact left_alg hv rfl
  ·right
   have hi2 : i = x.length + 1 := by omega
   subst hi2
   refine ⟨xs, ?_, hl, hn, ?_⟩
   ·unfold ref1_Shift_R1
    simp [e5]
   ·rw [nv_take_all (by omega), hxn] at hv
    have h1 := nv_lt hx
    rw [hxn] at h1
    rcases Nat.eq_zero_or_pos c with z | z
    ·subst z; omega
    ·have := Nat.mul_le_mul_right (4294967296 ^ (x.length + 1)) z
     rw [Nat.pow_succ] at this hv; omega
 obtain ⟨xs, hr, hl, hn, hv⟩ := loop
 rw [T.run_cur _ rfl rfl rfl, T.run_true, T.run_bind_of hr]
 simp only [List.drop_zero, Nat.zero_add, List.take_length]
 rw [T.run_true, T.run_bind_of (rTrim_run xs hl (by omega)), hv, T.run_ret]
end Go.AM.Lf
namespace Go.AM.Lf
open PL
theorem guess_run {u2 u1 u0 v1 v2 : Nat} (h2 : u2 < 4294967296) (h1 : u1 < 4294967296) (h0 : u0 < 4294967296) (hv1 : v1 < 4294967296) (hv2 : v2 < 4294967296) (hn : 2147483648 ≤ v1)
  (ht : u2 * 18446744073709551616 + u1 * 4294967296 + u0 < (v1 * 4294967296 + v2 + 1) * 4294967296) :
  (nat_guess (u2 : Int) (u1 : Int) (u0 : Int) (v1 : Int) (v2 : Int)).run = some ((min ((u2 * 18446744073709551616 + u1 * 4294967296 + u0) / (v1 * 4294967296 + v2)) 4294967295 : Nat) : Int) := by
 obtain ⟨t1, t2⟩ := guess_top hn hv2 ht
 have ti := guess_init (u2 := u2) (u1 := u1) (u0 := u0) (v1 := v1) (v2 := v2) (by omega) h0
 obtain ⟨Q, hQ⟩ : ∃ Q, (u2 * 18446744073709551616 + u1 * 4294967296 + u0) / (v1 * 4294967296 + v2) = Q := ⟨_, rfl⟩
 rw [hQ] at ti ⊢
 have hV : 0 < v1 * 4294967296 + v2 := by omega
 have e1 := hilo2 (x := (u2 : Int)) (y := (u1 : Int)) (by omega) (by omega) (by omega) (by omega)
 have e2 : (u2 : Int) * 4294967296 + (u1 : Int) = ((u2 * 4294967296 + u1 : Nat) : Int) := by omega
 have w1 : wu64 (u1 : Int) = u1 := wu64n (by omega)
 have w2 : wu64 (u2 : Int) = u2 := wu64n (by omega)
 have w0 : wu64 (u0 : Int) = u0 := wu64n (by omega)
 have x1 : wu64 (v1 : Int) = v1 := wu64n (by omega)
 have x2 : wu64 (v2 : Int) = v2 := wu64n (by omega)
 have e3 : Int.tdiv ((u2 * 4294967296 + u1 : Nat) : Int) (v1 : Int) = (((u2 * 4294967296 + u1) / v1 : Nat) : Int) := by rw [tdiv_pos (by omega)]; rfl
 have e4 : Int.tmod ((u2 * 4294967296 + u1 : Nat) : Int) (v1 : Int) = (((u2 * 4294967296 + u1) % v1 : Nat) : Int) := by rw [tmod_pos (by omega)]; rfl
 have hm : (u2 * 4294967296 + u1) % v1 < v1 := Nat.mod_lt _ (by omega)
 have hdm := Nat.div_add_mod (u2 * 4294967296 + u1) v1
 rw [Nat.mul_comm] at hdm
 have loop : ∃ r : Int, (nat_guess_L0 (u0 : Int) (v1 : Int) (v2 : Int) ((((u2 * 4294967296 + u1) / v1 : Nat) : Int), (((u2 * 4294967296 + u1) % v1 : Nat) : Int))).run = some r ∧ r = ((min Q 4294967295 : Nat) : Int) := by
  refine T.loop_post (fun s : Int × Int => ∃ q r : Nat, s.1 = (q : Int) ∧ s.2 = (r : Int) ∧ q ≤ 4294967297 ∧ r < 4294967296 ∧ q * v1 + r = u2 * 4294967296 + u1 ∧ min Q 4294967295 ≤ q)
   (fun s => s.1.toNat) _ ?_ ⟨_, _, rfl, rfl, t2, by omega, hdm, by omega⟩
  rintro ⟨_, _⟩ ⟨q, r, rfl, rfl, hq, hr, hqr, hmin⟩
  have e5 := hilo2 (x := (r : Int)) (y := (u0 : Int)) (by omega) (by omega) (by omega) (by omega)
  have es : shrI .u64 (q : Int) 32 = ((q / 4294967296 : Nat) : Int) := hi32 q
  by_cases hbig : 4294967296 ≤ q ∨ r * 4294967296 + u0 < q * v2
  ·-- too many
   have hgt : min Q 4294967295 < q := by
    rcases hbig with h | h
    ·omega
    ·have := guess_gt hV (guess_dn (u2 := u2) (u1 := u1) (u0 := u0) (v1 := v1) (v2 := v2) hqr h)
     omega
   have ec : ((shrI .u64 (q : Int) 32 != 0) || decide (orI .u64 (shlI .u64 (r : Int) 32) (u0 : Int) < wu64 ((q : Int) * (v2 : Int)))) = true := by
    rw [es, e5]
    by_cases h : 4294967296 ≤ q
    ·have : (((q / 4294967296 : Nat) : Int) != 0) = true := by simp; omega
     rw [this]; rfl
    ·have hh : r * 4294967296 + u0 < q * v2 := hbig.resolve_left h
     have hm2 := mul_le_64 (x := q) (y := v2) (Nat.lt_of_not_le h) hv2
     have e6 : (q : Int) * (v2 : Int) = ((q * v2 : Nat) : Int) := by simp
     rw [e6, wu64n (Nat.lt_of_le_of_lt hm2 (by decide))]
     generalize q * v2 = z at *
     rw [show decide ((r : Int) * 4294967296 + (u0 : Int) < (z : Int)) = true from decide_eq_true (by omega)]; simp
   have eq1 : wu64 ((q : Int) - 1) = ((q - 1 : Nat) : Int) := by rw [wu64_in (by omega) (by omega)]; omega
   have er1 : wu64 ((r : Int) + (v1 : Int)) = ((r + v1 : Nat) : Int) := by rw [wu64_in (by omega) (by omega)]; omega
   have hq1 : (q - 1) * v1 + (r + v1) = u2 * 4294967296 + u1 := by
    obtain ⟨p, rfl⟩ : ∃ p, q = p + 1 := ⟨q - 1, by omega⟩
    rw [Nat.add_mul] at hqr
    simp only [Nat.add_sub_cancel]; omega
   by_cases hover : 4294967296 ≤ r + v1
   ·right
    refine ⟨((q - 1 : Nat) : Int), ?_, ?_⟩
    ·unfold nat_guess_R0
     simp only [w0, x1, x2, eq1, er1]
     rw [T.run_obl ⟨by omega, fun _ => by omega⟩, T.run_ite_t ec, T.run_leI _ (by omega), T.run_ite_t (by rw [hi32]; simp; omega), T.run_ret]
    ·-- what is left cannot be more
     have hq2 : q - 1 ≤ Q := by
      rw [← hQ, Nat.le_div_iff_mul_le hV]
      refine guess_up (u0 := u0) hq1 ?_
      have h3 : q - 1 ≤ 4294967295 := by
       rcases Nat.lt_or_ge 4294967296 q with h | h
       ·have hq3 : q = 4294967297 := by omega
        subst hq3
        simp only [Nat.add_one_sub_one] at hq1
        omega
       ·omega
      have h4 : (q - 1) * v2 ≤ 4294967295 * 4294967295 := Nat.mul_le_mul h3 (by omega)
      generalize (q - 1) * v2 = z at *
      omega
     have h5 : q - 1 ≤ 4294967295 := by
      rcases Nat.lt_or_ge 4294967296 q with h | h
      ·have hq3 : q = 4294967297 := by omega
       subst hq3
       simp only [Nat.add_one_sub_one] at hq1
       omega
      ·omega
     omega
   ·left
    refine ⟨(((q - 1 : Nat) : Int), ((r + v1 : Nat) : Int)), ?_, ⟨q - 1, r + v1, rfl, rfl, by omega, by omega, hq1, by omega⟩, by simp; omega⟩
    unfold nat_guess_R0
    simp only [w0, x1, x2, eq1, er1]
    rw [T.run_obl ⟨by omega, fun _ => by omega⟩, T.run_ite_t ec, T.run_leI _ (by omega), T.run_ite_f (by rw [hi32]; simp; omega), T.run_ret]
  ·right
   have hm2 := mul_le_64 (x := q) (y := v2) (by omega) hv2
   have e6 : (q : Int) * (v2 : Int) = ((q * v2 : Nat) : Int) := by simp
   have ec : ((shrI .u64 (q : Int) 32 != 0) || decide (orI .u64 (shlI .u64 (r : Int) 32) (u0 : Int) < wu64 ((q : Int) * (v2 : Int)))) = false := by
    have hz : q / 4294967296 = 0 := by omega
    rw [es, e5, e6, wu64n (Nat.lt_of_le_of_lt hm2 (by decide)), hz]
    have hh : ¬ (r * 4294967296 + u0 < q * v2) := by omega
    generalize q * v2 = z at *
    rw [show decide ((r : Int) * 4294967296 + (u0 : Int) < (z : Int)) = false from decide_eq_false (by omega)]; rfl
   refine ⟨(q : Int), ?_, ?_⟩
   ·unfold nat_guess_R0
    simp only [w0, x1, x2]
    rw [T.run_obl ⟨by omega, fun _ => by omega⟩, T.run_ite_f ec, T.run_ret]
   ·have hq2 : q ≤ Q := by
     rw [← hQ, Nat.le_div_iff_mul_le hV]
     exact guess_up hqr (by omega)
    omega
 obtain ⟨r, hr, rfl⟩ := loop
 unfold nat_guess
 have e7 : wu64 (((u2 * 4294967296 + u1) / v1 : Nat) : Int) = (((u2 * 4294967296 + u1) / v1 : Nat) : Int) := wu64n (by omega)
 simp only [w1, w2, x1, e1, e2, e3, e4, e7]
 rw [T.run_leI _ (by omega), T.run_neI _ (by omega), T.run_neI _ (by omega), T.run_bind_of hr, T.run_ret]
end Go.AM.Lf
namespace Go.AM.Lf
open PL
theorem sub32_run {x y b : Nat} (hx : x < 4294967296) (hy : y < 4294967296) (hb : b ≤ 1) :
  (math_bits_Sub32 (x : Int) (y : Int) (b : Int)).run = some ((((x + 4294967296 * (if x < y + b then 1 else 0)) - (y + b) : Nat) : Int), ((if x < y + b then 1 else 0 : Nat) : Int)) := by
 have e1 := sub32 hx hy hb
 have e2 := borrow32 hx hy hb rfl
 unfold math_bits_Sub32
 rw [T.run_leI _ (by omega), e1, e2, T.run_ret]
 have e3 : (x + 4294967296 * (if x < y + b then 1 else 0)) - y - b = (x + 4294967296 * (if x < y + b then 1 else 0)) - (y + b) := by omega
 rw [e3]
 split <;> rfl
theorem add32_run {x y b : Nat} (hx : x < 4294967296) (hy : y < 4294967296) (hb : b ≤ 1) :
  (math_bits_Add32 (x : Int) (y : Int) (b : Int)).run = some ((((x + y + b) % 4294967296 : Nat) : Int), (((x + y + b) / 4294967296 : Nat) : Int)) := by
 have e : wu64 (wu64 ((x : Int) + (y : Int)) + (b : Int)) = ((x + y + b : Nat) : Int) := by rw [wu64_in (x := (x : Int) + y) (by omega) (by omega), wu64_in (by omega) (by omega)]; omega
 unfold math_bits_Add32
 rw [T.run_leI _ (by omega), wu64n (by omega), wu64n (by omega), wu64n (by omega), e, hi32, lo32, wu32n (by omega), T.run_ret]
theorem drop_set' (xs : List Int) (o i : Nat) (x : Int) : (xs.set (o + i) x).drop o = (xs.drop o).set i x := by
 rw [List.drop_set, if_neg (by omega)]; congr 1; omega
theorem lm_drop' (xs : List Int) (o i : Nat) : lm (xs.drop o) i = lm xs (o + i) := by
 unfold lm nth
 rw [show (((o + i : Nat) : Int)).toNat = o + i by omega, Int.toNat_natCast]
 simp [List.getD_eq_getElem?_getD, List.getElem?_drop]
theorem take_alg {X X' P N c bo q v w lo hi d Y k : Nat} (h : X + q * N = Y + (bo + c) * P) (hs : X' + P * w = X + P * d) (hc : c + q * v = lo + 4294967296 * hi) (hd : d + (lo + bo) = w + 4294967296 * k) :
  X' + q * (N + P * v) = Y + (k + hi) * (P * 4294967296) := by
 have e1 : P * (d + (lo + bo)) = P * (w + 4294967296 * k) := by rw [hd]
 have e2 : P * (c + q * v) = P * (lo + 4294967296 * hi) := by rw [hc]
 have e3 : X' + P * w + q * N + P * (c + q * v) + P * (lo + bo) = X' + q * (N + P * v) + (P * w + P * c + P * (lo + bo)) := by grind
 have e4 : X' + P * w + q * N + P * (c + q * v) + P * (lo + bo) = Y + (k + hi) * (P * 4294967296) + (P * w + P * c + P * (lo + bo)) := by
  rw [hs, e2]
  have e5 : X + P * d + q * N + P * (lo + 4294967296 * hi) + P * (lo + bo) = (X + q * N) + P * (d + (lo + bo)) + P * (lo + 4294967296 * hi) := by grind
  rw [e5, e1, h]; grind
 omega
theorem qv_lt {c q v : Nat} (hc : c < 4294967296) (hq : q < 4294967296) (hv : v < 4294967296) : wu64 ((c : Int) + wu64 ((q : Int) * (v : Int))) = ((c + q * v : Nat) : Int) ∧ (c + q * v) / 4294967296 < 4294967296 := by
 have h := mul_le_64 hq hv
 have e : (q : Int) * (v : Int) = ((q * v : Nat) : Int) := by simp
 rw [e]
 generalize q * v = z at *
 rw [wu64_in (x := (z : Int)) (by omega) (by omega), wu64_in (by omega) (by omega)]
 omega
theorem takes1 (b : List Int) (hb : limbs b) (lb : b.length ≤ 1000000000) (q : Nat) (hq : q < 4294967296) (u : List Int) (hu : limbs u) (o : Nat) (ho : o + b.length < u.length) :
  ∃ r : (Nat × Nat) × Int × Int × List Int, (nat_takes_S_L0 b (q : Int) b (b.length : Int) ((o, b.length + 1), 0, 0, 0, u)).run = some r ∧ r.1 = (o, b.length + 1) ∧ ∃ c bo : Nat, r.2.1 = (c : Int) ∧ r.2.2.1 = (bo : Int) ∧ c < 4294967296 ∧ bo ≤ 1 ∧ limbs r.2.2.2 ∧
   r.2.2.2.length = u.length ∧ r.2.2.2.take o = u.take o ∧ (r.2.2.2.drop o).drop b.length = (u.drop o).drop b.length ∧ nv (r.2.2.2.drop o) + q * nv b = nv (u.drop o) + (bo + c) * 4294967296 ^ b.length := by
 refine T.loop_post (fun s : (Nat × Nat) × Int × Int × Int × List Int => s.1 = (o, b.length + 1) ∧ ∃ c bo i : Nat, s.2.1 = (c : Int) ∧ s.2.2.1 = (bo : Int) ∧ s.2.2.2.1 = (i : Int) ∧ c < 4294967296 ∧ bo ≤ 1 ∧ i ≤ b.length ∧ limbs s.2.2.2.2 ∧
   s.2.2.2.2.length = u.length ∧ s.2.2.2.2.take o = u.take o ∧ (s.2.2.2.2.drop o).drop i = (u.drop o).drop i ∧ nv (s.2.2.2.2.drop o) + q * nv (b.take i) = nv (u.drop o) + (bo + c) * 4294967296 ^ i)
  (fun s => b.length - s.2.2.2.1.toNat) _ ?_ ⟨rfl, 0, 0, 0, rfl, rfl, rfl, by omega, by omega, by omega, hu, rfl, rfl, rfl, by simp⟩
 rintro ⟨_, _, _, _, xs⟩ ⟨rfl, c, bo, i, rfl, rfl, rfl, hc, hbo, hi, hl, hn, ht, hd, hv⟩
 simp only at hl hn ht hd hv ⊢
 by_cases hlt : i < b.length
 ·left
  have hw := lm_lt hb i
  have hx := lm_lt hl (o + i)
  obtain ⟨m1, m2⟩ := qv_lt hc hq hw
  have hs := sub32_run hx (show (c + q * lm b i) % 4294967296 < 4294967296 by omega) hbo
  have hdl : lm xs (o + i) + 4294967296 * (if lm xs (o + i) < (c + q * lm b i) % 4294967296 + bo then 1 else 0) - ((c + q * lm b i) % 4294967296 + bo) < 4294967296 := by split <;> omega
  have hbw : (if lm xs (o + i) < (c + q * lm b i) % 4294967296 + bo then 1 else 0) ≤ 1 := by split <;> omega
  have hde : lm xs (o + i) + 4294967296 * (if lm xs (o + i) < (c + q * lm b i) % 4294967296 + bo then 1 else 0) - ((c + q * lm b i) % 4294967296 + bo) + ((c + q * lm b i) % 4294967296 + bo) = lm xs (o + i) + 4294967296 * (if lm xs (o + i) < (c + q * lm b i) % 4294967296 + bo then 1 else 0) := by split <;> omega
  generalize hD : lm xs (o + i) + 4294967296 * (if lm xs (o + i) < (c + q * lm b i) % 4294967296 + bo then 1 else 0) - ((c + q * lm b i) % 4294967296 + bo) = D at *
  generalize hB : (if lm xs (o + i) < (c + q * lm b i) % 4294967296 + bo then 1 else 0) = B2 at *
  refine ⟨((o, b.length + 1), ((((c + q * lm b i) / 4294967296 : Nat)) : Int), (B2 : Int), ((i + 1 : Nat) : Int), xs.set (o + i) (D : Int)), ?_,
   ⟨rfl, (c + q * lm b i) / 4294967296, B2, i + 1, rfl, rfl, rfl, m2, hbw, by omega, limbs_setN hl _ hdl, by simpa using hn, ?_, ?_, ?_⟩, by simp; omega⟩
  ·unfold nat_takes_S_R0
   have ew : wu64 (lm b i : Int) = lm b i := wu64n (by omega)
   simp only [dflt_u32, nth_lm hb, Int.toNat_natCast, nthN_lm hl, ew, m1, lo32, hi32, i1 i (by omega)]
   rw [T.run_ite_t (by simp; omega), T.run_idx _ (by omega) (by omega), T.run_idx _ (by omega) (by omega), T.run_e _ rfl (by omega), T.run_bind_of hs]
   simp only
   rw [T.run_idx _ (by omega) (by omega), T.run_e _ rfl (by omega), T.run_leI _ (by omega), T.run_true, T.run_eqN _ (by simp), T.run_ret]
  ·simp only
   rw [List.take_set_of_le (by omega), ht]
  ·simp only
   rw [drop_set', set_drop_succ]
   have := congrArg (List.drop 1) hd
   rw [List.drop_drop, List.drop_drop, ] at this
   simpa [Nat.add_assoc, Nat.add_comm] using this
  ·simp only
   rw [drop_set', nv_take_lm, Nat.pow_succ]
   have hset := nv_set (a := xs.drop o) (i := i) (D : Int) (by simp; omega)
   rw [Int.toNat_natCast, lm_drop'] at hset
   exact take_alg (lo := (c + q * lm b i) % 4294967296) hv hset (by generalize c + q * lm b i = z; omega) hde
 ·right
  have : i = b.length := by omega
  subst this
  refine ⟨((o, b.length + 1), (c : Int), (bo : Int), xs), ?_, rfl, c, bo, rfl, rfl, hc, hbo, hl, hn, ht, hd, by simpa [List.take_length] using hv⟩
  unfold nat_takes_S_R0
  simp
theorem back_alg {X X' P N m v w d hi Y : Nat} (h : X + m * P = Y + N) (hs : X' + P * w = X + P * d) (hd : d + 4294967296 * hi = w + v + m) : X' + hi * (P * 4294967296) = Y + (N + P * v) := by
 have e1 : P * (d + 4294967296 * hi) = P * (w + v + m) := by rw [hd]
 have e2 : X' + hi * (P * 4294967296) + (P * w + P * m) = Y + (N + P * v) + (P * w + P * m) := by
  have e3 : X' + hi * (P * 4294967296) + (P * w + P * m) = (X' + P * w) + P * (4294967296 * hi) + P * m := by grind
  rw [e3, hs]
  have e4 : X + P * d + P * (4294967296 * hi) + P * m = (X + m * P) + P * (d + 4294967296 * hi) := by grind
  rw [e4, e1, h]; grind
 omega
theorem takes2 (b : List Int) (hb : limbs b) (lb : b.length ≤ 1000000000) (u : List Int) (hu : limbs u) (o : Nat) (ho : o + b.length < u.length) :
  ∃ r : (Nat × Nat) × Int × List Int, (nat_takes_S_L1 b b (b.length : Int) ((o, b.length + 1), 0, 0, u)).run = some r ∧ r.1 = (o, b.length + 1) ∧ ∃ m : Nat, r.2.1 = (m : Int) ∧ m ≤ 1 ∧ limbs r.2.2 ∧
   r.2.2.length = u.length ∧ r.2.2.take o = u.take o ∧ (r.2.2.drop o).drop b.length = (u.drop o).drop b.length ∧ nv (r.2.2.drop o) + m * 4294967296 ^ b.length = nv (u.drop o) + nv b := by
 refine T.loop_post (fun s : (Nat × Nat) × Int × Int × List Int => s.1 = (o, b.length + 1) ∧ ∃ m i : Nat, s.2.1 = (m : Int) ∧ s.2.2.1 = (i : Int) ∧ m ≤ 1 ∧ i ≤ b.length ∧ limbs s.2.2.2 ∧
   s.2.2.2.length = u.length ∧ s.2.2.2.take o = u.take o ∧ (s.2.2.2.drop o).drop i = (u.drop o).drop i ∧ nv (s.2.2.2.drop o) + m * 4294967296 ^ i = nv (u.drop o) + nv (b.take i))
  (fun s => b.length - s.2.2.1.toNat) _ ?_ ⟨rfl, 0, 0, rfl, rfl, by omega, by omega, hu, rfl, rfl, rfl, by simp⟩
 rintro ⟨_, _, _, xs⟩ ⟨rfl, m, i, rfl, rfl, hm, hi, hl, hn, ht, hd, hv⟩
 simp only at hl hn ht hd hv ⊢
 by_cases hlt : i < b.length
 ·left
  have hw := lm_lt hb i
  have hx := lm_lt hl (o + i)
  have hs := add32_run hx hw hm
  refine ⟨((o, b.length + 1), (((lm xs (o + i) + lm b i + m) / 4294967296 : Nat) : Int), ((i + 1 : Nat) : Int), xs.set (o + i) (((lm xs (o + i) + lm b i + m) % 4294967296 : Nat) : Int)), ?_,
   ⟨rfl, _, i + 1, rfl, rfl, by omega, by omega, limbs_setN hl _ (by omega), by simpa using hn, ?_, ?_, ?_⟩, by simp; omega⟩
  ·unfold nat_takes_S_R1
   simp only [dflt_u32, nth_lm hb, Int.toNat_natCast, nthN_lm hl, i1 i (by omega)]
   rw [T.run_ite_t (by simp; omega), T.run_idx _ (by omega) (by omega), T.run_idx _ (by omega) (by omega), T.run_e _ rfl (by omega), T.run_bind_of hs]
   simp only
   rw [T.run_idx _ (by omega) (by omega), T.run_e _ rfl (by omega), T.run_true, T.run_eqN _ (by simp), T.run_ret]
  ·simp only
   rw [List.take_set_of_le (by omega), ht]
  ·simp only
   rw [drop_set', set_drop_succ]
   have := congrArg (List.drop 1) hd
   rw [List.drop_drop, List.drop_drop, ] at this
   simpa [Nat.add_assoc, Nat.add_comm] using this
  ·simp only
   rw [drop_set', nv_take_lm, Nat.pow_succ]
   have hset := nv_set (a := xs.drop o) (i := i) (((lm xs (o + i) + lm b i + m) % 4294967296 : Nat) : Int) (by simp; omega)
   rw [Int.toNat_natCast, lm_drop'] at hset
   exact back_alg hv hset (by omega)
 ·right
  have : i = b.length := by omega
  subst this
  refine ⟨((o, b.length + 1), (m : Int), xs), ?_, rfl, m, rfl, hm, hl, hn, ht, hd, by simpa [List.take_length] using hv⟩
  unfold nat_takes_S_R1
  simp
end Go.AM.Lf
namespace Go.AM.Lf
open PL
theorem nv_top_zero {D : List Int} (hl : limbs D) (k : Nat) (hk : k ≤ D.length) (h : nv D < 4294967296 ^ k) : nv (D.drop k) = 0 := by
 have h1 := nv_split D k hk
 rcases Nat.eq_zero_or_pos (nv (D.drop k)) with z | z
 ·exact z
 ·have := Nat.mul_le_mul_left (4294967296 ^ k) z
  omega
theorem nv_lt_of_top {D : List Int} (hl : limbs D) (k : Nat) (hk : k ≤ D.length) (h : nv (D.drop k) = 0) : nv D < 4294967296 ^ k := by
 have h1 := nv_split D k hk
 have h2 := nv_take_lt hl k
 rw [h] at h1; omega
theorem last_alg {X X' P q N c bo w d Y k : Nat} (h : X + q * N = Y + (bo + c) * P) (hs : X' + P * w = X + P * d) (hd : d + (c + bo) = w + 4294967296 * k) : X' + q * N = Y + k * (P * 4294967296) := by
 have e1 : P * (d + (c + bo)) = P * (w + 4294967296 * k) := by rw [hd]
 have e2 : X' + q * N + (P * w + P * (c + bo)) = Y + k * (P * 4294967296) + (P * w + P * (c + bo)) := by
  have e3 : X' + q * N + (P * w + P * (c + bo)) = (X' + P * w) + q * N + P * (c + bo) := by grind
  rw [e3, hs]
  have e4 : X + P * d + q * N + P * (c + bo) = (X + q * N) + P * (d + (c + bo)) := by grind
  rw [e4, h, e1]; grind
 omega
theorem back_fin {Z Y X U P L m p N : Nat} (h1 : Z + P * L = Y + P * ((L + m) % 4294967296)) (h2 : Y + m * P = X + N) (h3 : X + (p + 1) * N = U + 1 * (P * 4294967296)) (h4 : Z < P * 4294967296) (h5 : (p + 1) * N ≤ U + N)
  (hm : m ≤ 1) (hL : L < 4294967296) : Z + (p + 1 - 1) * N = U := by
 rw [distr2] at h3 h5
 rw [Nat.add_sub_cancel]
 rw [Nat.mul_comm m P] at h2
 by_cases hov : L + m < 4294967296
 ·rw [Nat.mod_eq_of_lt hov, Nat.mul_add] at h1
  generalize P * L = a at *
  generalize P * m = b at *
  generalize p * N = c at *
  omega
 ·have hov2 : (L + m) % 4294967296 = 0 := by omega
  have e5 : P * (L + m) = P * 4294967296 := by congr 1; omega
  rw [hov2, Nat.mul_zero] at h1
  rw [Nat.mul_add] at e5
  generalize P * L = a at *
  generalize P * m = b at *
  generalize p * N = c at *
  omega
theorem takes_run (b : List Int) (hb : limbs b) (lb : b.length ≤ 1000000000) (q : Nat) (hq : q < 4294967296) (u : List Int) (hu : limbs u) (lu : u.length ≤ 4000000000) (o : Nat) (ho : o + b.length < u.length)
  (hfit : nv (u.drop o) < 4294967296 ^ (b.length + 1)) (hnear : q * nv b ≤ nv (u.drop o) + nv b) :
  ∃ xs : List Int, (nat_takes_S (o, b.length + 1) b (q : Int) u).run = some (decide (nv (u.drop o) < q * nv b), xs) ∧ limbs xs ∧ xs.length = u.length ∧ xs.take o = u.take o ∧
   nv (xs.drop o) + (if nv (u.drop o) < q * nv b then q - 1 else q) * nv b = nv (u.drop o) := by
 obtain ⟨⟨_, _, _, xs⟩, hr, rfl, c, bo, rfl, rfl, hc, hbo, hl, hn, ht, hd, hv⟩ := takes1 b hb lb q hq u hu o ho
 simp only at hl hn ht hd hv
 have hBl := nv_lt hb
 have hx := lm_lt hl (o + b.length)
 have hs := sub32_run hx hc hbo
 have hdl : lm xs (o + b.length) + 4294967296 * (if lm xs (o + b.length) < c + bo then 1 else 0) - (c + bo) < 4294967296 := by split <;> omega
 have hbw : (if lm xs (o + b.length) < c + bo then 1 else 0) ≤ 1 := by split <;> omega
 have hde : lm xs (o + b.length) + 4294967296 * (if lm xs (o + b.length) < c + bo then 1 else 0) - (c + bo) + (c + bo) = lm xs (o + b.length) + 4294967296 * (if lm xs (o + b.length) < c + bo then 1 else 0) := by split <;> omega
 generalize lm xs (o + b.length) + 4294967296 * (if lm xs (o + b.length) < c + bo then 1 else 0) - (c + bo) = D at *
 generalize (if lm xs (o + b.length) < c + bo then 1 else 0) = B2 at *
 have hset := nv_set (a := xs.drop o) (i := b.length) (D : Int) (by simp; omega)
 rw [Int.toNat_natCast, lm_drop', ← drop_set'] at hset
 have hfin := last_alg hv hset hde
 have hl1 : limbs (xs.set (o + b.length) (D : Int)) := limbs_setN hl _ hdl
 have hn1 : (xs.set (o + b.length) (D : Int)).length = u.length := by simpa using hn
 have ht1 : (xs.set (o + b.length) (D : Int)).take o = u.take o := by rw [List.take_set_of_le (by omega), ht]
 have hd1 : ((xs.set (o + b.length) (D : Int)).drop o).drop (b.length + 1) = (u.drop o).drop (b.length + 1) := by
  rw [drop_set', set_drop_succ]
  have := congrArg (List.drop 1) hd
  rw [List.drop_drop, List.drop_drop] at this
  simpa [Nat.add_assoc, Nat.add_comm] using this
 have hz := nv_top_zero (limbs_drop hu o) (b.length + 1) (by simp; omega) hfit
 have hlt1 : nv ((xs.set (o + b.length) (D : Int)).drop o) < 4294967296 ^ (b.length + 1) := nv_lt_of_top (limbs_drop hl1 o) _ (by simp; omega) (by rw [hd1]; exact hz)
 have epow : (4294967296 : Nat) ^ (b.length + 1) = 4294967296 ^ b.length * 4294967296 := Nat.pow_succ ..
 have ec : wu32 (c : Int) = c := wu32n hc
 unfold nat_takes_S
 rw [T.run_eqN _ rfl, T.run_eqN _ rfl, T.run_bind_of hr]
 simp only [Int.toNat_natCast, dflt_u32, nthN_lm hl, ec]
 rw [T.run_idx _ (by omega) (by omega), T.run_e _ rfl (by omega), T.run_bind_of hs]
 simp only
 rw [T.run_idx _ (by omega) (by omega), T.run_e _ rfl (by omega)]
 generalize hX : xs.set (o + b.length) (D : Int) = X at *
 rcases Nat.eq_zero_or_pos B2 with z | z
 ·subst z
  rw [T.run_ite_t (by simp), T.run_eqN _ (by omega), T.run_ret]
  have hnl : ¬ (nv (u.drop o) < q * nv b) := by omega
  refine ⟨X, by rw [decide_eq_false hnl], hl1, hn1, ht1, ?_⟩
  rw [if_neg hnl]; omega
 ·have hB2 : B2 = 1 := by omega
  subst hB2
  have hlt : nv (u.drop o) < q * nv b := by omega
  obtain ⟨⟨_, _, ys⟩, hr2, rfl, m, rfl, hm, hl2, hn2, ht2, hd2, hv2⟩ := takes2 b hb lb X hl1 o (by omega)
  simp only at hl2 hn2 ht2 hd2 hv2
  have hy := lm_lt hl2 (o + b.length)
  have eu : wu32 ((lm ys (o + b.length) : Int) + (m : Int)) = (((lm ys (o + b.length) + m) % 4294967296 : Nat) : Int) := by rw [← lo32]; rfl
  rw [T.run_ite_f (by simp), T.run_true, T.run_eqN _ (by omega), T.run_bind_of hr2]
  simp only [Int.toNat_natCast, dflt_u32, nthN_lm hl2, eu]
  rw [T.run_idx _ (by omega) (by omega), T.run_e _ rfl (by omega), T.run_idx _ (by omega) (by omega), T.run_e _ rfl (by omega), T.run_eqN _ (by simp), T.run_ret]
  have hset2 := nv_set (a := ys.drop o) (i := b.length) (((lm ys (o + b.length) + m) % 4294967296 : Nat) : Int) (by simp; omega)
  rw [Int.toNat_natCast, lm_drop', ← drop_set'] at hset2
  have hl3 : limbs (ys.set (o + b.length) (((lm ys (o + b.length) + m) % 4294967296 : Nat) : Int)) := limbs_setN hl2 _ (by omega)
  have hd3 : ((ys.set (o + b.length) (((lm ys (o + b.length) + m) % 4294967296 : Nat) : Int)).drop o).drop (b.length + 1) = (u.drop o).drop (b.length + 1) := by
   rw [drop_set', set_drop_succ, ← hd1]
   have := congrArg (List.drop 1) hd2
   rw [List.drop_drop, List.drop_drop] at this
   simpa [Nat.add_assoc, Nat.add_comm] using this
  have hlt3 : nv ((ys.set (o + b.length) (((lm ys (o + b.length) + m) % 4294967296 : Nat) : Int)).drop o) < 4294967296 ^ (b.length + 1) := nv_lt_of_top (limbs_drop hl3 o) _ (by simp; omega) (by rw [hd3]; exact hz)
  refine ⟨_, by rw [decide_eq_true hlt], hl3, by simp; omega, ?_, ?_⟩
  ·rw [List.take_set_of_le (by omega), ht2, ht1]
  ·rw [if_pos hlt]
   generalize nv ((ys.set (o + b.length) (((lm ys (o + b.length) + m) % 4294967296 : Nat) : Int)).drop o) = Z at *
   obtain ⟨p, rfl⟩ : ∃ p, q = p + 1 := ⟨q - 1, by
    rcases Nat.eq_zero_or_pos q with h | h
    ·subst h; omega
    ·omega⟩
   rw [epow] at hlt3
   exact back_fin hset2 hv2 hfin hlt3 hnear hm hy
end Go.AM.Lf
namespace Go.AM.Lf
open PL
def lenTab : Str := [0, 1, 2, 2, 3, 3, 3, 3, 4, 4, 4, 4, 4, 4, 4, 4] ++ List.replicate 16 5 ++ List.replicate 32 6 ++ List.replicate 64 7 ++ List.replicate 128 8
theorem lenTab_ok : ∀ y : Fin 256, y.val ≠ 0 → 1 ≤ (lenTab.getD y.val 0).toNat ∧ (lenTab.getD y.val 0).toNat ≤ 8 ∧ 2 ^ ((lenTab.getD y.val 0).toNat - 1) ≤ y.val ∧ y.val < 2 ^ (lenTab.getD y.val 0).toNat := by decide +kernel
set_option maxRecDepth 100000 in
theorem lenTab_len : lenTab.length = 256 := by decide +kernel
theorem len8 {y : Nat} (h0 : 0 < y) (h : y < 256) : ∃ t : Nat, byteAt lenTab (y : Int) = (t : Int) ∧ 1 ≤ t ∧ t ≤ 8 ∧ 2 ^ (t - 1) ≤ y ∧ y < 2 ^ t := by
 have := lenTab_ok ⟨y, h⟩ (by simp; omega)
 refine ⟨(lenTab.getD y 0).toNat, ?_, this⟩
 unfold byteAt
 rw [Int.toNat_natCast]
theorem shr_u32 {x s : Nat} (hs : s ≤ 32) : shrI .u32 (x : Int) (s : Int) = ((x / 2 ^ s : Nat) : Int) := by
 have e : min (s : Int).toNat 32 = s := by simp; omega
 show Int.fdiv (x : Int) (2 ^ (min (s : Int).toNat 32)) = _
 rw [e]
 have e2 : (2 : Int) ^ s = ((2 ^ s : Nat) : Int) := by simp
 rw [e2, Int.fdiv_eq_ediv_of_nonneg _ (Int.natCast_nonneg _)]; rfl
set_option maxRecDepth 100000 in
theorem len32_run {x : Nat} (h0 : 0 < x) (h : x < 4294967296) : ∃ t : Nat, (math_bits_Len32 (x : Int)).run = some (t : Int) ∧ 1 ≤ t ∧ t ≤ 32 ∧ 2 ^ (t - 1) ≤ x ∧ x < 2 ^ t := by
 have hdef : math_bits_Len32 (x : Int) = (.obl (((decide ((65536 : Int) ≤ (x : Int))) = true) → ((0 : Int) ≤ (16 : Int))) <|
  .obl (((decide ((256 : Int) ≤ (bif (decide ((65536 : Int) ≤ (x : Int))) then (shrI .u32 (x : Int) (16 : Int)) else (x : Int)))) = true) → ((0 : Int) ≤ (8 : Int))) <|
  .obl (idxOk (wu8 (bif (decide ((256 : Int) ≤ (bif (decide ((65536 : Int) ≤ (x : Int))) then (shrI .u32 (x : Int) (16 : Int)) else (x : Int)))) then (shrI .u32 (bif (decide ((65536 : Int) ≤ (x : Int))) then (shrI .u32 (x : Int) (16 : Int)) else (x : Int)) (8 : Int)) else (bif (decide ((65536 : Int) ≤ (x : Int))) then (shrI .u32 (x : Int) (16 : Int)) else (x : Int)))) lenTab.length) <|
  .ret (w64 ((bif (decide ((256 : Int) ≤ (bif (decide ((65536 : Int) ≤ (x : Int))) then (shrI .u32 (x : Int) (16 : Int)) else (x : Int)))) then (w64 ((bif (decide ((65536 : Int) ≤ (x : Int))) then (16 : Int) else (0 : Int)) + (8 : Int))) else (bif (decide ((65536 : Int) ≤ (x : Int))) then (16 : Int) else (0 : Int))) + (w64 (byteAt lenTab (wu8 (bif (decide ((256 : Int) ≤ (bif (decide ((65536 : Int) ≤ (x : Int))) then (shrI .u32 (x : Int) (16 : Int)) else (x : Int)))) then (shrI .u32 (bif (decide ((65536 : Int) ≤ (x : Int))) then (shrI .u32 (x : Int) (16 : Int)) else (x : Int)) (8 : Int)) else (bif (decide ((65536 : Int) ≤ (x : Int))) then (shrI .u32 (x : Int) (16 : Int)) else (x : Int)))))))) : T Int) := by rfl
 rw [hdef, lenTab_len]
 -- y: what is left; k: how many bits ahead of it
 obtain ⟨y, k, e1, e2, hk, hy0, hy, hlo, hhi⟩ : ∃ y k : Nat, (bif (decide ((256 : Int) ≤ (bif (decide ((65536 : Int) ≤ (x : Int))) then (shrI .u32 (x : Int) (16 : Int)) else (x : Int)))) then (shrI .u32 (bif (decide ((65536 : Int) ≤ (x : Int))) then (shrI .u32 (x : Int) (16 : Int)) else (x : Int)) (8 : Int)) else (bif (decide ((65536 : Int) ≤ (x : Int))) then (shrI .u32 (x : Int) (16 : Int)) else (x : Int))) = (y : Int) ∧
   (bif (decide ((256 : Int) ≤ (bif (decide ((65536 : Int) ≤ (x : Int))) then (shrI .u32 (x : Int) (16 : Int)) else (x : Int)))) then (w64 ((bif (decide ((65536 : Int) ≤ (x : Int))) then (16 : Int) else (0 : Int)) + (8 : Int))) else (bif (decide ((65536 : Int) ≤ (x : Int))) then (16 : Int) else (0 : Int))) = (k : Int) ∧
   k ≤ 24 ∧ 0 < y ∧ y < 256 ∧ y * 2 ^ k ≤ x ∧ x < (y + 1) * 2 ^ k := by
  have s16 : shrI .u32 (x : Int) 16 = ((x / 65536 : Nat) : Int) := shr_u32 (s := 16) (by omega)
  have s8 : ∀ z : Nat, shrI .u32 (z : Int) 8 = ((z / 256 : Nat) : Int) := fun z => shr_u32 (s := 8) (by omega)
  by_cases c1 : 65536 ≤ x
  ·rw [show decide ((65536 : Int) ≤ (x : Int)) = true from decide_eq_true (by omega)]
   simp only [cond_true, s16]
   by_cases c2 : 256 ≤ x / 65536
   ·rw [show decide ((256 : Int) ≤ ((x / 65536 : Nat) : Int)) = true from decide_eq_true (by omega)]
    simp only [cond_true, s8]
    exact ⟨x / 65536 / 256, 24, rfl, by decide, by omega, by omega, by omega, by omega, by omega⟩
   ·rw [show decide ((256 : Int) ≤ ((x / 65536 : Nat) : Int)) = false from decide_eq_false (by omega)]
    simp only [cond_false]
    exact ⟨x / 65536, 16, rfl, rfl, by omega, by omega, by omega, by omega, by omega⟩
  ·rw [show decide ((65536 : Int) ≤ (x : Int)) = false from decide_eq_false (by omega)]
   simp only [cond_false]
   by_cases c2 : 256 ≤ x
   ·rw [show decide ((256 : Int) ≤ (x : Int)) = true from decide_eq_true (by omega)]
    simp only [cond_true, s8]
    exact ⟨x / 256, 8, rfl, by decide, by omega, by omega, by omega, by omega, by omega⟩
   ·rw [show decide ((256 : Int) ≤ (x : Int)) = false from decide_eq_false (by omega)]
    simp only [cond_false]
    exact ⟨x, 0, rfl, rfl, by omega, by omega, by omega, by omega, by omega⟩
 obtain ⟨t, t1, t2, t3, t4, t5⟩ := len8 hy0 hy
 rw [e1, e2, wu8_in (by omega) (by omega), t1, w64_in (x := (t : Int)) (by omega) (by omega), w64_in (by omega) (by omega)]
 refine ⟨k + t, ?_, by omega, by omega, ?_, ?_⟩
 ·rw [T.run_obl (fun _ => by omega), T.run_obl (fun _ => by omega), T.run_idx _ (by omega) (by omega), T.run_ret]; rfl
 ·rw [show k + t - 1 = (t - 1) + k by omega, Nat.pow_add]
  exact Nat.le_trans (Nat.mul_le_mul_right _ t4) hlo
 ·rw [show k + t = t + k by omega, Nat.pow_add]
  exact Nat.lt_of_lt_of_le hhi (Nat.mul_le_mul_right _ t5)
theorem lz32_run {x : Nat} (h0 : 0 < x) (h : x < 4294967296) : ∃ s : Nat, (math_bits_LeadingZeros32 (x : Int)).run = some (s : Int) ∧ s < 32 ∧ 2147483648 ≤ x * 2 ^ s ∧ x * 2 ^ s < 4294967296 := by
 obtain ⟨t, t1, t2, t3, t4, t5⟩ := len32_run h0 h
 refine ⟨32 - t, ?_, by omega, ?_, ?_⟩
 ·unfold math_bits_LeadingZeros32
  rw [T.run_bind_of t1, T.run_ret, w64_in (by omega) (by omega)]
  congr 1; omega
 ·have := Nat.mul_le_mul_right (2 ^ (32 - t)) t4
  rw [← Nat.pow_add, show t - 1 + (32 - t) = 31 by omega] at this
  exact this
 ·have := Nat.mul_lt_mul_of_pos_right t5 (show 0 < 2 ^ (32 - t) from Nat.pow_pos (by omega))
  rw [← Nat.pow_add, show t + (32 - t) = 32 by omega] at this
  exact this
end Go.AM.Lf
namespace Go.AM.Lf
open PL
theorem horner (a b c : Nat) : (a * 4294967296 + b) * 4294967296 + c = a * 18446744073709551616 + b * 4294967296 + c := by
 rw [Nat.add_mul, Nat.mul_assoc]
theorem guess_run' {u2 u1 u0 v1 v2 : Nat} (h2 : u2 < 4294967296) (h1 : u1 < 4294967296) (h0 : u0 < 4294967296) (hv1 : v1 < 4294967296) (hv2 : v2 < 4294967296) (hn : 2147483648 ≤ v1)
  (ht : (u2 * 4294967296 + u1) * 4294967296 + u0 < (v1 * 4294967296 + v2 + 1) * 4294967296) :
  (nat_guess (u2 : Int) (u1 : Int) (u0 : Int) (v1 : Int) (v2 : Int)).run = some ((min (((u2 * 4294967296 + u1) * 4294967296 + u0) / (v1 * 4294967296 + v2)) 4294967295 : Nat) : Int) := by
 rw [horner] at ht ⊢
 exact guess_run h2 h1 h0 hv1 hv2 hn ht
theorem top2_alg (a b P t : Nat) : t + P * b + P * 4294967296 * a = (a * 4294967296 + b) * P + t := by grind
theorem top2 (d : List Int) (n : Nat) (hn : d.length = n + 2) : nv d = (lm d (n + 1) * 4294967296 + lm d n) * 4294967296 ^ n + nv (d.take n) := by
 have h1 := nv_take_lm d n
 have h2 := nv_take_lm d (n + 1)
 rw [nv_take_all (by omega)] at h2
 rw [h2, h1, Nat.pow_succ, top2_alg]
theorem top3_alg {B a b c P t0 t1 t2 t3 : Nat} (h1 : t1 = t0 + P * c) (h2 : t2 = t1 + P * B * b) (h3 : t3 = t2 + P * B * B * a) : t3 = ((a * B + b) * B + c) * P + t0 := by
 rw [h3, h2, h1]; grind
theorem top3 (w : List Int) (n : Nat) (h : nv (w.drop (n + 1 + 1 + 1)) = 0) : nv w = ((lm w (n + 1 + 1) * 4294967296 + lm w (n + 1)) * 4294967296 + lm w n) * 4294967296 ^ n + nv (w.take n) := by
 have h0 : nv w = nv (w.take (n + 1 + 1 + 1)) := by
  by_cases c : n + 1 + 1 + 1 ≤ w.length
  ·have := nv_split w (n + 1 + 1 + 1) c
   rw [h, Nat.mul_zero, Nat.add_zero] at this; exact this
  ·rw [nv_take_all (by omega)]
 have h1 := nv_take_lm w n
 have h2 := nv_take_lm w (n + 1)
 have h3 := nv_take_lm w (n + 1 + 1)
 rw [Nat.pow_succ] at h2
 rw [Nat.pow_succ, Nat.pow_succ, ← h0] at h3
 exact top3_alg h1 h2 h3
theorem lm_take_eq {a b : List Int} {k i : Nat} (h : a.take k = b.take k) (hi : i < k) : lm a i = lm b i := by
 have e := congrArg (fun l => l[i]?) h
 simp only [List.getElem?_take, if_pos hi] at e
 unfold lm nth
 rw [List.getD_eq_getElem?_getD, List.getD_eq_getElem?_getD, Int.toNat_natCast, e]
theorem top_lt {U3 V2 D X Y U V : Nat} (hU : U = U3 * D + X) (hV : V = V2 * D + Y) (hY : Y < D) (hUV : U < V * 4294967296) : U3 < (V2 + 1) * 4294967296 := by
 have h1 : U3 * D < (V2 + 1) * 4294967296 * D := by
  have e : (V2 + 1) * 4294967296 * D = (V2 * D + D) * 4294967296 := by grind
  rw [e]
  have : V * 4294967296 ≤ (V2 * D + D) * 4294967296 := Nat.mul_le_mul_right _ (by omega)
  omega
 exact Nat.lt_of_mul_lt_mul_right h1
theorem win_guess (d : List Int) (hd : limbs d) (n : Nat) (hn : d.length = n + 2) (htop : 2147483648 ≤ lm d (n + 1)) (w : List Int) (hw : limbs w) (hwl : n + 1 + 1 + 1 ≤ w.length) (hW : nv w < nv d * 4294967296) :
  ∃ x : Nat, (nat_guess (lm w (n + 1 + 1) : Int) (lm w (n + 1) : Int) (lm w n : Int) (lm d (n + 1) : Int) (lm d n : Int)).run = some (x : Int) ∧ x < 4294967296 ∧ nv w / nv d ≤ x ∧ x ≤ nv w / nv d + 1 ∧ nv w < 4294967296 ^ (d.length + 1) := by
 have hdl := nv_lt hd
 have hdt := top2 d n hn
 have hdn := nv_take_lt hd n
 have hWp : nv w < 4294967296 ^ (d.length + 1) := by
  rw [Nat.pow_succ]
  exact Nat.lt_of_lt_of_le hW (Nat.mul_le_mul_right _ (Nat.le_of_lt hdl))
 have hz := nv_top_zero hw (d.length + 1) (by omega) hWp
 rw [show d.length + 1 = n + 1 + 1 + 1 by omega] at hz
 have ht3 := top3 w n hz
 have hwn := nv_take_lt hw n
 have hU3 := top_lt ht3 hdt hdn hW
 refine ⟨_, guess_run' (lm_lt hw _) (lm_lt hw _) (lm_lt hw _) (lm_lt hd _) (lm_lt hd _) htop hU3, ?_, ?_, ?_, hWp⟩
 ·exact Nat.lt_of_le_of_lt (Nat.min_le_right _ _) (by decide)
 ·refine (guess_q ht3 hwn hdt hdn ?_ hW rfl).1
  exact Nat.le_trans (Nat.mul_le_mul_right 4294967296 htop) (Nat.le_add_right _ _)
 ·refine (guess_q ht3 hwn hdt hdn ?_ hW rfl).2
  exact Nat.le_trans (Nat.mul_le_mul_right 4294967296 htop) (Nat.le_add_right _ _)
theorem near {W V x : Nat} (g2 : x ≤ W / V + 1) : x * V ≤ W + V := by
 have h1 := Nat.mul_le_mul_right V g2
 have h2 := Nat.div_mul_le_self W V
 rw [Nat.add_mul, Nat.one_mul] at h1
 omega
theorem digit {W V x : Nat} (hV : 0 < V) (g1 : W / V ≤ x) (g2 : x ≤ W / V + 1) : (if W < x * V then x - 1 else x) = W / V := by
 have hdm := Nat.div_add_mod W V
 have hml := Nat.mod_lt W hV
 have hz : 0 ≤ W / V := Nat.zero_le _
 split
 ·rename_i c
  have : x ≠ W / V := by
   intro h
   rw [h, Nat.mul_comm] at c; omega
  generalize W / V = z at *
  omega
 ·rename_i c
  have hle : x ≤ W / V := (Nat.le_div_iff_mul_le hV).2 (by omega)
  exact Nat.le_antisymm hle g1
theorem win_lt {l N V : Nat} (hl : l < 4294967296) (hN : N < V) : l + 4294967296 * N < V * 4294967296 := by
 have := Nat.mul_le_mul_left 4294967296 (show N + 1 ≤ V from hN)
 omega
theorem digit_alg {l N Q V z r R : Nat} (h : r + z * V = l + 4294967296 * N) (hR : R = Q * V + N) : l + 4294967296 * R = (z + 4294967296 * Q) * V + r := by
 rw [hR]
 have e : (z + 4294967296 * Q) * V + r = (r + z * V) + 4294967296 * (Q * V) := by grind
 rw [e, h]; omega
end Go.AM.Lf
namespace Go.AM.Lf
open PL
theorem long_round (d : List Int) (hd : limbs d) (n : Nat) (hn : d.length = n + 2) (ln : n ≤ 999999990) (htop : 2147483648 ≤ lm d (n + 1)) (y : Int) (i : Nat) (li : i ≤ 1000000000) (u q : List Int) (hl : limbs u) (lu : u.length ≤ 2000000000) (hiu : i + d.length < u.length)
  (hq : limbs q) (hiq : i < q.length) (hlt : nv (u.drop (i + 1)) < nv d) :
  ∃ (xs : List Int) (z : Nat), (nat_long_R0 y d ((n + 2 : Nat) : Int) ((i : Int), u, q)).run = some (.inl ((i : Int) - 1, xs, q.set i (z : Int))) ∧ z < 4294967296 ∧ limbs xs ∧ xs.length = u.length ∧ xs.take i = u.take i ∧ nv (xs.drop i) < nv d ∧
   nv (xs.drop i) + z * nv d = lm u i + 4294967296 * nv (u.drop (i + 1)) := by
 have hwd := lm_drop (a := u) (i := i) (by omega)
 have hW := win_lt (lm_lt hl i) hlt
 rw [← hwd] at hW
 obtain ⟨x, hg, hx, g1, g2, hWp⟩ := win_guess d hd n hn htop (u.drop i) (limbs_drop hl i) (by rw [List.length_drop]; omega) hW
 have hdp : 0 < nv d := Nat.lt_of_le_of_lt (Nat.zero_le _) hlt
 obtain ⟨xs, hr, hxl, hxn, hxt, hxv⟩ := takes_run d hd (by omega) x hx u hl (by omega) i hiu hWp (near g2)
 have hdig := digit hdp g1 g2
 rw [hdig] at hxv
 rw [lm_drop', lm_drop', lm_drop'] at hg
 have hdq : nv (u.drop i) / nv d < 4294967296 := Nat.lt_of_le_of_lt g1 hx
 have hmod : nv (xs.drop i) < nv d := by
  have h1 := Nat.div_add_mod (nv (u.drop i)) (nv d)
  have h2 := Nat.mod_lt (nv (u.drop i)) hdp
  rw [Nat.mul_comm] at h1
  omega
 refine ⟨xs, nv (u.drop i) / nv d, ?_, hdq, hxl, hxn, hxt, hmod, by rw [hxv, hwd]⟩
 have hx1 : ∀ c : Bool, c = decide (nv (u.drop i) < x * nv d) → (if c = true then wu64 ((x : Int) - 1) else (x : Int)) = ((nv (u.drop i) / nv d : Nat) : Int) := by
  intro c hc
  rw [← hdig]
  by_cases cc : nv (u.drop i) < x * nv d
  ·have hx0 : x ≠ 0 := by intro h; subst h; omega
   rw [hc, decide_eq_true cc, if_pos rfl, if_pos cc, wu64_in (by omega) (by omega)]; omega
  ·rw [hc, decide_eq_false cc, if_neg (by simp), if_neg cc]
 generalize nv (u.drop i) / nv d = z at *
 clear g1 g2 hxv hdig hW hWp hlt hmod hwd
 have ei : w64 ((i : Int) - 1) = (i : Int) - 1 := w64_in (by omega) (by omega)
 have a0 : w64 ((i : Int) + ((n + 2 : Nat) : Int)) = ((i + (n + 1 + 1) : Nat) : Int) := by rw [w64_in (by omega) (by omega)]; omega
 have a1 : w64 (((i + (n + 1 + 1) : Nat) : Int) - 1) = ((i + (n + 1) : Nat) : Int) := by rw [w64_in (by omega) (by omega)]; omega
 have a2 : w64 (((i + (n + 1 + 1) : Nat) : Int) - 2) = ((i + n : Nat) : Int) := by rw [w64_in (by omega) (by omega)]; omega
 have a3 : w64 (((n + 2 : Nat) : Int) - 1) = ((n + 1 : Nat) : Int) := by rw [w64_in (by omega) (by omega)]; omega
 have a4 : w64 (((n + 2 : Nat) : Int) - 2) = ((n : Nat) : Int) := by rw [w64_in (by omega) (by omega)]; omega
 have a5 : w64 (((i + (n + 1 + 1) : Nat) : Int) + 1) = ((i + (n + 1 + 1) + 1 : Nat) : Int) := i1 _ (by omega)
 have hwin : i + (n + 1 + 1) + 1 - i = d.length + 1 := by omega
 unfold nat_long_R0
 simp only [ei, a0, a1, a2, a3, a4, a5]
 rw [T.run_ite_t (by simp)]
 rw [T.run_idx _ (by omega) (by omega), T.run_e _ rfl (by omega), T.run_idx _ (by omega) (by omega), T.run_e _ rfl (by omega), T.run_idx _ (by omega) (by omega), T.run_e _ rfl (by omega), T.run_idx _ (by omega) (by omega), T.run_idx _ (by omega) (by omega)]
 simp only [Int.toNat_natCast, Nat.zero_add, dflt_u32, nthN_lm hl, nth_lm hd, hwin]
 rw [T.run_bind_of hg]
 have hc := hx1 _ rfl
 rw [T.run_bind_of (a := ((z : Int), xs, q)) ?_]
 ·simp only [wu32n hdq]
  rw [T.run_idx _ (by omega) (by omega), T.run_e _ rfl (by omega), T.run_cur _ (by simp) rfl (by simp), T.run_cur _ rfl rfl rfl, T.run_true, T.run_eqN _ (by simp), T.run_ret]
 ·rw [T.run_sl _ (by omega) (by omega) (by omega), T.run_true, T.run_true, T.run_bind_of hr]
  simp only [T.run_iteS]
  by_cases cc : nv (u.drop i) < x * nv d
  ·rw [if_pos (decide_eq_true cc)] at hc ⊢
   rw [T.run_cur _ rfl rfl rfl, T.run_cur _ (by omega) rfl (by omega), T.run_true, T.run_true, T.run_ret, hc]
  ·rw [if_neg (by simpa using cc)] at hc ⊢
   rw [T.run_cur _ rfl rfl rfl, T.run_cur _ (by omega) rfl (by omega), T.run_true, T.run_true, T.run_ret, hc]
theorem long_loop (d : List Int) (hd : limbs d) (m n : Nat) (hn : d.length = n + 2) (hm : n + 2 ≤ m) (lm' : m ≤ 999999990) (htop : 2147483648 ≤ lm d (n + 1)) (u0 : List Int) (hu0 : limbs u0) (hlu : u0.length = m + 1)
  (hst : nv (u0.drop (m - (n + 2) + 1)) < nv d) (y : Int) :
  ∃ r : List Int × List Int, (nat_long_L0 y d ((n + 2 : Nat) : Int) (((m - (n + 2) : Nat) : Int), u0, List.replicate (m - (n + 2) + 1) 0)).run = some r ∧ limbs r.1 ∧ r.1.length = m + 1 ∧ limbs r.2 ∧ r.2.length = m - (n + 2) + 1 ∧ nv r.1 < nv d ∧ nv u0 = nv r.2 * nv d + nv r.1 := by
 refine T.loop_post (fun s : Int × List Int × List Int => ∃ k : Nat, s.1 = (k : Int) - 1 ∧ k ≤ m - (n + 2) + 1 ∧ limbs s.2.1 ∧ s.2.1.length = m + 1 ∧ limbs s.2.2 ∧ s.2.2.length = m - (n + 2) + 1 ∧ s.2.1.take k = u0.take k ∧
   nv (s.2.1.drop k) < nv d ∧ nv (u0.drop k) = nv (s.2.2.drop k) * nv d + nv (s.2.1.drop k))
  (fun s => (s.1 + 1).toNat) _ ?_ ⟨m - (n + 2) + 1, by simp, Nat.le_refl _, hu0, hlu, limbs_replicate _, by simp, rfl, hst, by simp⟩
 rintro ⟨_, u, q⟩ ⟨k, rfl, hk, hl, hul, hq, hql, htk, hlt, hv⟩
 simp only at hl hul hq hql htk hlt hv ⊢
 cases k with
 | zero =>
  right
  refine ⟨(u, q), ?_, hl, hul, hq, hql, by simpa using hlt, by simpa using hv⟩
  unfold nat_long_R0
  simp
 | succ i =>
  left
  obtain ⟨xs, z, hr, hz, hxl, hxn, hxt, hxm, hxv⟩ := long_round d hd n hn (by omega) htop y i (by omega) u q hl (by omega) (by omega) hq (by omega) hlt
  have e1 : ((i + 1 : Nat) : Int) - 1 = (i : Int) := by omega
  refine ⟨((i : Int) - 1, xs, q.set i (z : Int)), by rw [e1]; exact hr, ⟨i, rfl, by omega, hxl, hxn.trans hul, limbs_setN hq _ hz, by simpa using hql, ?_, hxm, ?_⟩, by simp⟩
  ·simp only
   rw [hxt]
   have := congrArg (List.take i) htk
   rwa [List.take_take, List.take_take, show min i (i + 1) = i by omega] at this
  ·simp only
   rw [set_drop _ (by omega), Int.toNat_natCast, lm_drop (a := u0) (by omega), ← lm_take_eq htk (show i < i + 1 by omega)]
   exact digit_alg hxv hv
end Go.AM.Lf
namespace Go.AM.Lf
open PL
theorem long_fin {A B S Q R : Nat} (hS : 0 < S) (h : A * S = Q * (B * S) + R) (hR : R < B * S) : Q = A / B ∧ R / S = A % B := by
 have hB : 0 < B := Nat.pos_of_ne_zero fun z => by subst z; simp at hR
 have h1 := Nat.div_add_mod R S
 have h2 := Nat.mod_lt R hS
 -- R is a multiple of S
 have h3 : A * S = S * (Q * B + R / S) + R % S := by
  have e : Q * (B * S) = S * (Q * B) := by grind
  rw [h, e, Nat.mul_add]; omega
 have h4 : R % S = 0 := by
  have := congrArg (· % S) h3
  simp only [Nat.mul_mod_left] at this
  rw [Nat.add_comm, Nat.add_mul_mod_self_left, Nat.mod_mod] at this
  exact this.symm
 rw [h4, Nat.add_zero, Nat.mul_comm A] at h3
 have h5 := Nat.eq_of_mul_eq_mul_left hS h3
 have h6 : R / S < B := (Nat.div_lt_iff_lt_mul hS).2 hR
 constructor
 ·rw [h5, Nat.mul_comm, Nat.mul_add_div hB, Nat.div_eq_of_lt h6, Nat.add_zero]
 ·rw [h5, Nat.mul_comm, Nat.mul_add_mod, Nat.mod_eq_of_lt h6]
theorem start_lt {A S P D V X : Nat} (hA : A < D * P) (hS : S ≤ 2147483648) (hV : 2147483648 * P ≤ V) (hX : X * D ≤ A * S) (hD : 0 < D) (hS0 : 0 < S) : X < V := by
 have h1 : A * S < D * V := by
  have a1 : A * S < D * P * S := Nat.mul_lt_mul_of_pos_right hA hS0
  have a2 : D * P * S ≤ D * V := by
   have : P * S ≤ V := by
    have := Nat.mul_le_mul_left P hS
    rw [Nat.mul_comm P 2147483648] at this
    exact Nat.le_trans this hV
   rw [Nat.mul_assoc]
   exact Nat.mul_le_mul_left D this
  omega
 have h2 : X * D < V * D := by rw [Nat.mul_comm V]; exact Nat.lt_of_le_of_lt hX h1
 exact Nat.lt_of_mul_lt_mul_right h2
theorem nat_long_run (a b : List Int) (ha : limbs a) (hb : limbs b) (la : a.length ≤ 100000000) (n : Nat) (hbn : b.length = n + 2) (hba : b.length ≤ a.length) (htop : lm b (n + 1) ≠ 0) :
  (nat_long a b).run = some (ofN (nv a / nv b), ofN (nv a % nv b)) := by
 have ht := lm_lt hb (n + 1)
 obtain ⟨s, hs, hs1, hs2, hs3⟩ := lz32_run (x := lm b (n + 1)) (by omega) ht
 have hp31 : 2 ^ s ≤ 2147483648 := by
  have : 2 ^ s ≤ 2 ^ 31 := Nat.pow_le_pow_right (by omega) (by omega)
  exact this
 have hsp : 0 < 2 ^ s := Nat.pow_pos (by omega)
 have hBt := top2 b n hbn
 -- the divisor
 have hfitb : nv b * 2 ^ s < 4294967296 ^ b.length := by
  have h1 := nv_take_lm b (n + 1)
  rw [nv_take_all (by omega)] at h1
  have h2 := nv_take_lt hb (n + 1)
  have h3 : nv b < 4294967296 ^ (n + 1) * (lm b (n + 1) + 1) := by rw [h1, Nat.mul_add]; omega
  rw [hbn]
  have h4 : (lm b (n + 1) + 1) * 2 ^ s ≤ 4294967296 := by
   have hm : 4294967296 = 2 ^ (32 - s) * 2 ^ s := pow_split s (by omega)
   have h5 : lm b (n + 1) < 2 ^ (32 - s) := by
    rw [hm] at hs3
    exact Nat.lt_of_mul_lt_mul_right hs3
   have := Nat.mul_le_mul_right (2 ^ s) (show lm b (n + 1) + 1 ≤ 2 ^ (32 - s) from h5)
   rw [← hm] at this; exact this
  have h5 : nv b * 2 ^ s < 4294967296 ^ (n + 1) * (lm b (n + 1) + 1) * 2 ^ s := Nat.mul_lt_mul_of_pos_right h3 hsp
  have h6 : 4294967296 ^ (n + 1) * (lm b (n + 1) + 1) * 2 ^ s ≤ 4294967296 ^ (n + 2) := by
   rw [Nat.mul_assoc, Nat.pow_succ 4294967296 (n + 1)]
   exact Nat.mul_le_mul_left _ h4
  exact Nat.lt_of_lt_of_le h5 h6
 obtain ⟨d, hd, hdl, hdn, hdv⟩ := nat_left_S_run b hb (by omega) s b.length hs1 (Nat.le_refl _) (by omega) hfitb
 have hfita : nv a * 2 ^ s < 4294967296 ^ (a.length + 1) := by
  have h1 := nv_lt ha
  rw [Nat.pow_succ]
  exact Nat.mul_lt_mul_of_lt_of_le h1 (Nat.le_trans hp31 (by omega)) (by omega)
 obtain ⟨u, hu, hul, hun, huv⟩ := nat_left_S_run a ha (by omega) s (a.length + 1) hs1 (by omega) (by omega) hfita
 -- its highest limb
 have hdtop : 2147483648 ≤ lm d (n + 1) := by
  have h1 := nv_take_lm d (n + 1)
  rw [nv_take_all (by omega), hdv] at h1
  have h2 := nv_take_lt hdl (n + 1)
  have h3 := nv_take_lm b (n + 1)
  rw [nv_take_all (by omega)] at h3
  have h4 : 4294967296 ^ (n + 1) * (lm b (n + 1) * 2 ^ s) ≤ nv b * 2 ^ s := by
   rw [← Nat.mul_assoc]
   exact Nat.mul_le_mul_right _ (by omega)
  have h5 : 4294967296 ^ (n + 1) * 2147483648 ≤ nv b * 2 ^ s := Nat.le_trans (Nat.mul_le_mul_left _ hs2) h4
  have h6 : 4294967296 ^ (n + 1) * 2147483648 < 4294967296 ^ (n + 1) * (lm d (n + 1) + 1) := by
   rw [Nat.mul_add]; omega
  have := Nat.lt_of_mul_lt_mul_left h6
  omega
 have hst : nv (u.drop (a.length - (n + 2) + 1)) < nv d := by
  have h1 := nv_split u (a.length - (n + 2) + 1) (by omega)
  have h2 : nv (u.drop (a.length - (n + 2) + 1)) * 4294967296 ^ (a.length - (n + 2) + 1) ≤ nv a * 2 ^ s := by
   rw [← huv, h1, Nat.mul_comm]; omega
  have h3 : 2147483648 * 4294967296 ^ (n + 1) ≤ nv d := by
   have h4 := nv_take_lm d (n + 1)
   rw [nv_take_all (by omega)] at h4
   have h5 := Nat.mul_le_mul_left (4294967296 ^ (n + 1)) hdtop
   rw [Nat.mul_comm 2147483648]; omega
  have h4 : nv a < 4294967296 ^ (a.length - (n + 2) + 1) * 4294967296 ^ (n + 1) := by
   rw [← Nat.pow_add, show a.length - (n + 2) + 1 + (n + 1) = a.length by omega]
   exact nv_lt ha
  exact start_lt h4 hp31 h3 h2 (pow_pos' _) hsp
 obtain ⟨⟨xu, xq⟩, hr, hxu, hxun, hxq, hxqn, hxlt, hxv⟩ := long_loop d hdl a.length n (by omega) (by omega) (by omega) hdtop u hul (by omega) hst (s : Int)
 simp only at hxu hxun hxq hxqn hxlt hxv
 rw [huv, hdv] at hxv
 rw [hdv] at hxlt
 obtain ⟨f1, f2⟩ := long_fin hsp hxv hxlt
 -- the text
 have e1 : w64 ((b.length : Int) - 1) = ((n + 1 : Nat) : Int) := by rw [w64_in (by omega) (by omega)]; omega
 have es : wu64 (s : Int) = s := wu64n (by omega)
 have e2 : w64 ((a.length : Int) + 1) = ((a.length + 1 : Nat) : Int) := i1 _ (by omega)
 have e3 : w64 (w64 ((a.length : Int) - ((n + 2 : Nat) : Int)) + 1) = ((a.length - (n + 2) + 1 : Nat) : Int) := by rw [w64_in (x := (a.length : Int) - ((n + 2 : Nat) : Int)) (by omega) (by omega), w64_in (by omega) (by omega)]; omega
 have e4 : w64 (((a.length - (n + 2) + 1 : Nat) : Int) - 1) = ((a.length - (n + 2) : Nat) : Int) := im1 _ (by omega)
 have e5 : w64 (s : Int) = s := w64_in (by omega) (by omega)
 have e6 : w64 (0 - (s : Int)) = -(s : Int) := by rw [w64_in (by omega) (by omega)]; omega
 unfold nat_long
 simp only [e1, e2, dflt_u32, nth_lm hb]
 rw [T.run_idx _ (by omega) (by omega), T.run_bind_of hs]
 simp only [es]
 rw [T.run_bind_of hu, T.run_bind_of hd]
 simp only [e3, e4, e5, e6, Int.toNat_natCast, List.length_replicate, Nat.zero_add, List.drop_zero, List.take_length, hdn, hbn]
 rw [T.run_mk _ (by omega) (by omega) (by omega) (by omega), T.run_true, T.run_cur _ rfl rfl rfl, T.run_cur _ rfl rfl rfl, T.run_true, T.run_true]
 have hdn' : d.take (n + 2) = d := List.take_of_length_le (by omega)
 simp only [hdn']
 rw [T.run_bind_of hr]
 simp only [List.take_length]
 rw [T.run_true, T.run_true, T.run_bind_of (trim_run xq hxq (by omega)), T.run_sl _ (by omega) (by omega) (by omega)]
 have ec : cutL (e := .int .u32) 0 ((n + 2 : Nat) : Int) xu = xu.take (n + 2) := by unfold cutL; simp only [Int.toNat_natCast, Int.toNat_zero, List.drop_zero]
 have hxt : nv (xu.take (n + 2)) = nv xu := by
  have h1 := nv_split xu (n + 2) (by omega)
  have h2 := nv_top_zero hxu (n + 2) (by omega) (Nat.lt_trans hxlt (by rw [← hbn]; exact hfitb))
  rw [h2] at h1; omega
 rw [ec]
 have hsh : (nat_Shift (xu.take (n + 2)) (-(s : Int))).run = some (ofN (nv xu / 2 ^ s)) := by
  rcases Nat.eq_zero_or_pos s with z | z
  ·subst z
   have := Shift_pos_run (xu.take (n + 2)) (limbs_take hxu _) (by simp; omega) 0 (by omega)
   rw [hxt] at this
   simpa using this
  ·have := Shift_neg_run (xu.take (n + 2)) (limbs_take hxu _) (by simp; omega) s (by omega) z
   rw [hxt] at this
   exact this
 rw [T.run_bind_of hsh, T.run_ret, f2, f1]
end Go.AM.Lf
namespace Go.AM.Lf
open PL
theorem ofN_top {A : Nat} (k : Nat) (h : (ofN A).length = k + 1) : lm (ofN A) k ≠ 0 := by
 intro hz
 have h1 := nv_take_lm (ofN A) k
 rw [nv_take_all (by omega), hz, Nat.mul_zero, Nat.add_zero, nv_ofN] at h1
 have h2 := nv_take_lt (limbs_ofN A) k
 have := ofN_len_le.2 (show A < 4294967296 ^ k by omega)
 omega
theorem nat_DivMod_run (a b : List Int) (ha : limbs a) (hb : limbs b) (la : a.length ≤ 100000000) (lb : b.length ≤ 100000000) :
  (nat_DivMod a b).run = some (if nv b = 0 then ([], [], false) else (ofN (nv a / nv b), ofN (nv a % nv b), true)) := by
 have qa := ofN_nv_len ha
 have qb := ofN_nv_len hb
 unfold nat_DivMod
 rw [T.run_bind_of (trim_run a ha (by omega)), T.run_bind_of (trim_run b hb (by omega))]
 generalize nv a = A at *
 generalize nv b = B at *
 by_cases hB : B = 0
 ·subst hB
  rw [ofN_zero]; simp
 ·have hne : (ofN B).length ≠ 0 := by
   intro h
   exact hB (ofN_eq_nil.1 (List.eq_nil_of_length_eq_zero h))
  rw [if_neg hB, T.run_ite_f (by simpa using hne), T.run_bind_of (nat_Cmp_run _ _ (limbs_ofN A) (limbs_ofN B) (by omega) (by omega)), nv_ofN, nv_ofN]
  by_cases hlt : A < B
  ·rw [T.run_ite_t (by unfold cmpI; rw [if_pos hlt]; rfl), T.run_bind_of (Trim_run _ (limbs_ofN A) (by omega)), T.run_ret, nv_ofN, Nat.div_eq_of_lt hlt, Nat.mod_eq_of_lt hlt, ofN_zero]
  ·rw [T.run_ite_f (by unfold cmpI; rw [if_neg hlt]; split <;> simp)]
   by_cases h1 : (ofN B).length = 1
   ·-- by one limb
    have hb1 : ofN B = [(B : Int)] := by
     rw [ofN_pos hB] at h1 ⊢
     have : B / 4294967296 = 0 := by
      have : (ofN (B / 4294967296)).length = 0 := by simpa using h1
      exact ofN_eq_nil.1 (List.eq_nil_of_length_eq_zero this)
     rw [this, ofN_zero]
     congr 1; omega
    have hBl : B < 4294967296 := by
     have := ofN_len_le.1 (Nat.le_of_eq h1)
     simpa using this
    have e0 : nth (ofN B) 0 0 = (B : Int) := by rw [hb1]; rfl
    have hm := Nat.mod_lt A (Nat.pos_of_ne_zero hB)
    have hs := nat_small_run (ofN A) (limbs_ofN A) (by omega) B (by omega) hBl
    rw [nv_ofN] at hs
    rw [T.run_ite_t (by rw [h1]; rfl), T.run_idx _ (by omega) (by omega)]
    simp only [dflt_u32, e0]
    rw [T.run_bind_of hs]
    simp only [wu64n (show A % B < 18446744073709551616 by omega)]
    rw [T.run_bind_of (nat_Of_run _ (by omega)), T.run_ret]
   ·obtain ⟨n, hn⟩ : ∃ n, (ofN B).length = n + 2 := ⟨(ofN B).length - 2, by omega⟩
    have hle : (ofN B).length ≤ (ofN A).length := by
     rcases Nat.lt_or_ge (ofN A).length (ofN B).length with h | h
     ·exact absurd (len_lt_nv h) hlt
     ·exact h
    have hl := nat_long_run (ofN A) (ofN B) (limbs_ofN A) (limbs_ofN B) (by omega) n hn hle (ofN_top (n + 1) (by omega))
    rw [nv_ofN, nv_ofN] at hl
    rw [T.run_ite_f (by simp; omega), T.run_bind_of hl, T.run_ret]
theorem nat_Gcd_run (a b : List Int) (ha : limbs a) (hb : limbs b) (la : a.length ≤ 100000000) (lb : b.length ≤ 100000000) : (nat_Gcd a b).run = some (ofN (Nat.gcd (nv a) (nv b))) := by
 have qa := ofN_nv_len ha
 have qb := ofN_nv_len hb
 unfold nat_Gcd
 rw [T.run_bind_of (Trim_run a ha (by omega)), T.run_bind_of (Trim_run b hb (by omega))]
 generalize nv a = A at *
 generalize nv b = B at *
 have key : (nat_Gcd_L0 (ofN A, ofN B)).run = some (ofN (Nat.gcd A B)) := by
  have := T.loop_run (r := nat_Gcd_R0) (fun s : List Int × List Int => ∃ A B : Nat, s = (ofN A, ofN B) ∧ (ofN A).length ≤ 100000000 ∧ (ofN B).length ≤ 100000000)
   (fun s => nv s.2) (fun s => ofN (Nat.gcd (nv s.1) (nv s.2))) ?_ (s := (ofN A, ofN B)) ⟨A, B, rfl, by omega, by omega⟩
  ·rw [nv_ofN, nv_ofN] at this; exact this
  ·rintro _ ⟨A, B, rfl, hA, hB'⟩
   simp only [nv_ofN]
   by_cases hB : B = 0
   ·right
    subst hB
    unfold nat_Gcd_R0
    rw [ofN_zero]; simp
   ·left
    have hd := nat_DivMod_run (ofN A) (ofN B) (limbs_ofN A) (limbs_ofN B) hA hB'
    rw [nv_ofN, nv_ofN, if_neg hB] at hd
    have hm := Nat.mod_lt A (Nat.pos_of_ne_zero hB)
    have hne : (ofN B).length ≠ 0 := fun h => hB (ofN_eq_nil.1 (List.eq_nil_of_length_eq_zero h))
    refine ⟨(ofN B, ofN (A % B)), ?_, ⟨B, A % B, rfl, hB', ?_⟩, by simpa using hm, ?_⟩
    ·unfold nat_Gcd_R0
     rw [T.run_ite_t (by simp; omega), T.run_bind_of hd, T.run_ret]
    ·have : (ofN (A % B)).length ≤ (ofN B).length := ofN_len_le.2 (Nat.lt_trans hm (ofN_len_le.1 (Nat.le_refl _)))
     omega
    ·simp only [nv_ofN]
     rw [Nat.gcd_comm, ← Nat.gcd_rec, Nat.gcd_comm]
 rw [T.run_bind_of key, T.run_ret]
theorem lm_eq {a : List Int} (ha : limbs a) (j : Nat) : lm a j = nv a / 4294967296 ^ j % 4294967296 := by
 by_cases h : j < a.length
 ·have h1 := nv_split a j (by omega)
  have h2 := nv_take_lt ha j
  have h3 := lm_drop (a := a) h
  have h4 := lm_lt ha j
  have h5 : nv a / 4294967296 ^ j = nv (a.drop j) := by
   refine (congrArg (· / 4294967296 ^ j) h1).trans ?_
   rw [Nat.add_mul_div_left _ _ (pow_pos' _), Nat.div_eq_of_lt h2, Nat.zero_add]
  rw [h5, h3]; omega
 ·rw [lm_ge (by omega)]
  have h1 := nv_lt ha
  have h2 : 4294967296 ^ a.length ≤ 4294967296 ^ j := Nat.pow_le_pow_right (by omega) (by omega)
  rw [Nat.div_eq_of_lt (by omega)]
theorem bit_of {a : List Int} (ha : limbs a) (i : Nat) : lm a (i / 32) / 2 ^ (i % 32) % 2 = nv a / 2 ^ i % 2 := by
 rw [lm_eq ha, ← pow32 i]
 generalize hs : i % 32 = s
 have hs2 : s < 32 := by omega
 rw [← Nat.div_div_eq_div_mul]
 generalize nv a / 4294967296 ^ (i / 32) = z
 have e : 4294967296 = 2 ^ s * 2 ^ (32 - s) := by rw [Nat.mul_comm]; exact pow_split s (by omega)
 rw [e, Nat.mod_mul_right_div_self]
 have e2 : 2 ∣ 2 ^ (32 - s) := ⟨2 ^ (31 - s), by rw [← Nat.pow_succ']; congr 1; omega⟩
 exact Nat.mod_mod_of_dvd _ e2
end Go.AM.Lf
namespace Go.AM.Lf
open PL
theorem bit_div {D B t : Nat} (hB : 0 < B) (ht : t ≤ 1) :
  (D * 2 + t) / B = D / B * 2 + (if B ≤ D % B * 2 + t then 1 else 0) ∧ (D * 2 + t) % B = (D % B * 2 + t) - (if B ≤ D % B * 2 + t then B else 0) := by
 have h1 := Nat.div_add_mod D B
 have h2 := Nat.mod_lt D hB
 generalize D / B = q at *
 generalize D % B = r at *
 subst h1
 have e : (B * q + r) * 2 + t = B * (q * 2) + (r * 2 + t) := by grind
 rw [e, Nat.mul_add_div hB, Nat.mul_add_mod]
 split
 ·rename_i c
  have e2 : r * 2 + t = B + (r * 2 + t - B) := by omega
  rw [e2, Nat.add_div_left _ hB, Nat.add_mod_left, Nat.div_eq_of_lt (by omega), Nat.mod_eq_of_lt (by omega)]
  omega
 ·rename_i c
  rw [Nat.div_eq_of_lt (by omega), Nat.mod_eq_of_lt (by omega)]; omega
theorem half_step (A i : Nat) : A / 2 ^ i = A / 2 ^ (i + 1) * 2 + A / 2 ^ i % 2 := by
 rw [Nat.pow_succ, ← Nat.div_div_eq_div_mul]
 have := Nat.div_add_mod (A / 2 ^ i) 2
 omega
theorem or_bit {x s : Nat} (hs : s < 32) (hx : x < 4294967296) (hd : 2 ^ (s + 1) ∣ x) : orI .u32 (x : Int) (shlI .u32 1 (s : Int)) = ((x + 2 ^ s : Nat) : Int) ∧ x + 2 ^ s < 4294967296 := by
 have hp : 2 ^ s < 4294967296 := Nat.pow_lt_pow_right (by omega) (show s < 32 by omega)
 have e1 : shlI .u32 1 (s : Int) = ((2 ^ s : Nat) : Int) := by
  have e : min (s : Int).toNat 32 = s := by simp; omega
  show wu32 ((1 : Int) * 2 ^ (min (s : Int).toNat 32)) = _
  rw [e, Int.one_mul]
  have e2 : (2 : Int) ^ s = ((2 ^ s : Nat) : Int) := by simp
  rw [e2, wu32n hp]
 obtain ⟨m, rfl⟩ := hd
 rw [e1, orI_u32 hx hp]
 have e3 : 2 ^ (s + 1) * m ||| 2 ^ s = 2 ^ (s + 1) * m + 2 ^ s := by
  rw [Nat.mul_comm]
  exact or_add m (2 ^ s) (s + 1) (Nat.pow_lt_pow_right (by omega) (by omega))
 rw [e3]
 refine ⟨rfl, ?_⟩
 have e4 : (4294967296 : Nat) = 2 ^ (s + 1) * 2 ^ (31 - s) := by rw [← Nat.pow_add, show s + 1 + (31 - s) = 32 by omega]
 rw [e4] at hx ⊢
 have h5 : m < 2 ^ (31 - s) := Nat.lt_of_mul_lt_mul_left hx
 have h6 := Nat.mul_le_mul_left (2 ^ (s + 1)) (show m + 1 ≤ 2 ^ (31 - s) from h5)
 rw [Nat.mul_add, Nat.mul_one] at h6
 have h7 : 2 ^ s < 2 ^ (s + 1) := Nat.pow_lt_pow_right (by omega) (by omega)
 exact Nat.lt_of_lt_of_le (Nat.add_lt_add_left h7 _) h6
theorem lm_dvd {xs : List Int} (h : limbs xs) (i M : Nat) (hv : nv xs = M * 2 ^ (i + 1)) : 2 ^ (i % 32 + 1) ∣ lm xs (i / 32) := by
 rw [lm_eq h, hv]
 have e1 : 2 ^ (i + 1) = 4294967296 ^ (i / 32) * 2 ^ (i % 32 + 1) := by
  rw [Nat.pow_succ, ← pow32 i, Nat.pow_succ, Nat.mul_assoc]
 rw [e1]
 have e2 : M * (4294967296 ^ (i / 32) * 2 ^ (i % 32 + 1)) / 4294967296 ^ (i / 32) = M * 2 ^ (i % 32 + 1) := by
  have : M * (4294967296 ^ (i / 32) * 2 ^ (i % 32 + 1)) = 4294967296 ^ (i / 32) * (M * 2 ^ (i % 32 + 1)) := by grind
  rw [this, Nat.mul_div_cancel_left _ (pow_pos' _)]
 rw [e2]
 have e3 : (4294967296 : Nat) = 2 ^ (31 - i % 32) * 2 ^ (i % 32 + 1) := by rw [← Nat.pow_add, show 31 - i % 32 + (i % 32 + 1) = 32 by omega]
 rw [e3, Nat.mul_mod_mul_right]
 exact ⟨_, Nat.mul_comm _ _⟩
theorem set_alg {X P l t M z : Nat} (h : X + P * l = M * (z * 2) + P * (l + t)) (h2 : P * t = z) : X = (M * 2 + 1) * z := by
 rw [Nat.mul_add, h2] at h
 have e : (M * 2 + 1) * z = M * (z * 2) + z := by grind
 rw [e]; omega
theorem set_bit {xs : List Int} (i M : Nat) (hi : i / 32 < xs.length) (hv : nv xs = M * 2 ^ (i + 1)) : nv (xs.set (i / 32) ((lm xs (i / 32) + 2 ^ (i % 32) : Nat) : Int)) = (M * 2 + 1) * 2 ^ i := by
 have h := nv_set (a := xs) (i := i / 32) ((lm xs (i / 32) + 2 ^ (i % 32) : Nat) : Int) hi
 rw [Int.toNat_natCast, hv] at h
 have h2 := pow32 i
 rw [Nat.pow_succ] at h
 exact set_alg h h2
theorem len_step {D B t k : Nat} (hB : 0 < B) (hk : B < 4294967296 ^ k) : (ofN (D % B)).length ≤ k ∧ (ofN (D % B * 2)).length ≤ k + 1 := by
 have h1 : D % B < 4294967296 ^ k := Nat.lt_trans (Nat.mod_lt _ hB) hk
 refine ⟨ofN_len_le.2 h1, ofN_len_le.2 ?_⟩
 rw [Nat.pow_succ]
 have h2 : D % B * 2 < 4294967296 ^ k * 2 := Nat.mul_lt_mul_of_pos_right h1 (by omega)
 exact Nat.lt_of_lt_of_le h2 (Nat.mul_le_mul_left _ (by omega))
theorem one_limb : limbs [(1 : Int)] := by
 intro x hx; simp at hx; omega
theorem bits_round (a b : List Int) (ha : limbs a) (hb : limbs b) (la : a.length ≤ 100000000) (lb : b.length ≤ 100000000) (hB : 0 < nv b) (i : Nat) (hi : i < 32 * a.length) (xs : List Int) (hl : limbs xs) (hn : xs.length = a.length)
  (hv : nv xs = nv a / 2 ^ (i + 1) / nv b * 2 ^ (i + 1)) :
  ∃ ys : List Int, (ref1_DivMod_R0 a b (ofN (nv a / 2 ^ (i + 1) % nv b), (i : Int), xs)).run = some (.inl (ofN (nv a / 2 ^ i % nv b), (i : Int) - 1, ys)) ∧ limbs ys ∧ ys.length = a.length ∧ nv ys = nv a / 2 ^ i / nv b * 2 ^ i := by
 have hbit := bit_of ha i
 have hhalf := half_step (nv a) i
 have hx := lm_lt ha (i / 32)
 have hxl := lm_lt hl (i / 32)
 obtain ⟨q1, q2⟩ := len_step (D := nv a / 2 ^ (i + 1)) (t := 0) hB (nv_lt hb)
 obtain ⟨k1, k2⟩ := bit_div (D := nv a / 2 ^ (i + 1)) hB (show nv a / 2 ^ i % 2 ≤ 1 by omega)
 rw [← hhalf] at k1 k2
 obtain ⟨o1, o2⟩ := or_bit (s := i % 32) (by omega) hxl (lm_dvd hl i _ hv)
 have hsb := set_bit (xs := xs) i _ (by omega) hv
 have hsh := ref1_Shift1_run (ofN (nv a / 2 ^ (i + 1) % nv b)) (limbs_ofN _) (by omega)
 rw [nv_ofN] at hsh
 have hv0 : nv a / 2 ^ (i + 1) / nv b * 2 ^ (i + 1) = nv a / 2 ^ (i + 1) / nv b * 2 * 2 ^ i := by rw [Nat.pow_succ, Nat.mul_comm (2 ^ i) 2, Nat.mul_assoc]
 rw [hv0] at hv
 clear hhalf hv0
 generalize nv a / 2 ^ (i + 1) = D at *
 generalize nv a / 2 ^ i = D0 at *
 have hadd := ref1_Add_run (ofN (D % nv b * 2)) [1] (limbs_ofN _) one_limb (by omega) (by simp)
 rw [nv_ofN, show nv [1] = 1 from rfl] at hadd
 have ht1 : D0 % 2 ≤ 1 := by omega
 generalize D0 % 2 = t at *
 have q3 : (ofN (D % nv b * 2 + t)).length ≤ b.length + 1 := by
  refine ofN_len_le.2 ?_
  rw [Nat.pow_succ]
  have h1 := Nat.mod_lt D hB
  have h2 := nv_lt hb
  have h3 : D % nv b * 2 + t < 4294967296 ^ b.length * 2 := by omega
  exact Nat.lt_of_lt_of_le h3 (Nat.mul_le_mul_left _ (by omega))
 have hcmp := ref1_Cmp_run (ofN (D % nv b * 2 + t)) b (limbs_ofN _) hb (by omega) (by omega)
 have hsub := ref1_Sub_run (ofN (D % nv b * 2 + t)) b (limbs_ofN _) hb (by omega) (by omega)
 rw [nv_ofN] at hcmp hsub
 have e1 : w64 (Int.tdiv (i : Int) 32) = ((i / 32 : Nat) : Int) := by rw [tdiv_pos (by omega), w64_in (by omega) (by omega)]; omega
 have e2 : wu64 (Int.tmod (i : Int) 32) = ((i % 32 : Nat) : Int) := by rw [tmod_pos (by omega), wu64_in (by omega) (by omega)]; omega
 have e3 : w64 ((i : Int) - 1) = (i : Int) - 1 := w64_in (by omega) (by omega)
 have e4 : andI .u32 (shrI .u32 (lm a (i / 32) : Int) ((i % 32 : Nat) : Int)) 1 = (t : Int) := by
  rw [shr_u32 (by omega)]
  have := andI_u32 (x := lm a (i / 32) / 2 ^ (i % 32)) (y := 1) (Nat.lt_of_le_of_lt (Nat.div_le_self _ _) hx) (by omega)
  rw [Nat.and_one_is_mod, hbit] at this
  exact this
 have hbl := limbs_setN (a := xs) hl (i / 32) o2
 by_cases c : nv b ≤ D % nv b * 2 + t
 ·rw [if_pos c] at k1 k2
  rw [if_neg (by omega)] at hsub
  refine ⟨xs.set (i / 32) ((lm xs (i / 32) + 2 ^ (i % 32) : Nat) : Int), ?_, hbl, by simpa using hn, ?_⟩
  ·unfold ref1_DivMod_R0
   simp only [e1, e2, e3, dflt_u32, nth_lm ha, e4, Int.toNat_natCast, Nat.zero_add, nthN_lm hl, o1]
   rw [T.run_ite_t (by simp), T.run_bind_of hsh]
   rw [T.run_bind_of (a := (ofN (D % nv b * 2 + t), xs)) ?_]
   rotate_left
   ·rw [T.run_neI _ (by omega), T.run_idx _ (by omega) (by omega), T.run_neI _ (by omega), T.run_leI _ (by omega)]
    have : t = 0 ∨ t = 1 := by omega
    rcases this with rfl | rfl
    ·rw [T.run_ite_f (by decide), T.run_cur _ rfl rfl rfl, T.run_true, T.run_ret]; rfl
    ·rw [T.run_ite_t (by decide), T.run_bind_of hadd, T.run_cur _ rfl rfl rfl, T.run_true, T.run_ret]
   simp only
   rw [T.run_bind_of hcmp, T.run_ite_t (by unfold cmpI; rw [if_neg (by omega)]; split <;> simp), T.run_bind_of hsub]
   simp only
   rw [T.run_neI _ (by omega), T.run_neI _ (by omega), T.run_idx _ (by omega) (by omega), T.run_e _ rfl (by omega), T.run_neI _ (by omega), T.run_leI _ (by omega), T.run_idx _ (by omega) (by omega), T.run_e _ rfl (by omega),
    T.run_cur _ (by simp) rfl (by simp), T.run_eqN _ (by simp), T.run_ret, k2, nthN_lm hl, o1]
  ·rw [hsb, k1]
 ·rw [if_neg c] at k1 k2
  refine ⟨xs, ?_, hl, hn, ?_⟩
  ·unfold ref1_DivMod_R0
   simp only [e1, e2, e3, dflt_u32, nth_lm ha, e4, Int.toNat_natCast, Nat.zero_add, nthN_lm hl, o1]
   rw [T.run_ite_t (by simp), T.run_bind_of hsh]
   rw [T.run_bind_of (a := (ofN (D % nv b * 2 + t), xs)) ?_]
   rotate_left
   ·rw [T.run_neI _ (by omega), T.run_idx _ (by omega) (by omega), T.run_neI _ (by omega), T.run_leI _ (by omega)]
    have : t = 0 ∨ t = 1 := by omega
    rcases this with rfl | rfl
    ·rw [T.run_ite_f (by decide), T.run_cur _ rfl rfl rfl, T.run_true, T.run_ret]; rfl
    ·rw [T.run_ite_t (by decide), T.run_bind_of hadd, T.run_cur _ rfl rfl rfl, T.run_true, T.run_ret]
   simp only
   rw [T.run_bind_of hcmp, T.run_ite_f (by unfold cmpI; rw [if_pos (by omega)]; rfl), T.run_cur _ rfl rfl rfl, T.run_true, T.run_ret, k2, Nat.sub_zero]
  ·rw [hv, k1, Nat.add_zero]
theorem bits_loop (a b : List Int) (ha : limbs a) (hb : limbs b) (la : a.length ≤ 100000000) (lb : b.length ≤ 100000000) (hB : 0 < nv b) :
  ∃ xs : List Int, (ref1_DivMod_L0 a b ([], ((32 * a.length : Nat) : Int) - 1, List.replicate a.length 0)).run = some (ofN (nv a % nv b), xs) ∧ limbs xs ∧ xs.length = a.length ∧ nv xs = nv a / nv b := by
 have h0 : nv a / 2 ^ (32 * a.length) = 0 := by
  refine Nat.div_eq_of_lt ?_
  have h1 := nv_lt ha
  have e : (4294967296 : Nat) = 2 ^ 32 := by decide
  rw [e, ← Nat.pow_mul] at h1; exact h1
 obtain ⟨⟨r, xs⟩, g1, g2, g3, g4, g5⟩ : ∃ r : List Int × List Int, (ref1_DivMod_L0 a b ([], ((32 * a.length : Nat) : Int) - 1, List.replicate a.length 0)).run = some r ∧ r.1 = ofN (nv a % nv b) ∧ limbs r.2 ∧ r.2.length = a.length ∧ nv r.2 = nv a / nv b := by
  refine T.loop_post (fun s : List Int × Int × List Int => ∃ k : Nat, s.2.1 = (k : Int) - 1 ∧ k ≤ 32 * a.length ∧ s.1 = ofN (nv a / 2 ^ k % nv b) ∧ limbs s.2.2 ∧ s.2.2.length = a.length ∧ nv s.2.2 = nv a / 2 ^ k / nv b * 2 ^ k)
   (fun s => (s.2.1 + 1).toNat) _ ?_ ⟨32 * a.length, rfl, Nat.le_refl _, by rw [h0, Nat.zero_mod, ofN_zero], limbs_replicate _, by simp, by rw [h0]; simp⟩
  rintro ⟨_, _, xs⟩ ⟨k, rfl, hk, rfl, hl, hn, hv⟩
  simp only at hl hn hv ⊢
  cases k with
  | zero =>
   right
   refine ⟨(_, xs), ?_, rfl, hl, hn, by simpa using hv⟩
   unfold ref1_DivMod_R0
   simp
  | succ i =>
   left
   obtain ⟨ys, f1, f2, f3, f4⟩ := bits_round a b ha hb la lb hB i (by omega) xs hl hn hv
   have e1 : ((i + 1 : Nat) : Int) - 1 = (i : Int) := by omega
   exact ⟨(ofN (nv a / 2 ^ i % nv b), (i : Int) - 1, ys), by rw [e1]; exact f1, ⟨i, rfl, by omega, rfl, f2, f3, f4⟩, by simp⟩
 simp only at g2 g3 g4 g5
 subst g2
 exact ⟨xs, g1, g3, g4, g5⟩
theorem ref1_DivMod_run (a b : List Int) (ha : limbs a) (hb : limbs b) (la : a.length ≤ 100000000) (lb : b.length ≤ 100000000) :
  (ref1_DivMod a b).run = some (if nv b = 0 then ([], [], false) else (ofN (nv a / nv b), ofN (nv a % nv b), true)) := by
 unfold ref1_DivMod
 rw [T.run_bind_of (rTrim_run b hb (by omega))]
 by_cases hB : nv b = 0
 ·rw [if_pos hB, hB, ofN_zero]; simp
 ·have hBp : 0 < nv b := Nat.pos_of_ne_zero hB
  have hne : (ofN (nv b)).length ≠ 0 := fun h => hB (ofN_eq_nil.1 (List.eq_nil_of_length_eq_zero h))
  obtain ⟨xs, g1, g2, g3, g4⟩ := bits_loop a b ha hb la lb hBp
  have e5 : w64 (w64 (32 * (a.length : Int)) - 1) = ((32 * a.length : Nat) : Int) - 1 := by rw [w64_in (x := 32 * (a.length : Int)) (by omega) (by omega), w64_in (by omega) (by omega)]; omega
  have hm2 : (ofN (nv a % nv b)).length ≤ 100000000 := Nat.le_trans (ofN_len_le.2 (Nat.lt_trans (Nat.mod_lt _ hBp) (nv_lt hb))) lb
  have t1 := rTrim_run xs g2 (by omega)
  have t2 := rTrim_run (ofN (nv a % nv b)) (limbs_ofN _) (by omega)
  rw [g4] at t1
  rw [nv_ofN] at t2
  rw [if_neg hB, T.run_ite_f (by simpa using hne), T.run_bind_of (ref1_To_run a ha (by omega)), T.run_bind_of (ref1_To_run b hb (by omega))]
  by_cases c2 : nv b < 18446744073709551616
  ·by_cases c1 : nv a < 18446744073709551616
   ·-- both are words
    have hq : nv a / nv b < 18446744073709551616 := Nat.lt_of_le_of_lt (Nat.div_le_self _ _) c1
    have hm : nv a % nv b < 18446744073709551616 := Nat.lt_of_le_of_lt (Nat.mod_le _ _) c1
    have e3 : Int.tdiv ((nv a : Nat) : Int) ((nv b : Nat) : Int) = ((nv a / nv b : Nat) : Int) := by rw [tdiv_pos (by omega)]; exact (Int.natCast_ediv _ _).symm
    have e4 : Int.tmod ((nv a : Nat) : Int) ((nv b : Nat) : Int) = ((nv a % nv b : Nat) : Int) := by rw [tmod_pos (by omega)]; exact (Int.natCast_emod _ _).symm
    simp only [if_pos c1, if_pos c2, Bool.and_self, T.run_ite_true, e3, e4]
    rw [T.run_neI _ (by omega), wu64n hq, T.run_bind_of (ref1_Of_run _ hq), T.run_neI _ (by omega), T.run_bind_of (ref1_Of_run _ hm), T.run_ret]
   ·rw [if_neg c1, if_pos c2]
    rw [T.run_ite_f (by rfl)]
    by_cases c3 : nv b < 4294967296
    ·have hm := Nat.mod_lt (nv a) hBp
     rw [T.run_ite_t (show (true && decide ((nv b : Int) < 4294967296)) = true by rw [Bool.true_and]; exact decide_eq_true (by omega)), T.run_bind_of (ref1_small_run a ha (by omega) (nv b) hBp c3)]
     simp only
     have hm3 : nv a % nv b < 18446744073709551616 := Nat.lt_trans hm c2
     rw [T.run_bind_of (ref1_Of_run _ hm3), T.run_ret]
    ·rw [T.run_ite_f (show (true && decide ((nv b : Int) < 4294967296)) = false by rw [Bool.true_and]; exact decide_eq_false (by omega)), e5]
     simp only [Int.toNat_natCast, List.length_replicate]
     rw [T.run_mk _ (by omega) (by omega) (by omega) (by omega), T.run_cur _ rfl rfl rfl, T.run_true, T.run_bind_of g1]
     simp only [Nat.zero_add, List.drop_zero, List.take_length]
     rw [T.run_true, T.run_bind_of t1, T.run_bind_of t2, T.run_ret]
  ·rw [if_neg c2]
   simp only [Bool.and_false, Bool.false_and, T.run_ite_false]
   rw [e5]
   simp only [Int.toNat_natCast, List.length_replicate]
   rw [T.run_mk _ (by omega) (by omega) (by omega) (by omega), T.run_cur _ rfl rfl rfl, T.run_true, T.run_bind_of g1]
   simp only [Nat.zero_add, List.drop_zero, List.take_length]
   rw [T.run_true, T.run_bind_of t1, T.run_bind_of t2, T.run_ret]
end Go.AM.Lf
namespace Go.AM.PL
def dgt (n : Nat) : UInt8 := UInt8.ofNat (48 + n % 10)
def dgz (n : Nat) : Str := if h : n = 0 then [] else dgz (n / 10) ++ [dgt n]
termination_by n
decreasing_by omega
def pr (n : Nat) : Str := if n = 0 then [48] else dgz n
theorem dgz_zero : dgz 0 = [] := by rw [dgz]; rfl
theorem dgz_pos {n : Nat} (h : n ≠ 0) : dgz n = dgz (n / 10) ++ [dgt n] := by rw [dgz, dif_neg h]
def rd (n : Nat) : List Int := if h : n = 0 then [] else ((48 + n % 10 : Nat) : Int) :: rd (n / 10)
termination_by n
decreasing_by omega
theorem rd_zero : rd 0 = [] := by rw [rd]; rfl
theorem rd_pos {n : Nat} (h : n ≠ 0) : rd n = ((48 + n % 10 : Nat) : Int) :: rd (n / 10) := by rw [rd, dif_neg h]
def rdig : Nat → Nat → List Int
 | 0, _ => []
 | k + 1, n => ((48 + n % 10 : Nat) : Int) :: rdig k (n / 10)
theorem rdig_len (k n : Nat) : (rdig k n).length = k := by
 induction k generalizing n with
 | zero => rfl
 | succ k ih => simp [rdig, ih]
theorem rdig_mod (k n : Nat) : rdig k (n % 10 ^ k) = rdig k n := by
 induction k generalizing n with
 | zero => rfl
 | succ k ih =>
  simp only [rdig]
  have e1 : n % 10 ^ (k + 1) % 10 = n % 10 := Nat.mod_mod_of_dvd _ ⟨10 ^ k, by rw [Nat.pow_succ, Nat.mul_comm]⟩
  have e2 : n % 10 ^ (k + 1) / 10 = n / 10 % 10 ^ k := by rw [Nat.pow_succ, Nat.mul_comm, Nat.mod_mul_right_div_self]
  rw [e1, e2, ih]
theorem rd_split (k n : Nat) (h : n / 10 ^ k ≠ 0) : rd n = rdig k n ++ rd (n / 10 ^ k) := by
 induction k generalizing n with
 | zero => simp [rdig]
 | succ k ih =>
  have hn : n ≠ 0 := by intro z; subst z; simp at h
  have e : n / 10 ^ (k + 1) = n / 10 / 10 ^ k := by rw [Nat.pow_succ, Nat.mul_comm, Nat.div_div_eq_div_mul]
  rw [e] at h ⊢
  rw [rd_pos hn, ih _ h]; rfl
theorem rdig_small (k n : Nat) (h : n / 10 ^ k = 0) : ∃ z, rdig k n = rd n ++ List.replicate z 48 := by
 induction k generalizing n with
 | zero => simp at h; subst h; exact ⟨0, by rw [rd_zero]; rfl⟩
 | succ k ih =>
  have e : n / 10 ^ (k + 1) = n / 10 / 10 ^ k := by rw [Nat.pow_succ, Nat.mul_comm, Nat.div_div_eq_div_mul]
  rw [e] at h
  obtain ⟨z, hz⟩ := ih _ h
  simp only [rdig]
  by_cases hn : n = 0
  ·subst hn
   refine ⟨z + 1, ?_⟩
   rw [hz]
   simp [rd_zero, List.replicate_succ]
  ·exact ⟨z, by rw [hz, rd_pos hn]; rfl⟩
def blk (n : Nat) : List Int := if h : n = 0 then [] else rdig 9 (n % 1000000000) ++ blk (n / 1000000000)
termination_by n
decreasing_by omega
theorem blk_zero : blk 0 = [] := by rw [blk]; rfl
theorem blk_pos {n : Nat} (h : n ≠ 0) : blk n = rdig 9 (n % 1000000000) ++ blk (n / 1000000000) := by rw [blk, dif_neg h]
theorem blk_rd (n : Nat) : ∃ z, blk n = rd n ++ List.replicate z 48 := by
 induction n using Nat.strongRecOn with
 | _ n ih =>
  by_cases hn : n = 0
  ·subst hn; exact ⟨0, by rw [blk_zero, rd_zero]; rfl⟩
  ·rw [blk_pos hn]
   have e : rdig 9 (n % 1000000000) = rdig 9 n := rdig_mod 9 n
   rw [e]
   by_cases h : n / 1000000000 = 0
   ·rw [h, blk_zero, List.append_nil]
    exact rdig_small 9 n h
   ·obtain ⟨z, hz⟩ := ih (n / 1000000000) (by omega)
    refine ⟨z, ?_⟩
    rw [hz, ← List.append_assoc]
    congr 1
    exact (rd_split 9 n h).symm
theorem dgz_rd (n : Nat) : dgz n = bytesStr (rd n).reverse := by
 induction n using Nat.strongRecOn with
 | _ n ih =>
  by_cases hn : n = 0
  ·subst hn; rw [dgz_zero, rd_zero]; rfl
  ·rw [dgz_pos hn, rd_pos hn, ih _ (by omega)]
   simp only [List.reverse_cons, bytesStr, List.map_append, List.map_cons, List.map_nil]
   congr 1
theorem rd_ne {n : Nat} (h : n ≠ 0) : rd n ≠ [] := by rw [rd_pos h]; simp
theorem rd_last (n : Nat) : ∀ x, (rd n).getLast? = some x → x ≠ 48 := by
 induction n using Nat.strongRecOn with
 | _ n ih =>
  intro x hx
  by_cases hn : n = 0
  ·subst hn; rw [rd_zero] at hx; cases hx
  ·rw [rd_pos hn] at hx
   by_cases h2 : n / 10 = 0
   ·rw [h2, rd_zero] at hx
    simp at hx; omega
   ·refine ih (n / 10) (by omega) x ?_
    rw [← hx]
    cases hc : rd (n / 10) with
    | nil => exact absurd hc (rd_ne h2)
    | cons y l => rw [List.getLast?_cons_cons]
end Go.AM.PL
namespace Go.AM.Lf
open PL
@[simp] theorem dflt_u8 : dflt (.int .u8) = (0 : Int) := rfl
theorem lenDigits : ([48, 49, 50, 51, 52, 53, 54, 55, 56, 57] : Str).length = 10 := rfl
theorem digitAt (r : Nat) : byteAt ([48, 49, 50, 51, 52, 53, 54, 55, 56, 57] : Str) ((r % 10 : Nat) : Int) = ((48 + r % 10 : Nat) : Int) := by
 have key : ∀ d : Fin 10, byteAt ([48, 49, 50, 51, 52, 53, 54, 55, 56, 57] : Str) ((d.val : Nat) : Int) = ((48 + d.val : Nat) : Int) := by decide
 exact key ⟨r % 10, by omega⟩
theorem group_run (q : List Int) (rest : Nat) (hr : rest < 4294967296) (xs : List Int) (hx : xs.length ≤ 1000000000) : (nat_Print_L1 q ((rest : Int), 0, xs)).run = some (xs ++ rdig 9 rest) := by
 have := T.loop_run (r := nat_Print_R1 q) (fun s : Int × Int × List Int => ∃ (r k : Nat), s.1 = (r : Int) ∧ r < 4294967296 ∧ s.2.1 = (k : Int) ∧ k ≤ 9 ∧ s.2.2.length ≤ 1000000000 + k)
  (fun s => 9 - s.2.1.toNat) (fun s => s.2.2 ++ rdig (9 - s.2.1.toNat) s.1.toNat) ?_ (s := ((rest : Int), 0, xs)) ⟨rest, 0, rfl, hr, rfl, by omega, by omega⟩
 ·unfold nat_Print_L1
  simpa using this
 ·rintro ⟨_, _, ys⟩ ⟨r, k, rfl, h1, rfl, h2, h3⟩
  simp only at h3 ⊢
  by_cases hk : k < 9
  ·left
   have e1 : Int.tmod (r : Int) 10 = ((r % 10 : Nat) : Int) := by rw [tmod_pos (by omega)]; rfl
   have e2 : wu32 (Int.tdiv (r : Int) 10) = ((r / 10 : Nat) : Int) := by rw [tdiv_pos (by omega)]; exact wu32n (n := r / 10) (by omega)
   refine ⟨(((r / 10 : Nat) : Int), ((k + 1 : Nat) : Int), ys ++ [((48 + r % 10 : Nat) : Int)]), ?_, ⟨r / 10, k + 1, rfl, by omega, rfl, by omega, by simp; omega⟩, by simp; omega, ?_⟩
   ·unfold nat_Print_R1
    simp only [e1, e2, digitAt, i1 k (by omega), lenDigits]
    rw [T.run_ite_t (by simp; omega)]
    simp (disch := omega)
   ·simp only [Int.toNat_natCast]
    rw [show 9 - k = (9 - (k + 1)) + 1 by omega, rdig]
    simp
  ·right
   have : k = 9 := by omega
   subst this
   unfold nat_Print_R1
   simp [rdig]
theorem blk_len (n j : Nat) (h : n < 4294967296 ^ j) : (blk n).length ≤ 18 * j := by
 induction j generalizing n with
 | zero =>
  have : n = 0 := by simpa using h
  subst this; rw [blk_zero]; simp
 | succ j ih =>
  by_cases hn : n = 0
  ·subst hn; rw [blk_zero]; simp
  ·rw [blk_pos hn]
   by_cases h2 : n / 1000000000 = 0
   ·rw [h2, blk_zero]; simp [rdig_len]; omega
   ·rw [blk_pos h2]
    have h3 : n / 1000000000 / 1000000000 < 4294967296 ^ j := by
     rw [Nat.div_div_eq_div_mul, Nat.div_lt_iff_lt_mul (by omega)]
     rw [Nat.pow_succ] at h
     exact Nat.lt_of_lt_of_le h (Nat.mul_le_mul_left _ (by omega))
    have := ih _ h3
    simp [rdig_len]; omega
theorem groups_run (n : Nat) (hn : (ofN n).length ≤ 1000000) : (nat_Print_L0 (ofN n, [])).run = some (blk n) := by
 have hbl := blk_len n (ofN n).length (ofN_len_le.1 (Nat.le_refl _))
 have := T.loop_run (r := nat_Print_R0) (fun s : List Int × List Int => ∃ m : Nat, s.1 = ofN m ∧ (ofN m).length ≤ 1000000 ∧ s.2.length + (blk m).length ≤ 18000000)
  (fun s => nv s.1) (fun s => s.2 ++ blk (nv s.1)) ?_ (s := (ofN n, [])) ⟨n, rfl, hn, by simp; omega⟩
 ·unfold nat_Print_L0
  simpa using this
 ·rintro ⟨_, xs⟩ ⟨m, rfl, h1, h2⟩
  simp only [nv_ofN] at h2 ⊢
  by_cases hm : m = 0
  ·right
   subst hm
   unfold nat_Print_R0
   rw [ofN_zero, blk_zero]; simp
  ·left
   have hne : (ofN m).length ≠ 0 := fun h => hm (ofN_eq_nil.1 (List.eq_nil_of_length_eq_zero h))
   have hs : (nat_small (ofN m) 1000000000).run = some (ofN (nv (ofN m) / 1000000000), ((nv (ofN m) % 1000000000 : Nat) : Int)) := nat_small_run (ofN m) (limbs_ofN m) (by omega) 1000000000 (by omega) (by omega)
   rw [nv_ofN] at hs
   have hbm := blk_pos hm
   have hl := congrArg List.length hbm
   rw [List.length_append, rdig_len] at hl
   have hg := group_run (ofN (m / 1000000000)) (m % 1000000000) (by omega) xs (by omega)
   have hlen : (ofN (m / 1000000000)).length ≤ (ofN m).length := ofN_len_le.2 (Nat.lt_of_le_of_lt (Nat.div_le_self _ _) (ofN_len_le.1 (Nat.le_refl _)))
   refine ⟨(ofN (m / 1000000000), xs ++ rdig 9 (m % 1000000000)), ?_, ⟨m / 1000000000, rfl, by omega, ?_⟩, ?_, ?_⟩
   ·unfold nat_Print_R0
    rw [T.run_ite_t (by simp; omega), T.run_bind_of hs]
    simp only
    rw [T.run_cur _ rfl rfl rfl, T.run_true, T.run_bind_of hg, T.run_cur _ rfl rfl rfl, T.run_true, T.run_ret]
   ·simp only [List.length_append, rdig_len]; omega
   ·simp only [nv_ofN]; omega
   ·simp only [nv_ofN]
    rw [hbm, List.append_assoc]
theorem strip_run (l : List Int) (z : Nat) (hl : l ≠ []) (hlast : ∀ x, l.getLast? = some x → x ≠ 48) (hn : l.length + z ≤ 100000000) :
  (nat_Print_L2 ((0, (l ++ List.replicate z 48).length), l ++ List.replicate z 48)).run = some ((0, l.length), l ++ List.replicate z 48) := by
 generalize hX : l ++ List.replicate z 48 = X
 have hXl : X.length = l.length + z := by rw [← hX]; simp
 have hpos : 0 < l.length := List.length_pos_iff.2 hl
 have hget : ∀ p : Nat, nthN X p 0 = if p < l.length then nthN l p 0 else if p < l.length + z then 48 else 0 := by
  intro p
  unfold nthN
  rw [← hX, List.getD_eq_getElem?_getD, List.getD_eq_getElem?_getD]
  by_cases h : p < l.length
  ·rw [if_pos h, List.getElem?_append_left h]
  ·rw [if_neg h, List.getElem?_append_right (by omega), List.getElem?_replicate]
   by_cases h2 : p < l.length + z
   ·rw [if_pos h2, if_pos (by omega)]; rfl
   ·rw [if_neg h2, if_neg (by omega)]; rfl
 have := T.loop_run (r := nat_Print_R2) (fun s : (Nat × Nat) × List Int => ∃ k : Nat, s.1 = (0, l.length + k) ∧ k ≤ z ∧ s.2 = X) (fun s => s.1.2) (fun _ => ((0, l.length), X)) ?_ (s := ((0, X.length), X)) ⟨z, by rw [hXl], Nat.le_refl _, rfl⟩
 ·exact this
 ·rintro ⟨w, y⟩ ⟨k, h1, hk, h2⟩
  simp only at h1 h2
  rw [h1, h2]
  have e1 : w64 (((l.length + k : Nat) : Int) - 1) = ((l.length + k - 1 : Nat) : Int) := by rw [w64_in (by omega) (by omega)]; omega
  have hg := hget (l.length + k - 1)
  cases k with
  | zero =>
   right
   have hgl : nthN l (l.length - 1) 0 ≠ 48 := by
    refine hlast _ ?_
    rw [List.getLast?_eq_getElem?]
    unfold nthN
    rw [List.getD_eq_getElem?_getD, List.getElem?_eq_getElem (by omega)]; rfl
   rw [Nat.add_zero] at hg
   rw [if_pos (by omega)] at hg
   unfold nat_Print_R2
   simp only [Nat.add_zero] at e1 ⊢
   simp only [e1, Int.toNat_natCast, Nat.zero_add, dflt_u8, hg]
   rw [T.run_obl (fun _ => ⟨⟨by omega, by omega⟩, ⟨rfl, by omega⟩⟩), T.run_ite_f (by simp [hgl]), T.run_true, T.run_true, T.run_ret]
  | succ k =>
   left
   rw [show l.length + (k + 1) - 1 = l.length + k by omega] at e1 hg
   rw [if_neg (by omega), if_pos (by omega)] at hg
   refine ⟨((0, l.length + k), X), ?_, ⟨k, rfl, by omega, rfl⟩, by simp, rfl⟩
   unfold nat_Print_R2
   simp only [e1, Int.toNat_natCast, Nat.zero_add, dflt_u8, hg]
   rw [T.run_obl (fun _ => ⟨⟨by omega, by omega⟩, ⟨rfl, by omega⟩⟩), T.run_ite_t (by simp; omega), T.run_sl _ (by omega) (by omega) (by omega), T.run_true, T.run_true, T.run_ret]
   simp
theorem reverse_run (xs : List Int) (n : Nat) (hn : n ≤ xs.length) (hx : xs.length ≤ 1000000000) : ∃ ys : List Int, (slices_Reverse_sl_byte_S (0, n) xs).run = some ys ∧ ys.length = xs.length ∧ ys.take n = (xs.take n).reverse := by
 have e0 : w64 ((n : Int) - 1) = (n : Int) - 1 := w64_in (by omega) (by omega)
 have loop : ∃ ys : List Int, (slices_Reverse_sl_byte_S_L0 ((0, n), 0, (n : Int) - 1, xs)).run = some ys ∧ ys.length = xs.length ∧ ∀ p, p < n → ys[p]? = xs[n - 1 - p]? := by
  refine T.loop_post (fun s : (Nat × Nat) × Int × Int × List Int => s.1 = (0, n) ∧ ∃ i : Nat, s.2.1 = (i : Int) ∧ s.2.2.1 = (n : Int) - 1 - (i : Int) ∧ i ≤ n ∧ s.2.2.2.length = xs.length ∧ 2 * i ≤ n + 1 ∧ ∀ p, p < n → s.2.2.2[p]? = if p < i ∨ n < p + i + 1 then xs[n - 1 - p]? else xs[p]?)
   (fun s => n - s.2.1.toNat) _ ?_ ⟨rfl, 0, rfl, by simp, by omega, rfl, by omega, fun p hp => by rw [if_neg (by omega)]⟩
  rintro ⟨_, _, _, zs⟩ ⟨rfl, i, rfl, rfl, hi, hl, h2i, hv⟩
  simp only at hl hv ⊢
  by_cases hlt : (i : Int) < (n : Int) - 1 - (i : Int)
  ·left
   have hj : ((n : Int) - 1 - (i : Int)).toNat = n - 1 - i := by omega
   have ej : w64 ((n : Int) - 1 - (i : Int) - 1) = (n : Int) - 1 - ((i + 1 : Nat) : Int) := by rw [w64_in (by omega) (by omega)]; omega
   refine ⟨((0, n), ((i + 1 : Nat) : Int), (n : Int) - 1 - ((i + 1 : Nat) : Int), (zs.set i (nthN zs (n - 1 - i) 0)).set (n - 1 - i) (nthN zs i 0)), ?_, ⟨rfl, i + 1, rfl, rfl, by omega, by simpa using hl, by omega, ?_⟩, by simp; omega⟩
   ·unfold slices_Reverse_sl_byte_S_R0
    simp only [hj, Int.toNat_natCast, Nat.zero_add, dflt_u8, i1 i (by omega), ej]
    rw [T.run_ite_t (decide_eq_true hlt), T.run_idx _ (by omega) (by omega), T.run_e _ rfl (by omega), T.run_idx _ (by omega) (by omega), T.run_e _ rfl (by omega), T.run_idx _ (by omega) (by omega), T.run_e _ rfl (by omega), T.run_idx _ (by omega) (by omega), T.run_e _ (by simp) (by simp; omega), T.run_true, T.run_eqN _ (by simp), T.run_ret]
   ·intro p hp
    have g1 := hv i (by omega)
    have g2 := hv (n - 1 - i) (by omega)
    rw [if_neg (by omega)] at g1 g2
    simp only [List.getElem?_set, List.length_set]
    by_cases c1 : n - 1 - i = p
    ·rw [if_pos c1, if_pos (by omega), if_pos (by omega)]
     unfold nthN
     rw [List.getD_eq_getElem?_getD, g1, ← c1, show n - 1 - (n - 1 - i) = i by omega, List.getElem?_eq_getElem (by omega)]; rfl
    ·rw [if_neg c1]
     by_cases c2 : i = p
     ·rw [if_pos c2, if_pos (by omega), if_pos (by omega)]
      unfold nthN
      rw [List.getD_eq_getElem?_getD, g2, ← c2, List.getElem?_eq_getElem (by omega)]; rfl
     ·rw [if_neg c2, hv p hp]
      by_cases c3 : p < i ∨ n < p + i + 1
      ·rw [if_pos c3, if_pos (by omega)]
      ·rw [if_neg c3, if_neg (by omega)]
  ·right
   refine ⟨zs, ?_, hl, fun p hp => ?_⟩
   ·unfold slices_Reverse_sl_byte_S_R0
    rw [T.run_ite_f (decide_eq_false hlt), T.run_eqN _ rfl, T.run_ret]
   ·rw [hv p hp]
    split
    ·rfl
    ·rw [show n - 1 - p = p by omega]
 obtain ⟨ys, hr, hl, hv⟩ := loop
 refine ⟨ys, ?_, hl, ?_⟩
 ·unfold slices_Reverse_sl_byte_S
  rw [T.run_eqN _ rfl, T.run_eqN _ rfl, e0, T.run_bind_of hr, T.run_eqN _ rfl, T.run_ret]
 ·apply List.ext_getElem?
  intro p
  by_cases hp : p < n
  ·have hl2 : (xs.take n).length = n := by simp; omega
   rw [List.getElem?_take, if_pos hp, hv p hp, List.getElem?_reverse (by omega), hl2, List.getElem?_take, if_pos (by omega)]
  ·rw [List.getElem?_eq_none (by simp; omega), List.getElem?_eq_none (by simp; omega)]
theorem nat_Print_run (a : List Int) (ha : limbs a) (la : a.length ≤ 1000000) : (nat_Print a).run = some (pr (nv a)) := by
 have qa := ofN_nv_len ha
 unfold nat_Print
 rw [T.run_bind_of (Trim_run a ha (by omega))]
 generalize nv a = n at *
 by_cases hn : n = 0
 ·subst hn; rw [ofN_zero]; simp [pr]
 ·have hne : (ofN n).length ≠ 0 := fun h => hn (ofN_eq_nil.1 (List.eq_nil_of_length_eq_zero h))
  rw [T.run_ite_f (by simpa using hne), T.run_cur _ rfl rfl rfl, T.run_eqN _ rfl, T.run_bind_of (groups_run n (by omega))]
  have hbl := blk_len n (ofN n).length (ofN_len_le.1 (Nat.le_refl _))
  obtain ⟨z, hz⟩ := blk_rd n
  have hzl := congrArg List.length hz
  rw [List.length_append, List.length_replicate] at hzl
  have hst := strip_run (rd n) z (rd_ne hn) (rd_last n) (by omega)
  rw [← hz] at hst
  obtain ⟨ys, hr, hl, hv⟩ := reverse_run (blk n) (rd n).length (by omega) (by omega)
  rw [T.run_eqN _ rfl, T.run_eqN _ rfl, T.run_bind_of hst]
  simp only [T.run_true]
  rw [T.run_bind_of hr, T.run_eqN _ hl.symm, T.run_ret]
  simp only [Nat.zero_add, List.drop_zero]
  rw [hv, hz, List.take_left, ← dgz_rd]
  unfold pr
  rw [if_neg hn]
theorem dgt_byte (r : Nat) (h : r < 10) : bytesStr [wu8 (wu64 (48 + (r : Int)))] = [dgt r] := by
 have e : wu64 (48 + (r : Int)) = ((48 + r : Nat) : Int) := by rw [wu64_in (by omega) (by omega)]; omega
 have e2 : wu8 ((48 + r : Nat) : Int) = ((48 + r : Nat) : Int) := wu8_in (by omega) (by omega)
 rw [e, e2]
 simp only [bytesStr, List.map_cons, List.map_nil, byteOf, dgt, Int.toNat_natCast, Nat.mod_eq_of_lt h]
theorem ref1_Print_run (a : List Int) (ha : limbs a) (la : a.length ≤ 1000000) : (ref1_Print a).run = some (pr (nv a)) := by
 have qa := ofN_nv_len ha
 unfold ref1_Print
 rw [T.run_bind_of (rTrim_run a ha (by omega))]
 generalize nv a = n at *
 by_cases hn : n = 0
 ·subst hn; rw [ofN_zero]; simp [pr]
 ·have hne : (ofN n).length ≠ 0 := fun h => hn (ofN_eq_nil.1 (List.eq_nil_of_length_eq_zero h))
  have hd : ∀ m : Nat, (ofN m).length ≤ 1000000 → (dgz m).length ≤ 18000000 := by
   intro m hm
   obtain ⟨z, hz⟩ := blk_rd m
   have h1 := blk_len m (ofN m).length (ofN_len_le.1 (Nat.le_refl _))
   have h2 := congrArg List.length hz
   rw [List.length_append] at h2
   rw [dgz_rd]
   simp only [bytesStr, List.length_map, List.length_reverse]
   omega
  have loop : (ref1_Print_L0 (ofN n, [])).run = some (dgz n) := by
   have := T.loop_run (r := ref1_Print_R0) (fun s : List Int × Str => ∃ m : Nat, s.1 = ofN m ∧ (ofN m).length ≤ 1000000 ∧ s.2.length + (dgz m).length ≤ 18000000) (fun s => nv s.1) (fun s => dgz (nv s.1) ++ s.2) ?_ (s := (ofN n, [])) ⟨n, rfl, by omega, by simpa using hd n (by omega)⟩
   ·unfold ref1_Print_L0
    simpa using this
   ·rintro ⟨_, s⟩ ⟨m, rfl, h1, h2⟩
    simp only [nv_ofN] at h2 ⊢
    by_cases hm : m = 0
    ·right
     subst hm
     unfold ref1_Print_R0
     rw [ofN_zero, dgz_zero]; simp
    ·left
     have hne : (ofN m).length ≠ 0 := fun h => hm (ofN_eq_nil.1 (List.eq_nil_of_length_eq_zero h))
     have hs : (ref1_small (ofN m) 10).run = some (ofN (nv (ofN m) / 10), ((nv (ofN m) % 10 : Nat) : Int)) := ref1_small_run (ofN m) (limbs_ofN m) (by omega) 10 (by omega) (by omega)
     rw [nv_ofN] at hs
     have hdp := dgz_pos hm
     have hdl := congrArg List.length hdp
     simp only [List.length_append, List.length_cons, List.length_nil] at hdl
     have hlen : (ofN (m / 10)).length ≤ (ofN m).length := ofN_len_le.2 (Nat.lt_of_le_of_lt (Nat.div_le_self _ _) (ofN_len_le.1 (Nat.le_refl _)))
     have eb := dgt_byte (m % 10) (by omega)
     have ed : dgt (m % 10) = dgt m := by unfold dgt; rw [Nat.mod_mod]
     rw [ed] at eb
     refine ⟨(ofN (m / 10), dgt m :: s), ?_, ⟨m / 10, rfl, by omega, ?_⟩, ?_, ?_⟩
     ·unfold ref1_Print_R0
      rw [T.run_ite_t (by simp; omega), T.run_bind_of hs]
      simp only [eb]
      rw [T.run_leN _ (by simp; omega), T.run_ret]; rfl
     ·simp only [List.length_cons]; omega
     ·simp only [nv_ofN]; omega
     ·simp only [nv_ofN]
      rw [hdp]; simp
  rw [T.run_ite_f (by simpa using hne), T.run_bind_of loop, T.run_ret]
  unfold pr
  rw [if_neg hn]
end Go.AM.Lf
namespace Go.AM.Lf
open PL
def ratN (neg : Bool) (n d : Nat) : Rat := if n = 0 ∨ d = 0 then (false, [], [1], ()) else (neg, ofN (n / Nat.gcd n d), ofN (d / Nat.gcd n d), ())
def ratOk (k : Nat) (a : Rat) : Prop := limbs a.2.1 ∧ limbs a.2.2.1 ∧ a.2.1.length ≤ k ∧ a.2.2.1.length ≤ k
theorem ofN_one : ofN 1 = [1] := by rw [ofN_pos (by omega), show 1 / 4294967296 = 0 from rfl, ofN_zero]; rfl
theorem ofN_len_mono {m n : Nat} (h : m ≤ n) : (ofN m).length ≤ (ofN n).length := ofN_len_le.2 (Nat.lt_of_le_of_lt h (ofN_len_le.1 (Nat.le_refl _)))
theorem ratN_ok (neg : Bool) (n d k : Nat) (hk : 1 ≤ k) (hn : (ofN n).length ≤ k) (hd : (ofN d).length ≤ k) : ratOk k (ratN neg n d) := by
 unfold ratN
 split
 ·exact ⟨limbs_nil, one_limb, by simp, by simpa using hk⟩
 ·exact ⟨limbs_ofN _, limbs_ofN _, Nat.le_trans (ofN_len_mono (Nat.div_le_self _ _)) hn, Nat.le_trans (ofN_len_mono (Nat.div_le_self _ _)) hd⟩
theorem rat_Of_run (neg : Bool) (n d : List Int) (hn : limbs n) (hd : limbs d) (ln : n.length ≤ 100000000) (ld : d.length ≤ 100000000) : (rat_Of neg n d).run = some (ratN neg (nv n) (nv d)) := by
 have qn := ofN_nv_len hn
 have qd := ofN_nv_len hd
 unfold rat_Of
 rw [T.run_bind_of (Trim_run n hn (by omega)), T.run_bind_of (Trim_run d hd (by omega))]
 generalize nv n = N at *
 generalize nv d = D at *
 unfold ratN
 by_cases h : N = 0 ∨ D = 0
 ·rw [if_pos h]
  have e : (((ofN N).length : Int) == 0 || ((ofN D).length : Int) == 0) = true := by
   rcases h with rfl | rfl <;> simp [ofN_zero]
  have h1 : (nat_Of 1).run = some (ofN 1) := nat_Of_run 1 (by omega)
  rw [T.run_ite_t e, T.run_bind_of h1, T.run_ret, ofN_one]
 ·rw [if_neg h]
  have hN : N ≠ 0 := fun z => h (.inl z)
  have hD : D ≠ 0 := fun z => h (.inr z)
  have n1 : (ofN N).length ≠ 0 := fun h => hN (ofN_eq_nil.1 (List.eq_nil_of_length_eq_zero h))
  have n2 : (ofN D).length ≠ 0 := fun h => hD (ofN_eq_nil.1 (List.eq_nil_of_length_eq_zero h))
  have e : (((ofN N).length : Int) == 0 || ((ofN D).length : Int) == 0) = false := by rw [Bool.or_eq_false_iff]; exact ⟨by simpa using n1, by simpa using n2⟩
  have hg := nat_Gcd_run (ofN N) (ofN D) (limbs_ofN N) (limbs_ofN D) (by omega) (by omega)
  rw [nv_ofN, nv_ofN] at hg
  have hgp : Nat.gcd N D ≠ 0 := fun z => hN (Nat.gcd_eq_zero_iff.1 z).1
  have hgl : (ofN (Nat.gcd N D)).length ≤ 100000000 := Nat.le_trans (ofN_len_mono (Nat.gcd_le_left D (Nat.pos_of_ne_zero hN))) (by omega)
  have h1 := nat_DivMod_run (ofN N) (ofN (Nat.gcd N D)) (limbs_ofN N) (limbs_ofN _) (by omega) hgl
  have h2 := nat_DivMod_run (ofN D) (ofN (Nat.gcd N D)) (limbs_ofN D) (limbs_ofN _) (by omega) hgl
  rw [nv_ofN, nv_ofN, if_neg hgp] at h1 h2
  rw [T.run_ite_f e, T.run_bind_of hg, T.run_bind_of h1]
  simp only
  rw [T.run_bind_of h2, T.run_ret]
theorem rat_Norm_run (a : Rat) (h : ratOk 100000000 a) : (rat_Norm a).run = some (ratN a.1 (nv a.2.1) (nv a.2.2.1)) := by
 unfold rat_Norm
 rw [T.run_bind_of (rat_Of_run _ _ _ h.1 h.2.1 h.2.2.1 h.2.2.2), T.run_ret]
theorem ref1_Gcd_run (a b : List Int) (ha : limbs a) (hb : limbs b) (la : a.length ≤ 100000000) (lb : b.length ≤ 100000000) : (ref1_Gcd a b).run = some (ofN (Nat.gcd (nv a) (nv b))) := by
 have qa := ofN_nv_len ha
 have qb := ofN_nv_len hb
 unfold ref1_Gcd
 rw [T.run_bind_of (rTrim_run a ha (by omega)), T.run_bind_of (rTrim_run b hb (by omega))]
 generalize nv a = A at *
 generalize nv b = B at *
 have key : (ref1_Gcd_L0 (ofN A, ofN B)).run = some (ofN (Nat.gcd A B)) := by
  have := T.loop_run (r := ref1_Gcd_R0) (fun s : List Int × List Int => ∃ A B : Nat, s = (ofN A, ofN B) ∧ (ofN A).length ≤ 100000000 ∧ (ofN B).length ≤ 100000000)
   (fun s => nv s.2) (fun s => ofN (Nat.gcd (nv s.1) (nv s.2))) ?_ (s := (ofN A, ofN B)) ⟨A, B, rfl, by omega, by omega⟩
  ·rw [nv_ofN, nv_ofN] at this; exact this
  ·rintro _ ⟨A, B, rfl, hA, hB'⟩
   simp only [nv_ofN]
   by_cases hB : B = 0
   ·right
    subst hB
    unfold ref1_Gcd_R0
    rw [ofN_zero]; simp
   ·left
    have hd := ref1_DivMod_run (ofN A) (ofN B) (limbs_ofN A) (limbs_ofN B) hA hB'
    rw [nv_ofN, nv_ofN, if_neg hB] at hd
    have hm := Nat.mod_lt A (Nat.pos_of_ne_zero hB)
    have hne : (ofN B).length ≠ 0 := fun h => hB (ofN_eq_nil.1 (List.eq_nil_of_length_eq_zero h))
    refine ⟨(ofN B, ofN (A % B)), ?_, ⟨B, A % B, rfl, hB', ?_⟩, by simpa using hm, ?_⟩
    ·unfold ref1_Gcd_R0
     rw [T.run_ite_t (by simp; omega), T.run_bind_of hd, T.run_ret]
    ·have := ofN_len_mono (Nat.le_of_lt hm)
     omega
    ·simp only [nv_ofN]
     rw [Nat.gcd_comm, ← Nat.gcd_rec, Nat.gcd_comm]
 rw [T.run_bind_of key, T.run_ret]
theorem ref2_Norm_run (a : Rat) (h : ratOk 100000000 a) : (ref2_Norm a).run = some (ratN a.1 (nv a.2.1) (nv a.2.2.1)) := by
 obtain ⟨neg, n, d, u⟩ := a
 obtain ⟨hn, hd, ln, ld⟩ := h
 simp only at hn hd ln ld
 have qn := ofN_nv_len hn
 have qd := ofN_nv_len hd
 unfold ref2_Norm
 simp only
 rw [T.run_bind_of (rTrim_run n hn (by omega)), T.run_bind_of (rTrim_run d hd (by omega))]
 generalize nv n = N at *
 generalize nv d = D at *
 unfold ratN
 by_cases h : N = 0 ∨ D = 0
 ·rw [if_pos h]
  have e : (((ofN D).length : Int) == 0 || ((ofN N).length : Int) == 0) = true := by
   rcases h with rfl | rfl <;> simp [ofN_zero]
  rw [T.run_ite_t e, T.run_ret]
 ·rw [if_neg h]
  have hN : N ≠ 0 := fun z => h (.inl z)
  have hD : D ≠ 0 := fun z => h (.inr z)
  have n1 : (ofN N).length ≠ 0 := fun h => hN (ofN_eq_nil.1 (List.eq_nil_of_length_eq_zero h))
  have n2 : (ofN D).length ≠ 0 := fun h => hD (ofN_eq_nil.1 (List.eq_nil_of_length_eq_zero h))
  have e : (((ofN D).length : Int) == 0 || ((ofN N).length : Int) == 0) = false := by rw [Bool.or_eq_false_iff]; exact ⟨by simpa using n2, by simpa using n1⟩
  have hg := ref1_Gcd_run (ofN N) (ofN D) (limbs_ofN N) (limbs_ofN D) (by omega) (by omega)
  rw [nv_ofN, nv_ofN] at hg
  have hgp : Nat.gcd N D ≠ 0 := fun z => hN (Nat.gcd_eq_zero_iff.1 z).1
  have hgl : (ofN (Nat.gcd N D)).length ≤ 100000000 := Nat.le_trans (ofN_len_mono (Nat.gcd_le_left D (Nat.pos_of_ne_zero hN))) (by omega)
  have h1 := ref1_DivMod_run (ofN N) (ofN (Nat.gcd N D)) (limbs_ofN N) (limbs_ofN _) (by omega) hgl
  have h2 := ref1_DivMod_run (ofN D) (ofN (Nat.gcd N D)) (limbs_ofN D) (limbs_ofN _) (by omega) hgl
  rw [nv_ofN, nv_ofN, if_neg hgp] at h1 h2
  rw [T.run_ite_f e, T.run_bind_of hg, T.run_bind_of h1]
  simp only
  rw [T.run_bind_of h2, T.run_ret]
theorem ten_len (k : Nat) : (ofN (10 ^ k)).length ≤ k + 1 := by
 refine ofN_len_le.2 ?_
 have h1 : (10 : Nat) ^ k ≤ 4294967296 ^ k := Nat.pow_le_pow_left (by omega) k
 have h2 : (4294967296 : Nat) ^ k < 4294967296 ^ (k + 1) := Nat.pow_lt_pow_right (by omega) (by omega)
 omega
theorem mul_len (m n : Nat) : (ofN (m * n)).length ≤ (ofN m).length + (ofN n).length := by
 refine ofN_len_le.2 ?_
 rw [Nat.pow_add]
 exact Nat.mul_lt_mul'' (ofN_len_le.1 (Nat.le_refl _)) (ofN_len_le.1 (Nat.le_refl _))
theorem dec_ten_run (k : Nat) (hk : k ≤ 10000) : (dec_ten (k : Int)).run = some (ofN (10 ^ k)) := by
 have h1 : (nat_Of 1).run = some (ofN 1) := nat_Of_run 1 (by omega)
 have h10 : (nat_Of 10).run = some (ofN 10) := nat_Of_run 10 (by omega)
 have loop := T.loop_run (r := dec_ten_R0 (k : Int)) (fun s : List Int × Int => ∃ i : Nat, s = (ofN (10 ^ i), (i : Int)) ∧ i ≤ k) (fun s => k - s.2.toNat) (fun _ => ofN (10 ^ k)) ?_ (s := (ofN 1, 0)) ⟨0, rfl, by omega⟩
 ·have loop' : (dec_ten_L0 (k : Int) (ofN 1, 0)).run = some (ofN (10 ^ k)) := loop
  unfold dec_ten
  rw [T.run_bind_of h1, T.run_bind_of loop', T.run_ret]
 ·rintro _ ⟨i, rfl, hi⟩
  simp only
  by_cases hlt : i < k
  ·left
   have hl := ten_len i
   have hm := nat_Mul_run (ofN (10 ^ i)) (ofN 10) (limbs_ofN _) (limbs_ofN _) (by omega) (by have := ten_len 1; simp at this; omega)
   rw [nv_ofN, nv_ofN, ← Nat.pow_succ] at hm
   refine ⟨(ofN (10 ^ (i + 1)), ((i + 1 : Nat) : Int)), ?_, ⟨i + 1, rfl, by omega⟩, by simp; omega, trivial⟩
   unfold dec_ten_R0
   rw [T.run_ite_t (by simp; omega), T.run_bind_of h10, T.run_bind_of hm, T.run_ret, i1 i (by omega)]
  ·right
   have : i = k := by omega
   subst this
   unfold dec_ten_R0
   simp
end Go.AM.Lf
namespace Go.AM.Lf
open PL
theorem gcd_norm (n d : Nat) (h : Nat.gcd n d ≠ 0) : Nat.gcd (n / Nat.gcd n d) (d / Nat.gcd n d) = 1 := by
 have := Nat.gcd_mul_left (Nat.gcd n d) (n / Nat.gcd n d) (d / Nat.gcd n d)
 rw [Nat.mul_div_cancel' (Nat.gcd_dvd_left n d), Nat.mul_div_cancel' (Nat.gcd_dvd_right n d)] at this
 have h2 : Nat.gcd n d * Nat.gcd (n / Nat.gcd n d) (d / Nat.gcd n d) = Nat.gcd n d * 1 := by omega
 exact Nat.eq_of_mul_eq_mul_left (Nat.pos_of_ne_zero h) h2
theorem ratN_idem (neg : Bool) (n d : Nat) : ratN (ratN neg n d).1 (nv (ratN neg n d).2.1) (nv (ratN neg n d).2.2.1) = ratN neg n d := by
 by_cases h : n = 0 ∨ d = 0
 ·have e : ratN neg n d = (false, [], [1], ()) := by unfold ratN; rw [if_pos h]
  rw [e]; rfl
 ·have e : ratN neg n d = (neg, ofN (n / Nat.gcd n d), ofN (d / Nat.gcd n d), ()) := by unfold ratN; rw [if_neg h]
  rw [e]
  have hn : n ≠ 0 := fun z => h (.inl z)
  have hd : d ≠ 0 := fun z => h (.inr z)
  have hg : Nat.gcd n d ≠ 0 := fun z => hn (Nat.gcd_eq_zero_iff.1 z).1
  have h1 : n / Nat.gcd n d ≠ 0 := Nat.div_ne_zero_iff.2 ⟨hg, Nat.gcd_le_left d (Nat.pos_of_ne_zero hn)⟩
  have h2 : d / Nat.gcd n d ≠ 0 := Nat.div_ne_zero_iff.2 ⟨hg, Nat.gcd_le_right n (Nat.pos_of_ne_zero hd)⟩
  simp only [nv_ofN]
  unfold ratN
  rw [if_neg (by intro z; rcases z with z | z <;> contradiction), gcd_norm n d hg, Nat.div_one, Nat.div_one]
theorem ratN_den (neg : Bool) (n d : Nat) : nv (ratN neg n d).2.2.1 ≠ 0 := by
 unfold ratN
 split
 ·show nv [1] ≠ 0; decide
 ·rename_i h
  have hn : n ≠ 0 := fun z => h (.inl z)
  have hd : d ≠ 0 := fun z => h (.inr z)
  have hg : Nat.gcd n d ≠ 0 := fun z => hn (Nat.gcd_eq_zero_iff.1 z).1
  simp only [nv_ofN]
  exact Nat.div_ne_zero_iff.2 ⟨hg, Nat.gcd_le_right n (Nat.pos_of_ne_zero hd)⟩
theorem ratN_neg (neg : Bool) (n d : Nat) (h : (ratN neg n d).1 = true) : nv (ratN neg n d).2.1 ≠ 0 := by
 unfold ratN at h ⊢
 split at h
 ·cases h
 ·rename_i c
  have hn : n ≠ 0 := fun z => c (.inl z)
  have hg : Nat.gcd n d ≠ 0 := fun z => hn (Nat.gcd_eq_zero_iff.1 z).1
  rw [if_neg c]
  simp only [nv_ofN]
  exact Nat.div_ne_zero_iff.2 ⟨hg, Nat.gcd_le_left d (Nat.pos_of_ne_zero hn)⟩
theorem ok_up {j k : Nat} {a : Rat} (h : ratOk j a) (hk : j ≤ k) : ratOk k a := ⟨h.1, h.2.1, Nat.le_trans h.2.2.1 hk, Nat.le_trans h.2.2.2 hk⟩
def norm (a : Rat) : Rat := ratN a.1 (nv a.2.1) (nv a.2.2.1)
theorem norm_ok {k : Nat} (hk : 1 ≤ k) {a : Rat} (h : ratOk k a) : ratOk k (norm a) := ratN_ok _ _ _ k hk (Nat.le_trans (ofN_nv_len h.1) h.2.2.1) (Nat.le_trans (ofN_nv_len h.2.1) h.2.2.2)
theorem rat_norm (a : Rat) (h : ratOk 100000000 a) : (rat_Norm a).run = some (norm a) := rat_Norm_run a h
theorem ref2_norm (a : Rat) (h : ratOk 100000000 a) : (ref2_Norm a).run = some (norm a) := ref2_Norm_run a h
end Go.AM.Lf
namespace Go.AM.PL
abbrev Q := _root_.Rat
def qv (neg : Bool) (n d : Nat) : Q := mkRat (if neg = true then -(n : Int) else (n : Int)) d
theorem ofN_1 : ofN 1 = [1] := by rw [ofN_pos (by omega), show 1 / 4294967296 = 0 from rfl, ofN_zero]; rfl
theorem ofN_mono {m n : Nat} (h : m ≤ n) : (ofN m).length ≤ (ofN n).length := ofN_len_le.2 (Nat.lt_of_le_of_lt h (ofN_len_le.1 (Nat.le_refl _)))
theorem ofN_mul_len (m n : Nat) : (ofN (m * n)).length ≤ (ofN m).length + (ofN n).length := by
 rw [ofN_len_le, Nat.pow_add]
 have h1 := ofN_len_le.1 (Nat.le_refl (ofN m).length)
 have h2 := ofN_len_le.1 (Nat.le_refl (ofN n).length)
 exact Nat.mul_lt_mul'' h1 h2
end Go.AM.PL
namespace Go.AM.Lf
open PL
def val (a : Rat) : Q := qv a.1 (nv a.2.1) (nv a.2.2.1)
end Go.AM.Lf
namespace Go.AM.Lf
open PL
def sgS (b : Bool) : Str := if b = true then [45] else []
def ptd (s : Str) (n : Nat) : Str := if n = 0 then s else
 (repS [48] (n + 1 - s.length) ++ s).take ((repS [48] (n + 1 - s.length) ++ s).length - n) ++ [46] ++ (repS [48] (n + 1 - s.length) ++ s).drop ((repS [48] (n + 1 - s.length) ++ s).length - n)
theorem repS_len (k : Nat) : (repS [48] k).length = k := by
 induction k with
 | zero => rfl
 | succ k ih => simp [repS, ih]
theorem cutS_nat (s : Str) (l h : Nat) : cutS (l : Int) (h : Int) s = (s.take h).drop l := by unfold cutS; simp
theorem pointed_run (s : Str) (n : Nat) (hn : n ≤ 1000) (hs : s.length ≤ 1000000000) : (dec_pointed s (n : Int)).run = some (ptd s n) := by
 unfold dec_pointed ptd
 by_cases h : n = 0
 ·subst h; rw [T.run_ite_t (by rfl), T.run_ret, if_pos rfl]
 ·rw [T.run_ite_f (by simp; omega), if_neg h]
  have e1 : maxI 0 (w64 (w64 ((n : Int) + 1) - (s.length : Int))) = ((n + 1 - s.length : Nat) : Int) := by
   rw [i1 n (by omega), w64_in (by omega) (by omega)]; unfold maxI; split <;> omega
  have hrep : (strings_Repeat [48] ((n + 1 - s.length : Nat) : Int)).run = some (repS [48] (n + 1 - s.length)) := by
   unfold strings_Repeat
   rw [T.run_obl ⟨by omega, by omega, by simp; omega⟩, T.run_ret, Int.toNat_natCast]
  rw [e1, T.run_bind_of hrep]
  have hl := repS_len (n + 1 - s.length)
  simp only [cat]
  generalize hR : repS [48] (n + 1 - s.length) ++ s = t
  have htl : t.length = (n + 1 - s.length) + s.length := by rw [← hR, List.length_append, hl]
  have e2 : w64 ((t.length : Int) - (n : Int)) = ((t.length - n : Nat) : Int) := by rw [w64_in (by omega) (by omega)]; omega
  have c0 : cutS 0 ((t.length - n : Nat) : Int) t = t.take (t.length - n) := by have := cutS_nat t 0 (t.length - n); simpa using this
  have c1 : cutS ((t.length - n : Nat) : Int) (t.length : Int) t = t.drop (t.length - n) := by rw [cutS_nat, List.take_length]
  simp only [e2, c0, c1]
  rw [T.run_leN _ (by omega), T.run_sl _ (by omega) (by omega) (by omega), T.run_leN _ (by simp; omega), T.run_sl _ (by omega) (by omega) (by omega), T.run_leN _ (by simp; omega), T.run_ret]
theorem sign_run (a : Rat) : (dec_sign a).run = some (sgS a.1) := by
 unfold dec_sign sgS; rw [T.run_iteS]; split <;> rfl
theorem ref3_sign_run (b : Bool) : (ref3_sign b).run = some (sgS b) := by
 unfold ref3_sign sgS; rw [T.run_iteS]; split <;> rfl
theorem sgS_len (b : Bool) : (sgS b).length ≤ 1 := by unfold sgS; split <;> simp
theorem pr_len (n k : Nat) (h : (ofN n).length ≤ k) : (pr n).length ≤ 18 * k + 1 := by
 unfold pr
 split
 ·simp
 ·obtain ⟨z, hz⟩ := blk_rd n
  have h1 := blk_len n k (ofN_len_le.1 h)
  have h2 := congrArg List.length hz
  rw [List.length_append] at h2
  rw [dgz_rd]
  simp only [bytesStr, List.length_map, List.length_reverse]
  omega
theorem ptd_len (s : Str) (n : Nat) : (ptd s n).length ≤ s.length + n + 2 := by
 unfold ptd
 split
 ·omega
 ·have := repS_len (n + 1 - s.length)
  simp [this]; omega
theorem repS_snoc (k : Nat) (s : Str) : repS [48] k ++ ([48] ++ s) = repS [48] (k + 1) ++ s := by
 induction k with
 | zero => rfl
 | succ k ih => simp only [repS, List.append_assoc] at ih ⊢; rw [ih]
theorem digits_run (n : List Int) (hn : limbs n) (ln : n.length ≤ 1000000) (least : Nat) (hl : least ≤ 100000) : (ref3_digits n (least : Int)).run = some (repS [48] (least - (pr (nv n)).length) ++ pr (nv n)) := by
 have hpl := pr_len (nv n) 1000000 (Nat.le_trans (ofN_nv_len hn) ln)
 have loop := T.loop_run (r := ref3_digits_R0 (least : Int)) (fun s : Str => s.length ≤ 100000000) (fun s => least - s.length) (fun s => repS [48] (least - s.length) ++ s) ?_ (s := pr (nv n)) (by omega)
 ·have loop' : (ref3_digits_L0 (least : Int) (pr (nv n))).run = _ := loop
  unfold ref3_digits
  rw [T.run_bind_of (ref1_Print_run n hn ln), T.run_bind_of loop', T.run_ret]
 ·intro s hs
  by_cases h : s.length < least
  ·left
   refine ⟨[48] ++ s, ?_, by simp; omega, by simp; omega, ?_⟩
   ·unfold ref3_digits_R0
    rw [T.run_ite_t (by simpa using h), T.run_leN _ (by simp; omega), T.run_ret]; rfl
   ·rw [show least - s.length = (least - ([48] ++ s).length) + 1 by simp; omega, ← repS_snoc]
  ·right
   unfold ref3_digits_R0
   rw [T.run_ite_f (by simpa using h), T.run_ret, show least - s.length = 0 by omega]; rfl
theorem pr_pos (n : Nat) : 1 ≤ (pr n).length := by
 unfold pr
 split
 ·simp
 ·rename_i h
  rw [dgz_pos h]; simp
theorem point_run (neg : Bool) (n : Nat) (k : Nat) (hk : k ≤ 1000) (hn : (ofN n).length ≤ 100000) : (ref3_point neg (ofN n) (k : Int)).run = some (sgS (neg && decide (n ≠ 0)) ++ ptd (pr n) k) := by
 have hd := digits_run (ofN n) (limbs_ofN n) (by omega) (k + 1) (by omega)
 rw [nv_ofN] at hd
 have hpl := pr_len n 100000 hn
 have hpp := pr_pos n
 have hl := repS_len (k + 1 - (pr n).length)
 have hsg : decide ((0 : Int) < ((ofN n).length : Int)) = decide (n ≠ 0) := by
  by_cases c : n = 0
  ·subst c; rw [ofN_zero]; rfl
  ·have : (ofN n).length ≠ 0 := fun h => c (ofN_eq_nil.1 (List.eq_nil_of_length_eq_zero h))
   rw [decide_eq_true (by omega), decide_eq_true c]
 unfold ref3_point
 rw [i1 k (by omega), T.run_bind_of hd, hsg]
 have hpt : (bif decide ((0 : Int) < (k : Int)) then cat (cat (cutS 0 (w64 (((repS [48] (k + 1 - (pr n).length) ++ pr n).length : Int) - (k : Int))) (repS [48] (k + 1 - (pr n).length) ++ pr n)) [46]) (cutS (w64 (((repS [48] (k + 1 - (pr n).length) ++ pr n).length : Int) - (k : Int))) ((repS [48] (k + 1 - (pr n).length) ++ pr n).length : Int) (repS [48] (k + 1 - (pr n).length) ++ pr n)) else (repS [48] (k + 1 - (pr n).length) ++ pr n)) = ptd (pr n) k := by
  unfold ptd
  by_cases c : k = 0
  ·subst c
   rw [show decide ((0 : Int) < ((0 : Nat) : Int)) = false from rfl, cond_false, if_pos rfl, show 0 + 1 - (pr n).length = 0 by omega]; rfl
  ·rw [decide_eq_true (by omega), cond_true, if_neg c]
   generalize hR : repS [48] (k + 1 - (pr n).length) ++ pr n = t
   have htl : t.length = (k + 1 - (pr n).length) + (pr n).length := by rw [← hR, List.length_append, hl]
   have e2 : w64 ((t.length : Int) - (k : Int)) = ((t.length - k : Nat) : Int) := by rw [w64_in (by omega) (by omega)]; omega
   have c0 : cutS 0 ((t.length - k : Nat) : Int) t = t.take (t.length - k) := by have := cutS_nat t 0 (t.length - k); simpa using this
   have c1 : cutS ((t.length - k : Nat) : Int) (t.length : Int) t = t.drop (t.length - k) := by rw [cutS_nat, List.take_length]
   rw [e2, c0, c1]; rfl
 have hfl := ptd_len (pr n) k
 rw [hpt]
 generalize hR : repS [48] (k + 1 - (pr n).length) ++ pr n = t
 have htl : t.length = (k + 1 - (pr n).length) + (pr n).length := by rw [← hR, List.length_append, hl]
 have e2 : w64 ((t.length : Int) - (k : Int)) = ((t.length - k : Nat) : Int) := by rw [w64_in (by omega) (by omega)]; omega
 rw [T.run_obl (fun hk0 => by
  have c0 : cutS 0 ((t.length - k : Nat) : Int) t = t.take (t.length - k) := by have := cutS_nat t 0 (t.length - k); simpa using this
  have c1 : cutS ((t.length - k : Nat) : Int) (t.length : Int) t = t.drop (t.length - k) := by rw [cutS_nat, List.take_length]
  rw [e2, c0, c1]
  refine ⟨⟨by omega, by omega, by omega⟩, by simp; omega, ⟨by omega, by omega, by omega⟩, by simp [cat]; omega⟩)]
 cases neg with
 | true =>
  have hs1 := sgS_len (decide (n ≠ 0))
  rw [T.run_ite_true, T.run_bind_of (ref3_sign_run _), T.run_leN _ (by omega), T.run_ret, Bool.true_and]; rfl
 | false =>
  have hs1 := sgS_len false
  rw [T.run_ite_false, T.run_bind_of (ref3_sign_run _), T.run_leN _ (by omega), T.run_ret, Bool.false_and]; rfl
end Go.AM.Lf
namespace Go.AM.Lf
open PL
def exactS (neg : Bool) (N D : Nat) : Nat → Nat → Str × Bool
 | _, 0 => ([], false)
 | k, f + 1 => if N * 10 ^ k % D = 0 then (sgS neg ++ ptd (pr (N * 10 ^ k / D)) k, true) else exactS neg N D (k + 1) f
theorem len_zero (n : Nat) : (((ofN n).length : Int) == 0) = decide (n = 0) := by
 by_cases c : n = 0
 ·subst c; rw [ofN_zero]; rfl
 ·have : (ofN n).length ≠ 0 := fun h => c (ofN_eq_nil.1 (List.eq_nil_of_length_eq_zero h))
  rw [decide_eq_false c]; simpa using this
theorem dec_Exact_run (a : Rat) (h : ratOk 1000 a) : (dec_Exact a).run = some (exactS (norm a).1 (nv (norm a).2.1) (nv (norm a).2.2.1) 0 61) := by
 have hno := norm_ok (by omega) h
 have hD := ratN_den a.1 (nv a.2.1) (nv a.2.2.1)
 have hrn := rat_norm a (ok_up h (by omega))
 unfold dec_Exact
 rw [T.run_bind_of hrn]
 change nv (norm a).2.2.1 ≠ 0 at hD
 clear hrn
 generalize norm a = v at *
 obtain ⟨hn, hd, ln, ld⟩ := hno
 have loop := T.loop_run (r := dec_Exact_R0) (fun s : Int × Rat => ∃ k : Nat, s = ((k : Int), v) ∧ k ≤ 61) (fun s => 61 - s.1.toNat)
  (fun s => if (exactS v.1 (nv v.2.1) (nv v.2.2.1) s.1.toNat (61 - s.1.toNat)).2 = true then .inr ((exactS v.1 (nv v.2.1) (nv v.2.2.1) s.1.toNat (61 - s.1.toNat)).1, true, v) else .inl v) ?_ (s := (0, v)) ⟨0, rfl, by omega⟩
 ·have loop' : (dec_Exact_L0 (0, v)).run = _ := loop
  rw [T.run_bind_of loop']
  have hex : ∀ f k, (exactS v.1 (nv v.2.1) (nv v.2.2.1) k f).2 = false → (exactS v.1 (nv v.2.1) (nv v.2.2.1) k f).1 = [] := by
   intro f
   induction f with
   | zero => intro k _; rfl
   | succ f ih =>
    intro k hk
    unfold exactS at hk ⊢
    split at hk
    ·cases hk
    ·rename_i c; rw [if_neg c]; exact ih _ hk
  have h2 := hex 61 0
  simp only [Int.toNat_zero, Nat.sub_zero]
  generalize exactS v.1 (nv v.2.1) (nv v.2.2.1) 0 61 = z at *
  obtain ⟨z1, z2⟩ := z
  cases z2 with
  | true => simp
  | false => simp at h2 ⊢; exact h2
 ·rintro _ ⟨k, rfl, hk⟩
  simp only [Int.toNat_natCast]
  by_cases hlt : k < 61
  ·have hl10 := ten_len k
   have hm := nat_Mul_run v.2.1 (ofN (10 ^ k)) hn (limbs_ofN _) (by omega) (by omega)
   rw [nv_ofN] at hm
   have hml := Nat.le_trans (mul_len (nv v.2.1) (10 ^ k)) (Nat.add_le_add (ofN_nv_len hn) hl10)
   have hdm := nat_DivMod_run (ofN (nv v.2.1 * 10 ^ k)) v.2.2.1 (limbs_ofN _) hd (by omega) (by omega)
   rw [nv_ofN, if_neg hD] at hdm
   have hq := ofN_len_mono (Nat.div_le_self (nv v.2.1 * 10 ^ k) (nv v.2.2.1))
   have hpr := nat_Print_run (ofN (nv v.2.1 * 10 ^ k / nv v.2.2.1)) (limbs_ofN _) (by omega)
   rw [nv_ofN] at hpr
   have hpl := pr_len (nv v.2.1 * 10 ^ k / nv v.2.2.1) 2000 (by omega)
   have hfl := ptd_len (pr (nv v.2.1 * 10 ^ k / nv v.2.2.1)) k
   have hsl := sgS_len v.1
   have ef : 61 - k = (61 - (k + 1)) + 1 := by omega
   rw [ef, exactS]
   by_cases c : nv v.2.1 * 10 ^ k % nv v.2.2.1 = 0
   ·right
    rw [if_pos c, if_pos rfl]
    unfold dec_Exact_R0
    rw [T.run_ite_t (decide_eq_true (by omega)), T.run_bind_of (dec_ten_run k (by omega)), T.run_bind_of hm, T.run_bind_of hdm]
    simp only
    rw [T.run_ite_t (by rw [len_zero]; exact decide_eq_true c), T.run_bind_of (sign_run v), T.run_bind_of hpr, T.run_bind_of (pointed_run _ k (by omega) (by omega)), T.run_leN _ (by omega), T.run_ret]; rfl
   ·left
    rw [if_neg c]
    refine ⟨(((k + 1 : Nat) : Int), v), ?_, ⟨k + 1, rfl, by omega⟩, by simp only [Int.toNat_natCast]; omega, by first | trivial | simp only [Int.toNat_natCast]⟩
    unfold dec_Exact_R0
    rw [T.run_ite_t (decide_eq_true (by omega)), T.run_bind_of (dec_ten_run k (by omega)), T.run_bind_of hm, T.run_bind_of hdm]
    simp only
    rw [T.run_ite_f (by rw [len_zero]; exact decide_eq_false c), T.run_ret, i1 k (by omega)]
  ·right
   have : k = 61 := by omega
   subst this
   unfold dec_Exact_R0
   rw [T.run_ite_f (decide_eq_false (by omega)), T.run_ret]; rfl
theorem ref3_Exact_run (a : Rat) (h : ratOk 1000 a) : (ref3_Exact a).run = some (exactS (norm a).1 (nv (norm a).2.1) (nv (norm a).2.2.1) 0 61) := by
 have hno := norm_ok (by omega) h
 have hD := ratN_den a.1 (nv a.2.1) (nv a.2.2.1)
 have hN := ratN_neg a.1 (nv a.2.1) (nv a.2.2.1)
 have hrn := ref2_norm a (ok_up h (by omega))
 unfold ref3_Exact
 rw [T.run_bind_of hrn]
 change nv (norm a).2.2.1 ≠ 0 at hD
 change (norm a).1 = true → nv (norm a).2.1 ≠ 0 at hN
 clear hrn
 generalize norm a = v at *
 obtain ⟨hn, hd, ln, ld⟩ := hno
 have loop := T.loop_run (r := ref3_Exact_R0) (fun s : List Int × Int × Rat => ∃ k : Nat, s = (ofN (10 ^ k), (k : Int), v) ∧ k ≤ 61) (fun s => 61 - s.2.1.toNat)
  (fun s => if (exactS v.1 (nv v.2.1) (nv v.2.2.1) s.2.1.toNat (61 - s.2.1.toNat)).2 = true then .inr ((exactS v.1 (nv v.2.1) (nv v.2.2.1) s.2.1.toNat (61 - s.2.1.toNat)).1, true, v) else .inl v) ?_ (s := ([1], 0, v)) ⟨0, by rw [Nat.pow_zero, ofN_one]; rfl, by omega⟩
 ·have loop' : (ref3_Exact_L0 ([1], 0, v)).run = _ := loop
  rw [T.run_bind_of loop']
  have hex : ∀ f k, (exactS v.1 (nv v.2.1) (nv v.2.2.1) k f).2 = false → (exactS v.1 (nv v.2.1) (nv v.2.2.1) k f).1 = [] := by
   intro f
   induction f with
   | zero => intro k _; rfl
   | succ f ih =>
    intro k hk
    unfold exactS at hk ⊢
    split at hk
    ·cases hk
    ·rename_i c; rw [if_neg c]; exact ih _ hk
  have h2 := hex 61 0
  simp only [Int.toNat_zero, Nat.sub_zero]
  generalize exactS v.1 (nv v.2.1) (nv v.2.2.1) 0 61 = z at *
  obtain ⟨z1, z2⟩ := z
  cases z2 with
  | true => simp
  | false => simp at h2 ⊢; exact h2
 ·rintro _ ⟨k, rfl, hk⟩
  simp only [Int.toNat_natCast]
  by_cases hlt : k < 61
  ·have hl10 := ten_len k
   have hm := ref1_Mul_run v.2.1 (ofN (10 ^ k)) hn (limbs_ofN _) (by omega) (by omega)
   rw [nv_ofN] at hm
   have hml := Nat.le_trans (mul_len (nv v.2.1) (10 ^ k)) (Nat.add_le_add (ofN_nv_len hn) hl10)
   have hdm := ref1_DivMod_run (ofN (nv v.2.1 * 10 ^ k)) v.2.2.1 (limbs_ofN _) hd (by omega) (by omega)
   rw [nv_ofN, if_neg hD] at hdm
   have hq := ofN_len_mono (Nat.div_le_self (nv v.2.1 * 10 ^ k) (nv v.2.2.1))
   have hpt := point_run v.1 (nv v.2.1 * 10 ^ k / nv v.2.2.1) k (by omega) (by omega)
   have h10 := ref1_Mul_run (ofN (10 ^ k)) [10] (limbs_ofN _) (by intro x hx; simp at hx; omega) (by omega) (by simp)
   rw [nv_ofN, show nv [10] = 10 from rfl, ← Nat.pow_succ] at h10
   have ef : 61 - k = (61 - (k + 1)) + 1 := by omega
   rw [ef, exactS]
   by_cases c : nv v.2.1 * 10 ^ k % nv v.2.2.1 = 0
   ·right
    have hsg : (v.1 && decide (nv v.2.1 * 10 ^ k / nv v.2.2.1 ≠ 0)) = v.1 := by
     cases hv : v.1 with
     | false => rfl
     | true =>
      have h1 := hN hv
      have h2 : nv v.2.1 * 10 ^ k ≠ 0 := Nat.mul_ne_zero h1 (Nat.pos_iff_ne_zero.1 (Nat.pow_pos (by omega)))
      have h3 : nv v.2.1 * 10 ^ k / nv v.2.2.1 ≠ 0 := by
       intro z
       have := Nat.div_add_mod (nv v.2.1 * 10 ^ k) (nv v.2.2.1)
       rw [z, c] at this
       exact h2 this.symm
      rw [decide_eq_true h3]; rfl
    rw [hsg] at hpt
    rw [if_pos c, if_pos rfl]
    unfold ref3_Exact_R0
    rw [T.run_ite_t (decide_eq_true (by omega)), T.run_bind_of hm, T.run_bind_of hdm]
    simp only
    rw [T.run_ite_t (by rw [len_zero]; exact decide_eq_true c), T.run_bind_of hpt, T.run_ret]
   ·left
    rw [if_neg c]
    refine ⟨(ofN (10 ^ (k + 1)), ((k + 1 : Nat) : Int), v), ?_, ⟨k + 1, rfl, by omega⟩, by simp only [Int.toNat_natCast]; omega, by first | trivial | simp only [Int.toNat_natCast]⟩
    unfold ref3_Exact_R0
    rw [T.run_ite_t (decide_eq_true (by omega)), T.run_bind_of hm, T.run_bind_of hdm]
    simp only
    rw [T.run_ite_f (by rw [len_zero]; exact decide_eq_false c), T.run_bind_of h10, T.run_ret, i1 k (by omega)]
  ·right
   have : k = 61 := by omega
   subst this
   unfold ref3_Exact_R0
   rw [T.run_ite_f (decide_eq_false (by omega)), T.run_ret]; rfl
end Go.AM.Lf
