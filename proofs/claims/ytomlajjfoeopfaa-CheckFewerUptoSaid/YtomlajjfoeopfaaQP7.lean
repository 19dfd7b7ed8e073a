/-
  Plain laws of the lifted program: P7.
-/
import Derived.Test.YtomlajjfoeopfaaLf0
import Derived.Test.YtomlajjfoeopfaaQPLib
set_option linter.unusedVariables false
namespace Go.AM.Lf
open PL

theorem contains_run (l : List Str) (v : Str) (hl : (l.length : Int) ≤ 4611686018427387904) : (slices_Contains_sl_string l v).run = some (l.any (strEq v)) := by
  have key : (slices_Index_sl_string_L0 l v (l.length : Int) 0).run = some (if ixF (strEq v) 0 l = -1 then .inl () else .inr (ixF (strEq v) 0 l)) := by
    refine ix_loop l (dflt .str) (strEq v) (fun i h hi hp => ?_) (fun i h hi hp => ?_) (fun i hi => ?_)
    · simp (disch := omega) [slices_Index_sl_string_R0, hi, hp]
    · simp (disch := omega) [slices_Index_sl_string_R0, hi, hp]
    · simp [slices_Index_sl_string_R0, hi]
  have hx : (slices_Index_sl_string l v).run = some (ixF (strEq v) 0 l) := by
    unfold slices_Index_sl_string
    rw [T.run_bind_of key]
    split <;> rename_i h <;> simp [h]
  unfold slices_Contains_sl_string
  rw [T.run_bind_of hx, T.run_ret, ixF_any _ _ _ (Int.le_refl 0)]

/-! ### Names -/
mutual
def nmE : Expr → List Str → List Str
  | .mk k _ s l, acc => nmEs l (if k = 2 ∧ acc.any (strEq s) = false then acc ++ [s] else acc)
def nmEs : List Expr → List Str → List Str
  | [], acc => acc
  | e :: r, acc => nmEs r (nmE e acc)
end
mutual
def allE : Expr → List Str
  | .mk k _ s l => (if k = 2 then [s] else []) ++ allEs l
def allEs : List Expr → List Str
  | [] => []
  | e :: r => allE e ++ allEs r
end
mutual
theorem nmE_len : ∀ (e : Expr) (acc : List Str), (nmE e acc).length ≤ acc.length + bkE e
  | .mk k n s l, acc => by
    have := nmEs_len l (if k = 2 ∧ acc.any (strEq s) = false then acc ++ [s] else acc)
    have h2 : (if k = 2 ∧ acc.any (strEq s) = false then acc ++ [s] else acc).length ≤ acc.length + 1 := by split <;> simp
    simp only [nmE, bkE]
    omega
theorem nmEs_len : ∀ (l : List Expr) (acc : List Str), (nmEs l acc).length ≤ acc.length + bkEs l
  | [], acc => by simp [nmEs]
  | e :: r, acc => by
    have h1 := nmE_len e acc
    have h2 := nmEs_len r (nmE e acc)
    simp only [nmEs, bkEs]
    omega
end
mutual
theorem nmE_mem : ∀ (e : Expr) (acc : List Str) (x : Str), x ∈ nmE e acc ↔ x ∈ acc ∨ x ∈ allE e
  | .mk k n s l, acc, x => by
    have := nmEs_mem l (if k = 2 ∧ acc.any (strEq s) = false then acc ++ [s] else acc) x
    simp only [nmE, allE, this]
    by_cases hk : k = 2
    · by_cases ha : acc.any (strEq s) = false
      · simp [hk, ha, or_assoc]
      · have hs : s ∈ acc := by
          simp only [Bool.not_eq_false, List.any_eq_true] at ha
          obtain ⟨y, hy, he⟩ := ha
          rw [strEq_iff, decide_eq_true_eq] at he
          exact he ▸ hy
        simp only [hk, ha, and_false, if_false, if_true, List.singleton_append, List.mem_cons]
        constructor
        · rintro (h | h)
          · exact .inl h
          · exact .inr (.inr h)
        · rintro (h | rfl | h)
          · exact .inl h
          · exact .inl hs
          · exact .inr h
    · simp [hk]
theorem nmEs_mem : ∀ (l : List Expr) (acc : List Str) (x : Str), x ∈ nmEs l acc ↔ x ∈ acc ∨ x ∈ allEs l
  | [], acc, x => by simp [nmEs, allEs]
  | e :: r, acc, x => by
    have h1 := nmE_mem e acc x
    have h2 := nmEs_mem r (nmE e acc) x
    simp only [nmEs, allEs, h2, h1, List.mem_append, or_assoc]
end
theorem bkE_pos (e : Expr) : 1 ≤ bkE e := by cases e; simp only [bkE]; omega
theorem bkEs_mem {l : List Expr} {e : Expr} (h : e ∈ l) : bkE e ≤ bkEs l := by
  induction l with
  | nil => cases h
  | cons x r ih =>
    simp only [bkEs]
    rcases List.mem_cons.1 h with rfl | h
    · omega
    · have := ih h; omega
theorem bkEs_kids (e : Expr) : bkEs e.kids < bkE e := by cases e; simp only [Expr.kids, bkE]; omega
theorem bkEs_len (l : List Expr) : l.length ≤ bkEs l := by
  induction l with
  | nil => exact Nat.le_refl _
  | cons x r ih => have := bkE_pos x; simp only [bkEs, List.length_cons]; omega
theorem nth_mem {α : Type} {l : List α} {i : Int} {d : α} (h : 0 ≤ i) (hi : i < (l.length : Int)) : nth l i d ∈ l := by
  unfold nth
  have : i.toNat < l.length := by omega
  simp [List.getD_eq_getElem?_getD, this]

theorem names_run (e : Expr) (l : List Str) (hb : l.length + bkE e ≤ 1000000000) : (expr_names_S e l).run = some (nmE e l) := by
  unfold expr_names_S
  refine T.fix_run (fun x : Expr × List Str => x.2.length + bkE x.1 ≤ 1000000000) (fun x => bkE x.1) (fun x => nmE x.1 x.2) (fun x hx g hg => ?_) (x := (e, l)) hb
  obtain ⟨e, l⟩ := x
  simp only at hx hg
  have hk := bkEs_kids e
  have hkl := bkEs_len e.kids
  have loop : ∀ acc : List Str, acc.length + bkEs e.kids ≤ 1000000000 → (expr_names_L0 (fun y0 y1 => g (y0, y1)) e.kids (e.kids.length : Int) (0, acc)).run = some (nmEs e.kids acc) := by
    intro acc hacc
    refine T.loop_list e.kids (dflt .expr) (fun b i => (i, b)) (fun b r => b.length + bkEs r ≤ 1000000000 ∧ ∀ x ∈ r, x ∈ e.kids) (fun r b => nmEs r b) ?_ ?_ ⟨hacc, fun x hx => hx⟩
    · rintro b x xs i h0 hi hx ⟨h1, h2⟩
      simp only [bkEs] at h1
      have hm := bkEs_mem (h2 x List.mem_cons_self)
      have hl := nmE_len x b
      have hr := hg (x, b) (by simp only; omega) (by simp only; omega)
      refine .inl ⟨nmE x b, ?_, ⟨by omega, fun y hy => h2 y (List.mem_cons_of_mem _ hy)⟩, rfl⟩
      simp only at hr
      simp (disch := omega) [expr_names_R0, hi, hx, hr]
    · rintro b _
      simp [expr_names_R0, nmEs]
  unfold expr_names_S_B
  cases e with | mk k n s kids =>
  simp only [Expr.kids, Expr.kind, Expr.name, bkE] at *
  have hc := contains_run l s (by omega)
  by_cases hk2 : k = 2
  · cases ha : l.any (strEq s) with
    | true =>
      have hL := loop l (by omega)
      simp (disch := omega) [hk2, hc, ha, hL, nmE]
    | false =>
      have hL := loop (l ++ [s]) (by simp; omega)
      simp (disch := omega) [hk2, hc, ha, hL, nmE]
  · have hL := loop l (by omega)
    simp (disch := omega) [hk2, hL, nmE]
theorem Names_run (e : Expr) (hb : bkE e ≤ 1000000000) : (expr_Names e).run = some (nmE e []) := by
  have := names_run e [] (by simpa using hb)
  simp [expr_Names, this]
end Go.AM.Lf
