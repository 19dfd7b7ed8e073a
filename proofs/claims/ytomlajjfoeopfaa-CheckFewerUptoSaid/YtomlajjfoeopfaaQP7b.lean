/-
  Plain laws of the lifted program: P7b.
-/
import Derived.Test.YtomlajjfoeopfaaQP7
set_option linter.unusedVariables false
namespace Go.AM.Lf
open PL

/-- Does an expression have one of fields? -/
def hasP (e : Expr) (F : List Str) : Bool := (nmE e []).any fun x => F.any (strEq x)
theorem hasP_iff (e : Expr) (F : List Str) : hasP e F = true ↔ ∃ x ∈ allE e, x ∈ F := by
  simp only [hasP, List.any_eq_true, nmE_mem, List.not_mem_nil, false_or]
  constructor
  · rintro ⟨x, h1, y, h2, h3⟩
    rw [strEq_iff, decide_eq_true_eq] at h3
    exact ⟨x, h1, h3 ▸ h2⟩
  · rintro ⟨x, h1, h2⟩
    exact ⟨x, h1, x, h2, by rw [strEq_iff]; simp⟩
theorem hasP_mono {e : Expr} {F G : List Str} (h : ∀ x ∈ G, x ∈ F) (hg : hasP e G = true) : hasP e F = true := by
  rw [hasP_iff] at hg ⊢
  obtain ⟨x, h1, h2⟩ := hg
  exact ⟨x, h1, h x h2⟩
theorem hasP_nil (e : Expr) : hasP e [] = false := by
  cases h : hasP e [] with
  | false => rfl
  | true => rw [hasP_iff] at h; obtain ⟨x, _, h⟩ := h; cases h
theorem Has_run (e : Expr) (F : List Str) (hb : bkE e ≤ 1000000000) (hF : (F.length : Int) ≤ 4611686018427387904) : (check_Has e F).run = some (hasP e F) := by
  have hN := Names_run e hb
  have hl := nmE_len e []
  generalize hL : nmE e [] = L at hN hl
  have hl : L.length ≤ 1000000000 := by simp at hl; omega
  have key : (slices_IndexFunc_sl_string_L0 L (fun z0 => check_Has_f1 z0 F) (L.length : Int) 0).run = some (if ixF (fun x => F.any (strEq x)) 0 L = -1 then .inl () else .inr (ixF (fun x => F.any (strEq x)) 0 L)) := by
    have hf : ∀ x, (check_Has_f1 x F).run = some (F.any (strEq x)) := fun x => by
      unfold check_Has_f1; rw [T.run_bind_of (contains_run F x hF), T.run_ret]
    refine ix_loop L (dflt .str) (fun x => F.any (strEq x)) (fun i h hi hp => ?_) (fun i h hi hp => ?_) (fun i hi => ?_)
    · simp (disch := omega) [slices_IndexFunc_sl_string_R0, hi, hf, hp]
    · simp (disch := omega) [slices_IndexFunc_sl_string_R0, hi, hf, hp]
    · simp [slices_IndexFunc_sl_string_R0, hi]
  have hx : (slices_IndexFunc_sl_string L (fun z0 => check_Has_f1 z0 F)).run = some (ixF (fun x => F.any (strEq x)) 0 L) := by
    unfold slices_IndexFunc_sl_string
    rw [T.run_bind_of key]
    split <;> rename_i h <;> simp [h]
  unfold check_Has
  rw [T.run_bind_of hN]
  have hc : (slices_ContainsFunc_sl_string L (fun z0 => check_Has_f1 z0 F)).run = some (L.any fun x => F.any (strEq x)) := by
    unfold slices_ContainsFunc_sl_string
    rw [T.run_bind_of hx, T.run_ret, ixF_any _ _ _ (Int.le_refl 0)]
  rw [T.run_bind_of hc, T.run_ret]
  simp only [hasP, hL]

/-- A product or quotient that may not be. -/
def badP (F : List Str) (k : Int) : List Expr → Bool
  | [a, b] => (k == 5 && (hasP a F && hasP b F)) || (k == 6 && hasP b F)
  | _ => false
mutual
def linE (F : List Str) : Expr → Bool
  | .mk k _ _ l => !badP F k l && linEs F l
def linEs (F : List Str) : List Expr → Bool
  | [] => true
  | e :: r => linE F e && linEs F r
end
theorem badP_mono {F G : List Str} (h : ∀ x ∈ G, x ∈ F) (k : Int) (l : List Expr) (hb : badP G k l = true) : badP F k l = true := by
  unfold badP at hb ⊢
  split at hb
  · simp only [Bool.or_eq_true, Bool.and_eq_true] at hb ⊢
    rcases hb with ⟨h1, h2, h3⟩ | ⟨h1, h2⟩
    · exact .inl ⟨h1, hasP_mono h h2, hasP_mono h h3⟩
    · exact .inr ⟨h1, hasP_mono h h2⟩
  · cases hb
mutual
theorem linE_mono {F G : List Str} (h : ∀ x ∈ G, x ∈ F) : ∀ e : Expr, linE F e = true → linE G e = true
  | .mk k _ _ l, hl => by
    simp only [linE, Bool.and_eq_true, Bool.not_eq_true'] at hl ⊢
    refine ⟨?_, linEs_mono h l hl.2⟩
    cases hb : badP G k l with
    | false => rfl
    | true => rw [badP_mono h k l hb] at hl; cases hl.1
theorem linEs_mono {F G : List Str} (h : ∀ x ∈ G, x ∈ F) : ∀ l : List Expr, linEs F l = true → linEs G l = true
  | [], _ => rfl
  | e :: r, hl => by
    simp only [linEs, Bool.and_eq_true] at hl ⊢
    exact ⟨linE_mono h e hl.1, linEs_mono h r hl.2⟩
end
theorem badP_nil (k : Int) (l : List Expr) : badP [] k l = false := by
  unfold badP
  split
  · simp [hasP_nil]
  · rfl
mutual
theorem linE_nil : ∀ e : Expr, linE [] e = true
  | .mk k _ _ l => by simp only [linE, badP_nil, linEs_nil l]; rfl
theorem linEs_nil : ∀ l : List Expr, linEs [] l = true
  | [] => rfl
  | e :: r => by simp only [linEs, linE_nil e, linEs_nil r]; rfl
end
theorem linEs_any (F : List Str) (l : List Expr) : linEs F l = !(l.any fun e => !linE F e) := by
  induction l with
  | nil => rfl
  | cons e r ih => simp [linEs, ih]

theorem linear_run (e : Expr) (F : List Str) (hb : bkE e ≤ 1000000000) (hF : (F.length : Int) ≤ 4611686018427387904) : (check_Linear e F).run = some (linE F e) := by
  unfold check_Linear
  refine T.fix_run (fun x : Expr × List Str => bkE x.1 ≤ 1000000000 ∧ (x.2.length : Int) ≤ 4611686018427387904) (fun x => bkE x.1) (fun x => linE x.2 x.1) (fun x hx g hg => ?_) (x := (e, F)) ⟨hb, hF⟩
  obtain ⟨e, F⟩ := x
  obtain ⟨hx, hF⟩ := hx
  simp only at hx hg hF
  have hk := bkEs_kids e
  have hkl := bkEs_len e.kids
  have hcont : (slices_ContainsFunc_sl_Expr (fun y0 y1 => g (y0, y1)) e.kids (fun z0 => check_Linear_f1 (fun y0 y1 => g (y0, y1)) z0 F)).run = some (e.kids.any fun k => !linE F k) := by
    have hf : ∀ x ∈ e.kids, (check_Linear_f1 (fun y0 y1 => g (y0, y1)) x F).run = some (!linE F x) := fun x hxm => by
      have := bkEs_mem hxm
      unfold check_Linear_f1
      rw [T.run_bind_of (hg (x, F) ⟨by simp only; omega, hF⟩ (by simp only; omega)), T.run_ret]
    have key : (slices_IndexFunc_sl_Expr_L0 (fun y0 y1 => g (y0, y1)) e.kids (fun z0 => check_Linear_f1 (fun y0 y1 => g (y0, y1)) z0 F) (e.kids.length : Int) 0).run = some (if ixF (fun k => !linE F k) 0 e.kids = -1 then .inl () else .inr (ixF (fun k => !linE F k) 0 e.kids)) := by
      refine ix_loop e.kids (dflt .expr) (fun k => !linE F k) (fun i h hi hp => ?_) (fun i h hi hp => ?_) (fun i hi => ?_)
      · have hm := nth_mem (d := dflt .expr) h hi
        simp (disch := omega) [slices_IndexFunc_sl_Expr_R0, hi, hf _ hm, hp]
      · have hm := nth_mem (d := dflt .expr) h hi
        simp (disch := omega) [slices_IndexFunc_sl_Expr_R0, hi, hf _ hm, hp]
      · simp [slices_IndexFunc_sl_Expr_R0, hi]
    have hx : (slices_IndexFunc_sl_Expr (fun y0 y1 => g (y0, y1)) e.kids (fun z0 => check_Linear_f1 (fun y0 y1 => g (y0, y1)) z0 F)).run = some (ixF (fun k => !linE F k) 0 e.kids) := by
      unfold slices_IndexFunc_sl_Expr
      rw [T.run_bind_of key]
      split <;> rename_i h <;> simp [h]
    unfold slices_ContainsFunc_sl_Expr
    rw [T.run_bind_of hx, T.run_ret, ixF_any _ _ _ (Int.le_refl 0)]
  unfold check_Linear_B
  cases e with | mk k n s kids =>
  simp only [Expr.kids, Expr.kind, bkE] at *
  simp only [linE, linEs_any]
  by_cases h2 : kids.length = 2
  · match kids, h2 with
    | [a, b], _ =>
    have ha : bkE a ≤ 1000000000 := by have := bkEs_mem (l := [a, b]) (e := a) (by simp); omega
    have hb : bkE b ≤ 1000000000 := by have := bkEs_mem (l := [a, b]) (e := b) (by simp); omega
    have hA := Has_run a F ha hF
    have hB := Has_run b F hb hF
    have n0 : nth [a, b] 0 (dflt .expr) = a := rfl
    have n1 : nth [a, b] 1 (dflt .expr) = b := rfl
    by_cases k5 : k = 5
    · subst k5
      cases ca : hasP a F <;> cases cb : hasP b F <;> simp [T.run_idx, n0, n1, hA, hB, ca, cb, badP, hcont]
    · by_cases k6 : k = 6
      · subst k6
        cases cb : hasP b F <;> simp [T.run_idx, n0, n1, hB, cb, badP, hcont]
      · simp [T.run_idx, n0, n1, badP, hcont, k5, k6]
  · have hbad : badP F k kids = false := by
      unfold badP
      split
      · exact absurd rfl h2
      · rfl
    have h2' : ¬ ((kids.length : Int) = 2) := by omega
    simp [h2', hcont, hbad]
end Go.AM.Lf
