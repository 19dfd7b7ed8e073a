/-
  Plain laws of the lifted program: P18.
-/
import Derived.Test.YtbheldlkbfcjdaaLf0
import Derived.Test.YtbheldlkbfcjdaaAmA
import Derived.Test.YtbheldlkbfcjdaaAmD
set_option linter.unusedVariables false
namespace Go.AM.Lf

/-- What long counts. -/
def sumP : List Page → Int
  | [] => 0
  | p :: r => 1 + p.1.length + p.2.1.length + sumP r
def sumW : List Switch → Int
  | [] => 0
  | p :: r => 1 + p.1.length + sumW r
theorem sumP_pos (l : List Page) : 0 ≤ sumP l := by induction l with | nil => exact Int.le_refl _ | cons p r ih => simp only [sumP]; omega
theorem sumW_pos (l : List Switch) : 0 ≤ sumW l := by induction l with | nil => exact Int.le_refl _ | cons p r ih => simp only [sumW]; omega
theorem sumP_len (l : List Page) : (l.length : Int) ≤ sumP l := by induction l with | nil => exact Int.le_refl _ | cons p r ih => simp only [sumP, List.length_cons]; omega
theorem sumW_len (l : List Switch) : (l.length : Int) ≤ sumW l := by induction l with | nil => exact Int.le_refl _ | cons p r ih => simp only [sumW, List.length_cons]; omega

theorem long_L0 (f : Form) {n : Int} (hn : 0 ≤ n) (hb : n + sumP f.2.2.1 ≤ 4611686018427387904) : (law18_long_L0 f (n, 0)).run = some (n + sumP f.2.2.1) := by
  have hl := sumP_len f.2.2.1
  refine T.loop_list f.2.2.1 (dflt tyPage) (fun b i => (b, i)) (fun n r => 0 ≤ n ∧ n + sumP r ≤ 4611686018427387904) (fun r n => n + sumP r) ?_ ?_ ⟨hn, hb⟩
  · rintro n x xs i h0 hi hx ⟨h1, h2⟩
    have := sumP_pos xs
    simp only [sumP] at h2 ⊢
    refine .inl ⟨n + 1 + x.1.length + x.2.1.length, ?_, ⟨by omega, by omega⟩, by omega⟩
    simp (disch := omega) [law18_long_R0, hi, hx]
  · rintro n ⟨h1, h2⟩
    simp [law18_long_R0, sumP]
theorem long_L1 (f : Form) {n : Int} (hn : 0 ≤ n) (hb : n + sumW f.1 ≤ 4611686018427387904) : (law18_long_L1 f (n, 0)).run = some (n + sumW f.1) := by
  have hl := sumW_len f.1
  refine T.loop_list f.1 (dflt tySwitch) (fun b i => (b, i)) (fun n r => 0 ≤ n ∧ n + sumW r ≤ 4611686018427387904) (fun r n => n + sumW r) ?_ ?_ ⟨hn, hb⟩
  · rintro n x xs i h0 hi hx ⟨h1, h2⟩
    have := sumW_pos xs
    simp only [sumW] at h2 ⊢
    refine .inl ⟨n + 1 + x.1.length, ?_, ⟨by omega, by omega⟩, by omega⟩
    simp (disch := omega) [law18_long_R1, hi, hx]
  · rintro n ⟨h1, h2⟩
    simp [law18_long_R1, sumW]
theorem long_run (f : Form) (hb : sumP f.2.2.1 + sumW f.1 ≤ 4611686018427387904) : (law18_long f).run = some (decide (1500 < sumP f.2.2.1 + sumW f.1)) := by
  have := sumP_pos f.2.2.1
  have := sumW_pos f.1
  simp (disch := omega) [law18_long, long_L0, long_L1]

/-- The place of the first of a list that p holds of; -1: none. -/
def ixF {α : Type} (p : α → Bool) (i : Int) : List α → Int
  | [] => -1
  | x :: r => if p x = true then i else ixF p (i + 1) r
theorem ixF_ge {α : Type} (p : α → Bool) (l : List α) (i : Int) (h : 0 ≤ i) : ixF p i l = -1 ∨ (i ≤ ixF p i l ∧ ixF p i l < i + l.length) := by
  induction l generalizing i with
  | nil => exact .inl rfl
  | cons x r ih =>
    simp only [ixF, List.length_cons]
    split
    · right; omega
    · rcases ih (i + 1) (by omega) with h | h
      · exact .inl h
      · right; omega
theorem indexSwitch_run (l : List Switch) (g : Switch → T Bool) (p : Switch → Bool) (hg : ∀ x, (g x).run = some (p x)) (hl : (l.length : Int) ≤ 4611686018427387904) : (slices_IndexFunc_sl_Switch l g).run = some (ixF p 0 l) := by
  have key : (slices_IndexFunc_sl_Switch_L0 l g (l.length : Int) 0).run = some (if ixF p 0 l = -1 then .inl () else .inr (ixF p 0 l)) := by
    have := T.loop_run (r := slices_IndexFunc_sl_Switch_R0 l g (l.length : Int)) (fun i => 0 ≤ i) (fun i => ((l.length : Int) - i).toNat) (fun i => if ixF p i (l.drop i.toNat) = -1 then .inl () else .inr (ixF p i (l.drop i.toNat))) (fun i h => ?_) (s := 0) (Int.le_refl 0)
    · unfold slices_IndexFunc_sl_Switch_L0; simpa using this
    · by_cases hi : i < l.length
      · rw [drop_get l (dflt tySwitch) h hi]
        by_cases hp : p (nth l i (dflt tySwitch)) = true
        · right
          have : ¬ i = -1 := by omega
          simp (disch := omega) [slices_IndexFunc_sl_Switch_R0, hi, hg, hp, ixF, this]
        · left
          refine ⟨i + 1, ?_, by omega, by omega, ?_⟩
          · simp (disch := omega) [slices_IndexFunc_sl_Switch_R0, hi, hg, hp]
          · simp [ixF, hp]
      · right
        rw [drop_end _ hi]
        simp [slices_IndexFunc_sl_Switch_R0, hi, ixF]
  simp only [slices_IndexFunc_sl_Switch, T.run_bind, key]
  split <;> rename_i h <;> simp [h]

/-- Whether a page counts. -/
def relP (w : List Switch) (on : List Bool) (p : Page) : Bool := strEq p.2.1 [] || (decide (0 ≤ ixF (fun s => strEq s.1 p.2.1) 0 w) && (decide (ixF (fun s => strEq s.1 p.2.1) 0 w < (on.length : Int)) && nth on (ixF (fun s => strEq s.1 p.2.1) 0 w) false))
theorem relevant_run (f : Form) (on : List Bool) (hp : (f.2.2.1.length : Int) ≤ 1000000000000) (hw : (f.1.length : Int) ≤ 4611686018427387904) : (page_Relevant f on).run = some (f.2.2.1.map (relP f.1 on)) := by
  have key : (page_Relevant_L0 on f f.2.2.1 (f.2.2.1.length : Int) (0, [])).run = some (f.2.2.1.map (relP f.1 on)) := by
    refine T.loop_list f.2.2.1 (dflt tyPage) (fun b i => (i, b)) (fun b r => (b.length : Int) + r.length ≤ 1000000000000) (fun r b => b ++ r.map (relP f.1 on)) ?_ ?_ (by simpa using hp)
    · intro b x xs i h0 hi hx hb
      simp only [List.length_cons] at hb
      refine .inl ⟨b ++ [relP f.1 on x], ?_, by simp; omega, by simp⟩
      have hI := indexSwitch_run f.1 (fun z0 => page_Relevant_f1 z0 x) (fun s => strEq s.1 x.2.1) (fun _ => rfl) hw
      have hd : dflt .bool = false := rfl
      by_cases c1 : strEq x.2.1 [] = true
      · simp (disch := omega) [page_Relevant_R0, hi, hx, hI, relP, c1]
      · by_cases c2 : 0 ≤ ixF (fun s => strEq s.1 x.2.1) 0 f.1
        · by_cases c3 : ixF (fun s => strEq s.1 x.2.1) 0 f.1 < (on.length : Int)
          · simp (disch := omega) [page_Relevant_R0, hi, hx, hI, relP, c1, c2, c3, hd]
          · simp (disch := omega) [page_Relevant_R0, hi, hx, hI, relP, c1, c2, c3]
        · simp (disch := omega) [page_Relevant_R0, hi, hx, hI, relP, c1, c2]
    · intro b _
      simp [page_Relevant_R0]
  simp [page_Relevant, key]

/-- The first place behind t that counts, from i on; -1: none. -/
def nxt (t i : Int) : List Bool → Int
  | [] => -1
  | b :: r => if (b && decide (t < i)) = true then i else nxt t (i + 1) r
theorem next_run (f : Form) (on : List Bool) (t : Int) (hp : (f.2.2.1.length : Int) ≤ 1000000000000) (hw : (f.1.length : Int) ≤ 4611686018427387904) :
    (page_Next f on t).run = some (if nxt t 0 (f.2.2.1.map (relP f.1 on)) = -1 then (t, false) else (nxt t 0 (f.2.2.1.map (relP f.1 on)), true)) := by
  generalize hL : f.2.2.1.map (relP f.1 on) = l
  have hll : (l.length : Int) ≤ 1000000000000 := by rw [← hL, List.length_map]; exact hp
  have key : (page_Next_L0 t l (l.length : Int) 0).run = some (if nxt t 0 l = -1 then .inl () else .inr (nxt t 0 l, true)) := by
    have := T.loop_run (r := page_Next_R0 t l (l.length : Int)) (fun i => 0 ≤ i) (fun i => ((l.length : Int) - i).toNat) (fun i => if nxt t i (l.drop i.toNat) = -1 then .inl () else .inr (nxt t i (l.drop i.toNat), true)) (fun i h => ?_) (s := 0) (Int.le_refl 0)
    · unfold page_Next_L0; simpa using this
    · by_cases hi : i < l.length
      · rw [drop_get l (dflt .bool) h hi]
        by_cases hp : (nth l i (dflt .bool) && decide (t < i)) = true
        · right
          have : ¬ i = -1 := by omega
          simp (disch := omega) only [page_Next_R0, T.run_iteS, hi, decide_true, if_true, T.run_idx, hp, T.run_ret, nxt, this, if_false]
        · left
          refine ⟨i + 1, ?_, by omega, by omega, ?_⟩
          · simp (disch := omega) only [page_Next_R0, T.run_iteS, hi, decide_true, if_true, T.run_idx, hp, T.run_ret, w64_in]; rfl
          · simp only [nxt, hp]; rfl
      · right
        rw [drop_end _ hi]
        simp [page_Next_R0, hi, nxt]
  simp only [page_Next, T.run_bind, relevant_run f on hp hw, hL, Option.bind_some, key]
  split <;> rename_i h <;> simp [h]

/-- How many count. -/
def cnt : List Bool → Int
  | [] => 0
  | b :: r => (if b = true then 1 else 0) + cnt r
/-- How many count up to place t. -/
def ct (t i : Int) : List Bool → Int
  | [] => 0
  | b :: r => (if (b && decide (i ≤ t)) = true then 1 else 0) + ct t (i + 1) r
theorem ct_zero (t : Int) (l : List Bool) (i : Int) (h : t < i) : ct t i l = 0 := by
  induction l generalizing i with
  | nil => rfl
  | cons b r ih =>
    have : ¬ i ≤ t := by omega
    simp only [ct, decide_eq_false this, Bool.and_false, Bool.false_eq_true, if_false, ih (i + 1) (by omega)]
    rfl
theorem cnt_le (l : List Bool) : 0 ≤ cnt l ∧ cnt l ≤ l.length := by
  induction l with
  | nil => exact ⟨Int.le_refl _, Int.le_refl _⟩
  | cons b r ih => simp only [cnt, List.length_cons]; split <;> omega
theorem ct_le (t : Int) (l : List Bool) (i : Int) : 0 ≤ ct t i l ∧ ct t i l ≤ cnt l := by
  induction l generalizing i with
  | nil => exact ⟨Int.le_refl _, Int.le_refl _⟩
  | cons b r ih =>
    have := ih (i + 1)
    simp only [cnt, ct]
    cases b with
    | false => simp; omega
    | true => simp; split <;> omega
theorem nxt_spec (t : Int) (l : List Bool) (i : Int) (hi : 0 ≤ i) : (nxt t i l = -1 ∧ ct t i l = cnt l) ∨ (i ≤ nxt t i l ∧ t < nxt t i l ∧ nxt t i l < i + l.length ∧ l.getD (nxt t i l - i).toNat false = true ∧ ct (nxt t i l) i l = ct t i l + 1) := by
  induction l generalizing i with
  | nil => exact .inl ⟨rfl, rfl⟩
  | cons b r ih =>
    simp only [nxt]
    by_cases hb : (b && decide (t < i)) = true
    · rw [if_pos hb]
      simp only [Bool.and_eq_true, decide_eq_true_eq] at hb
      refine .inr ⟨Int.le_refl _, hb.2, by simp; omega, by simp [hb.1], ?_⟩
      rw [ct_zero t (b :: r) i hb.2]
      simp only [ct, hb.1, Bool.true_and, decide_eq_true (Int.le_refl i), if_true, ct_zero i r (i + 1) (by omega)]
      rfl
    · rw [if_neg hb]
      have hb' : b = true → i ≤ t := fun h => by simp [h] at hb; omega
      rcases ih (i + 1) (by omega) with ⟨h1, h2⟩ | ⟨h1, h2, h3, h4, h5⟩
      · refine .inl ⟨h1, ?_⟩
        simp only [ct, cnt, h2]
        cases b with
        | false => simp
        | true => simp [hb' rfl]
      · refine .inr ⟨by omega, h2, by simp; omega, ?_, ?_⟩
        · have e : (nxt t (i + 1) r - i).toNat = (nxt t (i + 1) r - (i + 1)).toNat + 1 := by omega
          rw [e]; simpa using h4
        · simp only [ct, h5]
          cases b with
          | false => simp
          | true =>
            have := hb' rfl
            have h6 : i ≤ nxt t (i + 1) r := by omega
            simp [this, h6]; omega
theorem known_run : law18_known.run = some true := by
  have h1 := next_run (([([115], (false, ()))] : List Switch), (([] : List Param), (([([97], ([], ())), ([98], ([115], ())), ([99], ([], ()))] : List Page), (([] : List Field), (([] : List Rule), (([] : List Check), ())))))) [false] 0 (by decide) (by decide)
  have h2 := next_run (([([115], (false, ()))] : List Switch), (([] : List Param), (([([97], ([], ())), ([98], ([115], ())), ([99], ([], ()))] : List Page), (([] : List Field), (([] : List Rule), (([] : List Check), ())))))) [true] 0 (by decide) (by decide)
  unfold law18_known
  rw [T.run_bind_of h1, T.run_bind_of h2]
  decide
theorem all_L0 (on : List Bool) (f : Form) (l : List Bool) (m : Int) (hl : (l.length : Int) ≤ 1000000000000) : (law18_PageAll_L0 on f l m (0, 0)).run = some (cnt l) := by
  have := T.loop_list l (dflt .bool) (r := law18_PageAll_R0 on f l m) (fun b i => (b, i)) (fun w r => 0 ≤ w ∧ w + r.length ≤ 1000000000000) (fun r w => w + cnt r) ?_ ?_ (b := 0) ⟨Int.le_refl _, by omega⟩
  · unfold law18_PageAll_L0; simpa using this
  · rintro w x xs i h0 hi hx ⟨h1, h2⟩
    simp only [List.length_cons] at h2
    refine .inl ⟨w + (if x = true then 1 else 0), ?_, ⟨by split <;> omega, by split <;> omega⟩, by simp only [cnt]; omega⟩
    by_cases c : x = true
    · simp (disch := omega) [law18_PageAll_R0, hi, hx, c]
    · simp (disch := omega) [law18_PageAll_R0, hi, hx, c]
  · rintro w ⟨h1, h2⟩
    simp [law18_PageAll_R0, cnt]
theorem all_L1 (on : List Bool) (f : Form) (w : Int) (hp : (f.2.2.1.length : Int) ≤ 1000000000000) (hw : (f.1.length : Int) ≤ 4611686018427387904) :
    (law18_PageAll_L1 on f (f.2.2.1.map (relP f.1 on)) w (0, -1)).run = some (.inl (cnt (f.2.2.1.map (relP f.1 on)))) := by
  have hn := fun t => next_run f on t hp hw
  generalize hL : f.2.2.1.map (relP f.1 on) = l at hn
  have hll : (l.length : Int) ≤ 1000000000000 := by rw [← hL, List.length_map]; exact hp
  have hc := cnt_le l
  unfold law18_PageAll_L1
  refine T.loop_run (fun (s : Int × Int) => -1 ≤ s.2 ∧ s.2 < l.length ∧ s.1 = ct s.2 0 l) (fun s => ((l.length : Int) - s.2).toNat) (fun _ => Sum.inl (cnt l)) ?_ ⟨by decide, by simp only; omega, (ct_zero _ _ _ (by decide)).symm⟩
  rintro ⟨m, t⟩ ⟨h1, h2, h3⟩
  simp only at h1 h2 h3
  have hk := ct_le t l 0
  have hm : m ≤ l.length := by omega
  rcases nxt_spec t l 0 (Int.le_refl _) with ⟨k1, k2⟩ | ⟨k1, k2, k3, k4, k5⟩
  · right
    simp only [law18_PageAll_R1, T.run_iteS, decide_eq_true hm, if_true, T.run_bind, hn, k1, Option.bind_some, Bool.not_false, T.run_ret]
    rw [h3, k2]
  · left
    have hne : ¬ nxt t 0 l = -1 := by omega
    have hd : nth l (nxt t 0 l) (dflt .bool) = true := by rw [Int.sub_zero] at k4; exact k4
    refine ⟨(m + 1, nxt t 0 l), ?_, ⟨by simp only; omega, by simp only; omega, by simp only; rw [k5, h3]⟩, by simp only; omega, rfl⟩
    have c1 : ¬ nxt t 0 l ≤ t := by omega
    have c2 : ¬ (l.length : Int) ≤ nxt t 0 l := by omega
    simp only [law18_PageAll_R1, T.run_iteS, decide_eq_true hm, if_true, T.run_bind, hn, if_neg hne, Option.bind_some, Bool.not_true, Bool.false_eq_true, if_false, decide_eq_false c1, decide_eq_false c2, hd, Bool.or_self]
    rw [T.run_obl (fun _ _ => ⟨by omega, by omega⟩)]
    simp (disch := omega)
theorem all_run (f : Form) (on : List Bool) (hp : (f.2.2.1.length : Int) ≤ 1000000000000) (hw : (f.1.length : Int) ≤ 1000000000000) (hb : sumP f.2.2.1 + sumW f.1 ≤ 4611686018427387904) : (law18_PageAll f on).run = some true := by
  have e1 := long_run f hb
  have e2 := relevant_run f on hp (by omega)
  have e3 := all_L0 on f (f.2.2.1.map (relP f.1 on)) 0 (by rw [List.length_map]; exact hp)
  have e4 := all_L1 on f (cnt (f.2.2.1.map (relP f.1 on))) hp (by omega)
  simp only [law18_PageAll, T.run_bind, e1, Option.bind_some, T.run_iteS]
  split
  · rfl
  · simp only [T.run_ret, Option.bind_some]
    split
    · rfl
    · simp [e2, e3, e4, known_run]

theorem sumP_bk (l : List Page) : sumP l ≤ (sumB (bk tyPage) l : Nat) := by
  induction l with
  | nil => exact Int.le_refl _
  | cons p r ih => simp only [sumP, sumB, bk] at ih ⊢; omega
theorem sumW_bk (l : List Switch) : sumW l ≤ (sumB (bk tySwitch) l : Nat) := by
  induction l with
  | nil => exact Int.le_refl _
  | cons p r ih => simp only [sumW, sumB, bk] at ih ⊢; omega
theorem law18_PageAll_law (x : denL [tyForm, .sl .bool]) (_ : wfL [tyForm, .sl .bool] x) (h : bkL [tyForm, .sl .bool] x ≤ 1048576) : (law18_PageAll (toPs [tyForm, .sl .bool] x).1 (toPs [tyForm, .sl .bool] x).2).run = some true := by
  obtain ⟨f, on, ⟨⟩⟩ := x
  have h1 := sumP_bk f.2.2.1
  have h2 := sumW_bk f.1
  have h3 := sumP_len f.2.2.1
  have h4 := sumW_len f.1
  have e1 : bk tyForm f = (sumB (bk tySwitch) f.1 + 1) + (bk (.sl tyParam) f.2.1 + ((sumB (bk tyPage) f.2.2.1 + 1) + (bk (.sl tyField) f.2.2.2.1 + (bk (.sl tyRule) f.2.2.2.2.1 + (bk (.sl tyCheck) f.2.2.2.2.2.1 + 1))))) := rfl
  have e2 : bkL [tyForm, .sl .bool] (f, on, ()) = bk tyForm f + (bk (.sl .bool) on + 0) := rfl
  rw [e2, e1] at h
  exact all_run f on (by omega) (by omega) (by omega)
end Go.AM.Lf
