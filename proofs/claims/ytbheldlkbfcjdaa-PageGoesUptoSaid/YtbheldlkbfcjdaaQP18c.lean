/-
  Plain laws of the lifted program: P18c.
-/
import Derived.Test.YtbheldlkbfcjdaaQP18b
set_option linter.unusedVariables false
namespace Go.AM.Lf

theorem refOn_run (f : Form) (on : List Bool) (nm : Str) (hw : (f.1.length : Int) ≤ 4611686018427387904) :
    (ref18_on f on nm).run = some (decide (0 ≤ ixF (fun s => strEq s.1 nm) 0 f.1) && (decide (ixF (fun s => strEq s.1 nm) 0 f.1 < (on.length : Int)) && nth on (ixF (fun s => strEq s.1 nm) 0 f.1) false)) := by
  have hd : dflt .bool = false := rfl
  have key := T.loop_run (r := ref18_on_R0 on nm f) (fun i => 0 ≤ i) (fun i => ((f.1.length : Int) - i).toNat)
    (fun i => if ixF (fun s : Switch => strEq s.1 nm) i (f.1.drop i.toNat) = -1 then .inl () else .inr (decide (ixF (fun s : Switch => strEq s.1 nm) i (f.1.drop i.toNat) < (on.length : Int)) && nth on (ixF (fun s : Switch => strEq s.1 nm) i (f.1.drop i.toNat)) false)) (fun i h => ?_) (s := 0) (Int.le_refl 0)
  · have e : (ref18_on_L0 on nm f 0).run = _ := key
    unfold ref18_on
    rw [T.run_bind_of e]
    have hg := ixF_ge (fun s : Switch => strEq s.1 nm) f.1 0 (Int.le_refl 0)
    simp only [Int.toNat_zero, List.drop_zero]
    split
    · rename_i h; simp [h]
    · rename_i h
      have : 0 ≤ ixF (fun s : Switch => strEq s.1 nm) 0 f.1 := by rcases hg with hg | hg; exact absurd hg h; exact hg.1
      simp [this]
  · by_cases hi : i < f.1.length
    · rw [drop_get f.1 (dflt tySwitch) h hi]
      by_cases hp : strEq (nth f.1 i (dflt tySwitch)).1 nm = true
      · right
        have h1 : ¬ i = -1 := by omega
        simp only [ref18_on_R0, T.run_iteS, decide_eq_true hi, if_true]
        rw [T.run_idx _ h hi]
        simp only [T.run_iteS, hp, if_true]
        rw [T.run_obl (fun hh => ⟨h, of_decide_eq_true hh⟩)]
        simp [ixF, hp, h1, hd]
      · left
        refine ⟨i + 1, ?_, by omega, by omega, ?_⟩
        · simp (disch := omega) [ref18_on_R0, hi, hp]
        · simp [ixF, hp]
    · right
      rw [drop_end _ hi]
      simp [ref18_on_R0, hi, ixF]

theorem refRelevant_run (f : Form) (on : List Bool) (hp : (f.2.2.1.length : Int) ≤ 1000000000000) (hw : (f.1.length : Int) ≤ 4611686018427387904) : (ref18_Relevant f on).run = some (f.2.2.1.map (relP f.1 on)) := by
  have key : (ref18_Relevant_L0 on f (0, [])).run = some (f.2.2.1.map (relP f.1 on)) := by
    refine T.loop_list f.2.2.1 (dflt tyPage) (fun b i => (i, b)) (fun b r => (b.length : Int) + r.length ≤ 1000000000000) (fun r b => b ++ r.map (relP f.1 on)) ?_ ?_ (by simpa using hp)
    · intro b x xs i h0 hi hx hb
      simp only [List.length_cons] at hb
      refine .inl ⟨b ++ [relP f.1 on x], ?_, by simp; omega, by simp⟩
      have hI := refOn_run f on x.2.1 hw
      by_cases c1 : strEq x.2.1 [] = true
      · simp (disch := omega) [ref18_Relevant_R0, hi, hx, relP, c1]
      · simp (disch := omega) [ref18_Relevant_R0, hi, hx, hI, relP, c1]
    · intro b _
      simp [ref18_Relevant_R0]
  simp [ref18_Relevant, key]

theorem refNext_run (f : Form) (on : List Bool) (t : Int) (hp : (f.2.2.1.length : Int) ≤ 1000000000000) (hw : (f.1.length : Int) ≤ 4611686018427387904) :
    (ref18_Next f on t).run = some (if nxt t 0 (f.2.2.1.map (relP f.1 on)) = -1 then (t, false) else (nxt t 0 (f.2.2.1.map (relP f.1 on)), true)) := by
  generalize hL : f.2.2.1.map (relP f.1 on) = l
  have hll : (l.length : Int) ≤ 1000000000000 := by rw [← hL, List.length_map]; exact hp
  have key : (ref18_Next_L0 t l 0).run = some (if nxt t 0 l = -1 then .inl () else .inr (nxt t 0 l, true)) := by
    have := T.loop_run (r := ref18_Next_R0 t l) (fun i => 0 ≤ i) (fun i => ((l.length : Int) - i).toNat) (fun i => if nxt t i (l.drop i.toNat) = -1 then .inl () else .inr (nxt t i (l.drop i.toNat), true)) (fun i h => ?_) (s := 0) (Int.le_refl 0)
    · unfold ref18_Next_L0; simpa using this
    · by_cases hi : i < l.length
      · rw [drop_get l (dflt .bool) h hi]
        by_cases hp : (nth l i (dflt .bool) && decide (t < i)) = true
        · right
          have : ¬ i = -1 := by omega
          have hp' := hp
          rw [Bool.and_comm] at hp'
          simp only [ref18_Next_R0, T.run_iteS, hi, decide_true, if_true]
          rw [T.run_obl (fun _ => ⟨h, hi⟩)]
          simp only [T.run_iteS, hp', if_true, T.run_ret, nxt, hp, this, if_false]
        · left
          have hp' := hp
          rw [Bool.and_comm] at hp'
          refine ⟨i + 1, ?_, by omega, by omega, ?_⟩
          · simp only [ref18_Next_R0, T.run_iteS, hi, decide_true, if_true]
            rw [T.run_obl (fun _ => ⟨h, hi⟩)]
            simp (disch := omega) only [T.run_iteS, hp', if_false, T.run_ret, w64_in]; rfl
          · simp only [nxt, hp]; rfl
      · right
        rw [drop_end _ hi]
        simp [ref18_Next_R0, hi, nxt]
  simp only [ref18_Next, T.run_bind, refRelevant_run f on hp hw, hL, Option.bind_some, key]
  split <;> rename_i h <;> simp [h]

theorem refBack_run (f : Form) (on : List Bool) (t : Int) (hp : (f.2.2.1.length : Int) ≤ 1000000000000) (hw : (f.1.length : Int) ≤ 4611686018427387904) :
    (ref18_Back f on t).run = some (backOf (f.2.2.1.map (relP f.1 on)) t f.2.2.1.length) := by
  have hlen : f.2.2.1.length = (f.2.2.1.map (relP f.1 on)).length := by rw [List.length_map]
  rw [hlen] at hp
  have hR := refRelevant_run f on (by rw [hlen]; exact hp) hw
  rw [hlen]
  generalize f.2.2.1.map (relP f.1 on) = l at hp hR
  have hd : dflt .bool = false := rfl
  have key := T.loop_run (r := ref18_Back_R0 t l) (fun i => -1 ≤ i ∧ i < (l.length : Int)) (fun i => (i + 1).toNat)
    (fun i => if (backOf l t (i + 1).toNat).2 = true then .inr (backOf l t (i + 1).toNat) else .inl ()) (fun i h => ?_) (s := (l.length : Int) - 1) (by omega)
  · have e : (ref18_Back_L0 t l ((l.length : Int) - 1)).run = _ := key
    have hw1 : w64 ((l.length : Int) - 1) = (l.length : Int) - 1 := w64_in (by omega) (by omega)
    unfold ref18_Back
    rw [T.run_bind_of hR, hw1, T.run_bind_of e]
    have hn : ((l.length : Int) - 1 + 1).toNat = l.length := by omega
    rw [hn]
    split
    · rfl
    · rename_i hc
      rw [backOf_false l t l.length (by simpa using hc)]; rfl
  · by_cases hi : 0 ≤ i
    · obtain ⟨k, rfl⟩ : ∃ k : Nat, i = k := ⟨i.toNat, by omega⟩
      have hk1 : ((k : Int) + 1).toNat = k + 1 := by omega
      have hk2 : ((k : Int) - 1 + 1).toNat = k := by omega
      have hnt : nth l (k : Int) false = l[k]?.getD false := by simp [nth, List.getD_eq_getElem?_getD]
      by_cases hp : l[k]?.getD false = true ∧ (k : Int) < t
      · right
        simp only [ref18_Back_R0, T.run_iteS, decide_eq_true hi, if_true]
        rw [T.run_obl (fun _ => ⟨hi, h.2⟩)]
        simp [hd, hnt, hp, hk1, backOf]
      · left
        refine ⟨(k : Int) - 1, ?_, by omega, by omega, ?_⟩
        · simp only [ref18_Back_R0, T.run_iteS, decide_eq_true hi, if_true]
          rw [T.run_obl (fun _ => ⟨hi, h.2⟩)]
          have hp' : ¬ (decide ((k : Int) < t) && nth l (k : Int) (dflt .bool)) = true := by
            rw [hd, hnt]; intro hh; simp only [Bool.and_eq_true, decide_eq_true_eq] at hh; exact hp ⟨hh.2, hh.1⟩
          simp only [T.run_iteS, if_neg hp', T.run_ret]
          rw [w64_in (by omega) (by omega)]
        · have hB : backOf l t (k + 1) = backOf l t k := by simp only [backOf]; rw [if_neg hp]
          rw [hk1, hk2, hB]
    · right
      have : i = -1 := by omega
      subst this
      rfl

theorem refFix_run (f : Form) (on : List Bool) (t : Int) (hp : (f.2.2.1.length : Int) ≤ 1000000000000) (hw : (f.1.length : Int) ≤ 4611686018427387904) :
    (ref18_Fix f on t).run = (page_Fix f on t).run := by
  have hd : dflt .bool = false := rfl
  rw [fix_run f on t hp hw]
  unfold ref18_Fix
  rw [T.run_bind_of (refRelevant_run f on hp hw), T.run_obl (fun h1 h2 => ⟨of_decide_eq_true h1, of_decide_eq_true h2⟩)]
  simp only [List.length_map, T.run_iteS, hd, T.run_ret]
  split
  · rfl
  · rw [T.run_bind_of (refBack_run f on t hp hw)]
    simp only [T.run_iteS, T.run_ret]
    split
    · rfl
    · rw [T.run_bind_of (refNext_run f on t hp hw)]
      split <;> rfl

theorem indexPage_run (l : List Page) (g : Page → T Bool) (p : Page → Bool) (hg : ∀ x, (g x).run = some (p x)) (hl : (l.length : Int) ≤ 4611686018427387904) : (slices_IndexFunc_sl_Page l g).run = some (ixF p 0 l) := by
  have key : (slices_IndexFunc_sl_Page_L0 l g (l.length : Int) 0).run = some (if ixF p 0 l = -1 then .inl () else .inr (ixF p 0 l)) := by
    have := T.loop_run (r := slices_IndexFunc_sl_Page_R0 l g (l.length : Int)) (fun i => 0 ≤ i) (fun i => ((l.length : Int) - i).toNat) (fun i => if ixF p i (l.drop i.toNat) = -1 then .inl () else .inr (ixF p i (l.drop i.toNat))) (fun i h => ?_) (s := 0) (Int.le_refl 0)
    · unfold slices_IndexFunc_sl_Page_L0; simpa using this
    · by_cases hi : i < l.length
      · rw [drop_get l (dflt tyPage) h hi]
        by_cases hp : p (nth l i (dflt tyPage)) = true
        · right
          have : ¬ i = -1 := by omega
          simp (disch := omega) [slices_IndexFunc_sl_Page_R0, hi, hg, hp, ixF, this]
        · left
          refine ⟨i + 1, ?_, by omega, by omega, ?_⟩
          · simp (disch := omega) [slices_IndexFunc_sl_Page_R0, hi, hg, hp]
          · simp [ixF, hp]
      · right
        rw [drop_end _ hi]
        simp [slices_IndexFunc_sl_Page_R0, hi, ixF]
  simp only [slices_IndexFunc_sl_Page, T.run_bind, key]
  split <;> rename_i h <;> simp [h]

def jumpOf (l : List Bool) (i : Int) : Int × Int := if i = -1 then (-1, 5) else if nth l i false = true then (i, 0) else (-1, 12)
theorem jump_run (f : Form) (on : List Bool) (nm : Str) (hp : (f.2.2.1.length : Int) ≤ 1000000000000) (hw : (f.1.length : Int) ≤ 4611686018427387904) :
    (page_Jump f on nm).run = some (jumpOf (f.2.2.1.map (relP f.1 on)) (ixF (fun p : Page => strEq p.1 nm) 0 f.2.2.1)) := by
  have hd : dflt .bool = false := rfl
  unfold page_Jump
  rw [T.run_bind_of (indexPage_run f.2.2.1 _ (fun p => strEq p.1 nm) (fun _ => rfl) (by omega))]
  have hg := ixF_ge (fun p : Page => strEq p.1 nm) f.2.2.1 0 (Int.le_refl 0)
  generalize ixF (fun p : Page => strEq p.1 nm) 0 f.2.2.1 = i at hg
  simp only [T.run_iteS, jumpOf]
  by_cases h : i = -1
  · subst h; rfl
  · have h0 : ¬ i < 0 := by rcases hg with hg | hg <;> omega
    have h1 : i < (f.2.2.1.length : Int) := by rcases hg with hg | hg <;> omega
    rw [if_neg (by simpa using h0), if_neg h, T.run_bind_of (relevant_run f on hp hw), T.run_idx _ (by omega) (by rw [List.length_map]; exact h1)]
    simp only [T.run_iteS, T.run_ret, hd]
    cases nth (f.2.2.1.map (relP f.1 on)) i false <;> rfl
theorem refJump_run (f : Form) (on : List Bool) (nm : Str) (hp : (f.2.2.1.length : Int) ≤ 1000000000000) (hw : (f.1.length : Int) ≤ 4611686018427387904) :
    (ref18_Jump f on nm).run = some (jumpOf (f.2.2.1.map (relP f.1 on)) (ixF (fun p : Page => strEq p.1 nm) 0 f.2.2.1)) := by
  have hd : dflt .bool = false := rfl
  have hR := refRelevant_run f on hp hw
  have hlen : (f.2.2.1.map (relP f.1 on)).length = f.2.2.1.length := List.length_map ..
  generalize f.2.2.1.map (relP f.1 on) = l at hR hlen
  have key := T.loop_run (r := ref18_Jump_R0 nm f l) (fun i => 0 ≤ i) (fun i => ((f.2.2.1.length : Int) - i).toNat)
    (fun i => if ixF (fun p : Page => strEq p.1 nm) i (f.2.2.1.drop i.toNat) = -1 then .inl () else .inr (jumpOf l (ixF (fun p : Page => strEq p.1 nm) i (f.2.2.1.drop i.toNat)))) (fun i h => ?_) (s := 0) (Int.le_refl 0)
  · have e : (ref18_Jump_L0 nm f l 0).run = _ := key
    unfold ref18_Jump
    rw [T.run_bind_of hR, T.run_bind_of e]
    simp only [Int.toNat_zero, List.drop_zero]
    split
    · rename_i h; rw [h]; rfl
    · rfl
  · by_cases hi : i < f.2.2.1.length
    · rw [drop_get f.2.2.1 (dflt tyPage) h hi]
      by_cases hp : strEq (nth f.2.2.1 i (dflt tyPage)).1 nm = true
      · right
        have h1 : ¬ i = -1 := by omega
        have h2 : i < (l.length : Int) := by omega
        simp (disch := omega) only [ref18_Jump_R0, T.run_iteS, hi, decide_true, if_true, T.run_idx, hp, ixF, h1, if_false, jumpOf, hd]
        cases nth l i false <;> rfl
      · left
        refine ⟨i + 1, ?_, by omega, by omega, ?_⟩
        · simp (disch := omega) [ref18_Jump_R0, hi, hp]
        · simp [ixF, hp]
    · right
      rw [drop_end _ hi]
      simp [ref18_Jump_R0, hi, ixF]

theorem goes_L0 (on : List Bool) (t : Int) (nm : Str) (f : Form) (l : List Bool) (hl : (l.length : Int) ≤ 1000000000000) : (law18_PageGoes_L0 on t nm f l l 0).run = some (.inl ()) := by
  refine T.loop_run (fun i => 0 ≤ i) (fun i => ((l.length : Int) - i).toNat) (fun _ => Sum.inl ()) (fun i h => ?_) (Int.le_refl 0)
  by_cases hi : i < l.length
  · left
    refine ⟨i + 1, ?_, by omega, by omega, rfl⟩
    simp (disch := omega) [law18_PageGoes_R0, hi]
  · right
    simp [law18_PageGoes_R0, hi]

theorem goes_run (f : Form) (on : List Bool) (t : Int) (nm : Str) (hp : (f.2.2.1.length : Int) ≤ 1000000000000) (hw : (f.1.length : Int) ≤ 1000000000000) (hb : sumP f.2.2.1 + sumW f.1 ≤ 4611686018427387904) : (law18_PageGoes f on t nm).run = some true := by
  have e1 := long_run f hb
  have hw' : (f.1.length : Int) ≤ 4611686018427387904 := by omega
  have e2 := relevant_run f on hp hw'
  have e3 := refRelevant_run f on hp hw'
  have e4 := goes_L0 on t nm f (f.2.2.1.map (relP f.1 on)) (by rw [List.length_map]; exact hp)
  have a1 := next_run f on t hp hw'
  have a2 := refNext_run f on t hp hw'
  have a3 := back_run f on t hp hw'
  have a4 := refBack_run f on t hp hw'
  have a5 := jump_run f on nm hp hw'
  have a6 := refJump_run f on nm hp hw'
  have a7 := fix_run f on t hp hw'
  have a8 := refFix_run f on t hp hw'
  rw [a7] at a8
  simp only [law18_PageGoes, T.run_bind, e1, Option.bind_some, T.run_iteS]
  split
  · rfl
  split
  · rfl
  simp only [T.run_ret, Option.bind_some]
  split
  · rfl
  simp only [e2, e3, Option.bind_some, bne_self_eq_false, Bool.false_eq_true, if_false, e4, Sum.elim_inl, T.run_bind, a1, a2, a3, a4, a5, a6, a7, a8, T.run_iteS, beq_self_eq_true, if_true, known_run, T.run_ret]

theorem law18_PageGoes_law (x : denL [tyForm, .sl .bool, .int .i64, .str]) (_ : wfL [tyForm, .sl .bool, .int .i64, .str] x) (h : bkL [tyForm, .sl .bool, .int .i64, .str] x ≤ 1048576) :
    (law18_PageGoes (toPs [tyForm, .sl .bool, .int .i64, .str] x).1 (toPs [tyForm, .sl .bool, .int .i64, .str] x).2.1 (toPs [tyForm, .sl .bool, .int .i64, .str] x).2.2.1 (toPs [tyForm, .sl .bool, .int .i64, .str] x).2.2.2).run = some true := by
  obtain ⟨f, on, t, nm, ⟨⟩⟩ := x
  have h1 := sumP_bk f.2.2.1
  have h2 := sumW_bk f.1
  have h3 := sumP_len f.2.2.1
  have h4 := sumW_len f.1
  have e1 : bk tyForm f = (sumB (bk tySwitch) f.1 + 1) + (bk (.sl tyParam) f.2.1 + ((sumB (bk tyPage) f.2.2.1 + 1) + (bk (.sl tyField) f.2.2.2.1 + (bk (.sl tyRule) f.2.2.2.2.1 + (bk (.sl tyCheck) f.2.2.2.2.2.1 + 1))))) := rfl
  have e2 : bkL [tyForm, .sl .bool, .int .i64, .str] (f, on, t, nm, ()) = bk tyForm f + (bk (.sl .bool) on + (bk (.int .i64) t + (bk .str nm + 0))) := rfl
  rw [e2, e1] at h
  exact goes_run f on t nm (by omega) (by omega) (by omega)
end Go.AM.Lf
