/-
  Plain laws of the lifted program, part 2.
-/
import Derived.Test.YtecllnbdbdnfbaaGreatDoorLf1
import Derived.Test.YtecllnbdbdnfbaaGreatDoorAmA
import Derived.Test.YtecllnbdbdnfbaaGreatDoorAmD
import Derived.Test.YtecllnbdbdnfbaaGreatDoorQ0
import Derived.Test.YtecllnbdbdnfbaaGreatDoorQ1
set_option linter.unusedVariables false
namespace Go.AM.Lf
open PL
theorem dt {α : Type} (l : List α) : List.drop 0 (List.take (0 + l.length) l) = l := by simp
theorem strEq_ok {s : Str} (h : nameOk s = true) : strEq s [] = false := by
 cases s with
 | nil => cases h
 | cons b r => rw [strEq_iff]; exact decide_eq_false (by simp)
mutual
theorem okE_names : ∀ (e : Expr) (d : Nat), okE d e = true → ∀ x ∈ allE e, nameOk x = true
 | .mk k n s l, d, h, x, hx => by
  unfold okE at h
  rw [Bool.and_eq_true, Bool.and_eq_true] at h
  unfold allE at hx
  rcases List.mem_append.1 hx with hx | hx
  ·by_cases hk : k = 2
   ·rw [if_pos hk, List.mem_singleton] at hx
    have hx' := hx
    have h2 := h.2.1
    unfold nodeB at h2
    rw [Bool.and_eq_true] at h2
    have h3 := h2.2
    subst hk
    rw [hx']
    rw [if_neg (by show ¬ (2 : Int) = 1; decide), if_pos (by rfl), Bool.and_eq_true] at h3
    exact h3.2
   ·rw [if_neg hk] at hx; cases hx
  ·exact okEs_names l (d + 1) h.2.2 x hx
theorem okEs_names : ∀ (l : List Expr) (d : Nat), okEs d l = true → ∀ x ∈ allEs l, nameOk x = true
 | [], d, h, x, hx => by cases hx
 | e :: r, d, h, x, hx => by
  unfold okEs at h
  rw [Bool.and_eq_true] at h
  unfold allEs at hx
  rcases List.mem_append.1 hx with hx | hx
  ·exact okE_names e d h.1 x hx
  ·exact okEs_names r d h.2 x hx
end
theorem any_not {α : Type} {p : α → Bool} {l : List α} (h : (!l.any p) = true) : ∀ x ∈ l, p x = false := by
 rw [Bool.not_eq_true', List.any_eq_false] at h
 exact fun x hx => Bool.not_eq_true _ |>.mp (h x hx)
theorem isFm_parts {f : Form} (h : isFm f = true) : a1 f = true ∧ a2 f = true ∧ a3 f = true ∧ a4 f = true ∧ a5 f = true ∧ a6 f = true := by
 unfold isFm at h
 simp only [Bool.and_eq_true] at h
 exact ⟨h.1, h.2.1, h.2.2.1, h.2.2.2.1, h.2.2.2.2.1, h.2.2.2.2.2.1⟩
theorem isFm_rule {f : Form} (h : isFm f = true) {x : Rule} (hx : x ∈ f.2.2.2.2.1) : nameOk x.1 = true ∧ guardB x.2.2.1 = true ∧ 0 ≤ x.2.1 ∧ x.2.1 ≤ 3 ∧ okE 0 x.2.2.2.1 = true ∧ okE 0 x.2.2.2.2.1 = true := by
 have := any_not (isFm_parts h).2.2.2.2.2 x hx
 unfold badR at this
 simp only [Bool.or_eq_false_iff, Bool.not_eq_false', decide_eq_false_iff_not] at this
 exact ⟨this.1, this.2.1, Int.not_lt.1 this.2.2.1, Int.not_lt.1 this.2.2.2.1, this.2.2.2.2.1, this.2.2.2.2.2⟩
theorem isFm_check {f : Form} (h : isFm f = true) {x : Check} (hx : x ∈ f.2.2.2.2.2.1) : nameOk x.1 = true ∧ okE 0 x.2.2.2.1 = true ∧ okE 0 x.2.2.2.2.1 = true := by
 obtain ⟨b, this⟩ := scanB_mem (isFm_parts h).2.2.2.2.1 x hx
 unfold badC at this
 simp only [Bool.or_eq_false_iff, Bool.not_eq_false'] at this
 exact ⟨this.2.2.1, this.2.2.2.2.2.1, this.2.2.2.2.2.2⟩
theorem isFm_names {f : Form} (h : isFm f = true) : ∀ s ∈ nmsF f, nameOk s = true := by
 have hp := isFm_parts h
 intro s hs
 unfold nmsF at hs
 simp only [List.mem_append, List.mem_map, or_assoc] at hs
 rcases hs with ⟨x, hx, rfl⟩ | ⟨x, hx, rfl⟩ | ⟨x, hx, rfl⟩ | ⟨x, hx, rfl⟩ | ⟨x, hx, rfl⟩ | ⟨x, hx, rfl⟩
 ·have := any_not hp.1 x hx
  unfold badS at this
  rwa [Bool.not_eq_false'] at this
 ·have := any_not hp.2.1 x hx
  unfold badPa at this
  simp only [Bool.or_eq_false_iff, Bool.not_eq_false'] at this
  exact this.1
 ·have := any_not hp.2.2.1 x hx
  unfold badG at this
  simp only [Bool.or_eq_false_iff, Bool.not_eq_false'] at this
  exact this.1
 ·obtain ⟨b, this⟩ := scanB_mem hp.2.2.2.1 x hx
  unfold badF at this
  simp only [Bool.or_eq_false_iff, Bool.not_eq_false'] at this
  exact this.2.2.1
 ·exact (isFm_rule h hx).1
 ·exact (isFm_check h hx).1
theorem isFm_ex {f : Form} (h : isFm f = true) : ∀ e ∈ exF f, okE 0 e = true := by
 intro e he
 unfold exF at he
 rcases List.mem_append.1 he with he | he <;> obtain ⟨x, hx, he⟩ := List.mem_flatMap.1 he
 ·have := isFm_check h hx
  rcases List.mem_cons.1 he with rfl | he
  ·exact this.2.1
  ·rw [List.mem_singleton.1 he]; exact this.2.2
 ·have := isFm_rule h hx
  rcases List.mem_cons.1 he with rfl | he
  ·exact this.2.2.2.2.1
  ·rw [List.mem_singleton.1 he]; exact this.2.2.2.2.2
theorem ukF_ok {f : Form} (h : isFm f = true) {s : Str} (hs : ukF f = some s) : nameOk s = true := by
 have := (pick_some hs).1
 unfold nmX at this
 obtain ⟨e, he, hm⟩ := List.mem_flatMap.1 this
 rcases (nmE_mem e [] s).1 hm with q | q
 ·cases q
 ·exact okE_names e 0 (isFm_ex h e he) s q
def linBad (f : Form) (x : Rule) : Option Str := if (!linE (f.2.2.2.1.map (·.1)) x.2.2.2.1 || !linE (f.2.2.2.1.map (·.1)) x.2.2.2.2.1) = true then some x.1 else none
def lnF (f : Form) : Option Str := f.2.2.2.2.1.findSome? (linBad f)
def stP (f : Form) : Int × Str :=
 if isFm f = true then
  if (twR [] (nmsF f)).2 = true then (5, (twR [] (nmsF f)).1)
  else optE (fun n => ((5 : Int), n)) (optE (fun n => (5, n)) (optE (fun n => (6, n)) (0, []) (lnF f)) (ukF f)) (ugF f)
 else (2, [])
theorem fl_len {f : Form} (h : FS f) : (f.2.2.2.1.map (·.1)).length ≤ 30 := by
 have := h.n
 rw [List.length_map]; omega
theorem Static_run (f : Form) (h : FS f) : (check_Static f).run = some (stP f) := by
 have hn := h.n
 have k0 : (check_Static_L0 f f.2.2.2.1 (f.2.2.2.1.length : Int) (0, [])).run = some ([] ++ f.2.2.2.1.map (·.1)) := by
  refine nm_loop (r := check_Static_R0 f f.2.2.2.1 (f.2.2.2.1.length : Int)) f.2.2.2.1 (dflt tyField) (·.1) [] (fun k b x hk hx hm hb => ?_) (fun b => ?_) (by simp only [List.length_nil]; omega)
  ·unfold check_Static_R0
   dsimp only
   rw [hx, T.run_ite_t (lt_t hk), T.run_obl (idx_ok hk), T.run_app _ rfl rfl rfl (by omega), T.run_cur _ (by simp) rfl (by simp), T.run_obl (by simp), T.run_ret, ix1 k _ hk (by omega)]
  ·unfold check_Static_R0
   dsimp only
   rw [T.run_ite_f (lt_f _), T.run_cur _ rfl rfl rfl, T.run_same, T.run_ret]
 have hF := fl_len h
 have k1 : (check_Static_L1 f.2.2.2.2.1 (f.2.2.2.2.1.length : Int) (0, f.2.2.2.1.map (·.1))).run = some (optE (fun n => .inr (6, (n, f.2.2.2.1.map (·.1)))) (.inl (f.2.2.2.1.map (·.1))) (lnF f)) := by
  refine find_loop (r := check_Static_R1 f.2.2.2.2.1 (f.2.2.2.2.1.length : Int)) f.2.2.2.2.1 (dflt tyRule) (linBad f) (fun i => (i, f.2.2.2.1.map (·.1))) _ _ (fun k x hk hx hm => ?_) ?_
  ·have hc := (h.r x hm).2.2
   unfold check_Static_R1 linBad
   dsimp only
   rw [hx, T.run_ite_t (lt_t hk), T.run_obl (idx_ok hk), ex_eta, ex_eta, dt]
   have l1 := linear_run x.2.2.2.1 (f.2.2.2.1.map (·.1)) (Nat.le_trans (exOk_bk hc.1) (by decide)) (by omega)
   have l2 := linear_run x.2.2.2.2.1 (f.2.2.2.1.map (·.1)) (Nat.le_trans (exOk_bk hc.2) (by decide)) (by omega)
   cases hl : linE (f.2.2.2.1.map (·.1)) x.2.2.2.1 with
   | false =>
    rw [hl] at l1
    refine (T.run_bind_of (a := (true, (f.2.2.2.1.map (·.1), x))) ?_ _).trans ?_
    ·rw [T.run_same, T.run_bind_of l1, T.run_ite_t (by rfl), T.run_cur _ rfl rfl rfl, T.run_same, T.run_ret]
    ·dsimp only
     rw [T.run_ite_true, T.run_same, T.run_ret]; rfl
   | true =>
    rw [hl] at l1
    refine (T.run_bind_of (a := (!linE (f.2.2.2.1.map (·.1)) x.2.2.2.2.1, (f.2.2.2.1.map (·.1), x))) ?_ _).trans ?_
    ·rw [T.run_same, T.run_bind_of l1, T.run_ite_f (by rfl), T.run_same, T.run_bind_of l2, T.run_cur _ rfl rfl rfl, T.run_same, T.run_ret]
    ·dsimp only
     cases linE (f.2.2.2.1.map (·.1)) x.2.2.2.2.1 with
     | false => rw [Bool.not_false, T.run_ite_true, T.run_same, T.run_ret]; rfl
     | true => rw [Bool.not_true, T.run_ite_false, T.run_cur _ rfl rfl rfl, T.run_same, T.run_ret, ix1 k _ hk (by omega)]; rfl
  ·unfold check_Static_R1
   dsimp only
   rw [T.run_ite_f (lt_f _), T.run_same, T.run_ret]
 unfold check_Static stP
 rw [T.run_bind_of (sheet_Is_run f h)]
 cases hI : isFm f with
 | false => rw [T.run_ite_t (by rfl), T.run_ret]; rfl
 | true =>
  have hnm := isFm_names hI
  have h64 : (decide ((64 : Int) < (f.2.2.2.1.length : Int)) || decide ((64 : Int) < (f.2.2.2.2.1.length : Int))) = false := by
   rw [decide_eq_false (by omega), decide_eq_false (by omega)]; rfl
  have hl1 : (nmsF f).length ≤ 1000000 := by unfold nmsF; simp only [List.length_append, List.length_map]; omega
  rw [T.run_ite_f (by rfl), T.run_ite_f h64, T.run_bind_of (check_names_run f h), T.run_bind_of (check_twice_run _ hl1 (fun s hs => by
   have := hnm s hs
   cases s with
   | nil => exact Nat.zero_le _
   | cons b r =>
    unfold nameOk at this
    rw [Bool.and_eq_true, decide_eq_true_eq] at this
    omega)), if_pos rfl]
  cases ht : (twR [] (nmsF f)).2 with
  | true => rw [if_pos rfl]; dsimp only; rw [ht, T.run_ite_true, T.run_ret]
  | false =>
   rw [if_neg (by decide)]
   dsimp only
   rw [ht, T.run_ite_false, T.run_bind_of (check_unguarded_run f h)]
   cases ugF f with
   | some n => rfl
   | none =>
    show T.run (T.ite false _ _) = _
    rw [T.run_ite_false, T.run_cur _ rfl rfl rfl, T.run_same, T.run_bind_of k0, List.nil_append, T.run_same, dt, T.run_bind_of (check_unknown_run f h)]
    cases ukF f with
    | some n => rfl
    | none =>
     show T.run (T.ite false _ _) = _
     rw [T.run_ite_false, T.run_cur _ rfl rfl rfl, T.run_same, T.run_bind_of k1]
     cases lnF f <;> rfl
theorem ref7_Static_run (f : Form) (h : FS f) : (ref7_Static f).run = some (stP f) := by
 have hn := h.n
 have hF := fl_len h
 have k0 : (ref7_Static_L0 f (f.2.2.2.1.map (·.1)) (0, f.2.2.2.1.map (·.1))).run = some (knF f) := by
  refine nm_loop (r := ref7_Static_R0 f (f.2.2.2.1.map (·.1))) f.2.1 (dflt tyParam) (·.1) _ (fun k b x hk hx hm hb => ?_) (fun b => ?_) (by omega)
  ·unfold ref7_Static_R0
   dsimp only
   rw [hx, T.run_ite_t (lt_t hk), T.run_obl (idx_ok hk), T.run_app _ rfl rfl rfl (by omega), T.run_cur _ (by simp) rfl (by simp), T.run_obl (by simp), T.run_ret, ix1 k _ hk (by omega)]
  ·unfold ref7_Static_R0
   dsimp only
   rw [T.run_ite_f (lt_f _), T.run_cur _ rfl rfl rfl, T.run_same, T.run_ret]
 have k1 : (ref7_Static_L1 f (f.2.2.2.1.map (·.1)) 0).run = some (optE (fun n => .inr (6, n)) (.inl ()) (lnF f)) := by
  refine find_loop (r := ref7_Static_R1 f (f.2.2.2.1.map (·.1))) f.2.2.2.2.1 (dflt tyRule) (linBad f) (fun i => i) _ _ (fun k x hk hx hm => ?_) ?_
  ·have hc := (h.r x hm).2.2
   unfold ref7_Static_R1 linBad
   dsimp only
   rw [hx, T.run_ite_t (lt_t hk)]
   have l1 := ref7_Linear_run x.2.2.2.1 (f.2.2.2.1.map (·.1)) (Nat.le_trans (exOk_bk hc.1) (by decide)) (by omega)
   have l2 := ref7_Linear_run x.2.2.2.2.1 (f.2.2.2.1.map (·.1)) (Nat.le_trans (exOk_bk hc.2) (by decide)) (by omega)
   cases hl : linE (f.2.2.2.1.map (·.1)) x.2.2.2.1 with
   | false =>
    rw [hl] at l1
    refine (T.run_bind_of (a := true) ?_ _).trans ?_
    ·rw [T.run_obl (idx_ok hk), T.run_bind_of l1, T.run_ite_t (by rfl), T.run_ret]
    ·rw [T.run_ite_true, T.run_obl (idx_ok hk), T.run_ret]; rfl
   | true =>
    rw [hl] at l1
    refine (T.run_bind_of (a := !linE (f.2.2.2.1.map (·.1)) x.2.2.2.2.1) ?_ _).trans ?_
    ·rw [T.run_obl (idx_ok hk), T.run_bind_of l1, T.run_ite_f (by rfl), T.run_obl (idx_ok hk), T.run_bind_of l2, T.run_ret]
    ·cases linE (f.2.2.2.1.map (·.1)) x.2.2.2.2.1 with
     | false => rw [Bool.not_false, T.run_ite_true, T.run_obl (idx_ok hk), T.run_ret]; rfl
     | true => rw [Bool.not_true, T.run_ite_false, T.run_ret, ix1 k _ hk (by omega)]; rfl
  ·unfold ref7_Static_R1
   rw [T.run_ite_f (lt_f _), T.run_ret]
 have kl : (knF f).length ≤ 1000 := by unfold knF; simp only [List.length_append, List.length_map]; omega
 unfold ref7_Static stP
 rw [T.run_bind_of (ref6_Is_run f h)]
 cases hI : isFm f with
 | false => rw [T.run_ite_t (by rfl), T.run_ret]; rfl
 | true =>
  have hnm := isFm_names hI
  have h64 : (decide ((64 : Int) < (f.2.2.2.1.length : Int)) || decide ((64 : Int) < (f.2.2.2.2.1.length : Int))) = false := by
   rw [decide_eq_false (by omega), decide_eq_false (by omega)]; rfl
  have hl1 : (nmsF f).length ≤ 1000000 := by unfold nmsF; simp only [List.length_append, List.length_map]; omega
  have mid : ∀ s : Str, strEq s [] = true → (.ite (strEq s ([] : Str))
        (.obl (appOk (0 : Nat) (0 : Nat) (0 : Nat) (0 : Nat) (0 : Nat) (List.length (f.2.2.2.1.map (·.1))) (16 : Nat)) <|
         .obl (curOk ((0 : Nat) + (List.length (f.2.2.2.1.map (·.1)))) (0 : Nat) ((0 : Nat) + (List.length (f.2.2.2.1.map (·.1)))) (List.length (f.2.2.2.1.map (·.1)))) <|
         .obl (((0 : Nat) + (List.length (f.2.2.2.1.map (·.1)))) = (List.length (f.2.2.2.1.map (·.1)))) <|
         T.bind (ref7_Static_L0 f (f.2.2.2.1.map (·.1)) ((0 : Int), (f.2.2.2.1.map (·.1)))) fun xs1 =>
         T.bind (ref7_exprs f) fun r2 =>
         .obl ((List.length xs1) = (List.length xs1)) <|
         T.bind (ref7_unknown r2 (List.drop (0 : Nat) (List.take ((0 : Nat) + (List.length xs1)) xs1))) fun s3 =>
         .ret s3)
        (.ret s) : T (Str)).run = some ((ukF f).getD []) := fun s hs => by
   rw [T.run_ite_t hs, T.run_app _ rfl rfl rfl (by omega), T.run_cur _ (by omega) rfl (by omega), T.run_obl (by omega), T.run_bind_of k0, T.run_bind_of (exprs_run f h), T.run_same, dt, T.run_bind_of (ref7_unknown_run f h), T.run_ret]
  have mid2 : ∀ s : Str, strEq s [] = false → ∀ t : T Str, (.ite (strEq s ([] : Str)) t (.ret s) : T (Str)).run = some s := fun s hs t => by
   rw [T.run_ite_f hs, T.run_ret]
  have fin : ∀ s : Str, strEq s [] = false → ∀ t : T (Int × Str), (.ite (!(strEq s ([] : Str))) (.ret ((5 : Int), s)) t : T (Int × Str)).run = some (5, s) := fun s hs t => by
   rw [hs, T.run_ite_t (by rfl), T.run_ret]
  rw [T.run_ite_f (by rfl), T.run_ite_f h64, T.run_bind_of (ref7_names_run f h), T.run_bind_of (ref7_twice_run _ hl1), if_pos rfl]
  cases ht : (twR [] (nmsF f)).2 with
  | true =>
   have hs := strEq_ok (hnm _ (twR_mem _ _ ht))
   rw [if_pos rfl, T.run_bind_of (mid2 _ hs _), T.run_bind_of (Fields_run f h), T.run_bind_of (mid2 _ hs _), fin _ hs]
  | false =>
   rw [if_neg (by decide), twR_none _ _ ht]
   have e1 : (.ite (strEq ([] : Str) ([] : Str)) (T.bind (ref7_guards f) fun s1 => .ret s1) (.ret []) : T Str).run = some ((ugF f).getD []) := by
    rw [T.run_ite_t (by rfl), T.run_bind_of (ref7_guards_run f h), T.run_ret]
   rw [T.run_bind_of e1, T.run_bind_of (Fields_run f h)]
   cases hg : ugF f with
   | some n =>
    have hs := ugF_ne hg
    exact (T.run_bind_of (mid2 n hs _) _).trans (fin n hs _)
   | none =>
    refine (T.run_bind_of (mid [] rfl) _).trans ?_
    cases hk : ukF f with
    | some n => exact fin _ (strEq_ok (ukF_ok hI hk)) _
    | none =>
     show T.run (T.ite (!strEq [] []) _ _) = _
     rw [T.run_ite_f (by rfl), T.run_bind_of k1]
     cases lnF f <;> rfl
end Go.AM.Lf
namespace Go.AM.Lf
open PL
theorem weight7_run (e : Expr) (left : Int) (h0 : -100000000000 ≤ left) (h1 : left ≤ 600) (hb : bkE e ≤ 1000000000) : (law7_weight e left).run = some (wtE e left) := by
 unfold law7_weight
 refine T.fix_run (fun x : Expr × Int => -100000000000 ≤ x.2 ∧ x.2 ≤ 600 ∧ bkE x.1 ≤ 1000000000) (fun x => bkE x.1) (fun x => wtE x.1 x.2) (fun x hx g hg => ?_) (x := (e, left)) ⟨h0, h1, hb⟩
 obtain ⟨e, left⟩ := x
 obtain ⟨h0, h1, hx⟩ := hx
 simp only at hx hg h0 h1
 have hk := bkEs_kids e
 have hkl := bkEs_len e.kids
 have loop : ∀ acc : Int, -1000000000000 ≤ acc → acc ≤ 600 → (law7_weight_L0 (fun y0 y1 => g (y0, y1)) e (acc, 0)).run = some (wtEs e.kids acc) := by
  intro acc a1 a2
  refine T.loop_list e.kids (dflt .expr) (fun b i => (b, i)) (fun b r => b ≤ 600 ∧ ∀ x ∈ r, x ∈ e.kids) (fun r b => wtEs r b) ?_ ?_ ⟨a2, fun x hx => hx⟩
  ·rintro b x xs i hi0 hi hx ⟨b1, b2⟩
   by_cases hb0 : 0 ≤ b
   ·have hm := bkEs_mem (b2 x List.mem_cons_self)
    have hr := hg (x, b) ⟨by simp only; omega, b1, by simp only; omega⟩ (by simp only; omega)
    simp only at hr
    have := (wtE_le x b).1
    refine .inl ⟨wtE x b, ?_, ⟨by omega, fun y hy => b2 y (List.mem_cons_of_mem _ hy)⟩, ?_⟩
    ·simp (disch := omega) [law7_weight_R0, hi, hx, hb0, hr]
    ·simp [wtEs, hb0]
   ·right
    have hw : wtEs (x :: xs) b = b := wtEs_neg _ _ hb0
    simp [law7_weight_R0, hi, hb0, hw]
  ·rintro b _
   simp [law7_weight_R0, wtEs]
 unfold law7_weight_B
 cases e with | mk k n s kids =>
 simp only [Expr.kids, Expr.name, Expr.num, bkE] at *
 have hL := loop (left - 3 - s.length - 8 * n.2.1.length - 8 * n.2.2.1.length) (by omega) (by omega)
 rw [w64_in (x := left - 3) (by omega) (by omega), w64_in (x := left - 3 - s.length) (by omega) (by omega), w64_in (x := 8 * (n.2.1.length : Int)) (by omega) (by omega), w64_in (x := left - 3 - s.length - 8 * n.2.1.length) (by omega) (by omega),
  w64_in (x := 8 * (n.2.2.1.length : Int)) (by omega) (by omega), w64_in (by omega) (by omega), T.run_bind_of hL, T.run_ret]
 rfl
theorem heavy7_run (f : Form) (h : FB f) : ∃ b, (law7_heavy f).run = some b ∧ (b = false → FL f) := by
 obtain ⟨hl1, hl2, hl3, hl4, hl5, hl6, hs, hp, hg, hd, hr, hc⟩ := h
 unfold law7_heavy
 have e0 : w64 ((600 : Int) - (w64 ((20 : Int) * (w64 ((w64 ((w64 ((w64 ((w64 ((f.1.length : Int) + (f.2.1.length : Int))) + (f.2.2.1.length : Int))) + (f.2.2.2.1.length : Int))) + (f.2.2.2.2.1.length : Int))) + (f.2.2.2.2.2.1.length : Int)))))) =
   600 - 20 * ((f.1.length + f.2.1.length + f.2.2.1.length + f.2.2.2.1.length + f.2.2.2.2.1.length + f.2.2.2.2.2.1.length : Nat) : Int) := by
  rw [w64_in (x := (f.1.length : Int) + (f.2.1.length : Int)) (by omega) (by omega), w64_in (x := (f.1.length : Int) + (f.2.1.length : Int) + (f.2.2.1.length : Int)) (by omega) (by omega), w64_in (x := (f.1.length : Int) + (f.2.1.length : Int) + (f.2.2.1.length : Int) + (f.2.2.2.1.length : Int)) (by omega) (by omega),
   w64_in (x := (f.1.length : Int) + (f.2.1.length : Int) + (f.2.2.1.length : Int) + (f.2.2.2.1.length : Int) + (f.2.2.2.2.1.length : Int)) (by omega) (by omega), w64_in (x := (f.1.length : Int) + (f.2.1.length : Int) + (f.2.2.1.length : Int) + (f.2.2.2.1.length : Int) + (f.2.2.2.2.1.length : Int) + (f.2.2.2.2.2.1.length : Int)) (by omega) (by omega),
   w64_in (x := 20 * _) (by omega) (by omega), w64_in (by omega) (by omega)]
  omega
 rw [e0]
 obtain ⟨N, hN⟩ : ∃ N, f.1.length + f.2.1.length + f.2.2.1.length + f.2.2.2.1.length + f.2.2.2.2.1.length + f.2.2.2.2.2.1.length = N := ⟨_, rfl⟩
 rw [hN]
 obtain ⟨n1, r1, a1, b1, P1⟩ := heavy_loop (r := law7_heavy_R0 f) f.2.1.length hl2 (fun k => ∀ hk : k < f.2.1.length, f.2.1[k].1.length ≤ 600 ∧ f.2.1[k].2.1.2.1.length ≤ 75 ∧ f.2.1[k].2.1.2.2.1.length ≤ 75) (fun n k hk h0 h6 => by
  obtain ⟨q1, q2, q3, _⟩ := hp _ (List.getElem_mem hk)
  refine ⟨n - 8 * f.2.1[k].2.1.2.1.length - 8 * f.2.1[k].2.1.2.2.1.length - f.2.1[k].1.length, ?_, by omega, by omega, fun h0 _ => ⟨by omega, by omega, by omega⟩⟩
  unfold law7_heavy_R0
  dsimp only
  rw [T.run_ite_t (and_t hk h0), T.run_obl (idx_ok hk), T.run_obl (idx_ok hk), T.run_obl (idx_ok hk), T.run_ret, nth_at hk, ix1 k _ hk (by omega), w64_in (x := 8 * (f.2.1[k].2.1.2.1.length : Int)) (by omega) (by omega), w64_in (x := 8 * (f.2.1[k].2.1.2.2.1.length : Int)) (by omega) (by omega),
   w64_in (x := n - _) (by omega) (by omega), w64_in (x := n - _ - _) (by omega) (by omega), w64_in (by omega) (by omega)])
  (fun n k hk => by unfold law7_heavy_R0; dsimp only; rw [T.run_ite_f (and_f hk), T.run_ret]) (600 - 20 * (N : Int)) (by omega) (by omega)
 obtain ⟨n2, r2, a2, b2, P2⟩ := heavy_loop (r := law7_heavy_R1 f) f.1.length hl1 (fun k => ∀ hk : k < f.1.length, f.1[k].1.length ≤ 600) (fun n k hk h0 h6 => by
  have q1 := hs _ (List.getElem_mem hk)
  refine ⟨n - f.1[k].1.length, ?_, by omega, by omega, fun h0 _ => by omega⟩
  unfold law7_heavy_R1
  dsimp only
  rw [T.run_ite_t (and_t hk h0), T.run_obl (idx_ok hk), T.run_ret, nth_at hk, ix1 k _ hk (by omega), w64_in (by omega) (by omega)])
  (fun n k hk => by unfold law7_heavy_R1; dsimp only; rw [T.run_ite_f (and_f hk), T.run_ret]) n1 a1 (by omega)
 obtain ⟨n3, r3, a3, b3, P3⟩ := heavy_loop (r := law7_heavy_R2 f) f.2.2.1.length hl3 (fun k => ∀ hk : k < f.2.2.1.length, f.2.2.1[k].1.length ≤ 600 ∧ f.2.2.1[k].2.1.length ≤ 600) (fun n k hk h0 h6 => by
  obtain ⟨q1, q2⟩ := hg _ (List.getElem_mem hk)
  refine ⟨n - f.2.2.1[k].1.length - f.2.2.1[k].2.1.length, ?_, by omega, by omega, fun h0 _ => ⟨by omega, by omega⟩⟩
  unfold law7_heavy_R2
  dsimp only
  rw [T.run_ite_t (and_t hk h0), T.run_obl (idx_ok hk), T.run_obl (idx_ok hk), T.run_ret, nth_at hk, ix1 k _ hk (by omega), w64_in (x := n - _) (by omega) (by omega), w64_in (by omega) (by omega)])
  (fun n k hk => by unfold law7_heavy_R2; dsimp only; rw [T.run_ite_f (and_f hk), T.run_ret]) n2 a2 (by omega)
 obtain ⟨n4, r4, a4, b4, P4⟩ := heavy_loop (r := law7_heavy_R3 f) f.2.2.2.1.length hl4 (fun k => ∀ hk : k < f.2.2.2.1.length, f.2.2.2.1[k].1.length ≤ 600) (fun n k hk h0 h6 => by
  have q1 := hd _ (List.getElem_mem hk)
  refine ⟨n - f.2.2.2.1[k].1.length, ?_, by omega, by omega, fun h0 _ => by omega⟩
  unfold law7_heavy_R3
  dsimp only
  rw [T.run_ite_t (and_t hk h0), T.run_obl (idx_ok hk), T.run_ret, nth_at hk, ix1 k _ hk (by omega), w64_in (by omega) (by omega)])
  (fun n k hk => by unfold law7_heavy_R3; dsimp only; rw [T.run_ite_f (and_f hk), T.run_ret]) n3 a3 (by omega)
 obtain ⟨n5, r5, a5, b5, P5⟩ := heavy_loop (r := law7_heavy_R4 f) f.2.2.2.2.1.length hl5 (fun k => ∀ hk : k < f.2.2.2.2.1.length, f.2.2.2.2.1[k].1.length ≤ 600 ∧ f.2.2.2.2.1[k].2.2.1.length ≤ 600 ∧ szE f.2.2.2.2.1[k].2.2.2.1 ≤ 600 ∧ szE f.2.2.2.2.1[k].2.2.2.2.1 ≤ 600) (fun n k hk h0 h6 => by
  obtain ⟨q1, q2, q3, q4⟩ := hr _ (List.getElem_mem hk)
  have m1 := wtE_le f.2.2.2.2.1[k].2.2.2.1 (n - f.2.2.2.2.1[k].1.length - f.2.2.2.2.1[k].2.2.1.length)
  have m2 := wtE_le f.2.2.2.2.1[k].2.2.2.2.1 (wtE f.2.2.2.2.1[k].2.2.2.1 (n - f.2.2.2.2.1[k].1.length - f.2.2.2.2.1[k].2.2.1.length))
  have s1 := wtE_sz f.2.2.2.2.1[k].2.2.2.1 (n - f.2.2.2.2.1[k].1.length - f.2.2.2.2.1[k].2.2.1.length)
  have s2 := wtE_sz f.2.2.2.2.1[k].2.2.2.2.1 (wtE f.2.2.2.2.1[k].2.2.2.1 (n - f.2.2.2.2.1[k].1.length - f.2.2.2.2.1[k].2.2.1.length))
  have w1 := weight7_run f.2.2.2.2.1[k].2.2.2.1 (n - f.2.2.2.2.1[k].1.length - f.2.2.2.2.1[k].2.2.1.length) (by omega) (by omega) (by omega)
  have w2 := weight7_run f.2.2.2.2.1[k].2.2.2.2.1 (wtE f.2.2.2.2.1[k].2.2.2.1 (n - f.2.2.2.2.1[k].1.length - f.2.2.2.2.1[k].2.2.1.length)) (by omega) (by omega) (by omega)
  refine ⟨wtE f.2.2.2.2.1[k].2.2.2.2.1 (wtE f.2.2.2.2.1[k].2.2.2.1 (n - f.2.2.2.2.1[k].1.length - f.2.2.2.2.1[k].2.2.1.length)), ?_, by omega, by omega, fun h0 _ => ?_⟩
  ·unfold law7_heavy_R4
   dsimp only
   rw [T.run_ite_t (and_t hk h0), T.run_obl (idx_ok hk), T.run_obl (idx_ok hk), T.run_obl (idx_ok hk), T.run_obl (idx_ok hk), nth_at hk, ix1 k _ hk (by omega), w64_in (x := n - _) (by omega) (by omega), w64_in (x := n - _ - _) (by omega) (by omega), T.run_bind_of w1, T.run_bind_of w2, T.run_ret]
  ·have t2 := s2 h0
   have t1 := s1 (by omega)
   exact ⟨by omega, by omega, by omega, by omega⟩)
  (fun n k hk => by unfold law7_heavy_R4; dsimp only; rw [T.run_ite_f (and_f hk), T.run_ret]) n4 a4 (by omega)
 obtain ⟨n6, r6, a6, b6, P6⟩ := heavy_loop (r := law7_heavy_R5 f) f.2.2.2.2.2.1.length hl6 (fun k => ∀ hk : k < f.2.2.2.2.2.1.length, f.2.2.2.2.2.1[k].1.length ≤ 600 ∧ szE f.2.2.2.2.2.1[k].2.2.2.1 ≤ 600 ∧ szE f.2.2.2.2.2.1[k].2.2.2.2.1 ≤ 600) (fun n k hk h0 h6 => by
  obtain ⟨q1, q3, q4⟩ := hc _ (List.getElem_mem hk)
  have m1 := wtE_le f.2.2.2.2.2.1[k].2.2.2.1 (n - f.2.2.2.2.2.1[k].1.length)
  have m2 := wtE_le f.2.2.2.2.2.1[k].2.2.2.2.1 (wtE f.2.2.2.2.2.1[k].2.2.2.1 (n - f.2.2.2.2.2.1[k].1.length))
  have s1 := wtE_sz f.2.2.2.2.2.1[k].2.2.2.1 (n - f.2.2.2.2.2.1[k].1.length)
  have s2 := wtE_sz f.2.2.2.2.2.1[k].2.2.2.2.1 (wtE f.2.2.2.2.2.1[k].2.2.2.1 (n - f.2.2.2.2.2.1[k].1.length))
  have w1 := weight7_run f.2.2.2.2.2.1[k].2.2.2.1 (n - f.2.2.2.2.2.1[k].1.length) (by omega) (by omega) (by omega)
  have w2 := weight7_run f.2.2.2.2.2.1[k].2.2.2.2.1 (wtE f.2.2.2.2.2.1[k].2.2.2.1 (n - f.2.2.2.2.2.1[k].1.length)) (by omega) (by omega) (by omega)
  refine ⟨wtE f.2.2.2.2.2.1[k].2.2.2.2.1 (wtE f.2.2.2.2.2.1[k].2.2.2.1 (n - f.2.2.2.2.2.1[k].1.length)), ?_, by omega, by omega, fun h0 _ => ?_⟩
  ·unfold law7_heavy_R5
   dsimp only
   rw [T.run_ite_t (and_t hk h0), T.run_obl (idx_ok hk), T.run_obl (idx_ok hk), T.run_obl (idx_ok hk), nth_at hk, ix1 k _ hk (by omega), w64_in (x := n - _) (by omega) (by omega), T.run_bind_of w1, T.run_bind_of w2, T.run_ret]
  ·have t2 := s2 h0
   have t1 := s1 (by omega)
   exact ⟨by omega, by omega, by omega⟩)
  (fun n k hk => by unfold law7_heavy_R5; dsimp only; rw [T.run_ite_f (and_f hk), T.run_ret]) n5 a5 (by omega)
 have r1 : (law7_heavy_L0 f (600 - 20 * (N : Int), 0)).run = some n1 := r1
 have r2 : (law7_heavy_L1 f (n1, 0)).run = some n2 := r2
 have r3 : (law7_heavy_L2 f (n2, 0)).run = some n3 := r3
 have r4 : (law7_heavy_L3 f (n3, 0)).run = some n4 := r4
 have r5 : (law7_heavy_L4 f (n4, 0)).run = some n5 := r5
 have r6 : (law7_heavy_L5 f (n5, 0)).run = some n6 := r6
 rw [T.run_bind_of r1, T.run_bind_of r2, T.run_bind_of r3, T.run_bind_of r4, T.run_bind_of r5, T.run_bind_of r6, T.run_ret]
 refine ⟨_, rfl, fun hb => ?_⟩
 have h0 : 0 ≤ n6 := by have := of_decide_eq_false hb; omega
 exact ⟨by omega, all_at fun k hk => P2 (by omega) k hk hk, all_at fun k hk => P1 (by omega) k hk hk, all_at fun k hk => P3 (by omega) k hk hk, all_at fun k hk => P4 (by omega) k hk hk, all_at fun k hk => P5 (by omega) k hk hk, all_at fun k hk => P6 (by omega) k hk hk⟩
end Go.AM.Lf
namespace Go.AM.Lf
open PL
theorem ref5_Names_S_run (x : Expr) (hx : bkE x ≤ 1000000) : (ref5_Names_S x).run = some (dd [] (allE x)) := by
 have hk := bkEs_kids x
 have hkl := bkEs_len x.kids
 have loop : ∀ acc : List Str, acc.length ≤ 1 → (ref5_Names_S_L0 x (0, acc)).run = some (dd acc (allEs x.kids)) := by
  intro acc hacc
  have key := T.loop_list (r := ref5_Names_S_R0 x) x.kids (dflt .expr) (fun (b : List Str) i => (i, b)) (fun b r => b.length + bkEs r ≤ 1 + bkEs x.kids ∧ ∀ y ∈ r, y ∈ x.kids) (fun r b => dd b (allEs r)) ?_ ?_ ⟨(by omega : acc.length + bkEs x.kids ≤ 1 + bkEs x.kids), fun y hy => hy⟩
  ·exact key
  ·rintro b y ys i h0 hi hy ⟨h1, h2⟩
   obtain ⟨j, rfl⟩ : ∃ j : Nat, i = (j : Int) := ⟨i.toNat, by omega⟩
   have hj : j < x.kids.length := by omega
   simp only [bkEs] at h1
   have hm := bkEs_mem (h2 y List.mem_cons_self)
   have hr := ref5_Names_run y (by omega)
   have hl := allE_len y
   have hd := dd_len (allE y) []
   simp only [List.length_nil] at hd
   have hin : (ref5_Names_S_L1 x (j : Int) (dd [] (allE y)) (0, b)).run = some (dd b (dd [] (allE y))) := names_inner ref5_Names x (j : Int) (dd [] (allE y)) b (by omega) (by omega)
   rw [dd_once] at hin
   have hbl := dd_len (allE y) b
   refine .inl ⟨dd b (allE y), ?_, ⟨by omega, fun z hz => h2 z (List.mem_cons_of_mem _ hz)⟩, ?_⟩
   ·unfold ref5_Names_S_R0
    dsimp only
    rw [T.run_ite_t (decide_eq_true hi), T.run_obl ⟨h0, hi⟩, hy, T.run_bind_of hr, T.run_cur _ rfl rfl rfl, T.run_same, T.run_bind_of hin, T.run_cur _ rfl rfl rfl, T.run_same, T.run_ret, w64_in (by omega) (by omega)]
   ·show dd (dd b (allE y)) (allEs ys) = dd b (allE y ++ allEs ys)
    rw [dd_append]
  ·rintro b _
   unfold ref5_Names_S_R0
   dsimp only
   rw [T.run_ite_f (lt_f _), T.run_cur _ rfl rfl rfl, T.run_same, T.run_ret]; rfl
 unfold ref5_Names_S
 cases x with | mk k n s kids =>
 by_cases h2 : k = 2
 ·subst h2
  have hL := loop [s] (by simp)
  have hL : (ref5_Names_S_L0 (.mk 2 n s kids) ((0 : Int), ([Expr.name (.mk 2 n s kids)] : List Str))).run = some (dd [s] (allEs kids)) := hL
  rw [T.run_ite_t (by rfl), T.run_leN _ (by omega), T.run_cur _ rfl rfl rfl, T.run_same, T.run_bind_of hL, T.run_cur _ rfl rfl rfl, T.run_same, T.run_ret]
  rfl
 ·have hL := loop [] (by simp)
  have hL : (ref5_Names_S_L0 (.mk k n s kids) ((0 : Int), ([] : List Str))).run = some (dd [] (allEs kids)) := hL
  rw [T.run_ite_f (by show (k == 2) = false; simpa using h2), T.run_cur _ rfl rfl rfl, T.run_same, T.run_bind_of hL, T.run_cur _ rfl rfl rfl, T.run_same, T.run_ret]
  show some (dd [] (allEs kids)) = some (dd [] ((if k = 2 then [s] else []) ++ allEs kids))
  rw [if_neg h2]; rfl
theorem Fields_S_run (f : Form) (h : FS f) : (ref7_Fields_S f).run = some (f.2.2.2.1.map (·.1)) := by
 have hn := h.n
 have k0 : (ref7_Fields_S_L0 f (0, [])).run = some ([] ++ f.2.2.2.1.map (·.1)) := by
  refine nm_loop (r := ref7_Fields_S_R0 f) f.2.2.2.1 (dflt tyField) (·.1) _ (fun k b x hk hx hm hb => ?_) (fun b => ?_) (by simp only [List.length_nil]; omega)
  ·unfold ref7_Fields_S_R0
   dsimp only
   rw [hx, T.run_ite_t (lt_t hk), T.run_obl (idx_ok hk), T.run_app _ rfl rfl rfl (by omega), T.run_cur _ (by simp) rfl (by simp), T.run_obl (by simp), T.run_ret, ix1 k _ hk (by omega)]
  ·unfold ref7_Fields_S_R0
   dsimp only
   rw [T.run_ite_f (lt_f _), T.run_cur _ rfl rfl rfl, T.run_same, T.run_ret]
 unfold ref7_Fields_S
 rw [T.run_cur _ rfl rfl rfl, T.run_same, T.run_bind_of k0, List.nil_append, T.run_cur _ rfl rfl rfl, T.run_same, T.run_ret]
theorem twR_nodup : ∀ (l seen : List Str), (twR seen l).2 = false → l.Nodup ∧ ∀ x ∈ l, x ∉ seen
 | [], _, _ => ⟨List.nodup_nil, fun _ h => by cases h⟩
 | x :: r, seen, h => by
  rw [twR_cons] at h
  by_cases q : x ∈ seen
  ·rw [if_pos q] at h; cases h
  ·rw [if_neg q] at h
   obtain ⟨h1, h2⟩ := twR_nodup r (seen ++ [x]) h
   refine ⟨List.nodup_cons.2 ⟨fun hm => h2 x hm (by simp), h1⟩, fun y hy => ?_⟩
   rcases List.mem_cons.1 hy with rfl | hy
   ·exact q
   ·exact fun hs => h2 y hy (List.mem_append.2 (.inl hs))
theorem knF_nodup {f : Form} (h : (twR [] (nmsF f)).2 = false) : (knF f).Nodup := by
 have := (twR_nodup _ _ h).1
 unfold nmsF at this
 unfold knF
 have h4 := (List.nodup_append.1 (List.nodup_append.1 this).1).1
 obtain ⟨h3, hb, hc⟩ := List.nodup_append.1 h4
 have h2 := (List.nodup_append.1 (List.nodup_append.1 h3).1).2.1
 exact List.nodup_append.2 ⟨hb, h2, fun x hx y hy e => hc y (List.mem_append.2 (.inl (List.mem_append.2 (.inr hy)))) x hx e.symm⟩
theorem stP_ok {f : Form} (h : (stP f).1 = 0) : isFm f = true ∧ (twR [] (nmsF f)).2 = false ∧ ugF f = none ∧ ukF f = none ∧ lnF f = none := by
 unfold stP at h
 cases hI : isFm f with
 | false => rw [hI, if_neg (by decide)] at h; cases h
 | true =>
  rw [hI, if_pos rfl] at h
  cases ht : (twR [] (nmsF f)).2 with
  | true => rw [ht, if_pos rfl] at h; cases h
  | false =>
   rw [ht, if_neg (by decide)] at h
   cases hg : ugF f with
   | some n => rw [hg] at h; cases h
   | none =>
    rw [hg] at h
    cases hk : ukF f with
    | some n => rw [hk] at h; cases h
    | none =>
     rw [hk] at h
     cases hl : lnF f with
     | some n => rw [hl] at h; cases h
     | none => exact ⟨rfl, rfl, rfl, rfl, rfl⟩
theorem pick_none {α : Type} {p : α → Bool} {l : List α} (h : l.findSome? (pick p) = none) : ∀ x ∈ l, p x = false := by
 intro x hx
 have := List.findSome?_eq_none_iff.1 h x hx
 unfold pick at this
 cases hp : p x with
 | true => rw [hp, if_pos rfl] at this; cases this
 | false => rfl
theorem ukF_none {f : Form} (h : ukF f = none) : ∀ e ∈ exF f, ∀ x ∈ allE e, x ∈ knF f := by
 intro e he x hx
 have := pick_none h x (List.mem_flatMap.2 ⟨e, he, (nmE_mem e [] x).2 (.inr hx)⟩)
 unfold badU at this
 rw [Bool.not_eq_false'] at this
 exact of_decide_eq_true this
theorem nodup_at {l : List Str} (h : l.Nodup) {k : Nat} (hk : k < l.length) : l[k] ∉ l.take k := by
 intro hm
 rw [← List.take_append_drop k l, List.nodup_append] at h
 exact h.2.2 _ hm _ (by rw [List.drop_eq_getElem_cons hk]; exact List.mem_cons_self) rfl
theorem rule_ex {f : Form} {x : Rule} (hx : x ∈ f.2.2.2.2.1) : x.2.2.2.1 ∈ exF f ∧ x.2.2.2.2.1 ∈ exF f := by
 unfold exF
 exact ⟨List.mem_append.2 (.inr (List.mem_flatMap.2 ⟨x, hx, List.mem_cons_self⟩)), List.mem_append.2 (.inr (List.mem_flatMap.2 ⟨x, hx, List.mem_cons_of_mem _ List.mem_cons_self⟩))⟩
theorem find_none {α β : Type} (l : List α) : l.findSome? (fun _ => (none : Option β)) = none := by
 induction l with
 | nil => rfl
 | cons x r ih => rw [List.findSome?_cons, ih]
theorem law7_CheckNames_all (f : Form) (hw : wf tyForm f) (hb : bk tyForm f ≤ 1048576) : (law7_CheckNames f).run = some true := by
 obtain ⟨b, hr, hf⟩ := heavy7_run f (fb_of hw (by omega))
 unfold law7_CheckNames
 rw [T.run_bind_of hr]
 cases b with
 | true => rw [T.run_ite_true, T.run_ret]
 | false =>
  have h := fs_of hw (fb_of hw (by omega)) (hf rfl)
  have hn := h.n
  have hR := ref7_Static_run f h
  rw [T.run_ite_false, T.run_bind_of (Static_run f h)]
  have hst := @stP_ok f
  generalize stP f = p at hst hR
  obtain ⟨e, s⟩ := p
  dsimp only at hst ⊢
  by_cases he : e = 0
  ·obtain ⟨hI, ht, -, hu, -⟩ := hst he
   have hF := fl_len h
   have hkl : (knF f).length ≤ 60 := by unfold knF; simp only [List.length_append, List.length_map]; omega
   have k0 : (law7_CheckNames_L0 f (0, f.2.2.2.1.map (·.1))).run = some (knF f) := by
    refine nm_loop (r := law7_CheckNames_R0 f) f.2.1 (dflt tyParam) (·.1) _ (fun k b x hk hx hm hb => ?_) (fun b => ?_) (by omega)
    ·unfold law7_CheckNames_R0
     dsimp only
     rw [hx, T.run_ite_t (lt_t hk), T.run_obl (idx_ok hk), T.run_app _ rfl rfl rfl (by omega), T.run_cur _ (by simp) rfl (by simp), T.run_obl (by simp), T.run_ret, ix1 k _ hk (by omega)]
    ·unfold law7_CheckNames_R0
     dsimp only
     rw [T.run_ite_f (lt_f _), T.run_cur _ rfl rfl rfl, T.run_same, T.run_ret]
   have hnd := knF_nodup ht
   have hun := ukF_none hu
   generalize knF f = K at *
   have k1 : (law7_CheckNames_L1 f (0, K)).run = some (.inl K) := by
    have := find_loop (r := law7_CheckNames_R1 f) K (dflt .str) (fun _ => (none : Option Unit)) (fun i => (i, K)) (fun _ => .inl K) (.inl K) (fun k x hk hx hm => ?_) ?_
    ·rwa [find_none] at this
    ·unfold law7_CheckNames_R1
     dsimp only
     rw [nth_at hk] at hx
     have ed : List.drop (0 + Int.toNat (0 : Int)) (List.take (0 + Int.toNat (0 : Int) + (Int.toNat (k : Int) - Int.toNat (0 : Int))) K) = K.take k := by simp
     have ex : nthN K (0 + Int.toNat (k : Int)) (dflt .str) = x := by
      unfold nthN
      rw [Nat.zero_add, Int.toNat_natCast, List.getD_eq_getElem?_getD, List.getElem?_eq_getElem hk]; exact hx
     have hq : decide (x ∈ K.take k) = false := decide_eq_false (hx ▸ nodup_at hnd hk)
     rw [T.run_ite_t (lt_t hk), T.run_obl (slOk_iff.2 ⟨by omega, by omega, by omega⟩), T.run_obl (idx_ok hk), T.run_obl (eOk_iff.2 ⟨rfl, by rw [Nat.zero_add, Int.toNat_natCast]; exact hk⟩), T.run_same, ed, ex, T.run_bind_of (ref5_Has_run _ x (by rw [List.length_take]; omega)), hq, T.run_ite_false, T.run_cur _ rfl rfl rfl, T.run_same, T.run_ret, ix1 k _ hk (by omega)]
     rfl
    ·unfold law7_CheckNames_R1
     dsimp only
     rw [T.run_ite_f (lt_f _), T.run_cur _ rfl rfl rfl, T.run_same, T.run_ret]
   have k3 : ∀ (i : Int) (l m : List Str), l.length ≤ 1000000 → (∀ x ∈ l, x ∈ K) → (law7_CheckNames_L3 f i (0, (K, (l, m)))).run = some (.inl (K, (l, m))) := by
    intro i l m hl hin
    have := find_loop (r := law7_CheckNames_R3 f i) l (dflt .str) (fun _ => (none : Option Unit)) (fun i => (i, (K, (l, m)))) (fun _ => .inl (K, (l, m))) (.inl (K, (l, m))) (fun k x hk hx hm => ?_) ?_
    ·rwa [find_none] at this
    ·unfold law7_CheckNames_R3
     dsimp only
     rw [nth_at hk] at hx
     have ex : nthN l (0 + Int.toNat (k : Int)) (dflt .str) = x := by
      unfold nthN
      rw [Nat.zero_add, Int.toNat_natCast, List.getD_eq_getElem?_getD, List.getElem?_eq_getElem hk]; exact hx
     have hq : decide (x ∈ K) = true := decide_eq_true (hin x hm)
     rw [T.run_ite_t (lt_t hk), T.run_obl (idx_ok hk), T.run_obl (eOk_iff.2 ⟨rfl, by rw [Nat.zero_add, Int.toNat_natCast]; exact hk⟩), T.run_same, dt, ex, T.run_bind_of (ref5_Has_run _ x (by omega)), hq, Bool.not_true, T.run_ite_false, T.run_cur _ rfl rfl rfl, T.run_cur _ rfl rfl rfl, T.run_same, T.run_same, T.run_same, T.run_ret, ix1 k _ hk (by omega)]
     rfl
    ·unfold law7_CheckNames_R3
     dsimp only
     rw [T.run_ite_f (lt_f _), T.run_cur _ rfl rfl rfl, T.run_same, T.run_same, T.run_same, T.run_ret]
   have k2 : (law7_CheckNames_L2 f (0, K)).run = some (.inl K) := by
    have := find_loop (r := law7_CheckNames_R2 f) f.2.2.2.2.1 (dflt tyRule) (fun _ => (none : Option Unit)) (fun i => (i, K)) (fun _ => .inl K) (.inl K) (fun k x hk hx hm => ?_) ?_
    ·rwa [find_none] at this
    ·have hc := (h.r x hm).2.2
     have he := rule_ex hm
     unfold law7_CheckNames_R2
     dsimp only
     rw [hx, T.run_ite_t (lt_t hk), T.run_obl (idx_ok hk), T.run_bind_of (ref5_Names_S_run _ (Nat.le_trans (exOk_bk hc.1) (by decide))), T.run_obl (idx_ok hk), T.run_bind_of (ref5_Names_S_run _ (Nat.le_trans (exOk_bk hc.2) (by decide)))]
     have l1 : (dd [] (allE x.2.2.2.1)).length ≤ 2400 := by rw [← nmE_dd]; exact nm_len hc.1
     have l2 : (dd [] (allE x.2.2.2.2.1)).length ≤ 2400 := by rw [← nmE_dd]; exact nm_len hc.2
     have i1 : ∀ y ∈ dd [] (allE x.2.2.2.1), y ∈ K := fun y hy => hun _ he.1 y (((dd_mem _ _ _).1 hy).resolve_left (by simp))
     have i2 : ∀ y ∈ dd [] (allE x.2.2.2.2.1), y ∈ K := fun y hy => hun _ he.2 y (((dd_mem _ _ _).1 hy).resolve_left (by simp))
     generalize dd [] (allE x.2.2.2.1) = A at *
     generalize dd [] (allE x.2.2.2.2.1) = B at *
     rw [dt, T.run_same, T.run_app _ rfl rfl rfl (by omega), T.run_cur _ rfl rfl rfl, T.run_cur _ (by simp) rfl (by simp), T.run_same, T.run_obl (by simp), T.run_same, T.run_bind_of (k3 _ (A ++ B) B (by rw [List.length_append]; omega) (fun y hy => (List.mem_append.1 hy).elim (i1 y) (i2 y))), Sum.elim_inl]
     dsimp only
     rw [T.run_cur _ rfl rfl rfl, T.run_same, T.run_ret, ix1 k _ hk (by omega)]
     rfl
    ·unfold law7_CheckNames_R2
     dsimp only
     rw [T.run_ite_f (lt_f _), T.run_same, T.run_ret]
   subst he
   rw [T.run_ite_f (by rfl), T.run_bind_of (Fields_S_run f h), T.run_cur _ rfl rfl rfl, T.run_same, T.run_bind_of k0, T.run_cur _ rfl rfl rfl, T.run_same, T.run_bind_of k1, Sum.elim_inl]
   rw [T.run_cur _ rfl rfl rfl, T.run_same, T.run_bind_of k2, Sum.elim_inl, T.run_bind_of known7_run, T.run_ret]
  ·rw [T.run_ite_t (by simpa using he), T.run_bind_of hR]
   dsimp only
   rw [T.run_ite_t (by simp), T.run_bind_of known7_run, T.run_ret]
theorem law7_CheckNames_law (x : denL [tyForm]) (hw : wfL [tyForm] x) (hb : bkL [tyForm] x ≤ 1048576) : (law7_CheckNames (toPs [tyForm] x)).run = some true := by
 obtain ⟨f, u⟩ := x
 have e : bkL [tyForm] (f, u) = bk tyForm f + 0 := rfl
 exact law7_CheckNames_all f hw.1 (by omega)
end Go.AM.Lf
