/-
  Plain laws of the lifted program, part 2.
-/
import Derived.Test.YtalglafbfldajaaGreatDoorLf0
import Derived.Test.YtalglafbfldajaaGreatDoorAmA
import Derived.Test.YtalglafbfldajaaGreatDoorAmD
import Derived.Test.YtalglafbfldajaaGreatDoorQ0
import Derived.Test.YtalglafbfldajaaGreatDoorQ1
set_option linter.unusedVariables false
namespace Go.AM.Lf
open PL
def sameR (a b : Rat) : Bool := ((norm a).1 == (norm b).1) && (((norm a).2.1 == (norm b).2.1) && ((norm a).2.2.1 == (norm b).2.2.1))
theorem sameR_iff {a b : Rat} : sameR a b = true ↔ norm a = norm b := by
 unfold sameR
 rw [Bool.and_eq_true, Bool.and_eq_true, beq_iff_eq, beq_iff_eq, beq_iff_eq]
 constructor
 ·rintro ⟨h1, h2, h3⟩
  exact Prod.ext h1 (Prod.ext h2 (Prod.ext h3 rfl))
 ·intro h; rw [h]; exact ⟨rfl, rfl, rfl⟩
mutual
def sameE : Expr → Expr → Bool
 | .mk k n s l, .mk k' n' s' l' => (k == k') && (strEq s s' && (sameR n n' && sameEs l l'))
def sameEs : List Expr → List Expr → Bool
 | [], [] => true
 | a :: r, b :: r' => sameE a b && sameEs r r'
 | [], _ :: _ => false
 | _ :: _, [] => false
end
theorem sameEs_len : ∀ (a b : List Expr), a.length ≠ b.length → sameEs a b = false
 | [], [], h => absurd rfl h
 | _ :: r, _ :: r', h => by
  show (sameE _ _ && sameEs r r') = false
  rw [sameEs_len r r' (fun e => h (by simp [e])), Bool.and_false]
 | [], _ :: _, _ => rfl
 | _ :: _, [], _ => rfl
theorem strEq_same (s : Str) : strEq s s = true := by rw [strEq_iff]; simp
mutual
theorem sameE_refl : ∀ (e : Expr), sameE e e = true
 | .mk k n s l => by
  show ((k == k) && (strEq s s && (sameR n n && sameEs l l))) = true
  rw [strEq_same, sameR_iff.2 rfl, sameEs_refl l]; simp
theorem sameEs_refl : ∀ (l : List Expr), sameEs l l = true
 | [] => rfl
 | a :: r => by
  show (sameE a a && sameEs r r) = true
  rw [sameE_refl a, sameEs_refl r]; rfl
end
theorem zip_loop (R : Int → T (Int ⊕ (Unit ⊕ Bool))) (a b : List Expr) (hl : a.length = b.length)
  (step : ∀ k (h : k < a.length) (h' : k < b.length), (R (k : Int)).run = some (if sameE a[k] b[k] = true then .inl ((k + 1 : Nat) : Int) else .inr (.inr false)))
  (done : (R (a.length : Int)).run = some (.inr (.inl ()))) : (T.loop R 0).run = some (if sameEs a b = true then .inl () else .inr false) := by
 have key : ∀ (m k : Nat), k + m = a.length → (T.loop R (k : Int)).run = some (if sameEs (a.drop k) (b.drop k) = true then .inl () else .inr false) := by
  intro m
  induction m with
  | zero =>
   intro k hk
   have : k = a.length := by omega
   subst this
   rw [List.drop_length, hl, List.drop_length]
   rw [hl] at done
   exact T.loop_done done
  | succ m ih =>
   intro k hk
   have h1 : k < a.length := by omega
   have h2 : k < b.length := by omega
   rw [List.drop_eq_getElem_cons h1, List.drop_eq_getElem_cons h2]
   show _ = some (if (sameE a[k] b[k] && sameEs (a.drop (k + 1)) (b.drop (k + 1))) = true then _ else _)
   have st := step k h1 h2
   cases q : sameE a[k] b[k] with
   | true =>
    rw [q, if_pos rfl] at st
    rw [T.loop_step st, Bool.true_and]
    exact ih (k + 1) (by omega)
   | false =>
    rw [q, if_neg (by simp)] at st
    exact T.loop_done st
 have := key a.length 0 (by omega)
 simpa using this
theorem ref2_Same_all (a b : Rat) (ha : numOk a) (hb : numOk b) : (ref2_Same a b).run = some (sameR a b) := by
 have na := norm_ok (k := 100) (by omega) ha
 have nb := norm_ok (k := 100) (by omega) hb
 unfold ref2_Same sameR
 rw [T.run_bind_of (ref2_norm a (ok_up ha (by omega))), T.run_bind_of (ref2_norm b (ok_up hb (by omega)))]
 cases ((norm a).1 == (norm b).1) with
 | false => rfl
 | true =>
  rw [T.run_ite_true, T.run_bind_of (limbsB_run _ _ (by have := na.2.2.1; omega)), Bool.true_and]
  cases ((norm a).2.1 == (norm b).2.1) with
  | false => rfl
  | true => rw [T.run_ite_true, T.run_bind_of (limbsB_run _ _ (by have := na.2.2.2; omega)), T.run_ret, Bool.true_and]
theorem kids_small (e : Expr) : (Expr.kids e).length ≤ ndE e := by
 cases e with | mk k n s l =>
 have := ndEs_len l
 show l.length ≤ 1 + ndEs l
 omega
theorem ref5_Same_run (a b : Expr) (ha : allOk a) (hb : allOk b) (la : ndE a ≤ 1000000) : (ref5_Same a b).run = some (sameE a b) := by
 unfold ref5_Same
 refine T.fix_run (fun x : Expr × Expr => allOk x.1 ∧ allOk x.2 ∧ ndE x.1 ≤ 1000000) (fun x => ndE x.1) (fun x => sameE x.1 x.2) (fun x hx g hg => ?_) (x := (a, b)) ⟨ha, hb, la⟩
 obtain ⟨a, b⟩ := x
 obtain ⟨ha, hb, la⟩ := hx
 dsimp only at ha hb la ⊢
 cases a with | mk k n s l =>
 cases b with | mk k' n' s' l' =>
 have hk := kids_small (.mk k n s l)
 have hk : l.length ≤ ndE (.mk k n s l) := hk
 unfold ref5_Same_B
 show _ = some ((k == k') && (strEq s s' && (sameR n n' && sameEs l l')))
 have head : ((.ite (k != k') (.ret true) (.ite (!(strEq s s')) (.ret true) (T.bind (ref2_Same n n') fun r => .ite (!r) (.ret true) (.ret ((Nat.cast (List.length l) : Int) != (Nat.cast (List.length l') : Int)))))) : T Bool).run = some (!((k == k') && (strEq s s' && (sameR n n' && ((l.length : Int) == (l'.length : Int)))))) := by
  rw [bne]
  cases (k == k') with
  | false => rfl
  | true =>
   rw [T.run_ite_f (by rfl)]
   cases strEq s s' with
   | false => rfl
   | true =>
    rw [T.run_ite_f (by rfl), T.run_bind_of (ref2_Same_all n n' ha.1 hb.1)]
    cases sameR n n' with
    | false => rfl
    | true => rw [T.run_ite_f (by rfl), T.run_ret]; rfl
 show (T.bind (.ite (k != k') (.ret true) (.ite (!(strEq s s')) (.ret true) (T.bind (ref2_Same n n') fun r => .ite (!r) (.ret true) (.ret ((Nat.cast (List.length l) : Int) != (Nat.cast (List.length l') : Int)))))) _).run = _
 rw [T.run_bind_of head]
 cases q : ((k == k') && (strEq s s' && (sameR n n' && ((l.length : Int) == (l'.length : Int))))) with
 | false =>
  rw [T.run_ite_t (by rfl), T.run_ret]
  congr 1
  revert q
  by_cases hl : l.length = l'.length
  ·rw [show ((l.length : Int) == (l'.length : Int)) = true by simp [hl]]
   cases (k == k') <;> cases strEq s s' <;> cases sameR n n' <;> simp
  ·rw [sameEs_len l l' hl]
   simp
 | true =>
  simp only [Bool.and_eq_true, beq_iff_eq] at q
  obtain ⟨q1, q2, q3, q4⟩ := q
  have hl : l.length = l'.length := by omega
  rw [T.run_ite_f (by rfl), q2, q3, show (k == k') = true by simpa using q1, Bool.true_and, Bool.true_and, Bool.true_and]
  have key : (ref5_Same_L0 (fun y0 y1 => g (y0, y1)) (.mk k n s l) (.mk k' n' s' l') 0).run = some (if sameEs l l' = true then .inl () else .inr false) := by
   refine zip_loop (ref5_Same_R0 (fun y0 y1 => g (y0, y1)) (.mk k n s l) (.mk k' n' s' l')) l l' hl (fun j h h' => ?_) ?_
   ·have hr := hg (l[j], l'[j]) ⟨allOks_mem ha.2 _ (List.getElem_mem h), allOks_mem hb.2 _ (List.getElem_mem h'), by have := ndEs_mem (List.getElem_mem h); have e : ndE (.mk k n s l) = 1 + ndEs l := rfl; show ndE l[j] ≤ 1000000; omega⟩ (by have := ndEs_mem (List.getElem_mem h); have e : ndE (.mk k n s l) = 1 + ndEs l := rfl; show ndE l[j] < ndE (.mk k n s l); omega)
    unfold ref5_Same_R0
    dsimp only
    rw [show Expr.kids (.mk k n s l) = l from rfl, show Expr.kids (.mk k' n' s' l') = l' from rfl, T.run_ite_t (lt_t h), T.run_obl (idx_ok h), T.run_obl (idx_ok h'), nth_at h, nth_at h', T.run_bind_of hr]
    cases sameE l[j] l'[j] with
    | false => rfl
    | true => rw [T.run_ite_f (by rfl), T.run_ret, ix1 j _ h (by omega), if_pos rfl]
   ·unfold ref5_Same_R0
    dsimp only
    rw [show Expr.kids (.mk k n s l) = l from rfl, T.run_ite_f (lt_f _), T.run_ret]
  rw [T.run_bind_of key]
  cases sameEs l l' <;> rfl
theorem ref5_Same_refl (e : Expr) (h : allOk e) (hn : ndE e ≤ 1000000) : (ref5_Same e e).run = some true := by rw [ref5_Same_run e e h h hn, sameE_refl]
end Go.AM.Lf
namespace Go.AM.Lf
open PL
theorem ofN_2 : ofN 2 = [2] := by rw [ofN_pos (by omega), show 2 / 4294967296 = 0 from rfl, ofN_zero]; rfl
theorem num_2 : numT [50] = (false, [2], [1], ()) := by
 have e : decP [50] = some (2, 1) := by decide +kernel
 unfold numT
 rw [e]
 show ratN _ 2 1 = _
 unfold ratN
 rw [if_neg (by decide), show 2 / Nat.gcd 2 1 = 2 from rfl, show 1 / Nat.gcd 2 1 = 1 from rfl, ofN_2, ofN_1]
 rfl
def nmE1 (s : Str) : Expr := .mk 2 zeroR s []
def knownE : Expr := nodeE 4 [nmE1 [97], nodeE 5 [nodeE 4 [nmE1 [98], nmE1 [99]], .mk 1 (numT [50]) [] []]]
theorem known_parse : sumZ zeroR [97, 45, 40, 98, 45, 99, 41, 42, 50] = .ok knownE [] false := by kernel_rfl
theorem norm_2 : norm (false, [2], [1], ()) = (false, [2], [1], ()) := by
 rw [← num_2]
 have e : decP [50] = some (2, 1) := by decide +kernel
 have : numT [50] = ratN (List.isPrefixOf [45] [50]) 2 1 := by
  unfold numT
  rw [e]
  rfl
 rw [this]
 exact ratN_idem _ _ _
theorem num2_ok : isNumB (numT [50]) = true := by
 rw [num_2]
 unfold isNumB isRb largeB trimB
 rw [norm_2]
 show (((ofN 2 == [2]) && ((ofN 1 == [1]) && _)) && _) = true
 rw [ofN_2, ofN_1]
 rfl
theorem known_is : isE knownE = true := by
 have h : nodeB (.mk 1 (numT [50]) [] []) = true := by
  unfold nodeB
  show ((((0 : Nat) : Int) == kidsN 1) && (if (1 : Int) = 1 then isNumB (numT [50]) && strEq [] [] else _)) = true
  rw [if_pos rfl, num2_ok]
  rfl
 have h2 : okE 2 (.mk 1 (numT [50]) [] []) = true := by
  show (decide (2 < 32) && (nodeB (.mk 1 (numT [50]) [] []) && okEs 3 [])) = true
  rw [h]; rfl
 unfold isE knownE
 show ((true && (true && (true && (okE 1 (nodeE 5 [nodeE 4 [nmE1 [98], nmE1 [99]], .mk 1 (numT [50]) [] []]) && true)))) && _) = true
 have h3 : okE 1 (nodeE 5 [nodeE 4 [nmE1 [98], nmE1 [99]], .mk 1 (numT [50]) [] []]) = true := by
  show (true && (true && (true && (okE 2 (.mk 1 (numT [50]) [] []) && true)))) = true
  rw [h2]; rfl
 rw [h3]
 rfl
theorem known_pr : prE knownE = [97, 32, 45, 32, 40, 98, 32, 45, 32, 99, 41, 32, 42, 32, 50] := by
 have h : prE (.mk 1 (numT [50]) [] []) = [50] := by
  show (exactS (norm (numT [50])).1 (nv (norm (numT [50])).2.1) (nv (norm (numT [50])).2.2.1) 0 61).1 = [50]
  rw [num_2, norm_2]
  show (exactS false 2 1 0 61).1 = [50]
  unfold exactS
  rw [if_pos (by decide)]
  show sgS false ++ ptd (pr 2) 0 = [50]
  unfold ptd pr
  rw [if_pos rfl, if_neg (by decide), dgz_pos (by decide), show 2 / 10 = 0 from rfl, dgz_zero]
  rfl
 show parS _ (prE (nmE1 [97])) ++ markK 4 ++ parS _ (parS _ (parS _ (prE (nmE1 [98])) ++ markK 4 ++ parS _ (prE (nmE1 [99]))) ++ markK 5 ++ parS _ (prE (.mk 1 (numT [50]) [] []))) = _
 rw [h]
 rfl
theorem knownE_good : exGood knownE := node2_good 4 (leaf_good 2 zeroR _ zeroR_nok (by simp)) (node2_good 5 (node2_good 4 (leaf_good 2 zeroR _ zeroR_nok (by simp)) (leaf_good 2 zeroR _ zeroR_nok (by simp))) (leaf_good 1 _ [] (numT_ok _ (by simp)) (by simp)))
theorem Print_all (e : Expr) (ha : allOk e) (hs : szE e ≤ 100000) : (expr_Print e).run = some (if isE e = true then prE e else []) := by
 have hn := ndE_sz e
 unfold expr_Print
 rw [T.run_bind_of (IsAll_run e ha (by omega))]
 cases h : isE e with
 | false => rfl
 | true =>
  have ho : okE 0 e = true := by unfold isE at h; rw [Bool.and_eq_true] at h; exact h.1
  rw [T.run_ite_f (by rfl), T.run_bind_of (print_run e 0 ho ha hs), T.run_ret, if_pos rfl]
theorem known5_run : law5_known.run = some true := by
 have hp : parseE [97, 45, 40, 98, 45, 99, 41, 42, 50] = (knownE, ((0 : Int), (0 : Int))) := by
  unfold parseE
  rw [known_parse]
  unfold parA topP
  dsimp only
  rw [if_neg (by decide), known_is, if_neg (by simp)]
 have h1 := Parse_run [97, 45, 40, 98, 45, 99, 41, 42, 50] (by decide)
 rw [hp] at h1
 have hsz : szE knownE ≤ 100000 := by
  have e : szE (.mk 1 (numT [50]) [] []) = 3 + 0 + 8 * 1 + 8 * 1 + 0 := by rw [num_2]; rfl
  have e2 : szE knownE = 3 + 0 + 0 + 0 + (szE (nmE1 [97]) + ((3 + 0 + 0 + 0 + (szE (nodeE 4 [nmE1 [98], nmE1 [99]]) + (szE (.mk 1 (numT [50]) [] []) + 0))) + 0)) := rfl
  rw [e2, e]
  decide
 have h2 := Print_all knownE knownE_good.1 hsz
 rw [known_is, if_pos rfl, known_pr] at h2
 unfold law5_known
 rw [T.run_bind_of h1]
 dsimp only
 rw [T.run_ite_t (by rfl), T.run_ite_t (by rfl), T.run_bind_of h2, T.run_ret]
 rfl
theorem parseE_good (s : Str) : exGood (parseE s).1 ∧ ndE (parseE s).1 ≤ s.length + 1 := by
 have hg := topP_good (s := s) (R := sumZ zeroR s) (N := s.length + 1) (by
  have := sumZ_good zeroR_nok s
  cases q : sumZ zeroR s with
  | no => trivial
  | er => trivial
  | ok e r l => rw [q] at this; exact ⟨this.1, by have := this.2; omega⟩) (by omega)
 have hz : exGood zE ∧ ndE zE ≤ s.length + 1 := ⟨zE_good, by show (1 : Nat) + 0 ≤ s.length + 1; omega⟩
 unfold parseE parA
 split
 ·exact hz
 ·split
  ·exact hz
  ·exact hg
theorem law5_ExprParses_run (s : Str) : (law5_ExprParses s).run = some true := by
 unfold law5_ExprParses
 by_cases c : 600 < s.length
 ·rw [T.run_ite_t (decide_eq_true (by omega)), T.run_ret]
 ·have hg := parseE_good s
  rw [T.run_ite_f (decide_eq_false (by omega)), T.run_bind_of (Parse_run s (by omega)), T.run_bind_of (ref5_Parse_run s (by omega))]
  dsimp only
  rw [T.run_bind_of (ref5_Same_refl _ hg.1.1 (by omega)), T.run_ite_true, T.run_ite_t (by simp), T.run_ite_t (by simp), T.run_bind_of (Name_run s), T.run_bind_of (ref5_Name_run s), T.run_ite_t (by simp), T.run_bind_of known5_run, T.run_ret]
end Go.AM.Lf
namespace Go.AM.Lf
open PL
theorem law5_ExprParses_law (x : denL [.str]) (hw : wfL [.str] x) (hb : bkL [.str] x ≤ 1048576) : (law5_ExprParses (toPs [.str] x)).run = some true := law5_ExprParses_run x.1
end Go.AM.Lf
