/-
  Plain laws of the lifted program, part 2.
-/
import Derived.Test.YtalglafbfldajaaGreatDoorLf0
import Derived.Test.YtalglafbfldajaaGreatDoorAmA
import Derived.Test.YtalglafbfldajaaGreatDoorAmD
import Derived.Test.YtalglafbfldajaaGreatDoorQ0
import Derived.Test.YtalglafbfldajaaGreatDoorQ1
set_option linter.unusedVariables false
namespace Go.AM.Lf
open PL
theorem encQ_some {s : Str} {d : Nat} {R : QR} (h : R ≠ .no) : ∃ y, encQ s d R = some y := by
 cases R with
 | no => exact absurd rfl h
 | er => exact ⟨_, rfl⟩
 | ok => exact ⟨_, rfl⟩
theorem factor5_run (s : Str) (hs : s.length ≤ 1000000) (ST : KR) (N : Nat) (hS : ∀ m, m ≤ N → ∀ d l r, d ≤ 31 → r <:+ s → qS m d l r ≠ .no → (ST (stR s r 0 0 d l)).run = encQ s d (qS m d l r))
  (n : Nat) (hn : n ≤ N + 1) (d : Nat) (l : Bool) (r : Str) (hd : d ≤ 31) (h : r <:+ s) (hno : qF n d l r ≠ .no) : (ref5_reader_factor_S ST (stR s r 0 0 d l)).run = encQ s d (qF n d l r) := by
 unfold ref5_reader_factor_S
 obtain ⟨y, hy⟩ := encQ_some (s := s) (d := d) hno
 rw [hy]
 refine T.fix_rel (fun n x y => n ≤ N + 1 ∧ ∃ d l r, d ≤ 31 ∧ r <:+ s ∧ x = stR s r 0 0 d l ∧ qF n d l r ≠ .no ∧ encQ s d (qF n d l r) = some y) (fun x y => ?_) (fun n x y hx g hg => ?_) (n := n) ⟨hn, d, l, r, hd, h, rfl, hno, hy⟩
 ·rintro ⟨_, d, l, r, _, _, _, h, _⟩
  exact h (by unfold qF; rfl)
 ·obtain ⟨hn, d, l, r, hd, h, rfl, hno, hy⟩ := hx
  rw [← hy]
  unfold qF at hno ⊢
  have hgF : ∀ d l r, d ≤ 31 → r <:+ s → qF n d l r ≠ .no → (g (stR s r 0 0 d l)).run = encQ s d (qF n d l r) := by
   intro d l r hd h hno
   obtain ⟨y, hy⟩ := encQ_some (s := s) (d := d) hno
   rw [hy]
   exact hg _ _ ⟨by omega, d, l, r, hd, h, rfl, hno, hy⟩
  exact factor5B_run s hs (fun y0 => g y0) ST (qF n) (qS n) hgF (hS n (by omega)) (qX_sfx s n).1 (qX_sfx s n).2.2 d l r hd h hno
theorem product5_run (s : Str) (hs : s.length ≤ 1000000) (ST : KR) (N : Nat) (hS : ∀ m, m ≤ N → ∀ d l r, d ≤ 31 → r <:+ s → qS m d l r ≠ .no → (ST (stR s r 0 0 d l)).run = encQ s d (qS m d l r))
  (n : Nat) (hn : n ≤ N + 1) (d : Nat) (l : Bool) (r : Str) (hd : d ≤ 31) (h : r <:+ s) (hno : qP n d l r ≠ .no) : (ref5_reader_product_S ST (stR s r 0 0 d l)).run = encQ s d (qP n d l r) := by
 cases n with
 | zero => exact absurd (by unfold qP; rfl) hno
 | succ n =>
  unfold qP at hno ⊢
  rw [productQ_eq]
  exact rowQT_run s hs d (ref5_reader_factor_S ST) (qF n d) (fun l r h hno => factor5_run s hs ST N hS n (by omega) d l r hd h hno) (fun l r h => (qX_sfx s n).1 d l r hd h) 42 47 (by decide) (by decide) (by decide) 5 6 n l r h hno
theorem sum5_run (s : Str) (hs : s.length ≤ 1000000) (n : Nat) (d : Nat) (l : Bool) (r : Str) (hd : d ≤ 31) (h : r <:+ s) (hno : qS n d l r ≠ .no) : (ref5_reader_sum_S (stR s r 0 0 d l)).run = encQ s d (qS n d l r) := by
 unfold ref5_reader_sum_S
 obtain ⟨y, hy⟩ := encQ_some (s := s) (d := d) hno
 rw [hy]
 refine T.fix_rel (fun n x y => ∃ m, m ≤ n ∧ ∃ d l r, d ≤ 31 ∧ r <:+ s ∧ x = stR s r 0 0 d l ∧ qS m d l r ≠ .no ∧ encQ s d (qS m d l r) = some y) (fun x y => ?_) (fun n x y hx g hg => ?_) (n := n) ⟨n, Nat.le_refl _, d, l, r, hd, h, rfl, hno, hy⟩
 ·rintro ⟨m, hm, d, l, r, _, _, _, h, _⟩
  have : m = 0 := by omega
  subst this
  exact h (by unfold qS; rfl)
 ·obtain ⟨m, hm, d, l, r, hd, h, rfl, hno, hy⟩ := hx
  rw [← hy]
  cases m with
  | zero => exact absurd (by unfold qS; rfl) hno
  | succ m =>
   have hg2 : ∀ k, k ≤ m → ∀ d l r, d ≤ 31 → r <:+ s → qS k d l r ≠ .no → (g (stR s r 0 0 d l)).run = encQ s d (qS k d l r) := by
    intro k hk d l r hd h hno
    obtain ⟨y, hy⟩ := encQ_some (s := s) (d := d) hno
    rw [hy]
    exact hg _ _ ⟨k, by omega, d, l, r, hd, h, rfl, hno, hy⟩
   unfold qS at hno ⊢
   rw [sumQB_eq]
   exact rowQT_run s hs d (ref5_reader_product_S fun y0 => g y0) (qP m d) (fun l r h hno => product5_run s hs (fun y0 => g y0) m hg2 m (by omega) d l r hd h hno) (fun l r h => (qX_sfx s m).2.1 d l r hd h) 43 45 (by decide) (by decide) (by decide) 3 4 m l r h hno
theorem rowL_sk (K : Bool → Str → PR) (m1 m2 : UInt8) (k1 k2 : Int) : ∀ (n : Nat) (e : Expr) (r : Str) (l : Bool) (e' : Expr) (r' : Str) (l' : Bool), rowL K m1 m2 k1 k2 n e r l = .ok e' r' l' → skS r' = r'
 | 0, _, _, _, _, _, _, h => by cases h
 | n + 1, e, r, l, e', r', l', h => by
  unfold rowL at h
  split at h
  ·cases h; exact skS_idem r
  ·rename_i c q ht
   cases z : K l q with
   | no => rw [z] at h; cases h
   | er => rw [z] at h; cases h
   | ok e2 q2 l2 => rw [z] at h; exact rowL_sk K m1 m2 k1 k2 n _ q2 l2 e' r' l' h
theorem sumZ_sk {z : Rat} {s : Str} {e : Expr} {r : Str} {l : Bool} (h : sumZ z s = .ok e r l) : skS r = r := by
 unfold sumZ pS rowP at h
 generalize 3 * s.length + 2 = n at h
 cases w : pP z n 0 false s with
 | no => rw [w] at h; cases h
 | er => rw [w] at h; cases h
 | ok e2 q2 l2 => rw [w] at h; exact rowL_sk _ _ _ _ _ n _ _ _ _ _ _ h
theorem ref5_Parse_run (s : Str) (hs : s.length ≤ 90000) : (ref5_Parse s).run = some (parseE s) := by
 have hno := sumZ_no zeroR_nok s
 have hg0 := sumZ_good zeroR_nok s
 have hsP := sumZ_sfx zeroR s
 have hrel : (qS (3 * s.length + 3) 0 false s).rel false (sumZ zeroR s) := (pq_rel (3 * s.length + 3)).2.2 0 false s
 have hsQ := (qX_sfx s (3 * s.length + 3)).2.2 0 false s (by omega) (List.suffix_refl s)
 have hnoQ : qS (3 * s.length + 3) 0 false s ≠ .no := by
  intro h
  rw [h] at hrel
  cases w : sumZ zeroR s with
  | no => exact hno w
  | er => rw [w] at hrel; exact hrel
  | ok => rw [w] at hrel; exact hrel
 have hrun := sum5_run s (by omega) (3 * s.length + 3) 0 false s (by omega) (List.suffix_refl s) hnoQ
 have e0 : stR s s 0 0 0 false = (s, ((0 : Int), ((0 : Int), ((0 : Int), ((0 : Int), (false, ())))))) := by unfold stR; rw [posS_self]; rfl
 rw [e0] at hrun
 -- an error is met
 have errs : ∀ (k : Int) (b r : Str) (x : Expr) (d : Nat) (l : Bool), k ≠ 0 → (b <:+ s) → (r <:+ s) → (ref5_reader_sum_S (s, ((0 : Int), ((0 : Int), ((0 : Int), ((0 : Int), (false, ()))))))).run = some (x, stR s r k ((posS s b : Nat) : Int) d l) → (ref5_Parse s).run = some (zE, (((posS s b : Nat) : Int), k)) := by
  intro k b r x d l hk hb hr h
  unfold ref5_Parse
  rw [T.run_bind_of h]
  dsimp only
  rw [T.run_bind_of (blanksQ_run s (by omega) k _ d l r hr)]
  rw [T.run_bind_of (a := (zE, (stR s (skS r) k ((posS s b : Nat) : Int) d l, x))) (by rw [stR_e, T.run_ite_f (by rw [show (k == (0 : Int)) = false by simpa using hk]; rfl), T.run_ret])]
  dsimp only
  rw [stR_e, stR_b, T.run_ite_t (by simpa using hk), T.run_ret]
 unfold parseE
 cases wP : sumZ zeroR s with
 | no => exact absurd wP hno
 | er k b r d l =>
  rw [wP] at hrel
  cases wQ : qS (3 * s.length + 3) 0 false s with
  | no => exact absurd wQ hnoQ
  | ok => rw [wQ] at hrel; exact hrel.elim
  | er k' b' x r' d' l' =>
   rw [wQ] at hrel hrun hsQ
   obtain ⟨rfl, rfl⟩ := hrel
   rw [errs k' b' r' x d' l' hsQ.1 hsQ.2.1 hsQ.2.2.1 hrun]
   unfold parA topP
   dsimp only
   rw [if_pos hsQ.1]
 | ok e r l =>
  rw [wP] at hrel hsP hg0
  have hsk := sumZ_sk wP
  cases wQ : qS (3 * s.length + 3) 0 false s with
  | no => exact absurd wQ hnoQ
  | er k' b' x r' d' l' =>
   rw [wQ] at hrel hrun hsQ
   obtain ⟨rfl, rfl, hst⟩ := hrel
   rw [errs 2 b' r' x d' l' hsQ.1 hsQ.2.1 hsQ.2.2.1 hrun]
   cases b' with
   | nil => cases hst
   | cons c q =>
    unfold parA topP
    dsimp only
    rw [if_pos (by decide)]
  | ok e' r' l' =>
   rw [wQ] at hrel hrun
   obtain ⟨rfl, rfl, hee⟩ := hrel
   have hrun : (ref5_reader_sum_S (s, ((0 : Int), ((0 : Int), ((0 : Int), ((0 : Int), (false, ()))))))).run = some (e', stR s r' 0 0 0 l') := hrun
   unfold ref5_Parse
   rw [T.run_bind_of hrun]
   dsimp only
   rw [T.run_bind_of (blanksQ_run s (by omega) 0 0 0 l' r' hsP), hsk]
   cases r' with
   | cons c q =>
    have hp := posS_cons hsP
    rw [T.run_bind_of (a := (zE, (stR s (c :: q) 2 ((posS s (c :: q) : Nat) : Int) 0 l', e'))) (by rw [stR_e, stR_at, T.run_ite_t (by rw [pos_t hsP]; rfl), T.run_bind_of (failQ_run _ _ _ _ _ _ _), if_pos rfl, T.run_ret])]
    dsimp only
    rw [stR_e, stR_b, T.run_ite_t (by rfl), T.run_ret]
    unfold parA topP
    dsimp only
    rw [if_pos (by decide)]
   | nil =>
    rw [T.run_bind_of (a := (zE, (stR s [] 0 0 0 l', e'))) (by rw [stR_e, stR_at, T.run_ite_f (by rw [pos_f]; rfl), T.run_ret])]
    dsimp only
    rw [stR_e, stR_l, T.run_ite_f (by rfl)]
    unfold parA topP
    dsimp only
    rw [if_neg (by decide)]
    rw [T.run_bind_of (a := (decide (l' = true ∨ isE e = false), (zE, (stR s [] 0 0 0 l', e'))))]
    ·dsimp only
     by_cases c2 : l' = true ∨ isE e = false
     ·rw [T.run_ite_t (decide_eq_true c2), T.run_ret, if_pos c2]
     ·rw [T.run_ite_f (decide_eq_false c2), T.run_ret, if_neg c2]
      cases l' with
      | true => exact absurd (.inl rfl) c2
      | false => rw [(hee rfl).2]
    ·cases l' with
     | true => rw [T.run_ite_true, T.run_ret]; simp
     | false =>
      obtain ⟨_, rfl⟩ := hee rfl
      have h2 := hg0.2
      have h3 := hg0.1.2
      simp only [List.length_nil] at h2
      have hI := ref5_IsAll_run e' hg0.1.1 (by omega) (by omega)
      rw [T.run_ite_false, T.run_bind_of hI, T.run_ret]
      cases isE e' <;> simp
end Go.AM.Lf
namespace Go.AM.Lf
open PL
def sameR (a b : Rat) : Bool := ((norm a).1 == (norm b).1) && (((norm a).2.1 == (norm b).2.1) && ((norm a).2.2.1 == (norm b).2.2.1))
theorem sameR_iff {a b : Rat} : sameR a b = true ↔ norm a = norm b := by
 unfold sameR
 rw [Bool.and_eq_true, Bool.and_eq_true, beq_iff_eq, beq_iff_eq, beq_iff_eq]
 constructor
 ·rintro ⟨h1, h2, h3⟩
  exact Prod.ext h1 (Prod.ext h2 (Prod.ext h3 rfl))
 ·intro h; rw [h]; exact ⟨rfl, rfl, rfl⟩
mutual
def sameE : Expr → Expr → Bool
 | .mk k n s l, .mk k' n' s' l' => (k == k') && (strEq s s' && (sameR n n' && sameEs l l'))
def sameEs : List Expr → List Expr → Bool
 | [], [] => true
 | a :: r, b :: r' => sameE a b && sameEs r r'
 | [], _ :: _ => false
 | _ :: _, [] => false
end
theorem sameEs_len : ∀ (a b : List Expr), a.length ≠ b.length → sameEs a b = false
 | [], [], h => absurd rfl h
 | _ :: r, _ :: r', h => by
  show (sameE _ _ && sameEs r r') = false
  rw [sameEs_len r r' (fun e => h (by simp [e])), Bool.and_false]
 | [], _ :: _, _ => rfl
 | _ :: _, [], _ => rfl
theorem strEq_same (s : Str) : strEq s s = true := by rw [strEq_iff]; simp
mutual
theorem sameE_refl : ∀ (e : Expr), sameE e e = true
 | .mk k n s l => by
  show ((k == k) && (strEq s s && (sameR n n && sameEs l l))) = true
  rw [strEq_same, sameR_iff.2 rfl, sameEs_refl l]; simp
theorem sameEs_refl : ∀ (l : List Expr), sameEs l l = true
 | [] => rfl
 | a :: r => by
  show (sameE a a && sameEs r r) = true
  rw [sameE_refl a, sameEs_refl r]; rfl
end
theorem zip_loop (R : Int → T (Int ⊕ (Unit ⊕ Bool))) (a b : List Expr) (hl : a.length = b.length)
  (step : ∀ k (h : k < a.length) (h' : k < b.length), (R (k : Int)).run = some (if sameE a[k] b[k] = true then .inl ((k + 1 : Nat) : Int) else .inr (.inr false)))
  (done : (R (a.length : Int)).run = some (.inr (.inl ()))) : (T.loop R 0).run = some (if sameEs a b = true then .inl () else .inr false) := by
 have key : ∀ (m k : Nat), k + m = a.length → (T.loop R (k : Int)).run = some (if sameEs (a.drop k) (b.drop k) = true then .inl () else .inr false) := by
  intro m
  induction m with
  | zero =>
   intro k hk
   have : k = a.length := by omega
   subst this
   rw [List.drop_length, hl, List.drop_length]
   rw [hl] at done
   exact T.loop_done done
  | succ m ih =>
   intro k hk
   have h1 : k < a.length := by omega
   have h2 : k < b.length := by omega
   rw [List.drop_eq_getElem_cons h1, List.drop_eq_getElem_cons h2]
   show _ = some (if (sameE a[k] b[k] && sameEs (a.drop (k + 1)) (b.drop (k + 1))) = true then _ else _)
   have st := step k h1 h2
   cases q : sameE a[k] b[k] with
   | true =>
    rw [q, if_pos rfl] at st
    rw [T.loop_step st, Bool.true_and]
    exact ih (k + 1) (by omega)
   | false =>
    rw [q, if_neg (by simp)] at st
    exact T.loop_done st
 have := key a.length 0 (by omega)
 simpa using this
theorem ref2_Same_all (a b : Rat) (ha : numOk a) (hb : numOk b) : (ref2_Same a b).run = some (sameR a b) := by
 have na := norm_ok (k := 100) (by omega) ha
 have nb := norm_ok (k := 100) (by omega) hb
 unfold ref2_Same sameR
 rw [T.run_bind_of (ref2_norm a (ok_up ha (by omega))), T.run_bind_of (ref2_norm b (ok_up hb (by omega)))]
 cases ((norm a).1 == (norm b).1) with
 | false => rfl
 | true =>
  rw [T.run_ite_true, T.run_bind_of (limbsB_run _ _ (by have := na.2.2.1; omega)), Bool.true_and]
  cases ((norm a).2.1 == (norm b).2.1) with
  | false => rfl
  | true => rw [T.run_ite_true, T.run_bind_of (limbsB_run _ _ (by have := na.2.2.2; omega)), T.run_ret, Bool.true_and]
theorem kids_small (e : Expr) : (Expr.kids e).length ≤ ndE e := by
 cases e with | mk k n s l =>
 have := ndEs_len l
 show l.length ≤ 1 + ndEs l
 omega
theorem ref5_Same_run (a b : Expr) (ha : allOk a) (hb : allOk b) (la : ndE a ≤ 1000000) : (ref5_Same a b).run = some (sameE a b) := by
 unfold ref5_Same
 refine T.fix_run (fun x : Expr × Expr => allOk x.1 ∧ allOk x.2 ∧ ndE x.1 ≤ 1000000) (fun x => ndE x.1) (fun x => sameE x.1 x.2) (fun x hx g hg => ?_) (x := (a, b)) ⟨ha, hb, la⟩
 obtain ⟨a, b⟩ := x
 obtain ⟨ha, hb, la⟩ := hx
 dsimp only at ha hb la ⊢
 cases a with | mk k n s l =>
 cases b with | mk k' n' s' l' =>
 have hk := kids_small (.mk k n s l)
 have hk : l.length ≤ ndE (.mk k n s l) := hk
 unfold ref5_Same_B
 show _ = some ((k == k') && (strEq s s' && (sameR n n' && sameEs l l')))
 have head : ((.ite (k != k') (.ret true) (.ite (!(strEq s s')) (.ret true) (T.bind (ref2_Same n n') fun r => .ite (!r) (.ret true) (.ret ((Nat.cast (List.length l) : Int) != (Nat.cast (List.length l') : Int)))))) : T Bool).run = some (!((k == k') && (strEq s s' && (sameR n n' && ((l.length : Int) == (l'.length : Int)))))) := by
  rw [bne]
  cases (k == k') with
  | false => rfl
  | true =>
   rw [T.run_ite_f (by rfl)]
   cases strEq s s' with
   | false => rfl
   | true =>
    rw [T.run_ite_f (by rfl), T.run_bind_of (ref2_Same_all n n' ha.1 hb.1)]
    cases sameR n n' with
    | false => rfl
    | true => rw [T.run_ite_f (by rfl), T.run_ret]; rfl
 show (T.bind (.ite (k != k') (.ret true) (.ite (!(strEq s s')) (.ret true) (T.bind (ref2_Same n n') fun r => .ite (!r) (.ret true) (.ret ((Nat.cast (List.length l) : Int) != (Nat.cast (List.length l') : Int)))))) _).run = _
 rw [T.run_bind_of head]
 cases q : ((k == k') && (strEq s s' && (sameR n n' && ((l.length : Int) == (l'.length : Int))))) with
 | false =>
  rw [T.run_ite_t (by rfl), T.run_ret]
  congr 1
  revert q
  by_cases hl : l.length = l'.length
  ·rw [show ((l.length : Int) == (l'.length : Int)) = true by simp [hl]]
   cases (k == k') <;> cases strEq s s' <;> cases sameR n n' <;> simp
  ·rw [sameEs_len l l' hl]
   simp
 | true =>
  simp only [Bool.and_eq_true, beq_iff_eq] at q
  obtain ⟨q1, q2, q3, q4⟩ := q
  have hl : l.length = l'.length := by omega
  rw [T.run_ite_f (by rfl), q2, q3, show (k == k') = true by simpa using q1, Bool.true_and, Bool.true_and, Bool.true_and]
  have key : (ref5_Same_L0 (fun y0 y1 => g (y0, y1)) (.mk k n s l) (.mk k' n' s' l') 0).run = some (if sameEs l l' = true then .inl () else .inr false) := by
   refine zip_loop (ref5_Same_R0 (fun y0 y1 => g (y0, y1)) (.mk k n s l) (.mk k' n' s' l')) l l' hl (fun j h h' => ?_) ?_
   ·have hr := hg (l[j], l'[j]) ⟨allOks_mem ha.2 _ (List.getElem_mem h), allOks_mem hb.2 _ (List.getElem_mem h'), by have := ndEs_mem (List.getElem_mem h); have e : ndE (.mk k n s l) = 1 + ndEs l := rfl; show ndE l[j] ≤ 1000000; omega⟩ (by have := ndEs_mem (List.getElem_mem h); have e : ndE (.mk k n s l) = 1 + ndEs l := rfl; show ndE l[j] < ndE (.mk k n s l); omega)
    unfold ref5_Same_R0
    dsimp only
    rw [show Expr.kids (.mk k n s l) = l from rfl, show Expr.kids (.mk k' n' s' l') = l' from rfl, T.run_ite_t (lt_t h), T.run_obl (idx_ok h), T.run_obl (idx_ok h'), nth_at h, nth_at h', T.run_bind_of hr]
    cases sameE l[j] l'[j] with
    | false => rfl
    | true => rw [T.run_ite_f (by rfl), T.run_ret, ix1 j _ h (by omega), if_pos rfl]
   ·unfold ref5_Same_R0
    dsimp only
    rw [show Expr.kids (.mk k n s l) = l from rfl, T.run_ite_f (lt_f _), T.run_ret]
  rw [T.run_bind_of key]
  cases sameEs l l' <;> rfl
end Go.AM.Lf
namespace Go.AM.Lf
open PL
theorem ofN_2 : ofN 2 = [2] := by rw [ofN_pos (by omega), show 2 / 4294967296 = 0 from rfl, ofN_zero]; rfl
theorem num_2 : numT [50] = (false, [2], [1], ()) := by
 have e : decP [50] = some (2, 1) := by decide +kernel
 unfold numT
 rw [e]
 show ratN _ 2 1 = _
 unfold ratN
 rw [if_neg (by decide), show 2 / Nat.gcd 2 1 = 2 from rfl, show 1 / Nat.gcd 2 1 = 1 from rfl, ofN_2, ofN_1]
 rfl
def nmE1 (s : Str) : Expr := .mk 2 zeroR s []
def knownE : Expr := nodeE 4 [nmE1 [97], nodeE 5 [nodeE 4 [nmE1 [98], nmE1 [99]], .mk 1 (numT [50]) [] []]]
theorem known_parse : sumZ zeroR [97, 45, 40, 98, 45, 99, 41, 42, 50] = .ok knownE [] false := by kernel_rfl
theorem norm_2 : norm (false, [2], [1], ()) = (false, [2], [1], ()) := by
 rw [← num_2]
 have e : decP [50] = some (2, 1) := by decide +kernel
 have : numT [50] = ratN (List.isPrefixOf [45] [50]) 2 1 := by
  unfold numT
  rw [e]
  rfl
 rw [this]
 exact ratN_idem _ _ _
theorem num2_ok : isNumB (numT [50]) = true := by
 rw [num_2]
 unfold isNumB isRb largeB trimB
 rw [norm_2]
 show (((ofN 2 == [2]) && ((ofN 1 == [1]) && _)) && _) = true
 rw [ofN_2, ofN_1]
 rfl
theorem known_is : isE knownE = true := by
 have h : nodeB (.mk 1 (numT [50]) [] []) = true := by
  unfold nodeB
  show ((((0 : Nat) : Int) == kidsN 1) && (if (1 : Int) = 1 then isNumB (numT [50]) && strEq [] [] else _)) = true
  rw [if_pos rfl, num2_ok]
  rfl
 have h2 : okE 2 (.mk 1 (numT [50]) [] []) = true := by
  show (decide (2 < 32) && (nodeB (.mk 1 (numT [50]) [] []) && okEs 3 [])) = true
  rw [h]; rfl
 unfold isE knownE
 show ((true && (true && (true && (okE 1 (nodeE 5 [nodeE 4 [nmE1 [98], nmE1 [99]], .mk 1 (numT [50]) [] []]) && true)))) && _) = true
 have h3 : okE 1 (nodeE 5 [nodeE 4 [nmE1 [98], nmE1 [99]], .mk 1 (numT [50]) [] []]) = true := by
  show (true && (true && (true && (okE 2 (.mk 1 (numT [50]) [] []) && true)))) = true
  rw [h2]; rfl
 rw [h3]
 rfl
theorem known_pr : prE knownE = [97, 32, 45, 32, 40, 98, 32, 45, 32, 99, 41, 32, 42, 32, 50] := by
 have h : prE (.mk 1 (numT [50]) [] []) = [50] := by
  show (exactS (norm (numT [50])).1 (nv (norm (numT [50])).2.1) (nv (norm (numT [50])).2.2.1) 0 61).1 = [50]
  rw [num_2, norm_2]
  show (exactS false 2 1 0 61).1 = [50]
  unfold exactS
  rw [if_pos (by decide)]
  show sgS false ++ ptd (pr 2) 0 = [50]
  unfold ptd pr
  rw [if_pos rfl, if_neg (by decide), dgz_pos (by decide), show 2 / 10 = 0 from rfl, dgz_zero]
  rfl
 show parS _ (prE (nmE1 [97])) ++ markK 4 ++ parS _ (parS _ (parS _ (prE (nmE1 [98])) ++ markK 4 ++ parS _ (prE (nmE1 [99]))) ++ markK 5 ++ parS _ (prE (.mk 1 (numT [50]) [] []))) = _
 rw [h]
 rfl
theorem knownE_good : exGood knownE := node2_good 4 (leaf_good 2 zeroR _ zeroR_nok (by simp)) (node2_good 5 (node2_good 4 (leaf_good 2 zeroR _ zeroR_nok (by simp)) (leaf_good 2 zeroR _ zeroR_nok (by simp))) (leaf_good 1 _ [] (numT_ok _ (by simp)) (by simp)))
theorem Print_all (e : Expr) (ha : allOk e) (hs : szE e ≤ 1000000) : (expr_Print e).run = some (if isE e = true then prE e else []) := by
 have hn := ndE_sz e
 unfold expr_Print
 rw [T.run_bind_of (IsAll_run e ha (by omega))]
 cases h : isE e with
 | false => rfl
 | true =>
  have ho : okE 0 e = true := by unfold isE at h; rw [Bool.and_eq_true] at h; exact h.1
  rw [T.run_ite_f (by rfl), T.run_bind_of (print_run e 0 ho ha (by omega)), T.run_ret, if_pos rfl]
theorem known5_run : law5_known.run = some true := by
 have hp : parseE [97, 45, 40, 98, 45, 99, 41, 42, 50] = (knownE, ((0 : Int), (0 : Int))) := by
  unfold parseE
  rw [known_parse]
  unfold parA topP
  dsimp only
  rw [if_neg (by decide), known_is, if_neg (by simp)]
 have h1 := Parse_run [97, 45, 40, 98, 45, 99, 41, 42, 50] (by decide)
 rw [hp] at h1
 have hsz : szE knownE ≤ 1000000 := by
  have e : szE (.mk 1 (numT [50]) [] []) = 3 + 0 + 8 * 1 + 8 * 1 + 0 := by rw [num_2]; rfl
  have e2 : szE knownE = 3 + 0 + 0 + 0 + (szE (nmE1 [97]) + ((3 + 0 + 0 + 0 + (szE (nodeE 4 [nmE1 [98], nmE1 [99]]) + (szE (.mk 1 (numT [50]) [] []) + 0))) + 0)) := rfl
  rw [e2, e]
  decide
 have h2 := Print_all knownE knownE_good.1 hsz
 rw [known_is, if_pos rfl, known_pr] at h2
 unfold law5_known
 rw [T.run_bind_of h1]
 dsimp only
 rw [T.run_ite_t (by rfl), T.run_ite_t (by rfl), T.run_bind_of h2, T.run_ret]
 rfl
theorem parseE_good (s : Str) : exGood (parseE s).1 ∧ ndE (parseE s).1 ≤ s.length + 1 := by
 have hg := topP_good (s := s) (R := sumZ zeroR s) (N := s.length + 1) (by
  have := sumZ_good zeroR_nok s
  cases q : sumZ zeroR s with
  | no => trivial
  | er => trivial
  | ok e r l => rw [q] at this; exact ⟨this.1, by have := this.2; omega⟩) (by omega)
 have hz : exGood zE ∧ ndE zE ≤ s.length + 1 := ⟨zE_good, by show (1 : Nat) + 0 ≤ s.length + 1; omega⟩
 unfold parseE parA
 split
 ·exact hz
 ·split
  ·exact hz
  ·exact hg
end Go.AM.Lf
namespace Go.AM.Lf
open PL
theorem bind_mono {R R' : PR} {f f' : Expr → Str → Bool → PR} (h : R ≠ .no → R' = R) (hf : ∀ e r l, f e r l ≠ .no → f' e r l = f e r l) (hn : R.bind f ≠ .no) : R'.bind f' = R.bind f := by
 cases R with
 | no => exact absurd rfl hn
 | er k b r d l => rw [h (by simp)]; rfl
 | ok e r l => rw [h (by simp)]; exact hf e r l hn
theorem rowL_mono {K K' : Bool → Str → PR} (hK : ∀ l q, K l q ≠ .no → K' l q = K l q) (m1 m2 : UInt8) (k1 k2 : Int) : ∀ (n n' : Nat) (e : Expr) (r : Str) (l : Bool), n ≤ n' → rowL K m1 m2 k1 k2 n e r l ≠ .no → rowL K' m1 m2 k1 k2 n' e r l = rowL K m1 m2 k1 k2 n e r l
 | 0, _, _, _, _, _, h => absurd rfl h
 | n + 1, 0, _, _, _, h, _ => by omega
 | n + 1, n' + 1, e, r, l, h, hn => by
  unfold rowL at hn ⊢
  cases q : takeS [m1, m2] r with
  | none => rfl
  | some x =>
   obtain ⟨c, q'⟩ := x
   rw [q] at hn
   exact bind_mono (hK l q') (fun e2 q2 l2 h2 => rowL_mono hK m1 m2 k1 k2 n n' _ q2 l2 (by omega) h2) hn
theorem rowP_mono {K K' : Bool → Str → PR} (hK : ∀ l q, K l q ≠ .no → K' l q = K l q) (m1 m2 : UInt8) (k1 k2 : Int) (n n' : Nat) (h : n ≤ n') (l : Bool) (r : Str) (hn : rowP K m1 m2 k1 k2 n l r ≠ .no) : rowP K' m1 m2 k1 k2 n' l r = rowP K m1 m2 k1 k2 n l r :=
 bind_mono (hK l r) (fun e q l' h2 => rowL_mono hK m1 m2 k1 k2 n n' e q l' h h2) hn
theorem facP_mono {z : Rat} {F S F' S' : Nat → Bool → Str → PR} (hF : ∀ d l q, F d l q ≠ .no → F' d l q = F d l q) (hS : ∀ d l q, S d l q ≠ .no → S' d l q = S d l q) (d : Nat) (l : Bool) (s : Str) (hn : facP z F S d l s ≠ .no) : facP z F' S' d l s = facP z F S d l s := by
 unfold facP at hn ⊢
 cases e : skS s with
 | nil => rfl
 | cons c r =>
  rw [e] at hn
  dsimp only at hn ⊢
  by_cases c45 : c = 45
  ·rw [if_pos c45] at hn ⊢
   rw [if_pos c45]
   by_cases c31 : 31 ≤ d
   ·rw [if_pos c31, if_pos c31]
   ·rw [if_neg c31] at hn ⊢
    rw [if_neg c31]
    exact bind_mono (hF _ _ _) (fun _ _ _ _ => rfl) hn
  ·rw [if_neg c45] at hn ⊢
   rw [if_neg c45]
   by_cases c40 : c = 40
   ·rw [if_pos c40] at hn ⊢
    rw [if_pos c40]
    by_cases c31 : 31 ≤ d
    ·rw [if_pos c31, if_pos c31]
    ·rw [if_neg c31] at hn ⊢
     rw [if_neg c31]
     exact bind_mono (hS _ _ _) (fun _ _ _ _ => rfl) hn
   ·rw [if_neg c40, if_neg c40]
theorem pX_mono (z : Rat) : ∀ (n n' : Nat), n ≤ n' → (∀ d l r, pF z n d l r ≠ .no → pF z n' d l r = pF z n d l r) ∧ (∀ d l r, pP z n d l r ≠ .no → pP z n' d l r = pP z n d l r) ∧ (∀ d l r, pS z n d l r ≠ .no → pS z n' d l r = pS z n d l r)
 | 0, _, _ => ⟨fun _ _ _ h => absurd (by unfold pF; rfl) h, fun _ _ _ h => absurd (by unfold pP; rfl) h, fun _ _ _ h => absurd (by unfold pS; rfl) h⟩
 | n + 1, 0, h => by omega
 | n + 1, n' + 1, h => by
  obtain ⟨h1, h2, h3⟩ := pX_mono z n n' (by omega)
  refine ⟨fun d l r hn => ?_, fun d l r hn => ?_, fun d l r hn => ?_⟩
  ·unfold pF at hn ⊢; exact facP_mono h1 h3 d l r hn
  ·unfold pP at hn ⊢; exact rowP_mono (h1 d) _ _ _ _ n n' (by omega) l r hn
  ·unfold pS at hn ⊢; exact rowP_mono (h2 d) _ _ _ _ n n' (by omega) l r hn
def SF (d : Nat) (l : Bool) (s : Str) (R : PR) : Prop := R ≠ .no ∧ ∃ n, pF zeroR n d l s = R
def SP (d : Nat) (l : Bool) (s : Str) (R : PR) : Prop := R ≠ .no ∧ ∃ n, pP zeroR n d l s = R
def SS (d : Nat) (l : Bool) (s : Str) (R : PR) : Prop := R ≠ .no ∧ ∃ n, pS zeroR n d l s = R
def RP (d : Nat) (e : Expr) (r : Str) (l : Bool) (R : PR) : Prop := R ≠ .no ∧ ∃ n m, rowL (pF zeroR n d) 42 47 5 6 m e r l = R
def RS (d : Nat) (e : Expr) (r : Str) (l : Bool) (R : PR) : Prop := R ≠ .no ∧ ∃ n m, rowL (pP zeroR n d) 43 45 3 4 m e r l = R
theorem SP_of {d : Nat} {l : Bool} {s : Str} {e : Expr} {q : Str} {l' : Bool} {R : PR} (h1 : SF d l s (.ok e q l')) (h2 : RP d e q l' R) : SP d l s R := by
 obtain ⟨_, n1, e1⟩ := h1
 obtain ⟨hR, n2, m, e2⟩ := h2
 refine ⟨hR, max (max n1 n2) m + 1, ?_⟩
 unfold pP rowP
 rw [(pX_mono zeroR n1 (max (max n1 n2) m) (by omega)).1 d l s (by rw [e1]; simp), e1]
 show rowL _ _ _ _ _ _ e q l' = R
 rw [rowL_mono (fun l q h => (pX_mono zeroR n2 (max (max n1 n2) m) (by omega)).1 d l q h) 42 47 5 6 m (max (max n1 n2) m) e q l' (by omega) (by rw [e2]; exact hR), e2]
theorem SS_of {d : Nat} {l : Bool} {s : Str} {e : Expr} {q : Str} {l' : Bool} {R : PR} (h1 : SP d l s (.ok e q l')) (h2 : RS d e q l' R) : SS d l s R := by
 obtain ⟨_, n1, e1⟩ := h1
 obtain ⟨hR, n2, m, e2⟩ := h2
 refine ⟨hR, max (max n1 n2) m + 1, ?_⟩
 unfold pS rowP
 rw [(pX_mono zeroR n1 (max (max n1 n2) m) (by omega)).2.1 d l s (by rw [e1]; simp), e1]
 show rowL _ _ _ _ _ _ e q l' = R
 rw [rowL_mono (fun l q h => (pX_mono zeroR n2 (max (max n1 n2) m) (by omega)).2.1 d l q h) 43 45 3 4 m (max (max n1 n2) m) e q l' (by omega) (by rw [e2]; exact hR), e2]
theorem RP_stop {d : Nat} {e : Expr} {r : Str} {l : Bool} (h : takeS [42, 47] r = none) : RP d e r l (.ok e (skS r) l) := ⟨by simp, 0, 1, by unfold rowL; rw [h]⟩
theorem RS_stop {d : Nat} {e : Expr} {r : Str} {l : Bool} (h : takeS [43, 45] r = none) : RS d e r l (.ok e (skS r) l) := ⟨by simp, 0, 1, by unfold rowL; rw [h]⟩
theorem RP_step {d : Nat} {e : Expr} {r : Str} {l : Bool} {c : UInt8} {q : Str} {e2 : Expr} {q2 : Str} {l2 : Bool} {R : PR} (h : takeS [42, 47] r = some (c, q)) (h1 : SF d l q (.ok e2 q2 l2)) (h2 : RP d (nodeE (if c = 42 then 5 else 6) [e, e2]) q2 l2 R) : RP d e r l R := by
 obtain ⟨_, n1, e1⟩ := h1
 obtain ⟨hR, n2, m, e3⟩ := h2
 refine ⟨hR, max n1 n2, m + 1, ?_⟩
 unfold rowL
 rw [h]
 dsimp only
 rw [(pX_mono zeroR n1 (max n1 n2) (by omega)).1 d l q (by rw [e1]; simp), e1]
 show rowL _ _ _ _ _ _ _ q2 l2 = R
 rw [rowL_mono (fun l q h => (pX_mono zeroR n2 (max n1 n2) (by omega)).1 d l q h) 42 47 5 6 m m _ q2 l2 (by omega) (by rw [e3]; exact hR), e3]
theorem RS_step {d : Nat} {e : Expr} {r : Str} {l : Bool} {c : UInt8} {q : Str} {e2 : Expr} {q2 : Str} {l2 : Bool} {R : PR} (h : takeS [43, 45] r = some (c, q)) (h1 : SP d l q (.ok e2 q2 l2)) (h2 : RS d (nodeE (if c = 43 then 3 else 4) [e, e2]) q2 l2 R) : RS d e r l R := by
 obtain ⟨_, n1, e1⟩ := h1
 obtain ⟨hR, n2, m, e3⟩ := h2
 refine ⟨hR, max n1 n2, m + 1, ?_⟩
 unfold rowL
 rw [h]
 dsimp only
 rw [(pX_mono zeroR n1 (max n1 n2) (by omega)).2.1 d l q (by rw [e1]; simp), e1]
 show rowL _ _ _ _ _ _ _ q2 l2 = R
 rw [rowL_mono (fun l q h => (pX_mono zeroR n2 (max n1 n2) (by omega)).2.1 d l q h) 43 45 3 4 m m _ q2 l2 (by omega) (by rw [e3]; exact hR), e3]
theorem takeS_sk (m r : Str) : takeS m (skS r) = takeS m r := by unfold takeS; rw [skS_idem]
theorem rowL_arg (K : Bool → Str → PR) (m1 m2 : UInt8) (k1 k2 : Int) (n : Nat) (e : Expr) (r : Str) (l : Bool) : rowL K m1 m2 k1 k2 n e (skS r) l = rowL K m1 m2 k1 k2 n e r l := by
 cases n with
 | zero => rfl
 | succ n => unfold rowL; rw [takeS_sk, skS_idem]
theorem RS_sk {d : Nat} {e : Expr} {r : Str} {l : Bool} {R : PR} (h : RS d e r l R) : RS d e (skS r) l R := by
 obtain ⟨hR, n, m, e2⟩ := h
 exact ⟨hR, n, m, by rw [rowL_arg, e2]⟩
theorem SF_sk {d : Nat} {l : Bool} {s s' : Str} {R : PR} (h : SF d l s R) (e : skS s' = skS s) : SF d l s' R := by
 obtain ⟨hR, n, e1⟩ := h
 cases n with
 | zero => exact absurd (by rw [← e1]; unfold pF; rfl) hR
 | succ n =>
  refine ⟨hR, n + 1, ?_⟩
  rw [← e1]
  unfold pF facP
  rw [e]
theorem SP_sk {d : Nat} {l : Bool} {s s' : Str} {R : PR} (h : SP d l s R) (e : skS s' = skS s) : SP d l s' R := by
 obtain ⟨hR, n, e1⟩ := h
 cases n with
 | zero => exact absurd (by rw [← e1]; unfold pP; rfl) hR
 | succ n =>
  cases n with
  | zero => exact absurd (by rw [← e1]; unfold pP rowP pF; rfl) hR
  | succ n =>
   refine ⟨hR, n + 2, ?_⟩
   rw [← e1]
   have : pF zeroR (n + 1) d l s' = pF zeroR (n + 1) d l s := by unfold pF facP; rw [e]
   unfold pP rowP
   rw [this]
theorem SF_neg {d : Nat} {l : Bool} {s r : Str} {e : Expr} {q : Str} {l' : Bool} (hs : skS s = 45 :: r) (hd : d < 31) (h : SF (d + 1) l r (.ok e q l')) : SF d l s (.ok (nodeE 7 [e]) q l') := by
 obtain ⟨_, n, e1⟩ := h
 refine ⟨by simp, n + 1, ?_⟩
 unfold pF facP
 rw [hs]
 dsimp only
 rw [if_pos rfl, if_neg (by omega), e1]
 rfl
theorem SF_par {d : Nat} {l : Bool} {s r : Str} {e : Expr} {q q' : Str} {l' : Bool} (hs : skS s = 40 :: r) (hd : d < 31) (h : SS (d + 1) l r (.ok e q l')) (hq : skS q = 41 :: q') : SF d l s (.ok e q' l') := by
 obtain ⟨_, n, e1⟩ := h
 refine ⟨by simp, n + 1, ?_⟩
 have ht : takeS [41] q = some (41, q') := by unfold takeS; rw [hq]; rfl
 unfold pF facP
 rw [hs]
 dsimp only
 rw [if_neg (by decide), if_pos rfl, if_neg (by omega), e1]
 show (match takeS [41] q with | some (_, q') => PR.ok e q' l' | none => .er 2 (skS q) (skS q) (d + 1) l') = _
 rw [ht]
theorem SF_num {d : Nat} {l : Bool} {s r : Str} {c : UInt8} (hs : skS s = c :: r) (hc : isD c = true) : SF d l s (numP zeroR d (c :: r) l) := by
 refine ⟨numP_tot _ _ _ _, 1, ?_⟩
 have c45 : c ≠ 45 := by rintro rfl; revert hc; decide
 have c40 : c ≠ 40 := by rintro rfl; revert hc; decide
 unfold pF facP
 rw [hs]
 dsimp only
 rw [if_neg c45, if_neg c40, if_pos hc]
theorem isL_D {c : UInt8} (h : isL c = true) : isD c = false := by
 unfold isL at h
 rw [Bool.and_eq_true, decide_eq_true_eq, decide_eq_true_eq] at h
 cases q : isD c with
 | false => rfl
 | true => have := isD_iff.1 q; omega
theorem SF_nam {d : Nat} {l : Bool} {s r : Str} {c : UInt8} (hs : skS s = c :: r) (hc : isL c = true) : SF d l s (namP (c :: r) l) := by
 refine ⟨by unfold namP; simp, 1, ?_⟩
 have c45 : c ≠ 45 := by rintro rfl; revert hc; decide
 have c40 : c ≠ 40 := by rintro rfl; revert hc; decide
 unfold pF facP
 rw [hs]
 dsimp only
 rw [if_neg c45, if_neg c40, if_neg (by rw [isL_D hc]; simp), if_pos hc]
theorem SS_top {s : Str} {R : PR} (h : SS 0 false s R) : sumZ zeroR s = R := by
 obtain ⟨hR, n, e⟩ := h
 have h2 := sumZ_no zeroR_nok s
 unfold sumZ at h2 ⊢
 have a := (pX_mono zeroR (3 * s.length + 3) (max n (3 * s.length + 3)) (by omega)).2.2 0 false s h2
 have b := (pX_mono zeroR n (max n (3 * s.length + 3)) (by omega)).2.2 0 false s (by rw [e]; exact hR)
 rw [← a, b, e]
end Go.AM.Lf
namespace Go.AM.Lf
open PL
def sepB : Str → Bool
 | [] => true
 | c :: _ => !isIn c && !(c == 46)
theorem isD_in {c : UInt8} (h : isD c = true) : isIn c = true := by
 have := isD_iff.1 h
 unfold isIn
 rw [decide_eq_true (by omega : (48 : Int) ≤ (c.toNat : Int)), decide_eq_true (by omega : (c.toNat : Int) ≤ 57)]
 simp
theorem sep_head {q : Str} (h : sepB q = true) : ∀ c r, q = c :: r → isIn c = false ∧ c ≠ 46 := by
 rintro c r rfl
 have h : (!isIn c && !(c == 46)) = true := h
 rw [Bool.and_eq_true] at h
 exact ⟨by simpa using h.1, by simpa using h.2⟩
def numS (n : Rat) : Str := (exactS (norm n).1 (nv (norm n).2.1) (nv (norm n).2.2.1) 0 61).1
theorem isNumB_of {n : Rat} (h : isNumB n = true) : isRb n = true ∧ n.1 = false ∧ largeB n = false ∧ (exactS (norm n).1 (nv (norm n).2.1) (nv (norm n).2.2.1) 0 61).2 = true := by
 unfold isNumB at h
 simp only [Bool.and_eq_true, Bool.not_eq_true'] at h
 exact ⟨h.1, h.2.1, h.2.2.1, h.2.2.2⟩
theorem isRb_norm {n : Rat} (hn : numOk n) (h : isRb n = true) : norm n = n := (isRb_iff n hn.1 hn.2.1).1 h
theorem numS_parts {n : Rat} (hn : numOk n) (h : isNumB n = true) : numT (numS n) = norm n ∧ (numS n).length ≤ 400 ∧ ∃ w, digs w = true ∧ w ≠ [] ∧ (numS n = w ∨ ∃ p, digs p = true ∧ p ≠ [] ∧ numS n = w ++ 46 :: p) := by
 obtain ⟨h1, h2, h3, h4⟩ := isNumB_of h
 have hnn := isRb_norm hn h1
 have hno := norm_ok (k := 100) (by omega) hn
 have hd := ratN_den n.1 (nv n.2.1) (nv n.2.2.1)
 have hd : nv (norm n).2.2.1 ≠ 0 := hd
 have hx : exactS (norm n).1 (nv (norm n).2.1) (nv (norm n).2.2.1) 0 61 = (numS n, true) := Prod.ext rfl h4
 have hl : (ofN (nv (norm n).2.1)).length ≤ 16 := by
  have := ofN_nv_len hno.1
  unfold largeB at h3
  simp only [Bool.or_eq_false_iff, decide_eq_false_iff_not] at h3
  omega
 have hp := parse_exact (norm n) (norm_self n) hd hl (numS n) hx
 have hlen := exact_len n hn
 have hlen : (numS n).length ≤ 6000 := hlen
 rw [dec_Parse_run (numS n) (by omega)] at hp
 have hp1 : (numS n).length ≤ 400 := by
  by_cases c : 400 < (numS n).length
  ·rw [if_pos c] at hp
   injection hp with hp
   injection hp with _ hp
   exact absurd hp (by decide)
  ·omega
 refine ⟨?_, hp1, ?_⟩
 ·rw [if_neg (by omega)] at hp
  unfold numT
  cases w : decP (numS n) with
  | none =>
   rw [w] at hp
   have h2 : (2 : Int) = 0 := congrArg (fun x : Option (Rat × Int) => match x with | some y => y.2 | none => 5) hp
   exact absurd h2 (by decide)
  | some x =>
   rw [w] at hp
   injection hp with hp
   exact congrArg Prod.fst hp
 ·obtain ⟨j, _, _, _, e⟩ := exactS_ok _ _ _ hd 61 0 _ hx
  rw [hnn, h2] at e
  have e : numS n = ptd (pr (nv n.2.1 * 10 ^ j / nv n.2.2.1)) j := e
  by_cases hj : j = 0
  ·subst hj
   refine ⟨numS n, ?_, ?_, .inl rfl⟩
   ·rw [e]; unfold ptd; rw [if_pos rfl]; exact (pr_digs _).1
   ·rw [e]; unfold ptd; rw [if_pos rfl]; exact pr_ne _
  ·obtain ⟨w, p, e2, h5, h6, h7, h8, _, _⟩ := ptd_parts (pr (nv n.2.1 * 10 ^ j / nv n.2.2.1)) j hj (pr_digs _).1
   exact ⟨w, h5, h6, .inr ⟨p, h7, by rintro rfl; simp at h8; omega, by rw [e, e2]⟩⟩
theorem numS_head {n : Rat} (hn : numOk n) (h : isNumB n = true) : ∃ c r, numS n = c :: r ∧ isD c = true := by
 obtain ⟨_, _, w, h1, h2, h3⟩ := numS_parts hn h
 cases w with
 | nil => exact absurd rfl h2
 | cons c w =>
  have hc : isD c = true := by rw [digs_cons, Bool.and_eq_true] at h1; exact h1.1
  rcases h3 with e | ⟨p, _, _, e⟩
  ·exact ⟨c, w, e, hc⟩
  ·exact ⟨c, w ++ 46 :: p, e, hc⟩
theorem numP_text {n : Rat} (hn : numOk n) (h : isNumB n = true) (d : Nat) (l : Bool) {q : Str} (hq : sepB q = true) : numP zeroR d (numS n ++ q) l = .ok (.mk 1 (norm n) [] []) q l := by
 obtain ⟨ht, hlen, w, h1, h2, h3⟩ := numS_parts hn h
 have hs := sep_head hq
 have hs' : ∀ c r, q = c :: r → isD c = false := by
  intro c r e
  cases hc : isD c with
  | false => rfl
  | true => have := (hs c r e).1; rw [isD_in hc] at this; cases this
 have fin : ∀ r, finN zeroR (numS n) r l = .ok (.mk 1 (norm n) [] []) r l := fun r => by
  unfold finN
  rw [if_neg (by omega), ht]
 rcases h3 with e | ⟨p, h4, h5, e⟩
 ·obtain ⟨t1, t2⟩ := takeWhile_digs (u := numS n) (by rw [e]; exact h1) q hs'
  unfold numP
  rw [t1, t2]
  cases q with
  | nil => exact fin _
  | cons c r =>
   dsimp only
   rw [if_neg (hs c r rfl).2]
   exact fin _
 ·have e2 : numS n ++ q = w ++ 46 :: (p ++ q) := by rw [e, List.append_assoc]; rfl
  obtain ⟨t1, t2⟩ := takeWhile_digs h1 (46 :: (p ++ q)) (fun c r z => by cases z; decide)
  obtain ⟨t3, t4⟩ := takeWhile_digs h4 q hs'
  unfold numP
  rw [e2, t1, t2]
  dsimp only
  rw [if_pos rfl, t3, t4, if_neg h5, ← e]
  exact fin _
theorem lexW_name : ∀ (n : Nat) (s q : Str), s.length ≤ n → s.all isIn = true → sepB q = true → lexW isIn n (s ++ q) = (s, q)
 | 0, [], q, _, _, _ => rfl
 | 0, _ :: _, _, h, _, _ => by simp at h
 | n + 1, [], [], _, _, _ => rfl
 | n + 1, [], c :: q, _, _, hq => by
  have := (sep_head hq c q rfl).1
  show (if isIn c = true then _ else ([], c :: q)) = _
  rw [if_neg (by rw [this]; simp)]
 | n + 1, c :: s, q, h, ha, hq => by
  rw [List.all_cons, Bool.and_eq_true] at ha
  have ih := lexW_name n s q (by simpa using h) ha.2 hq
  show (if isIn c = true then (c :: (lexW isIn n (s ++ q)).1, (lexW isIn n (s ++ q)).2) else _) = _
  rw [if_pos ha.1, ih]
theorem nameOk_parts {s : Str} (h : nameOk s = true) : s.length ≤ 24 ∧ s.all isIn = true ∧ ∃ c r, s = c :: r ∧ isL c = true := by
 have h2 := nameOk_len h
 refine ⟨h2.1, h2.2, ?_⟩
 cases s with
 | nil => cases h
 | cons c r =>
  unfold nameOk at h
  dsimp only at h
  rw [Bool.and_eq_true, Bool.and_eq_true] at h
  exact ⟨c, r, rfl, h.2.1⟩
theorem namP_text {s : Str} (h : nameOk s = true) (l : Bool) {q : Str} (hq : sepB q = true) : namP (s ++ q) l = .ok (.mk 2 zeroR s []) q l := by
 obtain ⟨h1, h2, _⟩ := nameOk_parts h
 unfold namP
 rw [lexW_name 24 s q h1 h2 hq]
mutual
/-- The same expression, as it is read. -/
def canE : Expr → Expr
 | .mk k n s l => if k = 1 then .mk 1 (norm n) [] [] else if k = 2 then .mk 2 zeroR s [] else nodeE k (canL l)
def canL : List Expr → List Expr
 | [] => []
 | e :: r => canE e :: canL r
end
theorem skS_ne {c : UInt8} {r : Str} (h : c ≠ 32) : skS (c :: r) = c :: r := by unfold skS; rw [if_neg h]
theorem skS_bl (r : Str) : skS (32 :: r) = skS r := by conv => lhs; unfold skS; rw [if_pos rfl]
theorem isD_32 {c : UInt8} (h : isD c = true) : c ≠ 32 := by rintro rfl; revert h; decide
theorem isL_32 {c : UInt8} (h : isL c = true) : c ≠ 32 := by rintro rfl; revert h; decide
theorem node_of {d : Nat} {k : Int} {n : Rat} {s : Str} {l : List Expr} (ho : okE d (.mk k n s l) = true) :
  (k = 1 ∧ l = [] ∧ isNumB n = true ∧ s = []) ∨ (k = 2 ∧ l = [] ∧ nameOk s = true ∧ isNoneB n = true) ∨ (k = 7 ∧ (∃ a, l = [a] ∧ okE (d + 1) a = true) ∧ isNoneB n = true ∧ s = []) ∨ ((k = 3 ∨ k = 4 ∨ k = 5 ∨ k = 6) ∧ (∃ a b, l = [a, b] ∧ okE (d + 1) a = true ∧ okE (d + 1) b = true) ∧ isNoneB n = true ∧ s = []) := by
 obtain ⟨hk, hl⟩ := okE_kids ho
 have ho : (decide (d < 32) && (nodeB (.mk k n s l) && okEs (d + 1) l)) = true := ho
 simp only [Bool.and_eq_true] at ho
 have hb0 := ho.2.1
 unfold nodeB at hb0
 rw [Bool.and_eq_true] at hb0
 have hb := hb0.2
 clear hb0
 rw [show Expr.kind (.mk k n s l) = k from rfl, show Expr.num (.mk k n s l) = n from rfl, show Expr.name (.mk k n s l) = s from rfl] at hb
 have nil_of : (l.length : Int) = 0 → l = [] := fun h => List.eq_nil_of_length_eq_zero (by omega)
 by_cases h1 : k = 1
 ·rw [if_pos h1, Bool.and_eq_true, strEq_iff, decide_eq_true_eq] at hb
  refine .inl ⟨h1, nil_of ?_, hb.1, hb.2⟩
  rw [hk]; unfold kidsN; rw [if_pos (.inl h1)]
 ·rw [if_neg h1] at hb
  by_cases h2 : k = 2
  ·rw [if_pos h2, Bool.and_eq_true] at hb
   refine .inr (.inl ⟨h2, nil_of ?_, hb.2, hb.1⟩)
   rw [hk]; unfold kidsN; rw [if_pos (.inr h2)]
  ·rw [if_neg h2, Bool.and_eq_true, strEq_iff, decide_eq_true_eq] at hb
   rcases kids_of hk h1 h2 with ⟨h7, a, rfl⟩ | ⟨h36, a, b, rfl⟩
   ·have hl : (okE (d + 1) a && okEs (d + 1) []) = true := hl
    rw [Bool.and_eq_true] at hl
    exact .inr (.inr (.inl ⟨h7, ⟨a, rfl, hl.1⟩, hb.1, hb.2⟩))
   ·have hl : (okE (d + 1) a && (okE (d + 1) b && okEs (d + 1) [])) = true := hl
    rw [Bool.and_eq_true, Bool.and_eq_true] at hl
    exact .inr (.inr (.inr ⟨h36, ⟨a, b, rfl, hl.1, hl.2.1⟩, hb.1, hb.2⟩))
theorem okE_lt {d : Nat} {e : Expr} (h : okE d e = true) : d < 32 := by
 cases e with | mk k n s l =>
 have h : (decide (d < 32) && (nodeB (.mk k n s l) && okEs (d + 1) l)) = true := h
 rw [Bool.and_eq_true, decide_eq_true_eq] at h
 exact h.1
structure RdE (e : Expr) (p : Nat) : Prop where
 sum : ∀ q l R, sepB q = true → takeS [42, 47] q = none → RS p (canE e) q l R → SS p l (prE e ++ q) R
 pro : 2 ≤ bindsK e.kind → ∀ q l R, sepB q = true → RP p (canE e) q l R → SP p l (prE e ++ q) R
 fac : 3 ≤ bindsK e.kind → ∀ q l, sepB q = true → SF p l (prE e ++ q) (.ok (canE e) q l)
theorem RdE.of_fac {e : Expr} {p : Nat} (h : ∀ q l, sepB q = true → SF p l (prE e ++ q) (.ok (canE e) q l)) : RdE e p where
 sum q l R hq ht hR := SS_of (SP_of (h q l hq) (RP_stop ht)) (RS_sk hR)
 pro _ q l R hq hR := SP_of (h q l hq) hR
 fac _ q l hq := h q l hq
theorem RdE.of_pro {e : Expr} {p : Nat} (hb : bindsK e.kind ≤ 2) (h : ∀ q l R, sepB q = true → RP p (canE e) q l R → SP p l (prE e ++ q) R) : RdE e p where
 sum q l R hq ht hR := SS_of (h q l _ hq (RP_stop ht)) (RS_sk hR)
 pro _ q l R hq hR := h q l R hq hR
 fac h3 := by omega
theorem RdE.par {e : Expr} {p : Nat} (h : RdE e (p + 1)) (hp : p < 31) (q : Str) (l : Bool) : SF p l ([40] ++ prE e ++ [41] ++ q) (.ok (canE e) q l) := by
 have hs : skS ([40] ++ prE e ++ [41] ++ q) = 40 :: (prE e ++ (41 :: q)) := by
  rw [show [40] ++ prE e ++ [41] ++ q = 40 :: (prE e ++ (41 :: q)) by simp, skS_ne (by decide)]
 have h41 : skS (41 :: q) = 41 :: q := skS_ne (by decide)
 have t1 : takeS [42, 47] (41 :: q) = none := by unfold takeS; rw [h41]; rfl
 have t2 : takeS [43, 45] (41 :: q) = none := by unfold takeS; rw [h41]; rfl
 exact SF_par hs hp (h.sum (41 :: q) l _ rfl t1 (RS_stop t2)) (by rw [h41, h41])
theorem kid_fac {a : Expr} {p : Nat} (h0 : 3 ≤ bindsK a.kind → RdE a p) (h1 : bindsK a.kind < 3 → RdE a (p + 1) ∧ p < 31) (q : Str) (l : Bool) (hq : sepB q = true) : SF p l (parS (decide (bindsK a.kind < 3)) (prE a) ++ q) (.ok (canE a) q l) := by
 by_cases c : bindsK a.kind < 3
 ·rw [decide_eq_true c]
  exact (h1 c).1.par (h1 c).2 q l
 ·rw [decide_eq_false c]
  exact (h0 (by omega)).fac (by omega) q l hq
theorem kid_pro {a : Expr} {p : Nat} (h0 : 2 ≤ bindsK a.kind → RdE a p) (h1 : bindsK a.kind < 2 → RdE a (p + 1) ∧ p < 31) (q : Str) (l : Bool) (R : PR) (hq : sepB q = true) (hR : RP p (canE a) q l R) : SP p l (parS (decide (bindsK a.kind < 2)) (prE a) ++ q) R := by
 by_cases c : bindsK a.kind < 2
 ·rw [decide_eq_true c]
  exact SP_of ((h1 c).1.par (h1 c).2 q l) hR
 ·rw [decide_eq_false c]
  exact (h0 (by omega)).pro (by omega) q l R hq hR
theorem binds_ge (k : Int) : 1 ≤ bindsK k := by unfold bindsK; (repeat' split) <;> omega
theorem two_deep {d : Nat} {e : Expr} (ho : okE d e = true) (hb : bindsK e.kind < 3) : d + 1 < 32 := by
 cases e with | mk k n s l =>
 have hb : bindsK k < 3 := hb
 rcases node_of ho with ⟨rfl, _⟩ | ⟨rfl, _⟩ | ⟨rfl, _⟩ | ⟨_, ⟨a, b, _, hoa, _⟩, _⟩
 ·exact absurd hb (by decide)
 ·exact absurd hb (by decide)
 ·exact absurd hb (by decide)
 ·exact okE_lt hoa
def limE (d : Nat) (e : Expr) : Nat := if bindsK e.kind < 3 then d + 1 else d
theorem rd_all : ∀ (m : Nat) (e : Expr) (d p : Nat), ndE e ≤ m → okE d e = true → allOk e → p ≤ limE d e → RdE e p := by
 intro m
 induction m with
 | zero => intro e d p hm; have := ndE_pos e; omega
 | succ m ih =>
  intro e d p hm ho ha hp
  cases e with | mk k n s l =>
  have hn := ha.1
  rcases node_of ho with ⟨rfl, rfl, h1, rfl⟩ | ⟨rfl, rfl, h1, h2⟩ | ⟨rfl, ⟨a, rfl, hoa⟩, h1, rfl⟩ | ⟨hk, ⟨a, b, rfl, hoa, hob⟩, h1, rfl⟩
  ·refine RdE.of_fac fun q l hq => ?_
   show SF p l (numS n ++ q) (.ok (.mk 1 (norm n) [] []) q l)
   obtain ⟨c, r, e, hc⟩ := numS_head hn h1
   have hs : skS (numS n ++ q) = c :: (r ++ q) := by rw [e, List.cons_append, skS_ne (isD_32 hc)]
   have := SF_num (d := p) (l := l) hs hc
   rw [show c :: (r ++ q) = numS n ++ q by rw [e]; rfl, numP_text hn h1 p l hq] at this
   exact this
  ·refine RdE.of_fac fun q l hq => ?_
   show SF p l (s ++ q) (.ok (.mk 2 zeroR s []) q l)
   obtain ⟨_, _, c, r, e, hc⟩ := nameOk_parts h1
   have hs : skS (s ++ q) = c :: (r ++ q) := by rw [e, List.cons_append, skS_ne (isL_32 hc)]
   have := SF_nam (d := p) (l := l) hs hc
   rw [show c :: (r ++ q) = s ++ q by rw [e]; rfl, namP_text h1 l hq] at this
   exact this
  ·have hd := okE_lt hoa
   have hp : p ≤ d := hp
   have e0 : ndE (.mk 7 n [] [a]) = 1 + (ndE a + 0) := rfl
   refine RdE.of_fac fun q l hq => ?_
   show SF p l ([45] ++ parS (decide (bindsK a.kind < 3)) (prE a) ++ q) (.ok (nodeE 7 [canE a]) q l)
   rw [List.append_assoc]
   refine SF_neg (skS_ne (by decide)) (by omega) ?_
   refine kid_fac (fun h => ih a (d + 1) (p + 1) (by omega) hoa ha.2.1 ?_) (fun h => ⟨ih a (d + 1) (p + 1 + 1) (by omega) hoa ha.2.1 ?_, ?_⟩) q l hq
   ·unfold limE; split <;> omega
   ·unfold limE; rw [if_pos h]; omega
   ·have := two_deep hoa h; omega
  ·have e0 : ndE (.mk k n [] [a, b]) = 1 + (ndE a + (ndE b + 0)) := rfl
   have hd := okE_lt hoa
   have hp : p ≤ d + 1 := by
    have h : p ≤ limE d (.mk k n [] [a, b]) := hp
    unfold limE at h
    split at h <;> omega
   have ka0 : RdE a p := ih a (d + 1) p (by omega) hoa ha.2.1 (by unfold limE; split <;> omega)
   have kb0 : RdE b p := ih b (d + 1) p (by omega) hob ha.2.2.1 (by unfold limE; split <;> omega)
   have ka1 : bindsK a.kind < 3 → RdE a (p + 1) ∧ p < 31 := fun h => ⟨ih a (d + 1) (p + 1) (by omega) hoa ha.2.1 (by unfold limE; rw [if_pos h]; omega), by have := two_deep hoa h; omega⟩
   have kb1 : bindsK b.kind < 3 → RdE b (p + 1) ∧ p < 31 := fun h => ⟨ih b (d + 1) (p + 1) (by omega) hob ha.2.2.1 (by unfold limE; rw [if_pos h]; omega), by have := two_deep hob h; omega⟩
   -- sums
   have sums : ∀ (c : UInt8) (k : Int), (c = 43 ∧ k = 3) ∨ (c = 45 ∧ k = 4) → ∀ q l R, sepB q = true → takeS [42, 47] q = none → RS p (nodeE k [canE a, canE b]) q l R → SS p l (prE a ++ ([32, c, 32] ++ (parS (decide (bindsK b.kind < 2)) (prE b) ++ q))) R := by
    intro c k hck q l R hq ht hR
    have hc32 : c ≠ 32 := by rcases hck with ⟨rfl, _⟩ | ⟨rfl, _⟩ <;> decide
    have hcm : [43, 45].contains c = true := by rcases hck with ⟨rfl, _⟩ | ⟨rfl, _⟩ <;> decide
    have hcp : [42, 47].contains c = false := by rcases hck with ⟨rfl, _⟩ | ⟨rfl, _⟩ <;> decide
    have hkk : (if c = 43 then (3 : Int) else 4) = k := by rcases hck with ⟨rfl, rfl⟩ | ⟨rfl, rfl⟩ <;> decide
    generalize hB : parS (decide (bindsK b.kind < 2)) (prE b) ++ q = B
    have hsk : skS ([32, c, 32] ++ B) = c :: 32 :: B := by
     show skS (32 :: c :: 32 :: B) = _
     rw [skS_bl, skS_ne hc32]
    have t1 : takeS [42, 47] ([32, c, 32] ++ B) = none := by unfold takeS; rw [hsk]; dsimp only; rw [if_neg (by rw [hcp]; simp)]
    have t2 : takeS [43, 45] ([32, c, 32] ++ B) = some (c, 32 :: B) := by unfold takeS; rw [hsk]; dsimp only; rw [if_pos hcm]
    refine ka0.sum _ l R rfl t1 (RS_step t2 (SP_sk (kid_pro (fun _ => kb0) (fun h => kb1 (by omega)) q l _ hq (RP_stop ht)) (by rw [skS_bl, hB])) ?_)
    rw [hkk]
    exact RS_sk hR
   have pros : ∀ (c : UInt8) (k : Int), (c = 42 ∧ k = 5) ∨ (c = 47 ∧ k = 6) → ∀ q l R, sepB q = true → RP p (nodeE k [canE a, canE b]) q l R → SP p l (parS (decide (bindsK a.kind < 2)) (prE a) ++ ([32, c, 32] ++ (parS (decide (bindsK b.kind < 3)) (prE b) ++ q))) R := by
    intro c k hck q l R hq hR
    have hc32 : c ≠ 32 := by rcases hck with ⟨rfl, _⟩ | ⟨rfl, _⟩ <;> decide
    have hcp : [42, 47].contains c = true := by rcases hck with ⟨rfl, _⟩ | ⟨rfl, _⟩ <;> decide
    have hkk : (if c = 42 then (5 : Int) else 6) = k := by rcases hck with ⟨rfl, rfl⟩ | ⟨rfl, rfl⟩ <;> decide
    generalize hB : parS (decide (bindsK b.kind < 3)) (prE b) ++ q = B
    have hsk : skS ([32, c, 32] ++ B) = c :: 32 :: B := by
     show skS (32 :: c :: 32 :: B) = _
     rw [skS_bl, skS_ne hc32]
    have t2 : takeS [42, 47] ([32, c, 32] ++ B) = some (c, 32 :: B) := by unfold takeS; rw [hsk]; dsimp only; rw [if_pos hcp]
    refine kid_pro (fun _ => ka0) (fun h => ka1 (by omega)) _ l R rfl (RP_step t2 (SF_sk (kid_fac (fun _ => kb0) kb1 q l hq) (by rw [skS_bl, hB])) ?_)
    rw [hkk]
    exact hR
   have s1 : ∀ q : Str, decide (bindsK a.kind < 1) = false := fun _ => decide_eq_false (by have := binds_ge a.kind; omega)
   rcases hk with rfl | rfl | rfl | rfl
   ·refine ⟨fun q l R hq ht hR => ?_, fun h => absurd h (show ¬ 2 ≤ bindsK 3 by decide), fun h => absurd h (show ¬ 3 ≤ bindsK 3 by decide)⟩
    have := sums 43 3 (.inl ⟨rfl, rfl⟩) q l R hq ht hR
    show SS p l (parS (decide (bindsK a.kind < 1)) (prE a) ++ [32, 43, 32] ++ parS (decide (bindsK b.kind < 2)) (prE b) ++ q) R
    rw [s1 [], List.append_assoc, List.append_assoc]
    exact this
   ·refine ⟨fun q l R hq ht hR => ?_, fun h => absurd h (show ¬ 2 ≤ bindsK 4 by decide), fun h => absurd h (show ¬ 3 ≤ bindsK 4 by decide)⟩
    have := sums 45 4 (.inr ⟨rfl, rfl⟩) q l R hq ht hR
    show SS p l (parS (decide (bindsK a.kind < 1)) (prE a) ++ [32, 45, 32] ++ parS (decide (bindsK b.kind < 2)) (prE b) ++ q) R
    rw [s1 [], List.append_assoc, List.append_assoc]
    exact this
   ·refine RdE.of_pro (show bindsK 5 ≤ 2 by decide) fun q l R hq hR => ?_
    have := pros 42 5 (.inl ⟨rfl, rfl⟩) q l R hq hR
    show SP p l (parS (decide (bindsK a.kind < 2)) (prE a) ++ [32, 42, 32] ++ parS (decide (bindsK b.kind < 3)) (prE b) ++ q) R
    rw [List.append_assoc, List.append_assoc]
    exact this
   ·refine RdE.of_pro (show bindsK 6 ≤ 2 by decide) fun q l R hq hR => ?_
    have := pros 47 6 (.inr ⟨rfl, rfl⟩) q l R hq hR
    show SP p l (parS (decide (bindsK a.kind < 2)) (prE a) ++ [32, 47, 32] ++ parS (decide (bindsK b.kind < 3)) (prE b) ++ q) R
    rw [List.append_assoc, List.append_assoc]
    exact this
theorem rdE (e : Expr) (p : Nat) (h : okE p e = true) (ha : allOk e) : RdE e p := rd_all (ndE e) e p p (Nat.le_refl _) h ha (by unfold limE; split <;> omega)
end Go.AM.Lf
namespace Go.AM.Lf
open PL
theorem isNone_norm {n : Rat} (h : isNoneB n = true) : norm n = norm zeroR := by
 unfold isNoneB at h
 simp only [Bool.and_eq_true, List.isEmpty_iff] at h
 have : nv n.2.1 = 0 := by rw [h.2.1]; rfl
 unfold norm
 have z : ∀ b d, ratN b 0 d = (false, [], [1], ()) := fun b d => by unfold ratN; rw [if_pos (.inl rfl)]
 rw [this, z, show nv zeroR.2.1 = 0 from rfl, z]
structure CanE (d : Nat) (e : Expr) : Prop where
 ok : okE d (canE e) = true
 same : sameE e (canE e) = true
 pr : prE (canE e) = prE e
 kind : (canE e).kind = e.kind
 nd : ndE (canE e) = ndE e
 good : exGood (canE e)
 sz : szE (canE e) ≤ szE e
 len : (prE e).length ≤ 410 * ndE e
theorem okE_mk {d : Nat} {k : Int} {n : Rat} {s : Str} {l : List Expr} (h1 : d < 32) (h2 : nodeB (.mk k n s l) = true) (h3 : okEs (d + 1) l = true) : okE d (.mk k n s l) = true := by
 show (decide (d < 32) && (nodeB (.mk k n s l) && okEs (d + 1) l)) = true
 rw [decide_eq_true h1, h2, h3]; rfl
theorem prE_eq (k : Int) (n : Rat) (s : Str) (l : List Expr) : prE (.mk k n s l) = if k = 1 then (exactS (norm n).1 (nv (norm n).2.1) (nv (norm n).2.2.1) 0 61).1 else if k = 2 then s else joinK k (prL l) := rfl
theorem prE_nam (n : Rat) (s : Str) (l : List Expr) : prE (.mk 2 n s l) = s := by
 rw [prE_eq, if_neg (by decide), if_pos rfl]
theorem prE_neg (n : Rat) (s : Str) (a : Expr) : prE (.mk 7 n s [a]) = [45] ++ parS (decide (bindsK a.kind < 3)) (prE a) := by
 rw [prE_eq, if_neg (by decide), if_neg (by decide)]; rfl
theorem can_all : ∀ (m : Nat) (e : Expr) (d : Nat), ndE e ≤ m → okE d e = true → allOk e → CanE d e := by
 intro m
 induction m with
 | zero => intro e d hm; have := ndE_pos e; omega
 | succ m ih =>
  intro e d hm ho ha
  have hd := okE_lt ho
  cases e with | mk k n s l =>
  have hn := ha.1
  rcases node_of ho with ⟨rfl, rfl, h1, rfl⟩ | ⟨rfl, rfl, h1, h2⟩ | ⟨rfl, ⟨a, rfl, hoa⟩, h1, rfl⟩ | ⟨hk, ⟨a, b, rfl, hoa, hob⟩, h1, rfl⟩
  ·have hnn := isRb_norm hn (isNumB_of h1).1
   have e1 : canE (.mk 1 n [] []) = .mk 1 n [] [] := by
    show Expr.mk 1 (norm n) [] [] = _
    rw [hnn]
   have hl := (numS_parts hn h1).2.1
   refine ⟨by rw [e1]; exact ho, by rw [e1]; exact sameE_refl _, by rw [e1], by rw [e1], by rw [e1], by rw [e1]; exact leaf_good 1 n [] hn (by simp), by rw [e1]; exact Nat.le_refl _, ?_⟩
   have e2 : ndE (.mk 1 n [] []) = 1 := rfl
   have e3 : prE (.mk 1 n [] []) = numS n := rfl
   rw [e2, e3]
   omega
  ·have e1 : canE (.mk 2 n s []) = .mk 2 zeroR s [] := rfl
   have hl := (nameOk_parts h1).1
   refine ⟨?_, ?_, by rw [e1, prE_nam, prE_nam], rfl, rfl, leaf_good 2 zeroR s zeroR_nok hl, ?_, ?_⟩
   ·rw [e1]
    refine okE_mk hd ?_ rfl
    show ((((0 : Nat) : Int) == kidsN 2) && (isNoneB zeroR && nameOk s)) = true
    rw [h1]; rfl
   ·rw [e1]
    show (((2 : Int) == 2) && (strEq s s && (sameR n zeroR && true))) = true
    rw [strEq_same, sameR_iff.2 (isNone_norm h2)]; rfl
   ·have e2 : szE (.mk 2 n s []) = 3 + s.length + 8 * n.2.1.length + 8 * n.2.2.1.length + 0 := rfl
    have e3 : szE (canE (.mk 2 n s [])) = 3 + s.length + 0 + 0 + 0 := rfl
    rw [e2, e3]
    omega
   ·have e2 : ndE (.mk 2 n s []) = 1 := rfl
    have e3 := prE_nam n s []
    rw [e2, e3]
    omega
  ·have e0 : ndE (.mk 7 n [] [a]) = 1 + (ndE a + 0) := rfl
   have ka := ih a (d + 1) (by omega) hoa ha.2.1
   refine ⟨?_, ?_, ?_, rfl, ?_, node1_good 7 ka.good, ?_, ?_⟩
   ·refine okE_mk hd rfl ?_
    show (okE (d + 1) (canE a) && true) = true
    rw [ka.ok]; rfl
   ·show (((7 : Int) == 7) && (strEq [] [] && (sameR n zeroR && (sameE a (canE a) && true)))) = true
    rw [strEq_same, sameR_iff.2 (isNone_norm h1), ka.same]; rfl
   ·rw [show canE (.mk 7 n [] [a]) = .mk 7 zeroR [] [canE a] from rfl, prE_neg, prE_neg, ka.pr, ka.kind]
   ·show 1 + (ndE (canE a) + 0) = 1 + (ndE a + 0)
    rw [ka.nd]
   ·have := ka.sz
    have e2 : szE (.mk 7 n [] [a]) = 3 + 0 + 8 * n.2.1.length + 8 * n.2.2.1.length + (szE a + 0) := rfl
    have e3 : szE (canE (.mk 7 n [] [a])) = 3 + 0 + 0 + 0 + (szE (canE a) + 0) := rfl
    rw [e2, e3]
    omega
   ·have := ka.len
    have hp := parS_len (decide (bindsK a.kind < 3)) (prE a)
    have e3 := prE_neg n [] a
    rw [e0, e3, List.length_append, List.length_singleton]
    omega
  ·have e0 : ndE (.mk k n [] [a, b]) = 1 + (ndE a + (ndE b + 0)) := rfl
   have ka := ih a (d + 1) (by omega) hoa ha.2.1
   have kb := ih b (d + 1) (by omega) hob ha.2.2.1
   have k1 : k ≠ 1 := by omega
   have k2 : k ≠ 2 := by omega
   have e1 : canE (.mk k n [] [a, b]) = nodeE k [canE a, canE b] := by
    show (if k = 1 then _ else if k = 2 then _ else nodeE k (canL [a, b])) = _
    rw [if_neg k1, if_neg k2]; rfl
   have p1 : ∀ (n : Rat) (a b : Expr), prE (.mk k n [] [a, b]) = parS (decide (bindsK a.kind < bindsK k)) (prE a) ++ markK k ++ parS (decide (bindsK b.kind < bindsK k + 1)) (prE b) := by
    intro n a b
    rw [prE_eq, if_neg k1, if_neg k2]; rfl
   refine ⟨?_, ?_, ?_, by rw [e1]; rfl, ?_, by rw [e1]; exact node2_good k ka.good kb.good, ?_, ?_⟩
   ·rw [e1]
    refine okE_mk hd ?_ ?_
    ·rcases hk with rfl | rfl | rfl | rfl <;> rfl
    ·show (okE (d + 1) (canE a) && (okE (d + 1) (canE b) && true)) = true
     rw [ka.ok, kb.ok]; rfl
   ·rw [e1]
    show ((k == k) && (strEq [] [] && (sameR n zeroR && (sameE a (canE a) && (sameE b (canE b) && true))))) = true
    rw [strEq_same, sameR_iff.2 (isNone_norm h1), ka.same, kb.same]; simp
   ·rw [e1]
    show prE (.mk k zeroR [] [canE a, canE b]) = _
    rw [p1, p1, ka.pr, kb.pr, ka.kind, kb.kind]
   ·rw [e1, nd2, ka.nd, kb.nd, e0]; omega
   ·rw [e1]
    have := ka.sz
    have := kb.sz
    have e2 : szE (.mk k n [] [a, b]) = 3 + 0 + 8 * n.2.1.length + 8 * n.2.2.1.length + (szE a + (szE b + 0)) := rfl
    have e3 : szE (nodeE k [canE a, canE b]) = 3 + 0 + 0 + 0 + (szE (canE a) + (szE (canE b) + 0)) := rfl
    rw [e2, e3]
    omega
   ·rw [p1, e0, List.length_append, List.length_append]
    have := ka.len
    have := kb.len
    have := parS_len (decide (bindsK a.kind < bindsK k)) (prE a)
    have := parS_len (decide (bindsK b.kind < bindsK k + 1)) (prE b)
    have := markK_len k
    omega
theorem canE_ok (e : Expr) (d : Nat) (ho : okE d e = true) (ha : allOk e) : CanE d e := can_all (ndE e) e d (Nat.le_refl _) ho ha
theorem isE_parts {e : Expr} (h : isE e = true) : okE 0 e = true ∧ ndE e ≤ 256 := by
 unfold isE at h
 rw [Bool.and_eq_true, decide_eq_true_eq] at h
 exact h
theorem isE_can {e : Expr} (h : isE e = true) (ha : allOk e) : isE (canE e) = true := by
 obtain ⟨h1, h2⟩ := isE_parts h
 have := canE_ok e 0 h1 ha
 unfold isE
 rw [this.ok, this.nd, decide_eq_true h2]; rfl
theorem parse_pr {e : Expr} (h : isE e = true) (ha : allOk e) : parseE (prE e) = (canE e, ((0 : Int), (0 : Int))) := by
 obtain ⟨h1, h2⟩ := isE_parts h
 have hs := (rdE e 0 h1 ha).sum [] false (.ok (canE e) [] false) rfl rfl (RS_stop rfl)
 rw [List.append_nil] at hs
 unfold parseE
 rw [SS_top hs]
 unfold parA topP
 dsimp only
 rw [if_neg (by decide), isE_can h ha, if_neg (by simp)]
end Go.AM.Lf
namespace Go.AM.Lf
open PL
mutual
theorem sz_bk : ∀ (e : Expr), szE e ≤ 8 * bkE e
 | .mk k n s l => by
  have := szs_bks l
  show 3 + s.length + 8 * n.2.1.length + 8 * n.2.2.1.length + szEs l ≤ 8 * (1 + ((1 + ((List.length n.2.1 + 1) + ((List.length n.2.2.1 + 1) + 1))) + ((List.length s + 1) + ((bkEs l + 1) + 1))))
  omega
theorem szs_bks : ∀ (l : List Expr), szEs l ≤ 8 * bkEs l
 | [] => Nat.le_refl _
 | e :: r => by
  have := sz_bk e
  have := szs_bks r
  show szE e + szEs r ≤ 8 * (bkE e + bkEs r)
  omega
end
theorem parseE_is {s : Str} {e : Expr} {a : Int} (h : parseE s = (e, (a, (0 : Int)))) : isE e = true := by
 unfold parseE parA at h
 split at h
 ·rename_i c
  injection h with _ h
  injection h with _ h
  exact absurd h c
 ·split at h
  ·injection h with _ h
   injection h with _ h
   exact absurd h (by decide)
  ·rename_i c
   injection h with h _
   rw [← h]
   cases q : isE (topP s (sumZ zeroR s)).1 with
   | true => rfl
   | false => exact absurd (.inr q) c
theorem law5_ExprSettles_run (s : Str) : (law5_ExprSettles s).run = some true := by
 unfold law5_ExprSettles
 by_cases c : 600 < s.length
 ·rw [T.run_ite_t (decide_eq_true (by omega)), T.run_ret]
 ·have hg := parseE_good s
  have hP := Parse_run s (by omega)
  have hQ := ref5_Parse_run s (by omega)
  rw [T.run_ite_f (decide_eq_false (by omega)), T.run_bind_of hP]
  cases q : parseE s with
  | mk e z =>
   obtain ⟨at_, x⟩ := z
   rw [q] at hg hQ
   dsimp only at hg ⊢
   by_cases hx : x = 0
   ·subst hx
    have hI := parseE_is q
    obtain ⟨h1, h2⟩ := isE_parts hI
    have ha := hg.1.1
    have hc := canE_ok e 0 h1 ha
    have hlen := hc.len
    have hbk := hg.1.2
    have hsz := sz_bk e
    have hsz2 := hc.sz
    have p1 := Print_all e ha (by omega)
    rw [hI, if_pos rfl] at p1
    have p2 := Print_all (canE e) hc.good.1 (by omega)
    rw [isE_can hI ha, if_pos rfl, hc.pr] at p2
    have hS := ref5_Same_run e (canE e) ha hc.good.1 (by omega)
    rw [hc.same] at hS
    have hIs := IsAll_run e ha (by omega)
    rw [hI] at hIs
    rw [T.run_ite_f (by rfl), T.run_bind_of p1, T.run_bind_of (Parse_run _ (by omega)), parse_pr hI ha]
    dsimp only
    rw [T.run_ite_t (by rfl), T.run_bind_of hS, T.run_ite_true, T.run_bind_of p2, T.run_ite_t (strEq_same _), T.run_bind_of hIs, T.run_ite_true, T.run_bind_of known5_run, T.run_ret]
   ·have e1 : (x != (0 : Int)) = true := by simpa using hx
    rw [T.run_ite_t e1, T.run_bind_of hQ]
    dsimp only
    rw [T.run_ite_t e1, T.run_bind_of known5_run, T.run_ret]
theorem law5_ExprSettles_law (x : denL [.str]) (hw : wfL [.str] x) (hb : bkL [.str] x ≤ 1048576) : (law5_ExprSettles (toPs [.str] x)).run = some true := law5_ExprSettles_run x.1
end Go.AM.Lf
