/-
  Plain laws of the lifted program, part 1.
-/
import Derived.Test.YtalglafbfldajaaGreatDoorLf0
import Derived.Test.YtalglafbfldajaaGreatDoorAmA
import Derived.Test.YtalglafbfldajaaGreatDoorAmD
import Derived.Test.YtalglafbfldajaaGreatDoorQ0
set_option linter.unusedVariables false
namespace Go.AM.PL
theorem isD_dgt (n : Nat) : isD (dgt n) = true ∧ (dgt n).toNat - 48 = n % 10 := by
 have h : (dgt n).toNat = 48 + n % 10 := by unfold dgt; rw [UInt8.toNat_ofNat']; omega
 exact ⟨isD_iff.2 (by omega), by omega⟩
theorem dgz_digs (n : Nat) : digs (dgz n) = true ∧ dval (dgz n) = n := by
 induction n using Nat.strongRecOn with
 | _ n ih =>
  by_cases h : n = 0
  ·subst h; rw [dgz_zero]; exact ⟨rfl, rfl⟩
  ·obtain ⟨h1, h2⟩ := ih (n / 10) (by omega)
   obtain ⟨h3, h4⟩ := isD_dgt n
   rw [dgz_pos h]
   refine ⟨by rw [digs_app, h1, digs_cons, h3]; rfl, ?_⟩
   rw [dval_snoc, h2, h4]; omega
theorem pr_digs (n : Nat) : digs (pr n) = true ∧ dval (pr n) = n := by
 unfold pr
 split
 ·rename_i h; subst h; exact ⟨by decide, by decide⟩
 ·exact dgz_digs n
theorem rep_digs (k : Nat) : digs (repS [48] k) = true ∧ dval (repS [48] k) = 0 := by
 induction k with
 | zero => exact ⟨rfl, rfl⟩
 | succ k ih =>
  show digs ([48] ++ repS [48] k) = true ∧ dval ([48] ++ repS [48] k) = 0
  rw [digs_app, dval_app, ih.1, ih.2]
  exact ⟨by decide, by show 0 * _ + 0 = 0; omega⟩
end Go.AM.PL
namespace Go.AM.Lf
open PL
theorem ptd_parts (s : Str) (k : Nat) (hk : k ≠ 0) (hs : digs s = true) : ∃ w p, ptd s k = w ++ 46 :: p ∧ digs w = true ∧ w ≠ [] ∧ digs p = true ∧ p.length = k ∧ dval w * 10 ^ k + dval p = dval s ∧ w.length + k = max s.length (k + 1) := by
 unfold ptd
 rw [if_neg hk]
 have hr := rep_digs (k + 1 - s.length)
 have hl := repS_len (k + 1 - s.length)
 have hd : digs (repS [48] (k + 1 - s.length) ++ s) = true := by rw [digs_app, hr.1, hs]; rfl
 have hv : dval (repS [48] (k + 1 - s.length) ++ s) = dval s := by rw [dval_app, hr.2]; omega
 have hlen : (repS [48] (k + 1 - s.length) ++ s).length = (k + 1 - s.length) + s.length := by rw [List.length_append, hl]
 generalize repS [48] (k + 1 - s.length) ++ s = t at *
 refine ⟨t.take (t.length - k), t.drop (t.length - k), by simp, ?_, ?_, ?_, by simp; omega, ?_, by simp; omega⟩
 ·exact List.all_eq_true.2 fun x hx => List.all_eq_true.1 hd x (List.mem_of_mem_take hx)
 ·intro z
  have := congrArg List.length z
  simp at this; omega
 ·exact List.all_eq_true.2 fun x hx => List.all_eq_true.1 hd x (List.mem_of_mem_drop hx)
 ·have := dval_app (t.take (t.length - k)) (t.drop (t.length - k))
  rw [List.take_append_drop, hv, List.length_drop, show t.length - (t.length - k) = k by omega] at this
  exact this.symm
theorem exactS_ok (b : Bool) (N D : Nat) (hD : D ≠ 0) : ∀ (f k : Nat) (s : Str), exactS b N D k f = (s, true) → ∃ j, k ≤ j ∧ j < k + f ∧ N * 10 ^ j % D = 0 ∧ s = sgS b ++ ptd (pr (N * 10 ^ j / D)) j
 | 0, k, s, h => by unfold exactS at h; cases h
 | f + 1, k, s, h => by
  unfold exactS at h
  split at h
  ·rename_i c; cases h; exact ⟨k, Nat.le_refl _, by omega, c, rfl⟩
  ·obtain ⟨j, h1, h2, h3, h4⟩ := exactS_ok b N D hD f (k + 1) s h
   exact ⟨j, by omega, by omega, h3, h4⟩
end Go.AM.Lf
namespace Go.AM.Lf
open PL
theorem decT_lt {t : Str} {n d : Nat} (h : decT t = some (n, d)) : n < 10 ^ t.length ∧ d ≤ 10 ^ t.length := by
 obtain ⟨u, r, rfl, h1, h2⟩ := runLen t
 have hu := dval_lt h1
 cases r with
 | nil =>
  rw [List.append_nil, decT_all h1] at h
  split at h
  ·cases h
  ·cases h
   rw [List.append_nil]
   exact ⟨hu, Nat.one_le_pow _ _ (by omega)⟩
 | cons c q =>
  rw [decT_cut h1 c q (h2 c q rfl)] at h
  have hl : (u ++ c :: q).length = u.length + q.length + 1 := by simp; omega
  have mono : ∀ {a b : Nat}, a ≤ b → 10 ^ a ≤ 10 ^ b := fun h => Nat.pow_le_pow_right (by omega) h
  split at h
  ·cases h
  ·split at h
   ·cases h
   ·rename_i hq
    have hd : digs q = true := by cases hh : digs q with | true => rfl | false => exact absurd (.inr hh) hq
    have hq1 := dval_lt hd
    rw [hl]
    split at h
    ·cases h
     refine ⟨?_, mono (by omega)⟩
     have e : 10 ^ (u.length + q.length) ≤ 10 ^ (u.length + q.length + 1) := mono (by omega)
     rw [Nat.pow_add] at e
     have : (dval u + 1) * 10 ^ q.length ≤ 10 ^ u.length * 10 ^ q.length := Nat.mul_le_mul_right _ hu
     rw [Nat.add_mul, Nat.one_mul] at this
     omega
    ·split at h
     ·split at h
      ·cases h
      ·cases h
       have e1 : 10 ^ u.length ≤ 10 ^ (u.length + q.length + 1) := mono (by omega)
       have e2 : 10 ^ q.length ≤ 10 ^ (u.length + q.length + 1) := mono (by omega)
       omega
     ·cases h
theorem big42 : 10 ^ 400 < 4294967296 ^ 42 := by decide +kernel
theorem lt_len {n k : Nat} (h : n ≤ 10 ^ k) (hk : k ≤ 400) : (ofN n).length ≤ 42 :=
 ofN_len_le.2 (Nat.lt_of_le_of_lt (Nat.le_trans h (Nat.pow_le_pow_right (by omega) hk)) big42)
theorem parse_small {s : Str} {n d : Nat} (neg : Bool) (hs : s.length ≤ 400) (h : decP s = some (n, d)) : ratOk 50 (ratN neg n d) := by
 have hl := trimPre_len s [45]
 obtain ⟨h1, h2⟩ := decT_lt h
 exact ratN_ok _ _ _ _ (by omega) (Nat.le_trans (lt_len (by omega) (by omega : (trimPre s [45]).length ≤ 400)) (by omega)) (Nat.le_trans (lt_len h2 (by omega)) (by omega))
end Go.AM.Lf
namespace Go.AM.Lf
open PL
theorem nth_at {α : Type} {l : List α} {k : Nat} (h : k < l.length) (d : α) : nth l (k : Int) d = l[k] := by simp [nth, h]
end Go.AM.Lf
namespace Go.AM.Lf
open PL
def isL (b : UInt8) : Bool := decide (97 ≤ (b.toNat : Int)) && decide ((b.toNat : Int) ≤ 122)
def isIn (b : UInt8) : Bool := isL b || ((decide (48 ≤ (b.toNat : Int)) && decide ((b.toNat : Int) ≤ 57)) || ((b.toNat : Int) == 95))
def nameOk (s : Str) : Bool := match s with | [] => false | b :: _ => decide (s.length ≤ 24) && (isL b && s.all isIn)
theorem isInner_run (b : UInt8) : (expr_isInner (b.toNat : Int)).run = some (isIn b) := by
 have h1 : (expr_isLetter (b.toNat : Int)).run = some (isL b) := rfl
 have h2 : (expr_isDigit (b.toNat : Int)).run = some (decide (48 ≤ (b.toNat : Int)) && decide ((b.toNat : Int) ≤ 57)) := rfl
 unfold expr_isInner isIn
 rw [T.run_bind_of h1]
 cases isL b with
 | true => rw [T.run_ite_true, T.run_ret]; rfl
 | false =>
  rw [T.run_ite_false, T.run_bind_of h2]
  cases (decide (48 ≤ (b.toNat : Int)) && decide ((b.toNat : Int) ≤ 57)) with
  | true => rw [T.run_ite_true, T.run_ret]; rfl
  | false => rw [T.run_ite_false, T.run_ret]; rfl
theorem Name_run (s : Str) : (expr_Name s).run = some (nameOk s) := by
 unfold expr_Name
 cases s with
 | nil => rfl
 | cons b r =>
  have e0 : strEq (b :: r) [] = false := by rw [strEq_iff]; simp
  rw [e0]
  by_cases c : 24 < (b :: r).length
  ·have : (T.ite false (.ret true) (.ite (decide ((24 : Int) < ((b :: r).length : Int))) (.ret true) (.obl (idxOk (0 : Int) (List.length (b :: r))) <| T.bind (expr_isLetter (byteAt (b :: r) (0 : Int))) fun r => .ret (!r))) : T Bool).run = some true := by
    rw [T.run_ite_false, T.run_ite_t (decide_eq_true (by omega)), T.run_ret]
   rw [T.run_bind_of this, T.run_ite_true, T.run_ret]
   unfold nameOk
   rw [decide_eq_false (by omega)]; rfl
  ·have hb : byteAt (b :: r) (0 : Int) = (b.toNat : Int) := byteAt_get (s := b :: r) (k := 0) (by simp)
   have h1 : (expr_isLetter (b.toNat : Int)).run = some (isL b) := rfl
   have : (T.ite false (.ret true) (.ite (decide ((24 : Int) < ((b :: r).length : Int))) (.ret true) (.obl (idxOk (0 : Int) (List.length (b :: r))) <| T.bind (expr_isLetter (byteAt (b :: r) (0 : Int))) fun r => .ret (!r))) : T Bool).run = some (!isL b) := by
    rw [T.run_ite_false, T.run_ite_f (decide_eq_false (by omega)), T.run_obl (by refine ⟨by omega, ?_⟩; simp only [List.length_cons]; omega), hb, T.run_bind_of h1, T.run_ret]
   rw [T.run_bind_of this]
   unfold nameOk
   dsimp only
   rw [decide_eq_true (by omega), Bool.true_and]
   cases isL b with
   | false => rw [T.run_ite_t (by rfl), T.run_ret]; rfl
   | true =>
    rw [T.run_ite_f (by rfl), Bool.true_and]
    have key : (expr_Name_L0 (b :: r) ((b :: r).length : Int) 0).run = some (if (b :: r).all isIn = true then .inl () else .inr false) := by
     refine T.loop_scan (r := expr_Name_R0 (b :: r) ((b :: r).length : Int)) (b :: r) (0 : UInt8) (fun (_ : Unit) i => i) (fun _ _ => True) (fun l _ => (if l.all isIn = true then .inl () else .inr false : Unit ⊕ Bool)) (fun k _ x xs hk hx hm hd hI => ?_) (fun _ _ => ?_) (b := ()) trivial
     ·have hxk : (b :: r)[k] = x := by rw [← hx]; unfold nth; rw [Int.toNat_natCast, List.getD_eq_getElem?_getD, List.getElem?_eq_getElem hk]; rfl
      have hbk : byteAt (b :: r) (k : Int) = (x.toNat : Int) := by rw [byteAt_get hk, hxk]
      cases hin : isIn x with
      | true =>
       left
       refine ⟨(), ?_, trivial, ?_⟩
       ·unfold expr_Name_R0
        rw [T.run_ite_t (lt_t hk), T.run_obl (idx_ok hk), hbk, T.run_bind_of (isInner_run x), hin, T.run_ite_f (by rfl), T.run_ret, ix1 k _ hk (by omega)]
       ·rw [List.all_cons, hin, Bool.true_and]
      | false =>
       right
       unfold expr_Name_R0
       rw [T.run_ite_t (lt_t hk), T.run_obl (idx_ok hk), hbk, T.run_bind_of (isInner_run x), hin, T.run_ite_t (by rfl), T.run_ret, List.all_cons, hin]
       rfl
     ·unfold expr_Name_R0
      rw [T.run_ite_f (lt_f _), T.run_ret]; rfl
    rw [T.run_bind_of key]
    cases h : (b :: r).all isIn with
    | true => rfl
    | false => rfl
end Go.AM.Lf
namespace Go.AM.Lf
open PL
mutual
/-- What an expression weighs. -/
def szE : Expr → Nat
 | .mk _ n s l => 3 + s.length + 8 * n.2.1.length + 8 * n.2.2.1.length + szEs l
def szEs : List Expr → Nat
 | [] => 0
 | e :: r => szE e + szEs r
end
end Go.AM.Lf
namespace Go.AM.Lf
open PL
def trimB (l : List Int) : Bool := ofN (nv l) == l
def isRb (a : Rat) : Bool := trimB a.2.1 && (trimB a.2.2.1 && (!(nv a.2.2.1 == 0) && (!(a.1 && (nv a.2.1 == 0)) && (Nat.gcd (nv a.2.1) (nv a.2.2.1) == 1))))
theorem trimB_iff {l : List Int} (h : limbs l) : trimB l = true ↔ trimd l := by
 unfold trimB
 constructor
 ·intro e
  have e : ofN (nv l) = l := by simpa using e
  rw [← e]; exact trimd_ofN _
 ·intro ht
  rw [ofN_nv h ht]; simp
theorem nat_Is_run (l : List Int) (h : limbs l) (hl : l.length ≤ 1000000000) : (nat_Is l).run = some (trimB l) := by
 unfold nat_Is
 cases l with
 | nil =>
  rw [T.run_obl (fun h => by simp at h), T.run_ret]
  have e : trimB [] = true := by unfold trimB; rw [show nv [] = 0 from rfl, ofN_zero]; rfl
  rw [e]; rfl
 | cons x r =>
  obtain ⟨n, hn⟩ : ∃ n, (x :: r).length = n + 1 := ⟨r.length, rfl⟩
  have ew : w64 (((x :: r).length : Int) - 1) = (n : Int) := by rw [hn, w64_in (by omega) (by omega)]; omega
  have hnl : n < (x :: r).length := by omega
  have e0 : (((x :: r).length : Int) == 0) = false := by rw [hn]; simp; omega
  have hg : (x :: r).getLast? = some ((x :: r)[n]) := by
   rw [List.getLast?_eq_getElem?, hn, Nat.add_sub_cancel, List.getElem?_eq_getElem hnl]
  rw [T.run_obl (fun _ => by rw [ew]; exact idx_ok hnl), T.run_ret, ew, nth_at hnl, e0, Bool.false_or]
  congr 1
  cases hq : ((x :: r)[n] != 0) with
  | true =>
   symm
   rw [trimB_iff h]
   intro y hy
   rw [hg] at hy
   cases hy
   simpa using hq
  | false =>
   symm
   rw [Bool.eq_false_iff]
   intro ht
   have := (trimB_iff h).1 ht _ hg
   simp at hq
   exact this hq
theorem rat_Is_run (a : Rat) (h : ratOk 100000000 a) : (rat_Is a).run = some (isRb a) := by
 obtain ⟨h1, h2, h3, h4⟩ := h
 unfold rat_Is isRb
 have n1 := nat_Is_run a.2.1 h1 (by omega)
 have n2 := nat_Is_run a.2.2.1 h2 (by omega)
 have hzD : trimB a.2.2.1 = true → (((a.2.2.1.length : Int)) == 0) = (nv a.2.2.1 == 0) := fun ht => by
  have e : ofN (nv a.2.2.1) = a.2.2.1 := ofN_nv h2 ((trimB_iff h2).1 ht)
  conv => lhs; rw [← e]
  rw [len_zero]
  cases q : decide (nv a.2.2.1 = 0) <;> simp_all
 have hzN : trimB a.2.1 = true → (((a.2.1.length : Int)) == 0) = (nv a.2.1 == 0) := fun ht => by
  have e : ofN (nv a.2.1) = a.2.1 := ofN_nv h1 ((trimB_iff h1).1 ht)
  conv => lhs; rw [← e]
  rw [len_zero]
  cases q : decide (nv a.2.1 = 0) <;> simp_all
 have hg := nat_Gcd_run a.2.1 a.2.2.1 h1 h2 (by omega) (by omega)
 have h1' : (nat_Of 1).run = some (ofN 1) := nat_Of_run 1 (by omega)
 have hc : ∀ g : Nat, (ofN g).length ≤ 100000001 → (nat_Cmp (ofN g) (ofN 1)).run = some (cmpI g 1) := fun g hl => by
  have := nat_Cmp_run (ofN g) (ofN 1) (limbs_ofN _) (limbs_ofN _) (by omega) (by rw [ofN_one]; simp)
  rwa [nv_ofN, nv_ofN] at this
 have head : ∀ b : Bool, ((T.bind (nat_Is a.2.1) fun r => .ite (!r) (.ret true) (T.bind (nat_Is a.2.2.1) fun r1 => .ite (!r1) (.ret true) (.ite ((a.2.2.1.length : Int) == (0 : Int)) (.ret true) (.ite a.1 (.ret ((a.2.1.length : Int) == (0 : Int))) (.ret false))))) : T Bool).run =
   some (!(trimB a.2.1 && (trimB a.2.2.1 && (!(nv a.2.2.1 == 0) && !(a.1 && (nv a.2.1 == 0)))))) := fun _ => by
  rw [T.run_bind_of n1]
  cases t1 : trimB a.2.1 with
  | false => rfl
  | true =>
   rw [T.run_ite_f (by rfl), T.run_bind_of n2]
   cases t2 : trimB a.2.2.1 with
   | false => rfl
   | true =>
    rw [T.run_ite_f (by rfl), hzD t2]
    cases nv a.2.2.1 == 0 with
    | true => rfl
    | false =>
     rw [T.run_ite_false, hzN t1]
     cases a.1 with
     | true => rw [T.run_ite_true, T.run_ret]; cases nv a.2.1 == 0 <;> rfl
     | false => rfl
 rw [T.run_bind_of (head true)]
 cases hb : (trimB a.2.1 && (trimB a.2.2.1 && (!(nv a.2.2.1 == 0) && !(a.1 && (nv a.2.1 == 0))))) with
 | false =>
  rw [T.run_ite_t (by rfl), T.run_ret]
  congr 1
  generalize (Nat.gcd (nv a.2.1) (nv a.2.2.1) == 1) = g
  revert hb
  cases trimB a.2.1 <;> cases trimB a.2.2.1 <;> cases (nv a.2.2.1 == 0) <;> cases a.1 <;> cases (nv a.2.1 == 0) <;> simp
 | true =>
  rw [T.run_ite_f (by rfl), T.run_bind_of hg, T.run_bind_of h1']
  have hle : (ofN (Nat.gcd (nv a.2.1) (nv a.2.2.1))).length ≤ 100000001 := by
   simp only [Bool.and_eq_true, Bool.not_eq_true', beq_eq_false_iff_ne] at hb
   have hd : 0 < nv a.2.2.1 := Nat.pos_of_ne_zero hb.2.2.1
   have m1 := ofN_mono (Nat.gcd_le_right (nv a.2.1) hd)
   have m2 := ofN_nv_len h2
   omega
  rw [T.run_bind_of (hc _ hle), T.run_ret]
  congr 1
  have hgc : (cmpI (Nat.gcd (nv a.2.1) (nv a.2.2.1)) 1 == 0) = (Nat.gcd (nv a.2.1) (nv a.2.2.1) == 1) := by
   generalize Nat.gcd (nv a.2.1) (nv a.2.2.1) = g
   unfold cmpI
   by_cases q1 : g < 1
   ·rw [if_pos q1]; simp; omega
   ·by_cases q2 : 1 < g
    ·rw [if_neg q1, if_pos q2]; simp; omega
    ·have : g = 1 := by omega
     subst this; rfl
  rw [hgc]
  revert hb
  generalize (Nat.gcd (nv a.2.1) (nv a.2.2.1) == 1) = g
  cases trimB a.2.1 <;> cases trimB a.2.2.1 <;> cases (nv a.2.2.1 == 0) <;> cases a.1 <;> cases (nv a.2.1 == 0) <;> simp
def largeB (a : Rat) : Bool := decide (16 < (norm a).2.1.length) || decide (16 < (norm a).2.2.1.length)
theorem rat_Large_run (a : Rat) (h : ratOk 100000000 a) : (rat_Large a).run = some (largeB a) := by
 unfold rat_Large largeB
 rw [T.run_bind_of (rat_norm a h), T.run_ret]
 congr 2
 ·exact decide_eq_decide.2 (by omega)
 ·exact decide_eq_decide.2 (by omega)
end Go.AM.Lf
namespace Go.AM.Lf
open PL
def isNumB (a : Rat) : Bool := isRb a && (!a.1 && (!largeB a && (exactS (norm a).1 (nv (norm a).2.1) (nv (norm a).2.2.1) 0 61).2))
def isNoneB (a : Rat) : Bool := !a.1 && (a.2.1.isEmpty && (a.2.2.1.isEmpty || isRb a))
def kidsN (k : Int) : Int := if k = 1 ∨ k = 2 then 0 else if k = 7 then 1 else if k = 3 ∨ k = 4 ∨ k = 5 ∨ k = 6 then 2 else -1
def nodeB (e : Expr) : Bool := ((e.kids.length : Int) == kidsN e.kind) && (if e.kind = 1 then isNumB e.num && strEq e.name [] else if e.kind = 2 then isNoneB e.num && nameOk e.name else isNoneB e.num && strEq e.name [])
mutual
def ndE : Expr → Nat
 | .mk _ _ _ l => 1 + ndEs l
def ndEs : List Expr → Nat
 | [] => 0
 | e :: r => ndE e + ndEs r
end
mutual
def okE (deep : Nat) : Expr → Bool
 | .mk k n s l => decide (deep < 32) && (nodeB (.mk k n s l) && okEs (deep + 1) l)
def okEs (deep : Nat) : List Expr → Bool
 | [] => true
 | e :: r => okE deep e && okEs deep r
end
theorem ndEs_len : ∀ (l : List Expr), l.length ≤ ndEs l
 | [] => Nat.le_refl _
 | .mk _ _ _ k :: r => by
  have := ndEs_len r
  unfold ndEs ndE
  simp only [List.length_cons]; omega
theorem ndEs_mem {e : Expr} : ∀ {l : List Expr}, e ∈ l → ndE e ≤ ndEs l
 | [], h => by cases h
 | x :: r, h => by
  unfold ndEs
  rcases List.mem_cons.1 h with rfl | h
  ·omega
  ·have := ndEs_mem h; omega
mutual
theorem ndE_sz : ∀ (e : Expr), 3 * ndE e ≤ szE e
 | .mk k n s l => by
  have := ndEs_sz l
  unfold ndE szE
  omega
theorem ndEs_sz : ∀ (l : List Expr), 3 * ndEs l ≤ szEs l
 | [] => Nat.le_refl _
 | e :: r => by
  have h1 := ndE_sz e
  have h2 := ndEs_sz r
  unfold ndEs szEs
  omega
end
def numOk (a : Rat) : Prop := ratOk 100 a
mutual
def allOk : Expr → Prop
 | .mk _ n _ l => numOk n ∧ allOks l
def allOks : List Expr → Prop
 | [] => True
 | e :: r => allOk e ∧ allOks r
end
theorem allOks_mem {l : List Expr} (h : allOks l) : ∀ e ∈ l, allOk e := by
 induction l with
 | nil => intro e he; cases he
 | cons x r ih =>
  intro e he
  rcases List.mem_cons.1 he with rfl | he
  ·exact h.1
  ·exact ih h.2 e he
theorem isNone_run (a : Rat) (h : numOk a) : (expr_isNone a).run = some (isNoneB a) := by
 unfold expr_isNone isNoneB
 have hr := rat_Is_run a (ok_up h (by omega))
 have e : ∀ l : List Int, (((l.length : Int)) == 0) = l.isEmpty := fun l => by cases l <;> simp; omega
 rw [e, e]
 cases a.1 with
 | true => rfl
 | false =>
  rw [T.run_ite_t (by rfl)]
  cases a.2.1.isEmpty with
  | false => rfl
  | true =>
   rw [T.run_ite_true]
   cases a.2.2.1.isEmpty with
   | true => rfl
   | false => rw [T.run_ite_false, T.run_bind_of hr, T.run_ret]; rfl
theorem isNum_run (a : Rat) (h : numOk a) : (expr_isNum a).run = some (isNumB a) := by
 unfold expr_isNum isNumB
 have hr := rat_Is_run a (ok_up h (by omega))
 have hl := rat_Large_run a (ok_up h (by omega))
 have he := dec_Exact_run a (ok_up h (by omega))
 have head : ((T.bind (rat_Is a) fun r => .ite (!r) (.ret true) (.ite a.1 (.ret true) (T.bind (rat_Large a) fun r1 => .ret r1))) : T Bool).run = some (!(isRb a && (!a.1 && !largeB a))) := by
  rw [T.run_bind_of hr]
  cases isRb a with
  | false => rfl
  | true =>
   rw [T.run_ite_f (by rfl)]
   cases a.1 with
   | true => rfl
   | false => rw [T.run_ite_false, T.run_bind_of hl, T.run_ret]; simp
 rw [T.run_bind_of head]
 cases q : (isRb a && (!a.1 && !largeB a)) with
 | false =>
  rw [T.run_ite_t (by rfl), T.run_ret]
  congr 1
  revert q
  cases isRb a <;> cases a.1 <;> cases largeB a <;> simp
 | true =>
  rw [T.run_ite_f (by rfl), T.run_bind_of he]
  generalize exactS (norm a).1 (nv (norm a).2.1) (nv (norm a).2.2.1) 0 61 = x
  obtain ⟨x1, x2⟩ := x
  dsimp only
  rw [T.run_ret]
  congr 1
  revert q
  cases isRb a <;> cases a.1 <;> cases largeB a <;> simp
theorem kids_run (k : Int) : (expr_kids k).run = some (kidsN k) := by
 unfold expr_kids kidsN
 by_cases h1 : k = 1
 ·subst h1; rfl
 by_cases h2 : k = 2
 ·subst h2; rfl
 by_cases h7 : k = 7
 ·subst h7; rfl
 by_cases h3 : k = 3
 ·subst h3; rfl
 by_cases h4 : k = 4
 ·subst h4; rfl
 by_cases h5 : k = 5
 ·subst h5; rfl
 by_cases h6 : k = 6
 ·subst h6; rfl
 ·simp [h1, h2, h3, h4, h5, h6, h7]
theorem isNode_run (e : Expr) (h : numOk e.num) : (expr_isNode e).run = some (nodeB e) := by
 unfold expr_isNode nodeB
 rw [T.run_bind_of (kids_run _)]
 have hN := isNum_run e.num h
 have h0 := isNone_run e.num h
 have hn := Name_run e.name
 cases q : ((e.kids.length : Int) == kidsN e.kind) with
 | false => rw [T.run_ite_t (by rw [bne, q]; rfl), T.run_ret]; rfl
 | true =>
  rw [T.run_ite_f (by rw [bne, q]; rfl), Bool.true_and]
  by_cases h1 : e.kind = 1
  ·rw [if_pos h1, T.run_ite_t (by rw [h1]; rfl), T.run_bind_of hN]
   cases isNumB e.num with
   | true => rw [T.run_ite_true, T.run_ret]; rfl
   | false => rw [T.run_ite_false, T.run_ret]; rfl
  ·rw [if_neg h1, T.run_ite_f (by simpa using h1)]
   by_cases h2 : e.kind = 2
   ·rw [if_pos h2, T.run_ite_t (by rw [h2]; rfl), T.run_bind_of h0]
    cases isNoneB e.num with
    | true => rw [T.run_ite_true, T.run_bind_of hn, T.run_ret]; rfl
    | false => rw [T.run_ite_false, T.run_ret]; rfl
   ·rw [if_neg h2, T.run_ite_f (by simpa using h2), T.run_bind_of h0]
    cases isNoneB e.num with
    | true => rw [T.run_ite_true, T.run_ret]; rfl
    | false => rw [T.run_ite_false, T.run_ret]; rfl
end Go.AM.Lf
namespace Go.AM.Lf
open PL
def dd (acc : List Str) (xs : List Str) : List Str := xs.foldl (fun b x => if x ∈ b then b else b ++ [x]) acc
end Go.AM.Lf
namespace Go.AM.Lf
open PL
theorem nameOk_len {s : Str} (h : nameOk s = true) : s.length ≤ 24 ∧ s.all isIn = true := by
 cases s with
 | nil => cases h
 | cons b r =>
  unfold nameOk at h
  simp only [Bool.and_eq_true, decide_eq_true_eq] at h
  exact ⟨h.1, h.2.2⟩
end Go.AM.Lf
namespace Go.AM.Lf
open PL
theorem limbsB_run (a b : List Int) (la : a.length ≤ 1000000000) : (ref2_limbs a b).run = some (a == b) := by
 unfold ref2_limbs
 by_cases hlen : a.length = b.length
 ·have key : (ref2_limbs_L0 a b 0).run = some (if a = b then .inl () else .inr false) := by
   have h := T.loop_run (r := ref2_limbs_R0 a b) (fun i => ∃ k : Nat, i = (k : Int) ∧ k ≤ a.length) (fun i => a.length - i.toNat) (fun i => if a.drop i.toNat = b.drop i.toNat then .inl () else .inr false) (fun i hi => ?_) (s := 0) ⟨0, rfl, by omega⟩
   ·unfold ref2_limbs_L0; simpa using h
   ·obtain ⟨k, rfl, hk⟩ := hi
    by_cases c : k < a.length
    ·have cb : k < b.length := by omega
     have ea : a.drop k = a[k] :: a.drop (k + 1) := List.drop_eq_getElem_cons c
     have eb : b.drop k = b[k] :: b.drop (k + 1) := List.drop_eq_getElem_cons cb
     have ek : ((k : Nat) : Int).toNat = k := rfl
     have hiff : (a.drop k = b.drop k) ↔ (a[k] = b[k] ∧ a.drop (k + 1) = b.drop (k + 1)) := by rw [ea, eb, List.cons.injEq]
     have ek1 : ((k + 1 : Nat) : Int).toNat = k + 1 := rfl
     by_cases q : a[k] = b[k]
     ·left
      refine ⟨((k + 1 : Nat) : Int), ?_, ⟨k + 1, rfl, c⟩, by omega, ?_⟩
      ·unfold ref2_limbs_R0
       rw [T.run_ite_t (lt_t c), T.run_obl (idx_ok c), T.run_obl (idx_ok cb), nth_at c, nth_at cb, T.run_ite_f (by simp [q]), T.run_ret, ix1 k _ c (by omega)]
      ·simp only [ek, ek1, hiff, q, true_and]
     ·right
      unfold ref2_limbs_R0
      rw [T.run_ite_t (lt_t c), T.run_obl (idx_ok c), T.run_obl (idx_ok cb), nth_at c, nth_at cb, T.run_ite_t (by simp [q]), T.run_ret, ek, if_neg (by rw [hiff]; exact fun h => q h.1)]
    ·right
     have hk2 : k = a.length := by omega
     unfold ref2_limbs_R0
     rw [T.run_ite_f (decide_eq_false (by omega)), T.run_ret, hk2]
     simp [hlen]
  rw [T.run_ite_f (by rw [hlen]; simp), T.run_bind_of key]
  by_cases e : a = b
  ·rw [if_pos e, e]; simp
  ·rw [if_neg e]
   have : (a == b) = false := by simpa using e
   rw [this]; rfl
 ·have e : (a == b) = false := by
   rw [beq_eq_false_iff_ne]
   intro e; exact hlen (by rw [e])
  rw [T.run_ite_t (by simp; omega), T.run_ret, e]
end Go.AM.Lf
namespace Go.AM.Lf
open PL
def bindsK (k : Int) : Int := if k = 3 ∨ k = 4 then 1 else if k = 5 ∨ k = 6 then 2 else if k = 7 then 3 else 4
def markK (k : Int) : Str := if k = 3 then [32, 43, 32] else if k = 4 then [32, 45, 32] else if k = 5 then [32, 42, 32] else if k = 6 then [32, 47, 32] else []
def parS (b : Bool) (s : Str) : Str := if b = true then [40] ++ s ++ [41] else s
def joinK (k : Int) : List (Int × Str) → Str
 | [a] => [45] ++ parS (decide (a.1 < 3)) a.2
 | [a, b] => parS (decide (a.1 < bindsK k)) a.2 ++ markK k ++ parS (decide (b.1 < bindsK k + 1)) b.2
 | _ => []
mutual
def prE : Expr → Str
 | .mk k n s l => if k = 1 then (exactS (norm n).1 (nv (norm n).2.1) (nv (norm n).2.2.1) 0 61).1 else if k = 2 then s else joinK k (prL l)
def prL : List Expr → List (Int × Str)
 | [] => []
 | e :: r => (bindsK e.kind, prE e) :: prL r
end
theorem parS_len (b : Bool) (s : Str) : (parS b s).length ≤ s.length + 2 := by unfold parS; split <;> simp <;> omega
theorem markK_len (k : Int) : (markK k).length ≤ 3 := by unfold markK; (repeat' split) <;> simp
theorem exact_len (n : Rat) (h : numOk n) : (exactS (norm n).1 (nv (norm n).2.1) (nv (norm n).2.2.1) 0 61).1.length ≤ 6000 := by
 have hn := norm_ok (k := 100) (by omega) h
 have hd := ratN_den n.1 (nv n.2.1) (nv n.2.2.1)
 have hd : nv (norm n).2.2.1 ≠ 0 := hd
 rcases hx : exactS (norm n).1 (nv (norm n).2.1) (nv (norm n).2.2.1) 0 61 with ⟨s, b⟩
 cases b with
 | true =>
  obtain ⟨j, h1, h2, h3, rfl⟩ := exactS_ok _ _ _ hd 61 0 s hx
  have l1 := ofN_nv_len hn.1
  have l2 := hn.2.2.1
  have l3 := ten_len j
  have l4 := ofN_mul_len (nv (norm n).2.1) (10 ^ j)
  have l5 := ofN_mono (Nat.div_le_self (nv (norm n).2.1 * 10 ^ j) (nv (norm n).2.2.1))
  have l6 := pr_len (nv (norm n).2.1 * 10 ^ j / nv (norm n).2.2.1) 162 (by omega)
  have l7 : (sgS (norm n).1).length ≤ 1 := by unfold sgS; split <;> simp
  dsimp only
  rw [List.length_append]
  by_cases hj : j = 0
  ·subst hj
   unfold ptd
   rw [if_pos rfl]
   omega
  ·obtain ⟨w, p, e, _, _, _, hp, _, hw⟩ := ptd_parts (pr (nv (norm n).2.1 * 10 ^ j / nv (norm n).2.2.1)) j hj (pr_digs _).1
   rw [e, List.length_append, List.length_cons]
   omega
 | false =>
  have : ∀ (f k : Nat) (s : Str), exactS (norm n).1 (nv (norm n).2.1) (nv (norm n).2.2.1) k f = (s, false) → s = [] := by
   intro f
   induction f with
   | zero => intro k s h; unfold exactS at h; cases h; rfl
   | succ f ih =>
    intro k s h
    unfold exactS at h
    split at h
    ·cases h
    ·exact ih _ _ h
  rw [this 61 0 s hx]; simp
theorem okE_kids {d : Nat} {k : Int} {n : Rat} {s : Str} {l : List Expr} (h : okE d (.mk k n s l) = true) : ((l.length : Int) = kidsN k) ∧ okEs (d + 1) l = true := by
 have h : (decide (d < 32) && (nodeB (.mk k n s l) && okEs (d + 1) l)) = true := h
 simp only [Bool.and_eq_true] at h
 obtain ⟨_, h1, h2⟩ := h
 unfold nodeB at h1
 simp only [Bool.and_eq_true] at h1
 exact ⟨eq_of_beq h1.1, h2⟩
theorem prE_len : ∀ (m : Nat) (e : Expr) (d : Nat), ndE e ≤ m → okE d e = true → allOk e → (prE e).length ≤ 2000 * szE e := by
 intro m
 induction m with
 | zero => intro e d hm; cases e; unfold ndE at hm; omega
 | succ m ih =>
  intro e d hm ho ha
  cases e with | mk k n s l =>
  obtain ⟨hk, hl⟩ := okE_kids ho
  obtain ⟨hn, hal⟩ := ha
  have hnd : ndE (.mk k n s l) = 1 + ndEs l := rfl
  have hsz : szE (.mk k n s l) = 3 + s.length + 8 * n.2.1.length + 8 * n.2.2.1.length + szEs l := rfl
  rw [hnd] at hm
  rw [hsz]
  show (if k = 1 then (exactS (norm n).1 (nv (norm n).2.1) (nv (norm n).2.2.1) 0 61).1 else if k = 2 then s else joinK k (prL l)).length ≤ _
  by_cases h1 : k = 1
  ·rw [if_pos h1]; have := exact_len n hn; omega
  ·rw [if_neg h1]
   by_cases h2 : k = 2
   ·rw [if_pos h2]; omega
   ·rw [if_neg h2]
    match l, hl, hal, hm with
    | [], _, _, _ => show (joinK k []).length ≤ _; unfold joinK; simp
    | [a], hl, hal, hm =>
     have ha' : okE (d + 1) a = true := by
      have : (okE (d + 1) a && okEs (d + 1) []) = true := hl
      simp only [Bool.and_eq_true] at this; exact this.1
     have := ih a (d + 1) (by have : ndEs [a] = ndE a + 0 := rfl; omega) ha' hal.1
     have e1 : szEs [a] = szE a + 0 := rfl
     have hp := parS_len (decide (bindsK a.kind < 3)) (prE a)
     show ([45] ++ parS (decide (bindsK a.kind < 3)) (prE a)).length ≤ _
     rw [List.length_append, List.length_singleton, e1]; omega
    | [a, b], hl, hal, hm =>
     have hab : okE (d + 1) a = true ∧ okE (d + 1) b = true := by
      have : (okE (d + 1) a && (okE (d + 1) b && okEs (d + 1) [])) = true := hl
      simp only [Bool.and_eq_true] at this; exact ⟨this.1, this.2.1⟩
     have e0 : ndEs [a, b] = ndE a + (ndE b + 0) := rfl
     have h3 := ih a (d + 1) (by omega) hab.1 hal.1
     have h4 := ih b (d + 1) (by omega) hab.2 hal.2.1
     have e1 : szEs [a, b] = szE a + (szE b + 0) := rfl
     have hp := parS_len (decide (bindsK a.kind < bindsK k)) (prE a)
     have hq := parS_len (decide (bindsK b.kind < bindsK k + 1)) (prE b)
     have hm' := markK_len k
     show (parS (decide (bindsK a.kind < bindsK k)) (prE a) ++ markK k ++ parS (decide (bindsK b.kind < bindsK k + 1)) (prE b)).length ≤ _
     rw [List.length_append, List.length_append, e1]; omega
    | a :: b :: c :: r, _, _, _ => show (joinK k _).length ≤ _; unfold prL prL prL joinK; simp
theorem binds_run (e : Expr) : (expr_binds e).run = some (bindsK e.kind) := by
 unfold expr_binds bindsK
 generalize e.kind = k
 by_cases h3 : k = 3
 ·subst h3; rfl
 by_cases h4 : k = 4
 ·subst h4; rfl
 by_cases h5 : k = 5
 ·subst h5; rfl
 by_cases h6 : k = 6
 ·subst h6; rfl
 by_cases h7 : k = 7
 ·subst h7; rfl
 ·simp [h3, h4, h5, h6, h7]
theorem placed_run (g : Expr → T Str) (e : Expr) (least : Int) (t : Str) (hg : (g e).run = some t) (hl : t.length ≤ 1000000000000) : (expr_placed (fun y0 => g y0) e least).run = some (parS (decide (bindsK e.kind < least)) t) := by
 unfold expr_placed parS
 rw [T.run_bind_of (binds_run e)]
 cases decide (bindsK e.kind < least) with
 | true => rw [T.run_ite_true, T.run_bind_of hg, T.run_leN _ (by simp; omega), T.run_leN _ (by simp [cat_eq]; omega), T.run_ret, if_pos rfl]; rfl
 | false => rw [T.run_ite_false, T.run_bind_of hg, T.run_ret, if_neg (by simp)]
theorem kids_of {k : Int} {l : List Expr} (hk : (l.length : Int) = kidsN k) (h1 : k ≠ 1) (h2 : k ≠ 2) : (k = 7 ∧ ∃ a, l = [a]) ∨ ((k = 3 ∨ k = 4 ∨ k = 5 ∨ k = 6) ∧ ∃ a b, l = [a, b]) := by
 unfold kidsN at hk
 rw [if_neg (by rintro (h | h); exact h1 h; exact h2 h)] at hk
 by_cases h7 : k = 7
 ·rw [if_pos h7] at hk
  match l, hk with
  | [a], _ => exact .inl ⟨h7, a, rfl⟩
  | [], hk => simp at hk
  | _ :: _ :: _, hk => simp at hk; omega
 ·rw [if_neg h7] at hk
  by_cases h : k = 3 ∨ k = 4 ∨ k = 5 ∨ k = 6
  ·rw [if_pos h] at hk
   match l, hk with
   | [a, b], _ => exact .inr ⟨h, a, b, rfl⟩
   | [], hk => simp at hk
   | [_], hk => simp at hk
   | _ :: _ :: _ :: _, hk => simp at hk; omega
  ·rw [if_neg h] at hk; omega
theorem print_run (e : Expr) (d : Nat) (ho : okE d e = true) (ha : allOk e) (hs : szE e ≤ 1000000) : (expr_print e).run = some (prE e) := by
 unfold expr_print
 refine T.fix_run (fun x : Expr => (∃ d, okE d x = true) ∧ allOk x ∧ szE x ≤ 1000000) (fun x => ndE x) (fun x => prE x) (fun x hx g hg => ?_) (x := e) ⟨⟨d, ho⟩, ha, hs⟩
 obtain ⟨⟨d, ho⟩, ha, hs⟩ := hx
 cases x with | mk k n s l =>
 obtain ⟨hk, hl⟩ := okE_kids ho
 obtain ⟨hn, hal⟩ := ha
 have hnd : ndE (.mk k n s l) = 1 + ndEs l := rfl
 have hsz : szE (.mk k n s l) = 3 + s.length + 8 * n.2.1.length + 8 * n.2.2.1.length + szEs l := rfl
 have hE := dec_Exact_run n (ok_up hn (by omega))
 have hprE : prE (.mk k n s l) = if k = 1 then (exactS (norm n).1 (nv (norm n).2.1) (nv (norm n).2.2.1) 0 61).1 else if k = 2 then s else joinK k (prL l) := rfl
 rw [hprE]
 unfold expr_print_B
 rw [show Expr.kind (.mk k n s l) = k from rfl, show Expr.kids (.mk k n s l) = l from rfl, show Expr.num (.mk k n s l) = n from rfl, show Expr.name (.mk k n s l) = s from rfl]
 have hbind := binds_run (.mk k n s l)
 rw [show Expr.kind (.mk k n s l) = k from rfl] at hbind
 by_cases h1 : k = 1
 ·rw [if_pos h1]
  refine (T.run_bind_of (a := .inr (exactS (norm n).1 (nv (norm n).2.1) (nv (norm n).2.2.1) 0 61).1) ?_ _).trans rfl
  rw [T.run_ite_t (by simpa using h1), T.run_bind_of hE, T.run_ret]
 have k1 : (k == 1) = false := by simpa using h1
 by_cases h2 : k = 2
 ·rw [if_neg h1, if_pos h2]
  refine (T.run_bind_of (a := .inr s) ?_ _).trans rfl
  rw [T.run_ite_f k1, T.run_ite_t (by simpa using h2), T.run_ret]
 have k2 : (k == 2) = false := by simpa using h2
 rw [if_neg h1, if_neg h2]
 rcases kids_of hk h1 h2 with ⟨h7, a, rfl⟩ | ⟨h36, a, b, rfl⟩
 ·have ha' : okE (d + 1) a = true := by
   have : (okE (d + 1) a && okEs (d + 1) []) = true := hl
   simp only [Bool.and_eq_true] at this; exact this.1
  have e0 : ndEs [a] = ndE a + 0 := rfl
  have e1 : szEs [a] = szE a + 0 := rfl
  have hr := hg a ⟨⟨_, ha'⟩, hal.1, by omega⟩ (by omega)
  have hlen := prE_len (ndE a) a (d + 1) (Nat.le_refl _) ha' hal.1
  have hp := placed_run g a 3 (prE a) hr (by omega)
  have hpl := parS_len (decide (bindsK a.kind < 3)) (prE a)
  refine (T.run_bind_of (a := .inr (joinK k (prL [a]))) ?_ _).trans rfl
  rw [T.run_ite_f k1, T.run_ite_f k2, T.run_ite_t (by simpa using h7), T.run_obl ⟨by omega, by simp⟩, show nth [a] (0 : Int) (dflt .expr) = a from rfl, T.run_bind_of hp, T.run_leN _ (by simp; omega), T.run_ret]
  rfl
 ·have hab : okE (d + 1) a = true ∧ okE (d + 1) b = true := by
   have : (okE (d + 1) a && (okE (d + 1) b && okEs (d + 1) [])) = true := hl
   simp only [Bool.and_eq_true] at this; exact ⟨this.1, this.2.1⟩
  have e0 : ndEs [a, b] = ndE a + (ndE b + 0) := rfl
  have e1 : szEs [a, b] = szE a + (szE b + 0) := rfl
  have ra := hg a ⟨⟨_, hab.1⟩, hal.1, by omega⟩ (by omega)
  have rb := hg b ⟨⟨_, hab.2⟩, hal.2.1, by omega⟩ (by omega)
  have la := prE_len (ndE a) a (d + 1) (Nat.le_refl _) hab.1 hal.1
  have lb := prE_len (ndE b) b (d + 1) (Nat.le_refl _) hab.2 hal.2.1
  have hbk : w64 (bindsK k + 1) = bindsK k + 1 := by
   have : bindsK k = 1 ∨ bindsK k = 2 ∨ bindsK k = 3 ∨ bindsK k = 4 := by unfold bindsK; (repeat' split) <;> simp
   rw [w64_in (by omega) (by omega)]
  have pa := placed_run g a (bindsK k) (prE a) ra (by omega)
  have pb := placed_run g b (bindsK k + 1) (prE b) rb (by omega)
  have qa := parS_len (decide (bindsK a.kind < bindsK k)) (prE a)
  have qb := parS_len (decide (bindsK b.kind < bindsK k + 1)) (prE b)
  have hm := markK_len k
  have k7 : (k == 7) = false := by rw [beq_eq_false_iff_ne]; omega
  refine (T.run_bind_of (a := .inl (markK k)) ?_ _).trans ?_
  ·rw [T.run_ite_f k1, T.run_ite_f k2, T.run_ite_f k7]
   rcases h36 with rfl | rfl | rfl | rfl <;> rfl
  ·rw [Sum.elim_inl, T.run_obl ⟨by omega, by simp⟩, T.run_bind_of hbind, show nth [a, b] (0 : Int) (dflt .expr) = a from rfl, T.run_bind_of pa, T.run_leN _ (by omega), T.run_obl ⟨by omega, by simp⟩, T.run_bind_of hbind, hbk, show nth [a, b] (1 : Int) (dflt .expr) = b from rfl, T.run_bind_of pb, T.run_leN _ (by simp [cat_eq]; omega), T.run_ret]
   rfl
end Go.AM.Lf
namespace Go.AM
theorem T.fix_rel {σ ρ : Type} {b : (σ → T ρ) → σ → T ρ} (R : Nat → σ → ρ → Prop) (h0 : ∀ x y, ¬ R 0 x y)
  (h : ∀ n x y, R (n + 1) x y → ∀ g : σ → T ρ, (∀ x' y', R n x' y' → (g x').run = some y') → (b g x).run = some y) {n : Nat} {x : σ} {y : ρ} (hx : R n x y) : (T.fix b x).run = some y := by
 rw [T.run_leads, T.fix_leads]
 refine ⟨n, fun m hm => ?_⟩
 induction n generalizing m x y with
 | zero => exact absurd hx (h0 _ _)
 | succ n ih =>
  cases m with
  | zero => omega
  | succ m =>
   rw [← T.run_leads]
   exact h n x y hx (T.fixN b m) fun x' y' hr => by rw [T.run_leads]; exact ih hr m (by omega)
end Go.AM
namespace Go.AM.PL
def skS : Str → Str
 | [] => []
 | c :: r => if c = 32 then skS r else c :: r
def lexW (p : UInt8 → Bool) : Nat → Str → Str × Str
 | 0, r => ([], r)
 | _ + 1, [] => ([], [])
 | n + 1, c :: r => if p c = true then (c :: (lexW p n r).1, (lexW p n r).2) else ([], c :: r)
theorem lexW_cat (p : UInt8 → Bool) : ∀ (n : Nat) (r : Str), (lexW p n r).1 ++ (lexW p n r).2 = r
 | 0, r => rfl
 | _ + 1, [] => rfl
 | n + 1, c :: r => by
  unfold lexW
  split
  ·rw [List.cons_append, lexW_cat p n r]
  ·rfl
theorem lexW_all (p : UInt8 → Bool) : ∀ (n : Nat) (r : Str), r.length ≤ n → lexW p n r = (r.takeWhile p, r.dropWhile p)
 | 0, [], _ => rfl
 | 0, c :: r, h => by simp at h
 | _ + 1, [], _ => rfl
 | n + 1, c :: r, h => by
  unfold lexW
  rw [lexW_all p n r (by simp at h; omega)]
  cases hp : p c with
  | true => simp [hp]
  | false => simp [hp]
theorem skS_sfx : ∀ (r : Str), skS r <:+ r
 | [] => List.suffix_refl _
 | c :: r => by
  unfold skS
  split
  ·exact List.IsSuffix.trans (skS_sfx r) (List.suffix_cons c r)
  ·exact List.suffix_refl _
theorem skS_head : ∀ (r : Str) (c : UInt8) (q : Str), skS r = c :: q → c ≠ 32
 | [], _, _, h => by cases h
 | b :: r, c, q, h => by
  unfold skS at h
  split at h
  ·exact skS_head r c q h
  ·cases h; assumption
theorem skS_idem (r : Str) : skS (skS r) = skS r := by
 cases h : skS r with
 | nil => rfl
 | cons c q => unfold skS; rw [if_neg (skS_head r c q h)]
theorem skS_len (r : Str) : (skS r).length ≤ r.length := (skS_sfx r).length_le
theorem lexW_sfx (p : UInt8 → Bool) (n : Nat) (r : Str) : (lexW p n r).2 <:+ r := ⟨(lexW p n r).1, lexW_cat p n r⟩
def posS (s r : Str) : Nat := s.length - r.length
theorem posS_self (s : Str) : posS s s = 0 := by unfold posS; omega
theorem posS_nil (s : Str) : posS s [] = s.length := rfl
theorem sfx_tail {c : UInt8} {r s : Str} (h : (c :: r) <:+ s) : r <:+ s := List.IsSuffix.trans (List.suffix_cons c r) h
theorem posS_cons {c : UInt8} {r s : Str} (h : (c :: r) <:+ s) : posS s r = posS s (c :: r) + 1 ∧ posS s (c :: r) < s.length := by
 have := h.length_le
 simp only [List.length_cons] at this
 unfold posS; simp only [List.length_cons]; omega
theorem sfx_drop {r s : Str} (h : r <:+ s) : s.drop (posS s r) = r := by
 obtain ⟨t, rfl⟩ := h
 unfold posS
 rw [List.length_append, Nat.add_sub_cancel, List.drop_left]
theorem posS_get {c : UInt8} {r s : Str} (h : (c :: r) <:+ s) : byteAt s ((posS s (c :: r) : Nat) : Int) = (c.toNat : Int) := by
 have h1 := posS_cons h
 rw [byteAt_get h1.2]
 have h2 := sfx_drop h
 rw [List.drop_eq_getElem_cons h1.2] at h2
 injection h2 with h2 _
 rw [h2]
theorem posS_le {r q s : Str} (h : r <:+ q) (h2 : q <:+ s) : posS s q ≤ posS s r := by
 have := h.length_le; unfold posS; omega
theorem cutS_pos {a r q s : Str} (h : r <:+ s) (e : a ++ q = r) : cutS ((posS s r : Nat) : Int) ((posS s q : Nat) : Int) s = a := by
 subst e
 obtain ⟨t, rfl⟩ := h
 unfold cutS posS
 rw [Int.toNat_natCast, Int.toNat_natCast]
 simp only [List.length_append]
 rw [show t.length + (a.length + q.length) - q.length = t.length + a.length by omega, show t.length + (a.length + q.length) - (a.length + q.length) = t.length by omega, ← List.append_assoc, ← List.length_append, List.take_left, List.drop_left]
theorem idxB_mem : ∀ (l : Str) (c : UInt8), decide ((0 : Int) ≤ idxB l c) = l.contains c
 | [], _ => rfl
 | b :: l, c => by
  have ih := idxB_mem l c
  unfold idxB
  rw [List.contains_cons]
  by_cases h : b = c
  ·subst h; simp
  ·have h' : (b == c) = false := by simpa using h
   have h'' : (c == b) = false := by simpa using fun e : c = b => h e.symm
   rw [h', h'', Bool.false_or, ← ih]
   have hge : ∀ l : Str, idxB l c = -1 ∨ 0 ≤ idxB l c := by
    intro l
    induction l with
    | nil => exact .inl rfl
    | cons x l ih =>
     unfold idxB
     split
     ·right; omega
     ·split
      ·left; rfl
      ·right
       rename_i hne
       rcases ih with h | h
       ·exact absurd (by simpa using h) hne
       ·omega
   rcases hge l with h | h
   ·rw [h]; rfl
   ·have : (idxB l c == -1) = false := by simp; omega
    simp only [this, Bool.false_eq_true, if_false]
    rw [decide_eq_true (by omega), decide_eq_true (by omega)]
theorem byteOf_nat (c : UInt8) : byteOf (c.toNat : Int) = c := by unfold byteOf; simp
end Go.AM.PL
namespace Go.AM.Lf
open PL
def stP (s r : Str) (d : Nat) (l : Bool) : expr_parser := (s, ((posS s r : Nat) : Int), (d : Int), l, ())
theorem stP_fst (s r : Str) (d : Nat) (l : Bool) : (stP s r d l).1 = s := rfl
theorem stP_at (s r : Str) (d : Nat) (l : Bool) : (stP s r d l).2.1 = ((posS s r : Nat) : Int) := rfl
theorem stP_deep (s r : Str) (d : Nat) (l : Bool) : (stP s r d l).2.2.1 = (d : Int) := rfl
theorem stP_next {s r : Str} {c : UInt8} (d : Nat) (l : Bool) (h : (c :: r) <:+ s) (hs : s.length ≤ 1000000) : ((s, w64 (((posS s (c :: r) : Nat) : Int) + 1), (d : Int), l, ()) : expr_parser) = stP s r d l := by
 have := posS_cons h
 unfold stP
 rw [w64_in (by omega) (by omega), this.1]
 rfl
theorem pos_t {s r : Str} {c : UInt8} (h : (c :: r) <:+ s) : decide (((posS s (c :: r) : Nat) : Int) < (s.length : Int)) = true := decide_eq_true (by have := posS_cons h; omega)
theorem pos_f (s : Str) : decide (((posS s [] : Nat) : Int) < (s.length : Int)) = false := by rw [posS_nil]; exact decide_eq_false (by omega)
theorem pos_ok {s r : Str} {c : UInt8} (h : (c :: r) <:+ s) : idxOk ((posS s (c :: r) : Nat) : Int) s.length := ⟨by omega, by have := posS_cons h; omega⟩
theorem u8_c (c b : UInt8) : ((c.toNat : Int) == (b.toNat : Int)) = decide (c = b) := by
 by_cases h : c = b
 ·subst h; simp
 ·rw [decide_eq_false h]
  simp only [beq_eq_false_iff_ne, ne_eq]
  intro e
  exact h (UInt8.toNat_inj.1 (by omega))
theorem blanksL_run (s : Str) (hs : s.length ≤ 1000000) (d : Nat) (l : Bool) : ∀ (r : Str), r <:+ s → (expr_parser_blanks_S_L0 (stP s r d l)).run = some (stP s (skS r) d l)
 | [], _ => by
  refine T.loop_done ?_
  unfold expr_parser_blanks_S_R0
  dsimp only
  rw [stP_at, stP_fst, pos_f, T.run_obl (fun h => by cases h), T.run_ite_f (by rfl), T.run_ret]
  rfl
 | c :: r, h => by
  have e : (expr_parser_blanks_S_R0 (stP s (c :: r) d l)).run = some (if c = 32 then .inl (stP s r d l) else .inr (stP s (c :: r) d l)) := by
   unfold expr_parser_blanks_S_R0
   dsimp only
   rw [stP_at, stP_fst, pos_t h, T.run_obl (fun _ => pos_ok h), Bool.true_and, posS_get h, show ((c.toNat : Int) == 32) = decide (c = 32) from u8_c c 32]
   by_cases hc : c = 32
   ·rw [T.run_ite_t (by simpa using hc), T.run_ret, if_pos hc]
    show some (Sum.inl (s, w64 (((posS s (c :: r) : Nat) : Int) + 1), (d : Int), l, ())) = _
    rw [stP_next d l h hs]
   ·rw [T.run_ite_f (by simpa using hc), T.run_ret, if_neg hc]
  unfold skS
  by_cases hc : c = 32
  ·rw [if_pos hc] at e ⊢
   exact (T.loop_step e).trans (blanksL_run s hs d l r (sfx_tail h))
  ·rw [if_neg hc] at e ⊢
   exact T.loop_done e
theorem blanks_run (s : Str) (hs : s.length ≤ 1000000) (d : Nat) (l : Bool) (r : Str) (h : r <:+ s) : (expr_parser_blanks_S (stP s r d l)).run = some (stP s (skS r) d l) := by
 unfold expr_parser_blanks_S
 rw [T.run_bind_of (blanksL_run s hs d l r h), T.run_ret]
def takeS (some : Str) (r : Str) : Option (UInt8 × Str) := match skS r with
 | [] => none
 | c :: q => if some.contains c = true then .some (c, q) else none
theorem takesP_run (s : Str) (hs : s.length ≤ 1000000) (d : Nat) (l : Bool) (r : Str) (h : r <:+ s) (m : Str) :
  (expr_parser_takes_S m (stP s r d l)).run = some (match takeS m r with | some (c, q) => ((c.toNat : Int), stP s q d l) | none => (0, stP s (skS r) d l)) := by
 have hk := List.IsSuffix.trans (skS_sfx r) h
 unfold expr_parser_takes_S takeS
 rw [T.run_bind_of (blanks_run s hs d l r h)]
 cases e : skS r with
 | nil =>
  rw [T.run_bind_of (a := (false, stP s [] d l)) (by rw [stP_at, stP_fst, pos_f, T.run_ite_false, T.run_ret]), T.run_ite_false, T.run_ret]
 | cons c q =>
  rw [e] at hk
  have hi : (strings_IndexByte m (c.toNat : Int)).run = some (idxB m c) := by unfold strings_IndexByte; rw [T.run_ret, byteOf_nat]
  rw [T.run_bind_of (a := (m.contains c, stP s (c :: q) d l)) (by rw [stP_at, stP_fst, pos_t hk, T.run_ite_true, T.run_obl (pos_ok hk), posS_get hk, T.run_bind_of hi, T.run_ret, idxB_mem])]
  have hp := posS_cons hk
  dsimp only
  cases hc : m.contains c with
  | false => rw [T.run_ite_false, T.run_ret]; rfl
  | true =>
   rw [T.run_ite_true, stP_at, stP_fst, w64_in (x := ((posS s (c :: q) : Nat) : Int) + 1) (by omega) (by omega), show ((posS s (c :: q) : Nat) : Int) + 1 - 1 = ((posS s (c :: q) : Nat) : Int) by omega, w64_in (by omega) (by omega), T.run_obl (pos_ok hk), T.run_ret, posS_get hk]
   rw [show ((posS s (c :: q) : Nat) : Int) + 1 = ((posS s q : Nat) : Int) by omega]
   rfl
theorem isDig_run (b : UInt8) : (expr_isDigit (b.toNat : Int)).run = some (isD b) := by
 unfold expr_isDigit isD
 rw [T.run_ret]
 congr 1
 by_cases h1 : 48 ≤ b.toNat <;> by_cases h2 : b.toNat ≤ 57 <;> simp [h1, h2] <;> omega
theorem isLet_run (b : UInt8) : (expr_isLetter (b.toNat : Int)).run = some (isL b) := rfl
theorem whileL_run (s : Str) (hs : s.length ≤ 1000000) (d : Nat) (l : Bool) (is : Int → T Bool) (p : UInt8 → Bool) (hp : ∀ b : UInt8, (is (b.toNat : Int)).run = some (p b)) (f m : Nat) (hm : m ≤ 1000000) :
  ∀ (n : Nat) (r : Str), r <:+ s → f ≤ posS s r → posS s r - f + n = m → (expr_parser_while_S_L0 is (m : Int) (f : Int) (stP s r d l)).run = some (stP s (lexW p n r).2 d l) := by
 intro n r
 induction r generalizing n with
 | nil =>
  intro h hf he
  have : (lexW p n []).2 = [] := by cases n <;> rfl
  rw [this]
  refine T.loop_done ?_
  unfold expr_parser_while_S_R0
  dsimp only
  rw [T.run_bind_of (a := (false, stP s [] d l)) (by rw [stP_at, stP_fst, pos_f, T.run_ite_false, T.run_ret]), T.run_ite_false, T.run_ret]
 | cons c r ih =>
  intro h hf he
  have hpos := posS_cons h
  cases n with
  | zero =>
   refine T.loop_done ?_
   unfold expr_parser_while_S_R0
   dsimp only
   rw [T.run_bind_of (a := (false, stP s (c :: r) d l)) (by rw [stP_at, stP_fst, pos_t h, T.run_ite_true, w64_in (by omega) (by omega), T.run_ite_f (decide_eq_false (by omega)), T.run_ret]), T.run_ite_false, T.run_ret]
   rfl
  | succ n =>
   have e : (expr_parser_while_S_R0 is (m : Int) (f : Int) (stP s (c :: r) d l)).run = some (if p c = true then .inl (stP s r d l) else .inr (stP s (c :: r) d l)) := by
    unfold expr_parser_while_S_R0
    dsimp only
    rw [T.run_bind_of (a := (p c, stP s (c :: r) d l)) (by rw [stP_at, stP_fst, pos_t h, T.run_ite_true, w64_in (by omega) (by omega), T.run_ite_t (decide_eq_true (by omega)), T.run_obl (pos_ok h), posS_get h, T.run_bind_of (hp c), T.run_ret])]
    dsimp only
    cases p c with
    | false => rfl
    | true =>
     rw [T.run_ite_true, T.run_ret, if_pos rfl]
     show some (Sum.inl (s, w64 (((posS s (c :: r) : Nat) : Int) + 1), (d : Int), l, ())) = _
     rw [stP_next d l h hs]
   unfold lexW
   by_cases hc : p c = true
   ·rw [if_pos hc] at e ⊢
    exact (T.loop_step e).trans (ih n (sfx_tail h) (by omega) (by omega))
   ·rw [if_neg hc] at e ⊢
    exact T.loop_done e
theorem while_run (s : Str) (hs : s.length ≤ 1000000) (d : Nat) (l : Bool) (is : Int → T Bool) (p : UInt8 → Bool) (hp : ∀ b : UInt8, (is (b.toNat : Int)).run = some (p b)) (m : Nat) (hm : m ≤ 1000000) (r : Str) (h : r <:+ s) :
  (expr_parser_while_S is (m : Int) (stP s r d l)).run = some ((lexW p m r).1, stP s (lexW p m r).2 d l) := by
 unfold expr_parser_while_S
 have h2 := List.IsSuffix.trans (lexW_sfx p m r) h
 have h3 := posS_le (lexW_sfx p m r) h
 have h4 : posS s (lexW p m r).2 ≤ s.length := by unfold posS; omega
 rw [stP_at, T.run_bind_of (whileL_run s hs d l is p hp (posS s r) m hm m r h (Nat.le_refl _) (by omega))]
 rw [stP_at, stP_fst, T.run_obl ⟨by omega, by omega, by omega⟩, T.run_ret, cutS_pos h (lexW_cat p m r)]
end Go.AM.Lf
namespace Go.AM.Lf
open PL
inductive PR where
 | no
 | er (k : Int) (bad r : Str) (d : Nat) (l : Bool)
 | ok (e : Expr) (r : Str) (l : Bool)
def PR.bind : PR → (Expr → Str → Bool → PR) → PR
 | .no, _ => .no
 | .er k b r d l, _ => .er k b r d l
 | .ok e r l, f => f e r l
def nodeE (k : Int) (l : List Expr) : Expr := .mk k zeroR [] l
def numT (t : Str) : Rat := match decP t with | some (n, d) => ratN (List.isPrefixOf [45] t) n d | none => zeroR
def finN (z : Rat) (t r : Str) (l : Bool) : PR := if 400 < t.length then .ok (.mk 1 z [] []) r true else .ok (.mk 1 (numT t) [] []) r l
def numP (z : Rat) (d : Nat) (r : Str) (l : Bool) : PR := match r.dropWhile isD with
 | [] => finN z (r.takeWhile isD) [] l
 | c :: q => if c = 46 then (if q.takeWhile isD = [] then .er 2 q q d l else finN z (r.takeWhile isD ++ (46 :: q.takeWhile isD)) (q.dropWhile isD) l)
  else finN z (r.takeWhile isD) (c :: q) l
def namP (r : Str) (l : Bool) : PR := .ok (.mk 2 zeroR (lexW isIn 24 r).1 []) (lexW isIn 24 r).2 l
def rowL (K : Bool → Str → PR) (m1 m2 : UInt8) (k1 k2 : Int) : Nat → Expr → Str → Bool → PR
 | 0, _, _, _ => .no
 | n + 1, e, r, l => match takeS [m1, m2] r with
  | none => .ok e (skS r) l
  | some (c, q) => (K l q).bind fun e2 q2 l2 => rowL K m1 m2 k1 k2 n (nodeE (if c = m1 then k1 else k2) [e, e2]) q2 l2
def rowP (K : Bool → Str → PR) (m1 m2 : UInt8) (k1 k2 : Int) (n : Nat) (l : Bool) (r : Str) : PR := (K l r).bind fun e q l' => rowL K m1 m2 k1 k2 n e q l'
def facP (z : Rat) (F S : Nat → Bool → Str → PR) (d : Nat) (l : Bool) (s : Str) : PR := match skS s with
 | [] => .er 2 [] [] d l
 | c :: r =>
  if c = 45 then (if 31 ≤ d then .er 4 (c :: r) r (d + 1) l else (F (d + 1) l r).bind fun e q l' => .ok (nodeE 7 [e]) q l')
  else if c = 40 then (if 31 ≤ d then .er 4 (c :: r) r (d + 1) l else (S (d + 1) l r).bind fun e q l' => match takeS [41] q with
   | some (_, q') => .ok e q' l'
   | none => .er 2 (skS q) (skS q) (d + 1) l')
  else if isD c = true then numP z d (c :: r) l
  else if isL c = true then namP (c :: r) l
  else .er 2 (c :: r) (c :: r) d l
mutual
def pF (z : Rat) : Nat → Nat → Bool → Str → PR
 | 0, _, _, _ => .no
 | n + 1, d, l, s => facP z (pF z n) (pS z n) d l s
def pP (z : Rat) : Nat → Nat → Bool → Str → PR
 | 0, _, _, _ => .no
 | n + 1, d, l, s => rowP (pF z n d) 42 47 5 6 n l s
def pS (z : Rat) : Nat → Nat → Bool → Str → PR
 | 0, _, _, _ => .no
 | n + 1, d, l, s => rowP (pP z n d) 43 45 3 4 n l s
end
def PR.sfx (s : Str) : PR → Prop
 | .no => True
 | .er _ b r _ _ => b <:+ s ∧ r <:+ s
 | .ok _ r _ => r <:+ s
theorem PR.sfx_bind {s : Str} {R : PR} {f : Expr → Str → Bool → PR} (h : R.sfx s) (hf : ∀ e r l, r <:+ s → (f e r l).sfx s) : (R.bind f).sfx s := by
 cases R with
 | no => trivial
 | er => exact h
 | ok e r l => exact hf e r l h
theorem takeS_sfx {m r q : Str} {c : UInt8} (h : takeS m r = some (c, q)) : (c :: q) <:+ r ∧ m.contains c = true ∧ skS r = c :: q := by
 have := skS_sfx r
 unfold takeS at h
 split at h
 ·cases h
 ·rename_i c' q' e
  split at h
  ·cases h; rw [e] at this; exact ⟨this, by assumption, e⟩
  ·cases h
theorem finN_sfx {s r t : Str} {z : Rat} {l : Bool} (h : r <:+ s) : (finN z t r l).sfx s := by unfold finN; split <;> exact h
theorem dropW_sfx (p : UInt8 → Bool) (r : Str) : r.dropWhile p <:+ r := List.dropWhile_suffix p
theorem numP_sfx {s r : Str} {z : Rat} {d : Nat} {l : Bool} (h : r <:+ s) : (numP z d r l).sfx s := by
 have hd := dropW_sfx isD r
 unfold numP
 split
 ·exact finN_sfx List.nil_suffix
 ·rename_i c q e
  rw [e] at hd
  have hq := (sfx_tail hd).trans h
  split
  ·split
   ·exact ⟨hq, hq⟩
   ·exact finN_sfx ((dropW_sfx isD q).trans hq)
  ·exact finN_sfx (hd.trans h)
theorem rowL_sfx {s : Str} {K : Bool → Str → PR} (hK : ∀ l r, r <:+ s → (K l r).sfx s) (m1 m2 : UInt8) (k1 k2 : Int) : ∀ (n : Nat) (e : Expr) (r : Str) (l : Bool), r <:+ s → (rowL K m1 m2 k1 k2 n e r l).sfx s
 | 0, _, _, _, _ => trivial
 | n + 1, e, r, l, h => by
  unfold rowL
  split
  ·exact (skS_sfx r).trans h
  ·rename_i c q ht
   have hq := (sfx_tail (takeS_sfx ht).1).trans h
   exact PR.sfx_bind (hK l q hq) fun e2 q2 l2 h2 => rowL_sfx hK m1 m2 k1 k2 n _ q2 l2 h2
theorem rowP_sfx {s : Str} {K : Bool → Str → PR} (hK : ∀ l r, r <:+ s → (K l r).sfx s) (m1 m2 : UInt8) (k1 k2 : Int) (n : Nat) (l : Bool) (r : Str) (h : r <:+ s) : (rowP K m1 m2 k1 k2 n l r).sfx s :=
 PR.sfx_bind (hK l r h) fun _ _ _ h2 => rowL_sfx hK m1 m2 k1 k2 n _ _ _ h2
theorem facP_sfx {s : Str} {z : Rat} {F S : Nat → Bool → Str → PR} (hF : ∀ d l r, r <:+ s → (F d l r).sfx s) (hS : ∀ d l r, r <:+ s → (S d l r).sfx s) (d : Nat) (l : Bool) (r : Str) (h : r <:+ s) : (facP z F S d l r).sfx s := by
 have hk := (skS_sfx r).trans h
 unfold facP
 split
 ·exact ⟨List.nil_suffix, List.nil_suffix⟩
 ·rename_i c q e
  rw [e] at hk
  have hq := sfx_tail hk
  split
  ·split
   ·exact ⟨hk, hq⟩
   ·exact PR.sfx_bind (hF _ _ _ hq) fun _ _ _ h2 => h2
  ·split
   ·split
    ·exact ⟨hk, hq⟩
    ·refine PR.sfx_bind (hS _ _ _ hq) fun e2 q2 l2 h2 => ?_
     split
     ·rename_i ht
      exact (sfx_tail (takeS_sfx ht).1).trans h2
     ·exact ⟨(skS_sfx q2).trans h2, (skS_sfx q2).trans h2⟩
   ·split
    ·exact numP_sfx hk
    ·split
     ·exact (lexW_sfx isIn 24 (c :: q)).trans hk
     ·exact ⟨hk, hk⟩
theorem pX_sfx (z : Rat) (s : Str) : ∀ (n : Nat), (∀ d l r, r <:+ s → (pF z n d l r).sfx s) ∧ (∀ d l r, r <:+ s → (pP z n d l r).sfx s) ∧ (∀ d l r, r <:+ s → (pS z n d l r).sfx s)
 | 0 => ⟨fun _ _ _ _ => by unfold pF; trivial, fun _ _ _ _ => by unfold pP; trivial, fun _ _ _ _ => by unfold pS; trivial⟩
 | n + 1 => by
  obtain ⟨h1, h2, h3⟩ := pX_sfx z s n
  refine ⟨fun d l r h => ?_, fun d l r h => ?_, fun d l r h => ?_⟩
  ·unfold pF; exact facP_sfx h1 h3 d l r h
  ·unfold pP; exact rowP_sfx (h1 d) _ _ _ _ n l r h
  ·unfold pS; exact rowP_sfx (h2 d) _ _ _ _ n l r h
def encR (s : Str) (d : Nat) : PR → Option ((AM.Expr × expr_parser) ⊕ (expr_stop × expr_parser))
 | .no => none
 | .er k b r d' l => some (.inr ((k, (((posS s b : Nat) : Int), ())), stP s r d' l))
 | .ok e r l => some (.inl (e, stP s r d l))
theorem fail_run (e a : Int) (p : expr_parser) : (expr_parser_fail_S e a p).run = some (.inr ((e, (a, ())), p)) := rfl
theorem within_run (s : Str) (hs : s.length ≤ 1000000) {c : UInt8} {r : Str} (h : (c :: r) <:+ s) (d : Nat) (hd : d ≤ 31) (l : Bool) : (expr_parser_within_S (stP s r d l)).run = some (if 31 ≤ d then .inr ((4, (((posS s (c :: r) : Nat) : Int), ())), stP s r (d + 1) l) else .inl (stP s r (d + 1) l)) := by
 have hp := posS_cons h
 have e : ((stP s r d l).1, ((stP s r d l).2.1, ((w64 ((stP s r d l).2.2.1 + (1 : Int))), ((stP s r d l).2.2.2.1, ())))) = stP s r (d + 1) l := by
  rw [stP_deep, w64_in (by omega) (by omega)]; rfl
 unfold expr_parser_within_S
 rw [e, stP_deep, stP_at, w64_in (by omega) (by omega), w64_in (by omega) (by omega)]
 by_cases c1 : 31 ≤ d
 ·rw [if_pos c1, T.run_ite_t (decide_eq_true (by omega)), T.run_bind_of (fail_run _ _ _), Sum.elim_inr, T.run_ret, show ((posS s r : Nat) : Int) - 1 = ((posS s (c :: r) : Nat) : Int) by omega]
 ·rw [if_neg c1, T.run_ite_f (decide_eq_false (by omega)), T.run_ret]
theorem takeW_drop (p : UInt8 → Bool) (r : Str) : r.takeWhile p ++ r.dropWhile p = r := List.takeWhile_append_dropWhile
theorem number_run (s : Str) (hs : s.length ≤ 1000000) (d : Nat) (l : Bool) (r : Str) (h : r <:+ s) : (expr_parser_number_S (stP s r d l)).run = encR s d (numP zeroR d r l) := by
 have hdr := dropW_sfx isD r
 have hl := h.length_le
 have hw := while_run s hs d l (fun z0 => expr_isDigit z0) isD isDig_run s.length hs r h
 rw [lexW_all isD s.length r hl] at hw
 -- what is done with the text
 have fin : ∀ (t q : Str), (T.ite (decide ((400 : Int) < (Nat.cast (List.length t) : Int)))
    (.ret (.inl ((Expr.mk (1 : Int) (false, (([] : List Int), (([] : List Int), ()))) ([] : Str) ([] : List AM.Expr)), ((stP s q d l).1, ((stP s q d l).2.1, ((stP s q d l).2.2.1, (true, ())))))))
    (T.bind (dec_Parse t) fun (r, r1) =>
     .ret (.inl ((Expr.mk (1 : Int) (r.1, (r.2.1, (r.2.2.1, ()))) ([] : Str) ([] : List AM.Expr)), (stP s q d l)))) : T ((AM.Expr × expr_parser) ⊕ (expr_stop × expr_parser))).run = encR s d (finN zeroR t q l) := by
  intro t q
  unfold finN
  by_cases c1 : 400 < t.length
  ·rw [if_pos c1, T.run_ite_t (decide_eq_true (by omega)), T.run_ret]; rfl
  ·rw [if_neg c1, T.run_ite_f (decide_eq_false (by omega)), T.run_bind_of (dec_Parse_run t (by omega)), if_neg c1]
   unfold numT
   cases decP t with
   | none => rfl
   | some x => rfl
 unfold expr_parser_number_S numP
 rw [stP_fst, T.run_bind_of hw]
 dsimp only
 cases e : r.dropWhile isD with
 | nil =>
  rw [e] at hdr
  rw [T.run_bind_of (a := .inl (r.takeWhile isD, stP s [] d l, Expr.mk 0 (false, ([], ([], ()))) [] [])) (by rw [stP_at, stP_fst, pos_f, T.run_obl (fun h => by cases h), Bool.false_and, T.run_ite_false, T.run_ret]), Sum.elim_inl]
  exact fin _ _
 | cons c q =>
  rw [e] at hdr
  have hcq := hdr.trans h
  have hq := sfx_tail hcq
  have hpos := posS_cons hcq
  dsimp only
  by_cases hc : c = 46
  ·rw [if_pos hc]
   have hw2 := while_run s hs d l (fun z0 => expr_isDigit z0) isD isDig_run s.length hs q hq
   rw [lexW_all isD s.length q hq.length_le] at hw2
   have hlen1 : (r.takeWhile isD).length ≤ 1000000 := by have := congrArg List.length (takeW_drop isD r); rw [List.length_append] at this; omega
   have hlen2 : (q.takeWhile isD).length ≤ 1000000 := by have := congrArg List.length (takeW_drop isD q); rw [List.length_append] at this; have := hq.length_le; omega
   have cond : ((decide (((posS s (c :: q) : Nat) : Int) < (s.length : Int))) && ((byteAt s ((posS s (c :: q) : Nat) : Int)) == (46 : Int))) = true := by
    rw [pos_t hcq, Bool.true_and, posS_get hcq, show ((c.toNat : Int) == 46) = decide (c = 46) from u8_c c 46]; simpa using hc
   have st : (((stP s (c :: q) d l).1, ((w64 ((stP s (c :: q) d l).2.1 + (1 : Int))), ((stP s (c :: q) d l).2.2.1, ((stP s (c :: q) d l).2.2.2.1, ())))) : expr_parser) = stP s q d l := stP_next d l hcq hs
   by_cases hq0 : q.takeWhile isD = []
   ·rw [if_pos hq0, T.run_bind_of (a := .inr ((2, (((posS s q : Nat) : Int), ())), stP s q d l, Expr.mk 0 (false, ([], ([], ()))) [] [])), Sum.elim_inr]
    ·rfl
    ·rw [st, stP_at, stP_fst, T.run_obl (fun _ => pos_ok hcq), T.run_ite_t cond, T.run_bind_of hw2, T.run_ite_t (by rw [strEq_iff]; simpa using hq0)]
     have : q.dropWhile isD = q := by have := takeW_drop isD q; rw [hq0] at this; simpa using this
     rw [this, T.run_bind_of (fail_run _ _ _), Sum.elim_inr, T.run_ret, stP_at]
   ·rw [if_neg hq0, T.run_bind_of (a := .inl (cat (r.takeWhile isD) (cat [46] (q.takeWhile isD)), stP s (q.dropWhile isD) d l, Expr.mk 0 (false, ([], ([], ()))) [] [])), Sum.elim_inl]
    ·exact fin _ _
    ·rw [st, stP_at, stP_fst, T.run_obl (fun _ => pos_ok hcq), T.run_ite_t cond, T.run_bind_of hw2, T.run_ite_f (by rw [strEq_iff]; simpa using hq0), T.run_leN _ (by simp; omega), T.run_leN _ (by simp [cat_eq]; omega), T.run_ret]
  ·rw [if_neg hc, T.run_bind_of (a := .inl (r.takeWhile isD, stP s (c :: q) d l, Expr.mk 0 (false, ([], ([], ()))) [] [])), Sum.elim_inl]
   ·exact fin _ _
   ·rw [stP_at, stP_fst, T.run_obl (fun _ => pos_ok hcq), T.run_ite_f (by rw [pos_t hcq, Bool.true_and, posS_get hcq, show ((c.toNat : Int) == 46) = decide (c = 46) from u8_c c 46]; simpa using hc), T.run_ret]
end Go.AM.Lf
namespace Go.AM.Lf
open PL
abbrev KT := expr_parser → T ((AM.Expr × expr_parser) ⊕ (expr_stop × expr_parser))
abbrev zE : Expr := Expr.mk (0 : Int) (false, (([] : List Int), (([] : List Int), ()))) ([] : Str) ([] : List AM.Expr)
noncomputable def rowRT (K : KT) (marks1 : Str) (kinds1 : expr_stop) : (expr_parser × AM.Expr × AM.Expr) → T ((expr_parser × AM.Expr × AM.Expr) ⊕ ((expr_parser × AM.Expr × AM.Expr) ⊕ (expr_stop × expr_parser × AM.Expr × AM.Expr)))
 | (v, v1, v2) =>
  T.bind (expr_parser_takes_S marks1 v) fun (c, p3) =>
  .ite (c == (0 : Int))
   (.ret (.inr (.inl (p3, (v2, v2)))))
   (T.bind (K p3) <|
     Sum.elim (fun (r1, p4) =>
      T.bind (strings_IndexByte marks1 c) fun r2 =>
      .obl (idxOk r2 (2 : Nat)) <|
      .ret (.inl (p4, (v1, (Expr.mk (arrAt (.int .i64) tyexpr_stop kinds1 (Int.toNat r2)) (false, (([] : List Int), (([] : List Int), ()))) ([] : Str) ([v2, r1] : List AM.Expr))))))
     (fun (pv1, p5) =>
      .ret (.inr (.inr (pv1, (p5, (v1, v2)))))))
noncomputable def rowT (K : KT) (marks : Str) (kinds : expr_stop) (p : expr_parser) : T ((AM.Expr × expr_parser) ⊕ (expr_stop × expr_parser)) :=
 T.bind (K p) <|
  Sum.elim (fun (r, p1) =>
   T.bind (T.loop (rowRT K marks kinds) (p1, (zE, r))) <|
    Sum.elim (fun (v3, v4, v5) =>
     .ret (.inl (v4, v3)))
    (fun (p6, v6, v7, v8) =>
     .ret (.inr (p6, v6))))
  (fun (pv, p2) =>
   .ret (.inr (pv, p2)))
theorem idx2 {m1 m2 c : UInt8} (h : [m1, m2].contains c = true) : idxB [m1, m2] c = if c = m1 then 0 else 1 := by
 unfold idxB
 by_cases h1 : c = m1
 ·subst h1; simp
 ·have h1' : (m1 == c) = false := by simpa using fun e : m1 = c => h1 e.symm
  have h2 : c = m2 := by simpa [h1] using h
  subst h2
  rw [h1', if_neg h1]
  unfold idxB
  simp
theorem rowL_run (s : Str) (hs : s.length ≤ 1000000) (d : Nat) (K : KT) (Ks : Bool → Str → PR) (hK : ∀ l r, r <:+ s → Ks l r ≠ .no → (K (stP s r d l)).run = encR s d (Ks l r)) (hx : ∀ l r, r <:+ s → (Ks l r).sfx s) (m1 m2 : UInt8) (hm1 : m1 ≠ 0) (hm2 : m2 ≠ 0) (k1 k2 : Int) :
  ∀ (n : Nat) (e : Expr) (r : Str) (l : Bool), r <:+ s → rowL Ks m1 m2 k1 k2 n e r l ≠ .no →
   match rowL Ks m1 m2 k1 k2 n e r l with
   | .no => True
   | .ok e' r' l' => (T.loop (rowRT K [m1, m2] (k1, (k2, ()))) (stP s r d l, (zE, e))).run = some (.inl (stP s r' d l', (e', e')))
   | .er k b r' d' l' => ∃ x, (T.loop (rowRT K [m1, m2] (k1, (k2, ()))) (stP s r d l, (zE, e))).run = some (.inr ((k, (((posS s b : Nat) : Int), ())), (stP s r' d' l', (zE, x))))
 | 0, _, _, _, _, hn => absurd rfl hn
 | n + 1, e, r, l, h, hn => by
  have ht := takesP_run s hs d l r h [m1, m2]
  unfold rowL at hn ⊢
  cases q : takeS [m1, m2] r with
  | none =>
   rw [q] at ht
   dsimp only
   refine T.loop_done ?_
   unfold rowRT
   dsimp only
   rw [T.run_bind_of ht]
   rfl
  | some x =>
   obtain ⟨c, q'⟩ := x
   rw [q] at ht hn
   dsimp only at ht hn ⊢
   have hsf := takeS_sfx q
   have hq := (sfx_tail hsf.1).trans h
   have hc0 : ((c.toNat : Int) == 0) = false := by
    rw [show ((c.toNat : Int) == 0) = decide (c = 0) from u8_c c 0]
    have h2 : c = m1 ∨ c = m2 := by simpa using hsf.2.1
    rcases h2 with rfl | rfl <;> simpa
   have hK' := hK l q' hq
   have hx' := hx l q' hq
   cases z : Ks l q' with
   | no => rw [z] at hn; exact absurd rfl hn
   | er k b r' d' l' =>
    rw [z] at hK'
    have hK' := hK' (by simp)
    refine ⟨e, T.loop_done ?_⟩
    unfold rowRT
    dsimp only
    rw [T.run_bind_of ht]
    dsimp only
    rw [T.run_ite_f hc0, T.run_bind_of hK']
    rfl
   | ok e2 r2 l2 =>
    rw [z] at hK' hn hx'
    have hK' := hK' (by simp)
    have hi : (strings_IndexByte [m1, m2] (c.toNat : Int)).run = some (idxB [m1, m2] c) := by unfold strings_IndexByte; rw [T.run_ret, byteOf_nat]
    have step : (rowRT K [m1, m2] (k1, (k2, ())) (stP s r d l, (zE, e))).run = some (.inl (stP s r2 d l2, (zE, nodeE (if c = m1 then k1 else k2) [e, e2]))) := by
     unfold rowRT
     dsimp only
     rw [T.run_bind_of ht]
     dsimp only
     rw [T.run_ite_f hc0, T.run_bind_of hK', Sum.elim_inl, T.run_bind_of hi, idx2 hsf.2.1]
     by_cases hc : c = m1
     ·rw [if_pos hc, if_pos hc, T.run_obl ⟨by omega, by omega⟩, T.run_ret]
      rfl
     ·rw [if_neg hc, if_neg hc, T.run_obl ⟨by omega, by omega⟩, T.run_ret]
      rfl
    rw [T.loop_step step]
    exact rowL_run s hs d K Ks hK hx m1 m2 hm1 hm2 k1 k2 n _ r2 l2 hx' hn
theorem rowT_run (s : Str) (hs : s.length ≤ 1000000) (d : Nat) (K : KT) (Ks : Bool → Str → PR) (hK : ∀ l r, r <:+ s → Ks l r ≠ .no → (K (stP s r d l)).run = encR s d (Ks l r)) (hx : ∀ l r, r <:+ s → (Ks l r).sfx s) (m1 m2 : UInt8) (hm1 : m1 ≠ 0) (hm2 : m2 ≠ 0) (k1 k2 : Int)
  (n : Nat) (l : Bool) (r : Str) (h : r <:+ s) (hn : rowP Ks m1 m2 k1 k2 n l r ≠ .no) : (rowT K [m1, m2] (k1, (k2, ())) (stP s r d l)).run = encR s d (rowP Ks m1 m2 k1 k2 n l r) := by
 have hK' := hK l r h
 have hx' := hx l r h
 unfold rowT
 unfold rowP at hn ⊢
 cases z : Ks l r with
 | no => rw [z] at hn; exact absurd rfl hn
 | er k b r' d' l' =>
  rw [z] at hK'
  rw [T.run_bind_of (hK' (by simp))]
  rfl
 | ok e r' l' =>
  rw [z] at hK' hn hx'
  have hK' := hK' (by simp)
  have hn : rowL Ks m1 m2 k1 k2 n e r' l' ≠ .no := hn
  have hl := rowL_run s hs d K Ks hK hx m1 m2 hm1 hm2 k1 k2 n e r' l' hx' hn
  rw [T.run_bind_of hK', Sum.elim_inl]
  show _ = encR s d (rowL Ks m1 m2 k1 k2 n e r' l')
  cases w : rowL Ks m1 m2 k1 k2 n e r' l' with
  | no => exact absurd w hn
  | er k b r2 d2 l2 =>
   rw [w] at hl
   obtain ⟨x, hl⟩ := hl
   dsimp only
   rw [T.run_bind_of hl]
   rfl
  | ok e2 r2 l2 =>
   rw [w] at hl
   dsimp only at hl ⊢
   rw [T.run_bind_of hl]
   rfl
theorem factorB_run (s : Str) (hs : s.length ≤ 1000000) (FT ST : KT) (F S : Nat → Bool → Str → PR)
  (hF : ∀ d l r, d ≤ 31 → r <:+ s → F d l r ≠ .no → (FT (stP s r d l)).run = encR s d (F d l r)) (hS : ∀ d l r, d ≤ 31 → r <:+ s → S d l r ≠ .no → (ST (stP s r d l)).run = encR s d (S d l r))
  (xS : ∀ d l r, r <:+ s → (S d l r).sfx s) (d : Nat) (l : Bool) (r : Str) (hd : d ≤ 31) (h : r <:+ s) (hn : facP zeroR F S d l r ≠ .no) : (expr_parser_factor_S_B FT ST (stP s r d l)).run = encR s d (facP zeroR F S d l r) := by
 have ht := takesP_run s hs d l r h [45, 40]
 have hk := (skS_sfx r).trans h
 unfold expr_parser_factor_S_B
 unfold facP at hn ⊢
 unfold takeS at ht
 -- what deeper ones leave
 have down : ∀ (q : Str) (l' : Bool), (((stP s q (d + 1) l').1, ((stP s q (d + 1) l').2.1, ((w64 ((stP s q (d + 1) l').2.2.1 - (1 : Int))), ((stP s q (d + 1) l').2.2.2.1, ())))) : expr_parser) = stP s q d l' := by
  intro q l'
  rw [stP_deep, w64_in (by omega) (by omega)]
  show (s, (((posS s q : Nat) : Int), (((d + 1 : Nat) : Int) - 1, (l', ())))) = (s, (((posS s q : Nat) : Int), ((d : Int), (l', ()))))
  rw [show ((d + 1 : Nat) : Int) - 1 = (d : Int) by omega]
 cases e : skS r with
 | nil =>
  rw [e] at ht
  dsimp only at ht ⊢
  rw [T.run_bind_of ht]
  dsimp only
  rw [T.run_ite_f (by rfl), T.run_ite_f (by rfl)]
  rw [T.run_bind_of (a := (false, (stP s [] d l, zE))) (by rw [stP_at, stP_fst, pos_f, T.run_ite_false, T.run_ret])]
  dsimp only
  rw [T.run_ite_false, T.run_bind_of (a := (false, (stP s [] d l, zE))) (by rw [stP_at, stP_fst, pos_f, T.run_ite_false, T.run_ret])]
  rfl
 | cons c q =>
  rw [e] at ht hn hk
  have hq := sfx_tail hk
  dsimp only at ht hn ⊢
  have hw := within_run s hs hk d hd l
  by_cases c45 : c = 45
  ·subst c45
   rw [if_pos (by decide)] at ht
   dsimp only at ht
   rw [if_pos rfl] at hn ⊢
   rw [T.run_bind_of ht]
   dsimp only
   rw [T.run_ite_t (by rfl), T.run_bind_of hw]
   by_cases c31 : 31 ≤ d
   ·rw [if_pos c31, if_pos c31]; rfl
   ·rw [if_neg c31] at hn
    rw [if_neg c31, if_neg c31, Sum.elim_inl]
    have hf := hF (d + 1) l q (by omega) hq
    cases z : F (d + 1) l q with
    | no => rw [z] at hn; exact absurd rfl hn
    | er k b r' d' l' => rw [z] at hf; rw [T.run_bind_of (hf (by simp))]; rfl
    | ok e2 r2 l2 =>
     rw [z] at hf
     rw [T.run_bind_of (hf (by simp)), Sum.elim_inl]
     dsimp only
     rw [T.run_ret, down]
     rfl
  ·rw [if_neg c45] at hn ⊢
   by_cases c40 : c = 40
   ·subst c40
    rw [if_pos (by decide)] at ht
    dsimp only at ht
    rw [if_pos rfl] at hn ⊢
    rw [T.run_bind_of ht]
    dsimp only
    rw [T.run_ite_f (by rfl), T.run_ite_t (by rfl), T.run_bind_of hw]
    by_cases c31 : 31 ≤ d
    ·rw [if_pos c31, if_pos c31]; rfl
    ·rw [if_neg c31] at hn
     rw [if_neg c31, if_neg c31, Sum.elim_inl]
     have hf := hS (d + 1) l q (by omega) hq
     have xf := xS (d + 1) l q hq
     cases z : S (d + 1) l q with
     | no => rw [z] at hn; exact absurd rfl hn
     | er k b r' d' l' => rw [z] at hf; rw [T.run_bind_of (hf (by simp))]; rfl
     | ok e2 r2 l2 =>
      rw [z] at hf xf
      rw [T.run_bind_of (hf (by simp)), Sum.elim_inl]
      dsimp only
      have ht2 := takesP_run s hs (d + 1) l2 r2 xf [41]
      show _ = encR s d (match takeS [41] r2 with | some (_, q') => .ok e2 q' l2 | none => .er 2 (skS r2) (skS r2) (d + 1) l2)
      cases w : takeS [41] r2 with
      | none =>
       rw [w] at ht2
       dsimp only at ht2 ⊢
       rw [T.run_bind_of (a := .inr ((2, (((posS s (skS r2) : Nat) : Int), ())), (stP s (skS r2) (d + 1) l2, (zE, e2)))) (by rw [T.run_bind_of ht2]; rfl)]
       rfl
      | some x =>
       obtain ⟨c', q'⟩ := x
       rw [w] at ht2
       have hc' := (takeS_sfx w).2.1
       have hc' : c' = 41 := by simpa using hc'
       subst hc'
       dsimp only at ht2 ⊢
       rw [T.run_bind_of (a := .inl (stP s q' (d + 1) l2, (zE, e2))) (by rw [T.run_bind_of ht2]; rfl), Sum.elim_inl]
       dsimp only
       rw [T.run_ret, down]
       rfl
   ·rw [if_neg (by simp [c45, c40])] at ht
    dsimp only at ht
    rw [if_neg c40] at hn ⊢
    rw [T.run_bind_of ht]
    dsimp only
    rw [T.run_ite_f (by rfl), T.run_ite_f (by rfl)]
    rw [T.run_bind_of (a := (isD c, (stP s (c :: q) d l, zE))) (by rw [stP_at, stP_fst, pos_t hk, T.run_ite_true, T.run_obl (pos_ok hk), posS_get hk, T.run_bind_of (isDig_run c), T.run_ret])]
    dsimp only
    cases hD : isD c with
    | true =>
     rw [if_pos rfl, T.run_ite_true]
     have hnum := number_run s hs d l (c :: q) hk
     cases z : numP zeroR d (c :: q) l with
     | no =>
      exfalso
      rw [if_pos hD, z] at hn
      exact hn rfl
     | er k b r' d' l' => rw [z] at hnum; rw [T.run_bind_of hnum]; rfl
     | ok e2 r2 l2 => rw [z] at hnum; rw [T.run_bind_of hnum]; rfl
    | false =>
     rw [if_neg (by simp), T.run_ite_false]
     rw [T.run_bind_of (a := (isL c, (stP s (c :: q) d l, zE))) (by rw [stP_at, stP_fst, pos_t hk, T.run_ite_true, T.run_obl (pos_ok hk), posS_get hk, T.run_bind_of (isLet_run c), T.run_ret])]
     dsimp only
     cases hL : isL c with
     | true =>
      rw [if_pos rfl, T.run_ite_true]
      have hwl : (expr_parser_while_S (fun z0 => expr_isInner z0) 24 (stP s (c :: q) d l)).run = _ := while_run s hs d l (fun z0 => expr_isInner z0) isIn isInner_run 24 (by omega) (c :: q) hk
      rw [T.run_bind_of hwl]
      rfl
     | false =>
      rw [if_neg (by simp), T.run_ite_false]
      rfl
end Go.AM.Lf
namespace Go.AM.Lf
open PL
mutual
def mayE (deep : Nat) (left : Int) : Expr → Bool × Int
 | .mk k n s l => if left - 1 < 0 ∨ (decide (deep < 32) && nodeB (.mk k n s l)) = false then (false, left - 1) else mayEs (deep + 1) (left - 1) l
def mayEs (deep : Nat) (left : Int) : List Expr → Bool × Int
 | [] => (true, left)
 | e :: r => if (mayE deep left e).1 = true then mayEs deep (mayE deep left e).2 r else (false, (mayE deep left e).2)
end
mutual
theorem mayE_eq : ∀ (e : Expr) (d : Nat) (left : Int), 0 ≤ left → (mayE d left e).1 = (okE d e && decide ((ndE e : Int) ≤ left)) ∧ ((mayE d left e).1 = true → (mayE d left e).2 = left - ndE e) ∧ (mayE d left e).2 ≤ left ∧ -1 ≤ (mayE d left e).2
 | .mk k n s l, d, left, h => by
  have e1 : okE d (.mk k n s l) = ((decide (d < 32) && nodeB (.mk k n s l)) && okEs (d + 1) l) := by unfold okE; rw [Bool.and_assoc]
  have e2 : ndE (.mk k n s l) = 1 + ndEs l := rfl
  unfold mayE
  rw [e1, e2]
  by_cases c : left - 1 < 0
  ·rw [if_pos (.inl c)]
   refine ⟨?_, fun h => by simp at h, by omega, by dsimp only; omega⟩
   dsimp only
   rw [show decide (((1 + ndEs l : Nat) : Int) ≤ left) = false from decide_eq_false (by omega), Bool.and_false]
  ·cases q : (decide (d < 32) && nodeB (.mk k n s l)) with
   | false => rw [if_pos (.inr rfl)]; exact ⟨rfl, fun h => by simp at h, by dsimp only; omega, by dsimp only; omega⟩
   | true =>
    rw [if_neg (by rintro (h | h); exact c h; simp at h), Bool.true_and]
    obtain ⟨h1, h2, h3, h4⟩ := mayEs_eq l (d + 1) (left - 1) (by omega)
    refine ⟨?_, fun h => by rw [h2 h]; omega, by omega, by omega⟩
    rw [h1]
    congr 1
    exact decide_eq_decide.2 (by omega)
theorem mayEs_eq : ∀ (l : List Expr) (d : Nat) (left : Int), 0 ≤ left → (mayEs d left l).1 = (okEs d l && decide ((ndEs l : Int) ≤ left)) ∧ ((mayEs d left l).1 = true → (mayEs d left l).2 = left - ndEs l) ∧ (mayEs d left l).2 ≤ left ∧ -1 ≤ (mayEs d left l).2
 | [], d, left, h => by
  refine ⟨?_, fun _ => ?_, Int.le_refl _, ?_⟩
  ·show true = (true && decide (((0 : Nat) : Int) ≤ left)); simp; omega
  ·show left = left - ((0 : Nat) : Int); omega
  ·show -1 ≤ left; omega
 | e :: r, d, left, h => by
  have e1 : okEs d (e :: r) = (okE d e && okEs d r) := rfl
  have e2 : ndEs (e :: r) = ndE e + ndEs r := rfl
  obtain ⟨h1, h2, h3, h4⟩ := mayE_eq e d left h
  unfold mayEs
  rw [e1, e2]
  cases q : (mayE d left e).1 with
  | false =>
   rw [if_neg (by simp)]
   refine ⟨?_, fun h => by simp at h, h3, h4⟩
   dsimp only
   rw [q] at h1
   cases ho : okE d e with
   | false => rfl
   | true =>
    rw [ho, Bool.true_and] at h1
    have := of_decide_eq_false h1.symm
    rw [show decide (((ndE e + ndEs r : Nat) : Int) ≤ left) = false from decide_eq_false (by omega), Bool.and_false]
  | true =>
   rw [if_pos rfl]
   have hq := h2 q
   rw [q] at h1
   have h1 := h1.symm
   rw [Bool.and_eq_true, decide_eq_true_eq] at h1
   obtain ⟨g1, g2, g3, g4⟩ := mayEs_eq r d (mayE d left e).2 (by omega)
   refine ⟨?_, fun h => by rw [g2 h]; omega, by omega, by omega⟩
   rw [g1, h1.1, Bool.true_and]
   congr 1
   exact decide_eq_decide.2 (by omega)
end
theorem mayAll_run (e : Expr) (deep : Nat) (left : Int) (h : allOk e) (hl : ndE e ≤ 1000000) (hl0 : 0 ≤ left) (hl2 : left ≤ 100000) (hd : deep ≤ 32) : (expr_may_S e (deep : Int) left).run = some (mayE deep left e) := by
 unfold expr_may_S
 refine T.fix_run (fun x : Expr × Int × Int => allOk x.1 ∧ 0 ≤ x.2.1 ∧ x.2.1 ≤ 32 ∧ ndE x.1 ≤ 1000000 ∧ 0 ≤ x.2.2 ∧ x.2.2 ≤ 100000) (fun x => ndE x.1) (fun x => mayE x.2.1.toNat x.2.2 x.1) (fun x hx g hg => ?_) (x := (e, (deep : Int), left)) ⟨h, by dsimp only; omega, by dsimp only; omega, by dsimp only; omega, by dsimp only; omega, by dsimp only; omega⟩
 obtain ⟨e, d, L⟩ := x
 obtain ⟨ha, hd0, hd1, hn, hlf0, hlf⟩ := hx
 dsimp only at ha hd0 hd1 hn hlf0 hlf
 obtain ⟨D, rfl⟩ : ∃ D : Nat, d = (D : Int) := ⟨d.toNat, by omega⟩
 cases e with | mk k n s kids =>
 obtain ⟨hnum, hkids⟩ := ha
 have hnd : ndE (.mk k n s kids) = 1 + ndEs kids := by unfold ndE; rfl
 rw [hnd] at hn
 have ew : w64 (L - 1) = L - 1 := w64_in (by omega) (by omega)
 have hnode := isNode_run (.mk k n s kids) hnum
 simp only [Int.toNat_natCast]
 unfold expr_may_S_B
 rw [ew]
 have head : ((.ite (decide ((L - 1) < (0 : Int))) (.ret (true, L - 1)) (.ite (decide ((32 : Int) ≤ (D : Int))) (.ret (true, L - 1)) (T.bind (expr_isNode (.mk k n s kids)) fun r => .ret ((!r), L - 1)))) : T (Bool × Int)).run =
   some (decide (L - 1 < 0 ∨ (decide (D < 32) && nodeB (.mk k n s kids)) = false), L - 1) := by
  by_cases c0 : L - 1 < 0
  ·rw [T.run_ite_t (decide_eq_true c0), T.run_ret, decide_eq_true (.inl c0)]
  ·rw [T.run_ite_f (decide_eq_false c0)]
   by_cases c : D < 32
   ·rw [T.run_ite_f (decide_eq_false (by omega)), T.run_bind_of hnode, T.run_ret, decide_eq_true c, Bool.true_and]
    cases nodeB (.mk k n s kids) <;> simp [c0]
   ·rw [T.run_ite_t (decide_eq_true (by omega)), T.run_ret, decide_eq_false c, Bool.false_and]
    simp
 rw [T.run_bind_of head]
 dsimp only
 unfold mayE
 by_cases q : L - 1 < 0 ∨ (decide (D < 32) && nodeB (.mk k n s kids)) = false
 ·rw [T.run_ite_t (decide_eq_true q), T.run_ret, if_pos q]
 ·rw [T.run_ite_f (decide_eq_false q), if_neg q]
  have q1 : ¬ L - 1 < 0 := fun h => q (.inl h)
  have hD : D < 32 := by
   by_cases c : D < 32
   ·exact c
   ·exact absurd (.inr (by rw [decide_eq_false c]; rfl)) q
  have ed : w64 ((D : Int) + 1) = ((D + 1 : Nat) : Int) := by rw [w64_in (by omega) (by omega)]; omega
  have loop : ∃ z, (slices_IndexFunc_sl_Expr_expr_may_f1_S_L0 (fun y0 y1 y2 => g (y0, y1, y2)) kids (kids.length : Int) (((D : Int), ()), ((0 : Int), L - 1))).run = some z ∧
    (((mayEs (D + 1) (L - 1) kids).1 = true ∧ z = .inl (mayEs (D + 1) (L - 1) kids).2) ∨ ((mayEs (D + 1) (L - 1) kids).1 = false ∧ ∃ i : Int, 0 ≤ i ∧ z = .inr (i, (mayEs (D + 1) (L - 1) kids).2))) := by
   refine T.loop_post (r := slices_IndexFunc_sl_Expr_expr_may_f1_S_R0 (fun y0 y1 y2 => g (y0, y1, y2)) kids (kids.length : Int)) (fun st : (Int × Unit) × Int × Int => ∃ (j : Nat) (B : Int), st = (((D : Int), ()), (j : Int), B) ∧ j ≤ kids.length ∧ 0 ≤ B ∧ B ≤ 100000 ∧
    mayEs (D + 1) B (kids.drop j) = mayEs (D + 1) (L - 1) kids) (fun st => kids.length - st.2.1.toNat) _ (fun st hst => ?_) ⟨0, L - 1, rfl, by omega, by omega, by omega, by rw [List.drop_zero]⟩
   obtain ⟨j, B, rfl, hj, hB0, hB, hoB⟩ := hst
   by_cases c : j < kids.length
   ·have hdr : kids.drop j = kids[j] :: kids.drop (j + 1) := List.drop_eq_getElem_cons c
    rw [hdr] at hoB
    rw [show mayEs (D + 1) B (kids[j] :: kids.drop (j + 1)) = if (mayE (D + 1) B kids[j]).1 = true then mayEs (D + 1) (mayE (D + 1) B kids[j]).2 (kids.drop (j + 1)) else (false, (mayE (D + 1) B kids[j]).2) from rfl] at hoB
    have hmem := allOks_mem hkids _ (List.getElem_mem c)
    have hle1 := mayE_eq kids[j] (D + 1) B hB0
    have hsub : ndE kids[j] < 1 + ndEs kids := by have := ndEs_mem (List.getElem_mem c); omega
    have hrec := hg (kids[j], ((D + 1 : Nat) : Int), B) ⟨hmem, by dsimp only; omega, by dsimp only; omega, by dsimp only; omega, by dsimp only; omega, by dsimp only; omega⟩ (by dsimp only; rw [hnd]; exact hsub)
    dsimp only at hrec
    simp only [Int.toNat_natCast] at hrec
    have hf : (expr_may_f1_S (fun y0 y1 y2 => g (y0, y1, y2)) kids[j] (D : Int) B).run = some (!(mayE (D + 1) B kids[j]).1, (mayE (D + 1) B kids[j]).2) := by
     unfold expr_may_f1_S
     rw [ed, T.run_bind_of hrec]; rfl
    unfold slices_IndexFunc_sl_Expr_expr_may_f1_S_R0
    dsimp only
    rw [T.run_ite_t (lt_t c), T.run_obl (idx_ok c), nth_at c, T.run_bind_of hf]
    dsimp only
    cases hk : (mayE (D + 1) B kids[j]).1 with
    | true =>
     left
     rw [hk, if_pos rfl] at hoB
     rw [T.run_ite_f (by rfl), T.run_ret]
     have hlen := ndEs_len kids
     rw [ix1 j _ c (by omega)]
     have hb := hle1.1
     rw [hk] at hb
     have hb := hb.symm
     rw [Bool.and_eq_true, decide_eq_true_eq] at hb
     have h2 := hle1.2.1 hk
     refine ⟨_, rfl, ⟨j + 1, (mayE (D + 1) B kids[j]).2, rfl, c, by omega, by omega, hoB⟩, ?_⟩
     simp only [Int.toNat_natCast]
     omega
    | false =>
     right
     rw [hk, if_neg (by simp)] at hoB
     rw [T.run_ite_t (by rfl), T.run_ret]
     exact ⟨_, rfl, .inr ⟨by rw [← hoB], (j : Int), by omega, by rw [← hoB]⟩⟩
   ·right
    have hj2 : j = kids.length := by omega
    subst hj2
    rw [List.drop_length] at hoB
    unfold slices_IndexFunc_sl_Expr_expr_may_f1_S_R0
    dsimp only
    rw [T.run_ite_f (lt_f _), T.run_ret]
    exact ⟨_, rfl, .inl ⟨by rw [← hoB]; rfl, by rw [← hoB]; rfl⟩⟩
  obtain ⟨z, hz, hc⟩ := loop
  have hcf : (slices_ContainsFunc_sl_Expr_expr_may_f1_S (fun y0 y1 y2 => g (y0, y1, y2)) kids ((D : Int), ()) (L - 1)).run = some (!(mayEs (D + 1) (L - 1) kids).1, (mayEs (D + 1) (L - 1) kids).2) := by
   unfold slices_ContainsFunc_sl_Expr_expr_may_f1_S slices_IndexFunc_sl_Expr_expr_may_f1_S
   rcases hc with ⟨ho, rfl⟩ | ⟨ho, i, hi, rfl⟩
   ·have : ((T.bind (slices_IndexFunc_sl_Expr_expr_may_f1_S_L0 (fun y0 y1 y2 => g (y0, y1, y2)) kids (kids.length : Int) (((D : Int), ()), ((0 : Int), L - 1))) <| Sum.elim (fun v2 => .ret ((-1 : Int), v2)) (fun (x2, v3) => .ret (x2, v3))) : T (Int × Int)).run = some (-1, (mayEs (D + 1) (L - 1) kids).2) := by
     rw [T.run_bind_of hz]; rfl
    rw [T.run_bind_of this, ho]; rfl
   ·have : ((T.bind (slices_IndexFunc_sl_Expr_expr_may_f1_S_L0 (fun y0 y1 y2 => g (y0, y1, y2)) kids (kids.length : Int) (((D : Int), ()), ((0 : Int), L - 1))) <| Sum.elim (fun v2 => .ret ((-1 : Int), v2)) (fun (x2, v3) => .ret (x2, v3))) : T (Int × Int)).run = some (i, (mayEs (D + 1) (L - 1) kids).2) := by
     rw [T.run_bind_of hz]; rfl
    rw [T.run_bind_of this, ho, T.run_ret, decide_eq_true hi]; rfl
  rw [show Expr.kids (.mk k n s kids) = kids from rfl, T.run_bind_of hcf]
  dsimp only
  rw [T.run_ret, Bool.not_not]
def isE (e : Expr) : Bool := okE 0 e && decide (ndE e ≤ 256)
theorem IsAll_run (e : Expr) (h : allOk e) (hn : ndE e ≤ 1000000) : (expr_Is e).run = some (isE e) := by
 unfold expr_Is isE
 have := mayAll_run e 0 256 h hn (by omega) (by omega) (by omega)
 have this : (expr_may_S e 0 256).run = some (mayE 0 256 e) := this
 rw [T.run_bind_of this, T.run_ret, (mayE_eq e 0 256 (by omega)).1]
 congr 2
 exact decide_eq_decide.2 (by omega)
end Go.AM.Lf
namespace Go.AM.Lf
open PL
def exGood (e : Expr) : Prop := allOk e ∧ bkE e ≤ 300 * ndE e
def PR.good (N : Nat) : PR → Prop
 | .ok e r _ => exGood e ∧ ndE e + r.length ≤ N
 | _ => True
theorem ndE_pos (e : Expr) : 1 ≤ ndE e := by cases e; unfold ndE; omega
theorem zeroR_nok : numOk zeroR := ⟨limbs_nil, limbs_nil, by show (0 : Nat) ≤ 100; omega, by show (0 : Nat) ≤ 100; omega⟩
theorem leaf_good (k : Int) (n : Rat) (s : Str) (hn : numOk n) (hs : s.length ≤ 24) : exGood (.mk k n s []) := by
 refine ⟨⟨hn, trivial⟩, ?_⟩
 have h3 := hn.2.2.1
 have h4 := hn.2.2.2
 show 1 + ((1 + ((List.length n.2.1 + 1) + ((List.length n.2.2.1 + 1) + 1))) + ((List.length s + 1) + ((0 + 1) + 1))) ≤ 300 * (1 + 0)
 omega
theorem node1_good (k : Int) {a : Expr} (h : exGood a) : exGood (nodeE k [a]) := by
 refine ⟨⟨zeroR_nok, h.1, trivial⟩, ?_⟩
 show 1 + ((1 + ((0 + 1) + ((0 + 1) + 1))) + ((0 + 1) + (((bkE a + 0) + 1) + 1))) ≤ 300 * (1 + (ndE a + 0))
 have := h.2
 omega
theorem node2_good (k : Int) {a b : Expr} (h : exGood a) (h2 : exGood b) : exGood (nodeE k [a, b]) := by
 refine ⟨⟨zeroR_nok, h.1, h2.1, trivial⟩, ?_⟩
 show 1 + ((1 + ((0 + 1) + ((0 + 1) + 1))) + ((0 + 1) + (((bkE a + (bkE b + 0)) + 1) + 1))) ≤ 300 * (1 + (ndE a + (ndE b + 0)))
 have := h.2
 have := h2.2
 omega
theorem nd1 (k : Int) (a : Expr) : ndE (nodeE k [a]) = 1 + ndE a := rfl
theorem nd2 (k : Int) (a b : Expr) : ndE (nodeE k [a, b]) = 1 + (ndE a + ndE b) := rfl
theorem PR.good_bind {N : Nat} {R : PR} {f : Expr → Str → Bool → PR} {M : Nat} (h : R.good M) (hf : ∀ e r l, exGood e → ndE e + r.length ≤ M → (f e r l).good N) : (R.bind f).good N := by
 cases R with
 | no => trivial
 | er => trivial
 | ok e r l => exact hf e r l h.1 h.2
theorem numT_ok (t : Str) (ht : t.length ≤ 400) : numOk (numT t) := by
 unfold numT
 split
 ·rename_i n d h
  have := parse_small (List.isPrefixOf [45] t) ht h
  exact ⟨this.1, this.2.1, by have := this.2.2.1; omega, by have := this.2.2.2; omega⟩
 ·exact zeroR_nok
theorem finN_good {z : Rat} (hz : numOk z) (t r : Str) (l : Bool) (N : Nat) (h : r.length + 1 ≤ N) : (finN z t r l).good N := by
 unfold finN
 split
 ·exact ⟨leaf_good 1 z [] hz (by simp), by show 1 + 0 + r.length ≤ N; omega⟩
 ·exact ⟨leaf_good 1 _ [] (numT_ok t (by omega)) (by simp), by show 1 + 0 + r.length ≤ N; omega⟩
theorem numP_good {z : Rat} (hz : numOk z) (d : Nat) (c : UInt8) (r : Str) (l : Bool) (hc : isD c = true) : (numP z d (c :: r) l).good (c :: r).length := by
 have hd : (c :: r).dropWhile isD = r.dropWhile isD := by rw [List.dropWhile_cons_of_pos hc]
 have hl := (dropW_sfx isD r).length_le
 unfold numP
 rw [hd]
 split
 ·exact finN_good hz _ _ _ _ (by simp)
 ·rename_i c' q e
  rw [e] at hl
  split
  ·split
   ·trivial
   ·have := (dropW_sfx isD q).length_le
    simp only [List.length_cons] at hl
    exact finN_good hz _ _ _ _ (by simp only [List.length_cons]; omega)
  ·exact finN_good hz _ _ _ _ (by simp only [List.length_cons] at hl ⊢; omega)
theorem lexW_len (p : UInt8 → Bool) : ∀ (n : Nat) (r : Str), (lexW p n r).1.length ≤ n
 | 0, _ => by unfold lexW; simp
 | _ + 1, [] => by unfold lexW; simp
 | n + 1, c :: r => by
  have := lexW_len p n r
  unfold lexW
  split
  ·simp only [List.length_cons]; omega
  ·simp
theorem isL_in {c : UInt8} (h : isL c = true) : isIn c = true := by unfold isIn; rw [h]; rfl
theorem namP_good (c : UInt8) (r : Str) (l : Bool) (hc : isL c = true) : (namP (c :: r) l).good (c :: r).length := by
 have h1 := lexW_len isIn 24 (c :: r)
 have h2 := congrArg List.length (lexW_cat isIn 24 (c :: r))
 have h3 : (lexW isIn 24 (c :: r)).1 = c :: (lexW isIn 23 r).1 := by
  show (if isIn c = true then (c :: (lexW isIn 23 r).1, (lexW isIn 23 r).2) else ([], c :: r)).1 = _
  rw [if_pos (isL_in hc)]
 rw [List.length_append, h3] at h2
 refine ⟨leaf_good 2 zeroR _ zeroR_nok h1, ?_⟩
 show 1 + 0 + (lexW isIn 24 (c :: r)).2.length ≤ _
 simp only [List.length_cons] at h2 ⊢
 omega
theorem takeS_len {m r q : Str} {c : UInt8} (h : takeS m r = some (c, q)) : q.length + 1 ≤ r.length := by
 have := (takeS_sfx h).1.length_le
 simpa using this
theorem rowL_good {K : Bool → Str → PR} (hK : ∀ l q, (K l q).good q.length) (m1 m2 : UInt8) (k1 k2 : Int) : ∀ (n : Nat) (e : Expr) (r : Str) (l : Bool) (N : Nat), exGood e → ndE e + r.length ≤ N → (rowL K m1 m2 k1 k2 n e r l).good N
 | 0, _, _, _, _, _, _ => trivial
 | n + 1, e, r, l, N, he, hN => by
  unfold rowL
  split
  ·exact ⟨he, by have := skS_len r; omega⟩
  ·rename_i c q ht
   have hq := takeS_len ht
   refine PR.good_bind (hK l q) fun e2 q2 l2 h1 h2 => ?_
   refine rowL_good hK m1 m2 k1 k2 n _ q2 l2 N (node2_good _ he h1) ?_
   rw [nd2]
   omega
theorem rowP_good {K : Bool → Str → PR} (hK : ∀ l q, (K l q).good q.length) (m1 m2 : UInt8) (k1 k2 : Int) (n : Nat) (l : Bool) (r : Str) : (rowP K m1 m2 k1 k2 n l r).good r.length :=
 PR.good_bind (hK l r) fun e q l' h1 h2 => rowL_good hK m1 m2 k1 k2 n e q l' _ h1 h2
theorem facP_good {z : Rat} (hz : numOk z) {F S : Nat → Bool → Str → PR} (hF : ∀ d l q, (F d l q).good q.length) (hS : ∀ d l q, (S d l q).good q.length) (d : Nat) (l : Bool) (r : Str) : (facP z F S d l r).good r.length := by
 have hk := skS_len r
 unfold facP
 split
 ·trivial
 ·rename_i c q e
  rw [e] at hk
  simp only [List.length_cons] at hk
  split
  ·split
   ·trivial
   ·refine PR.good_bind (hF _ _ _) fun e2 r2 l2 h1 h2 => ⟨node1_good 7 h1, ?_⟩
    rw [nd1]; omega
  ·split
   ·split
    ·trivial
    ·refine PR.good_bind (hS _ _ _) fun e2 r2 l2 h1 h2 => ?_
     split
     ·rename_i ht
      have := takeS_len ht
      exact ⟨h1, by omega⟩
     ·trivial
   ·split
    ·rename_i hc
     have := numP_good hz d c q l hc
     cases w : numP z d (c :: q) l with
     | no => trivial
     | er => trivial
     | ok e2 r2 l2 => rw [w] at this; exact ⟨this.1, by have := this.2; simp only [List.length_cons] at this; omega⟩
    ·split
     ·rename_i hc
      have := namP_good c q l hc
      exact ⟨this.1, by have := this.2; simp only [List.length_cons] at this; omega⟩
     ·trivial
theorem pX_good {z : Rat} (hz : numOk z) : ∀ (n : Nat), (∀ d l r, (pF z n d l r).good r.length) ∧ (∀ d l r, (pP z n d l r).good r.length) ∧ (∀ d l r, (pS z n d l r).good r.length)
 | 0 => ⟨fun _ _ _ => by unfold pF; trivial, fun _ _ _ => by unfold pP; trivial, fun _ _ _ => by unfold pS; trivial⟩
 | n + 1 => by
  obtain ⟨h1, h2, h3⟩ := pX_good hz n
  refine ⟨fun d l r => ?_, fun d l r => ?_, fun d l r => ?_⟩
  ·unfold pF; exact facP_good hz h1 h3 d l r
  ·unfold pP; exact rowP_good (h1 d) _ _ _ _ n l r
  ·unfold pS; exact rowP_good (h2 d) _ _ _ _ n l r
theorem PR.bind_no {R : PR} {f : Expr → Str → Bool → PR} {M : Nat} (h : R ≠ .no) (hg : R.good M) (hf : ∀ e r l, exGood e → ndE e + r.length ≤ M → f e r l ≠ .no) : R.bind f ≠ .no := by
 cases R with
 | no => exact absurd rfl h
 | er => intro h; cases h
 | ok e r l => exact hf e r l hg.1 hg.2
theorem rowL_tot {K : Bool → Str → PR} (hK : ∀ l q, (K l q).good q.length) (m1 m2 : UInt8) (k1 k2 : Int) : ∀ (n : Nat) (e : Expr) (r : Str) (l : Bool), (∀ l q, q.length ≤ r.length → K l q ≠ .no) → r.length + 1 ≤ n → rowL K m1 m2 k1 k2 n e r l ≠ .no
 | 0, _, _, _, _, h => by omega
 | n + 1, e, r, l, hT, h => by
  unfold rowL
  split
  ·intro h; cases h
  ·rename_i c q ht
   have hq := takeS_len ht
   refine PR.bind_no (hT l q (by omega)) (hK l q) fun e2 q2 l2 h1 h2 => ?_
   have := ndE_pos e2
   exact rowL_tot hK m1 m2 k1 k2 n _ q2 l2 (fun l q3 h3 => hT l q3 (by omega)) (by omega)
theorem rowP_tot {K : Bool → Str → PR} (hK : ∀ l q, (K l q).good q.length) (m1 m2 : UInt8) (k1 k2 : Int) (n : Nat) (l : Bool) (r : Str) (hT : ∀ l q, q.length ≤ r.length → K l q ≠ .no) (h : r.length ≤ n) : rowP K m1 m2 k1 k2 n l r ≠ .no := by
 refine PR.bind_no (hT l r (Nat.le_refl _)) (hK l r) fun e q l' h1 h2 => ?_
 have := ndE_pos e
 exact rowL_tot hK m1 m2 k1 k2 n e q l' (fun l q3 h3 => hT l q3 (by omega)) (by omega)
theorem numP_tot (z : Rat) (d : Nat) (r : Str) (l : Bool) : numP z d r l ≠ .no := by
 have fin : ∀ t q, finN z t q l ≠ .no := fun t q => by unfold finN; split <;> (intro h; cases h)
 unfold numP
 split
 ·exact fin _ _
 ·split
  ·split
   ·intro h; cases h
   ·exact fin _ _
  ·exact fin _ _
theorem pX_tot {z : Rat} (hz : numOk z) : ∀ (n : Nat), (∀ d l r, 3 * r.length + 1 ≤ n → pF z n d l r ≠ .no) ∧ (∀ d l r, 3 * r.length + 2 ≤ n → pP z n d l r ≠ .no) ∧ (∀ d l r, 3 * r.length + 3 ≤ n → pS z n d l r ≠ .no)
 | 0 => ⟨fun _ _ _ h => by omega, fun _ _ _ h => by omega, fun _ _ _ h => by omega⟩
 | n + 1 => by
  obtain ⟨h1, h2, h3⟩ := pX_tot hz n
  obtain ⟨g1, g2, g3⟩ := pX_good hz n
  refine ⟨fun d l r h => ?_, fun d l r h => ?_, fun d l r h => ?_⟩
  ·unfold pF
   have hk := skS_len r
   unfold facP
   split
   ·intro h; cases h
   ·rename_i c q e
    rw [e] at hk
    simp only [List.length_cons] at hk
    split
    ·split
     ·intro h; cases h
     ·exact PR.bind_no (h1 _ _ _ (by omega)) (g1 _ _ _) fun _ _ _ _ _ => by intro h; cases h
    ·split
     ·split
      ·intro h; cases h
      ·refine PR.bind_no (h3 _ _ _ (by omega)) (g3 _ _ _) fun _ _ _ _ _ => ?_
       split <;> (intro h; cases h)
     ·split
      ·exact numP_tot z d _ l
      ·split <;> (intro h; cases h)
  ·unfold pP
   exact rowP_tot (g1 d) _ _ _ _ n l r (fun l q hq => h1 d l q (by omega)) (by omega)
  ·unfold pS
   exact rowP_tot (g2 d) _ _ _ _ n l r (fun l q hq => h2 d l q (by omega)) (by omega)
end Go.AM.Lf
namespace Go.AM.Lf
open PL
theorem factor_run (s : Str) (hs : s.length ≤ 1000000) (ST : KT) (N : Nat) (hS : ∀ m, m ≤ N → ∀ d l r, d ≤ 31 → r <:+ s → pS zeroR m d l r ≠ .no → (ST (stP s r d l)).run = encR s d (pS zeroR m d l r))
  (n : Nat) (hn : n ≤ N + 1) (d : Nat) (l : Bool) (r : Str) (hd : d ≤ 31) (h : r <:+ s) (hno : pF zeroR n d l r ≠ .no) : (expr_parser_factor_S ST (stP s r d l)).run = encR s d (pF zeroR n d l r) := by
 unfold expr_parser_factor_S
 obtain ⟨y, hy⟩ : ∃ y, encR s d (pF zeroR n d l r) = some y := by
  cases q : pF zeroR n d l r with
  | no => exact absurd q hno
  | er => exact ⟨_, rfl⟩
  | ok => exact ⟨_, rfl⟩
 rw [hy]
 refine T.fix_rel (fun n x y => n ≤ N + 1 ∧ ∃ d l r, d ≤ 31 ∧ r <:+ s ∧ x = stP s r d l ∧ pF zeroR n d l r ≠ .no ∧ encR s d (pF zeroR n d l r) = some y) (fun x y => ?_) (fun n x y hx g hg => ?_) (n := n) ⟨hn, d, l, r, hd, h, rfl, hno, hy⟩
 ·rintro ⟨_, d, l, r, _, _, _, h, _⟩
  exact h (by unfold pF; rfl)
 ·obtain ⟨hn, d, l, r, hd, h, rfl, hno, hy⟩ := hx
  rw [← hy]
  unfold pF at hno ⊢
  have hgF : ∀ d l r, d ≤ 31 → r <:+ s → pF zeroR n d l r ≠ .no → (g (stP s r d l)).run = encR s d (pF zeroR n d l r) := by
   intro d l r hd h hno
   obtain ⟨y, hy⟩ : ∃ y, encR s d (pF zeroR n d l r) = some y := by
    cases q : pF zeroR n d l r with
    | no => exact absurd q hno
    | er => exact ⟨_, rfl⟩
    | ok => exact ⟨_, rfl⟩
   rw [hy]
   exact hg _ _ ⟨by omega, d, l, r, hd, h, rfl, hno, hy⟩
  exact factorB_run s hs (fun y0 => g y0) ST (pF zeroR n) (pS zeroR n) hgF (hS n (by omega)) ((pX_sfx zeroR s n).2.2) d l r hd h hno
theorem factorRow_eq (ST : KT) (m : Str) (k : expr_stop) (p : expr_parser) : expr_parser_row_expr_parser_factor_S ST () m k p = rowT (expr_parser_factor_S ST) m k p := rfl
theorem productRow_eq (ST : KT) (m : Str) (k : expr_stop) (p : expr_parser) : expr_parser_row_expr_parser_product_S ST () m k p = rowT (expr_parser_product_S ST) m k p := rfl
theorem wrap_run {t : T ((AM.Expr × expr_parser) ⊕ (expr_stop × expr_parser))} {o : Option ((AM.Expr × expr_parser) ⊕ (expr_stop × expr_parser))} (h : t.run = o) (ho : o ≠ none) : (T.bind t <| Sum.elim (fun (r, p1) => .ret (.inl (r, p1))) (fun (pv, p2) => .ret (.inr (pv, p2))) : T ((AM.Expr × expr_parser) ⊕ (expr_stop × expr_parser))).run = o := by
 cases o with
 | none => exact absurd rfl ho
 | some x => rw [T.run_bind_of h]; cases x <;> rfl
theorem enc_some {s : Str} {d : Nat} {R : PR} (h : R ≠ .no) : encR s d R ≠ none := by
 cases R with
 | no => exact absurd rfl h
 | er => intro h; cases h
 | ok => intro h; cases h
theorem product_run (s : Str) (hs : s.length ≤ 1000000) (ST : KT) (N : Nat) (hS : ∀ m, m ≤ N → ∀ d l r, d ≤ 31 → r <:+ s → pS zeroR m d l r ≠ .no → (ST (stP s r d l)).run = encR s d (pS zeroR m d l r))
  (n : Nat) (hn : n ≤ N + 1) (d : Nat) (l : Bool) (r : Str) (hd : d ≤ 31) (h : r <:+ s) (hno : pP zeroR n d l r ≠ .no) : (expr_parser_product_S ST (stP s r d l)).run = encR s d (pP zeroR n d l r) := by
 cases n with
 | zero => exact absurd (by unfold pP; rfl) hno
 | succ n =>
  unfold pP at hno ⊢
  unfold expr_parser_product_S
  refine wrap_run ?_ (enc_some hno)
  rw [factorRow_eq]
  exact rowT_run s hs d (expr_parser_factor_S ST) (pF zeroR n d) (fun l r h hno => factor_run s hs ST N hS n (by omega) d l r hd h hno) ((pX_sfx zeroR s n).1 d) 42 47 (by decide) (by decide) 5 6 n l r h hno
theorem sum_run (s : Str) (hs : s.length ≤ 1000000) (n : Nat) (d : Nat) (l : Bool) (r : Str) (hd : d ≤ 31) (h : r <:+ s) (hno : pS zeroR n d l r ≠ .no) : (expr_parser_sum_S (stP s r d l)).run = encR s d (pS zeroR n d l r) := by
 have hsome : ∀ (n d : Nat) (l : Bool) (r : Str), pS zeroR n d l r ≠ .no → ∃ y, encR s d (pS zeroR n d l r) = some y := by
  intro n d l r hno
  cases q : pS zeroR n d l r with
  | no => exact absurd q hno
  | er => exact ⟨_, rfl⟩
  | ok => exact ⟨_, rfl⟩
 unfold expr_parser_sum_S
 obtain ⟨y, hy⟩ := hsome n d l r hno
 rw [hy]
 refine T.fix_rel (fun n x y => ∃ m, m ≤ n ∧ ∃ d l r, d ≤ 31 ∧ r <:+ s ∧ x = stP s r d l ∧ pS zeroR m d l r ≠ .no ∧ encR s d (pS zeroR m d l r) = some y) (fun x y => ?_) (fun n x y hx g hg => ?_) (n := n) ⟨n, Nat.le_refl _, d, l, r, hd, h, rfl, hno, hy⟩
 ·rintro ⟨m, hm, d, l, r, _, _, _, h, _⟩
  have : m = 0 := by omega
  subst this
  exact h (by unfold pS; rfl)
 ·obtain ⟨m, hm, d, l, r, hd, h, rfl, hno, hy⟩ := hx
  rw [← hy]
  cases m with
  | zero => exact absurd (by unfold pS; rfl) hno
  | succ m =>
   have hg2 : ∀ k, k ≤ m → ∀ d l r, d ≤ 31 → r <:+ s → pS zeroR k d l r ≠ .no → (g (stP s r d l)).run = encR s d (pS zeroR k d l r) := by
    intro k hk d l r hd h hno
    obtain ⟨y, hy⟩ := hsome k d l r hno
    rw [hy]
    exact hg _ _ ⟨k, by omega, d, l, r, hd, h, rfl, hno, hy⟩
   unfold pS at hno ⊢
   unfold expr_parser_sum_S_B
   refine wrap_run ?_ (enc_some hno)
   rw [productRow_eq]
   exact rowT_run s hs d (expr_parser_product_S fun y0 => g y0) (pP zeroR m d) (fun l r h hno => product_run s hs (fun y0 => g y0) m hg2 m (by omega) d l r hd h hno) ((pX_sfx zeroR s m).2.1 d) 43 45 (by decide) (by decide) 3 4 m l r h hno
def topP (s : Str) : PR → Expr × Int × Int × Bool
 | .no => (zE, 0, 0, false)
 | .er k b _ _ l => (zE, ((posS s b : Nat) : Int), k, l)
 | .ok e [] l => (e, 0, 0, l)
 | .ok _ (c :: r) l => (zE, ((posS s (c :: r) : Nat) : Int), 2, l)
def sumZ (z : Rat) (s : Str) : PR := pS z (3 * s.length + 3) 0 false s
theorem sumZ_no {z : Rat} (hz : numOk z) (s : Str) : sumZ z s ≠ .no := (pX_tot hz _).2.2 0 false s (Nat.le_refl _)
theorem sumZ_sfx (z : Rat) (s : Str) : (sumZ z s).sfx s := (pX_sfx z s _).2.2 0 false s (List.suffix_refl s)
theorem sumZ_good {z : Rat} (hz : numOk z) (s : Str) : (sumZ z s).good s.length := (pX_good hz _).2.2 0 false s
theorem parAll_run (s : Str) (hs : s.length ≤ 1000000) : ∃ p, (expr_parser_all_S (s, ((0 : Int), ((0 : Int), (false, ()))))).run = some ((topP s (sumZ zeroR s)).1, ((topP s (sumZ zeroR s)).2.1, ((topP s (sumZ zeroR s)).2.2.1, p))) ∧ p.2.2.2.1 = (topP s (sumZ zeroR s)).2.2.2 := by
 have hno := sumZ_no zeroR_nok s
 have hsf := sumZ_sfx zeroR s
 have hr := sum_run s hs (3 * s.length + 3) 0 false s (by omega) (List.suffix_refl s) hno
 have e0 : stP s s 0 false = (s, ((0 : Int), ((0 : Int), (false, ())))) := by unfold stP; rw [posS_self]; rfl
 rw [e0] at hr
 have hr : (expr_parser_sum_S (s, ((0 : Int), ((0 : Int), (false, ()))))).run = encR s 0 (sumZ zeroR s) := hr
 unfold expr_parser_all_S
 cases q : sumZ zeroR s with
 | no => exact absurd q hno
 | er k b r d l =>
  rw [q] at hr
  refine ⟨stP s r d l, ?_, rfl⟩
  rw [T.run_bind_of hr, Sum.elim_inr]
  rfl
 | ok e r l =>
  rw [q] at hr hsf
  cases r with
  | nil =>
   refine ⟨stP s [] 0 l, ?_, rfl⟩
   rw [T.run_bind_of hr, Sum.elim_inl]
   dsimp only
   rw [stP_at, stP_fst, pos_f, T.run_ite_false]
   rfl
  | cons c r =>
   refine ⟨stP s (c :: r) 0 l, ?_, rfl⟩
   rw [T.run_bind_of hr, Sum.elim_inl]
   dsimp only
   rw [stP_at, stP_fst, pos_t hsf, T.run_ite_true]
   rfl
def parA (s : Str) (R : PR) : Expr × Int × Int :=
 if (topP s R).2.2.1 ≠ 0 then (zE, ((topP s R).2.1, (topP s R).2.2.1))
 else if (topP s R).2.2.2 = true ∨ isE (topP s R).1 = false then (zE, ((0 : Int), (3 : Int)))
 else ((topP s R).1, ((0 : Int), (0 : Int)))
def parseE (s : Str) : Expr × Int × Int := parA s (sumZ zeroR s)
theorem zE_good : exGood zE := leaf_good 0 zeroR [] zeroR_nok (by simp)
theorem topP_good {s : Str} {R : PR} {N : Nat} (h : R.good N) (h1 : 1 ≤ N) : exGood (topP s R).1 ∧ ndE (topP s R).1 ≤ N := by
 have hz : exGood zE ∧ ndE zE ≤ N := ⟨zE_good, h1⟩
 cases R with
 | no => exact hz
 | er => exact hz
 | ok e r l =>
  cases r with
  | nil => exact ⟨h.1, by have := h.2; show ndE e ≤ N; omega⟩
  | cons => exact hz
theorem Parse_run (s : Str) (hs : s.length ≤ 900000) : (expr_Parse s).run = some (parseE s) := by
 obtain ⟨p, h1, h2⟩ := parAll_run s (by omega)
 have hg := topP_good (s := s) (R := sumZ zeroR s) (N := s.length + 1) (by
  have := sumZ_good zeroR_nok s
  cases q : sumZ zeroR s with
  | no => trivial
  | er => trivial
  | ok e r l => rw [q] at this; exact ⟨this.1, by have := this.2; omega⟩) (by omega)
 unfold parseE parA
 generalize topP s (sumZ zeroR s) = w at h1 h2 hg ⊢
 obtain ⟨e, at_, x, l⟩ := w
 dsimp only at h1 h2 hg ⊢
 unfold expr_Parse
 rw [T.run_bind_of h1]
 dsimp only
 by_cases c : x ≠ 0
 ·rw [T.run_ite_t (by simpa using c), T.run_ret, if_pos c]
 ·rw [T.run_ite_f (by simpa using c), if_neg c, h2]
  have hI := IsAll_run e hg.1.1 (by omega)
  rw [T.run_bind_of (a := (decide (l = true ∨ isE e = false), (zE, (p, e))))]
  ·dsimp only
   by_cases c2 : l = true ∨ isE e = false
   ·rw [T.run_ite_t (decide_eq_true c2), T.run_ret, if_pos c2]
   ·rw [T.run_ite_f (decide_eq_false c2), T.run_ret, if_neg c2]
  ·cases l with
   | true => rw [T.run_ite_true, T.run_ret]; simp
   | false =>
    rw [T.run_ite_false, T.run_bind_of hI, T.run_ret]
    cases isE e <;> simp
end Go.AM.Lf
namespace Go.AM.Lf
open PL
inductive QR where
 | no
 | er (k : Int) (bad : Str) (x : Expr) (r : Str) (d : Nat) (l : Bool)
 | ok (e : Expr) (r : Str) (l : Bool)
end Go.AM.Lf
namespace Go.AM.Lf
open PL
def QR.sfx (s : Str) (d : Nat) : QR → Prop
 | .no => True
 | .er k b _ r d' _ => k ≠ 0 ∧ b <:+ s ∧ r <:+ s ∧ d ≤ d' ∧ d' ≤ 1000
 | .ok _ r _ => r <:+ s
end Go.AM.Lf
namespace Go.AM.Lf
open PL
def sameR (a b : Rat) : Bool := ((norm a).1 == (norm b).1) && (((norm a).2.1 == (norm b).2.1) && ((norm a).2.2.1 == (norm b).2.2.1))
theorem sameR_iff {a b : Rat} : sameR a b = true ↔ norm a = norm b := by
 unfold sameR
 rw [Bool.and_eq_true, Bool.and_eq_true, beq_iff_eq, beq_iff_eq, beq_iff_eq]
 constructor
 ·rintro ⟨h1, h2, h3⟩
  exact Prod.ext h1 (Prod.ext h2 (Prod.ext h3 rfl))
 ·intro h; rw [h]; exact ⟨rfl, rfl, rfl⟩
mutual
def sameE : Expr → Expr → Bool
 | .mk k n s l, .mk k' n' s' l' => (k == k') && (strEq s s' && (sameR n n' && sameEs l l'))
def sameEs : List Expr → List Expr → Bool
 | [], [] => true
 | a :: r, b :: r' => sameE a b && sameEs r r'
 | [], _ :: _ => false
 | _ :: _, [] => false
end
theorem sameEs_len : ∀ (a b : List Expr), a.length ≠ b.length → sameEs a b = false
 | [], [], h => absurd rfl h
 | _ :: r, _ :: r', h => by
  show (sameE _ _ && sameEs r r') = false
  rw [sameEs_len r r' (fun e => h (by simp [e])), Bool.and_false]
 | [], _ :: _, _ => rfl
 | _ :: _, [], _ => rfl
theorem strEq_same (s : Str) : strEq s s = true := by rw [strEq_iff]; simp
mutual
theorem sameE_refl : ∀ (e : Expr), sameE e e = true
 | .mk k n s l => by
  show ((k == k) && (strEq s s && (sameR n n && sameEs l l))) = true
  rw [strEq_same, sameR_iff.2 rfl, sameEs_refl l]; simp
theorem sameEs_refl : ∀ (l : List Expr), sameEs l l = true
 | [] => rfl
 | a :: r => by
  show (sameE a a && sameEs r r) = true
  rw [sameE_refl a, sameEs_refl r]; rfl
end
theorem zip_loop (R : Int → T (Int ⊕ (Unit ⊕ Bool))) (a b : List Expr) (hl : a.length = b.length)
  (step : ∀ k (h : k < a.length) (h' : k < b.length), (R (k : Int)).run = some (if sameE a[k] b[k] = true then .inl ((k + 1 : Nat) : Int) else .inr (.inr false)))
  (done : (R (a.length : Int)).run = some (.inr (.inl ()))) : (T.loop R 0).run = some (if sameEs a b = true then .inl () else .inr false) := by
 have key : ∀ (m k : Nat), k + m = a.length → (T.loop R (k : Int)).run = some (if sameEs (a.drop k) (b.drop k) = true then .inl () else .inr false) := by
  intro m
  induction m with
  | zero =>
   intro k hk
   have : k = a.length := by omega
   subst this
   rw [List.drop_length, hl, List.drop_length]
   rw [hl] at done
   exact T.loop_done done
  | succ m ih =>
   intro k hk
   have h1 : k < a.length := by omega
   have h2 : k < b.length := by omega
   rw [List.drop_eq_getElem_cons h1, List.drop_eq_getElem_cons h2]
   show _ = some (if (sameE a[k] b[k] && sameEs (a.drop (k + 1)) (b.drop (k + 1))) = true then _ else _)
   have st := step k h1 h2
   cases q : sameE a[k] b[k] with
   | true =>
    rw [q, if_pos rfl] at st
    rw [T.loop_step st, Bool.true_and]
    exact ih (k + 1) (by omega)
   | false =>
    rw [q, if_neg (by simp)] at st
    exact T.loop_done st
 have := key a.length 0 (by omega)
 simpa using this
theorem ref2_Same_all (a b : Rat) (ha : numOk a) (hb : numOk b) : (ref2_Same a b).run = some (sameR a b) := by
 have na := norm_ok (k := 100) (by omega) ha
 have nb := norm_ok (k := 100) (by omega) hb
 unfold ref2_Same sameR
 rw [T.run_bind_of (ref2_norm a (ok_up ha (by omega))), T.run_bind_of (ref2_norm b (ok_up hb (by omega)))]
 cases ((norm a).1 == (norm b).1) with
 | false => rfl
 | true =>
  rw [T.run_ite_true, T.run_bind_of (limbsB_run _ _ (by have := na.2.2.1; omega)), Bool.true_and]
  cases ((norm a).2.1 == (norm b).2.1) with
  | false => rfl
  | true => rw [T.run_ite_true, T.run_bind_of (limbsB_run _ _ (by have := na.2.2.2; omega)), T.run_ret, Bool.true_and]
theorem kids_small (e : Expr) : (Expr.kids e).length ≤ ndE e := by
 cases e with | mk k n s l =>
 have := ndEs_len l
 show l.length ≤ 1 + ndEs l
 omega
theorem ref5_Same_run (a b : Expr) (ha : allOk a) (hb : allOk b) (la : ndE a ≤ 1000000) : (ref5_Same a b).run = some (sameE a b) := by
 unfold ref5_Same
 refine T.fix_run (fun x : Expr × Expr => allOk x.1 ∧ allOk x.2 ∧ ndE x.1 ≤ 1000000) (fun x => ndE x.1) (fun x => sameE x.1 x.2) (fun x hx g hg => ?_) (x := (a, b)) ⟨ha, hb, la⟩
 obtain ⟨a, b⟩ := x
 obtain ⟨ha, hb, la⟩ := hx
 dsimp only at ha hb la ⊢
 cases a with | mk k n s l =>
 cases b with | mk k' n' s' l' =>
 have hk := kids_small (.mk k n s l)
 have hk : l.length ≤ ndE (.mk k n s l) := hk
 unfold ref5_Same_B
 show _ = some ((k == k') && (strEq s s' && (sameR n n' && sameEs l l')))
 have head : ((.ite (k != k') (.ret true) (.ite (!(strEq s s')) (.ret true) (T.bind (ref2_Same n n') fun r => .ite (!r) (.ret true) (.ret ((Nat.cast (List.length l) : Int) != (Nat.cast (List.length l') : Int)))))) : T Bool).run = some (!((k == k') && (strEq s s' && (sameR n n' && ((l.length : Int) == (l'.length : Int)))))) := by
  rw [bne]
  cases (k == k') with
  | false => rfl
  | true =>
   rw [T.run_ite_f (by rfl)]
   cases strEq s s' with
   | false => rfl
   | true =>
    rw [T.run_ite_f (by rfl), T.run_bind_of (ref2_Same_all n n' ha.1 hb.1)]
    cases sameR n n' with
    | false => rfl
    | true => rw [T.run_ite_f (by rfl), T.run_ret]; rfl
 show (T.bind (.ite (k != k') (.ret true) (.ite (!(strEq s s')) (.ret true) (T.bind (ref2_Same n n') fun r => .ite (!r) (.ret true) (.ret ((Nat.cast (List.length l) : Int) != (Nat.cast (List.length l') : Int)))))) _).run = _
 rw [T.run_bind_of head]
 cases q : ((k == k') && (strEq s s' && (sameR n n' && ((l.length : Int) == (l'.length : Int))))) with
 | false =>
  rw [T.run_ite_t (by rfl), T.run_ret]
  congr 1
  revert q
  by_cases hl : l.length = l'.length
  ·rw [show ((l.length : Int) == (l'.length : Int)) = true by simp [hl]]
   cases (k == k') <;> cases strEq s s' <;> cases sameR n n' <;> simp
  ·rw [sameEs_len l l' hl]
   simp
 | true =>
  simp only [Bool.and_eq_true, beq_iff_eq] at q
  obtain ⟨q1, q2, q3, q4⟩ := q
  have hl : l.length = l'.length := by omega
  rw [T.run_ite_f (by rfl), q2, q3, show (k == k') = true by simpa using q1, Bool.true_and, Bool.true_and, Bool.true_and]
  have key : (ref5_Same_L0 (fun y0 y1 => g (y0, y1)) (.mk k n s l) (.mk k' n' s' l') 0).run = some (if sameEs l l' = true then .inl () else .inr false) := by
   refine zip_loop (ref5_Same_R0 (fun y0 y1 => g (y0, y1)) (.mk k n s l) (.mk k' n' s' l')) l l' hl (fun j h h' => ?_) ?_
   ·have hr := hg (l[j], l'[j]) ⟨allOks_mem ha.2 _ (List.getElem_mem h), allOks_mem hb.2 _ (List.getElem_mem h'), by have := ndEs_mem (List.getElem_mem h); have e : ndE (.mk k n s l) = 1 + ndEs l := rfl; show ndE l[j] ≤ 1000000; omega⟩ (by have := ndEs_mem (List.getElem_mem h); have e : ndE (.mk k n s l) = 1 + ndEs l := rfl; show ndE l[j] < ndE (.mk k n s l); omega)
    unfold ref5_Same_R0
    dsimp only
    rw [show Expr.kids (.mk k n s l) = l from rfl, show Expr.kids (.mk k' n' s' l') = l' from rfl, T.run_ite_t (lt_t h), T.run_obl (idx_ok h), T.run_obl (idx_ok h'), nth_at h, nth_at h', T.run_bind_of hr]
    cases sameE l[j] l'[j] with
    | false => rfl
    | true => rw [T.run_ite_f (by rfl), T.run_ret, ix1 j _ h (by omega), if_pos rfl]
   ·unfold ref5_Same_R0
    dsimp only
    rw [show Expr.kids (.mk k n s l) = l from rfl, T.run_ite_f (lt_f _), T.run_ret]
  rw [T.run_bind_of key]
  cases sameEs l l' <;> rfl
theorem ref5_Same_refl (e : Expr) (h : allOk e) (hn : ndE e ≤ 1000000) : (ref5_Same e e).run = some true := by rw [ref5_Same_run e e h h hn, sameE_refl]
end Go.AM.Lf
namespace Go.AM.Lf
open PL
theorem ofN_2 : ofN 2 = [2] := by rw [ofN_pos (by omega), show 2 / 4294967296 = 0 from rfl, ofN_zero]; rfl
theorem num_2 : numT [50] = (false, [2], [1], ()) := by
 have e : decP [50] = some (2, 1) := by decide +kernel
 unfold numT
 rw [e]
 show ratN _ 2 1 = _
 unfold ratN
 rw [if_neg (by decide), show 2 / Nat.gcd 2 1 = 2 from rfl, show 1 / Nat.gcd 2 1 = 1 from rfl, ofN_2, ofN_1]
 rfl
def nmE1 (s : Str) : Expr := .mk 2 zeroR s []
def knownE : Expr := nodeE 4 [nmE1 [97], nodeE 5 [nodeE 4 [nmE1 [98], nmE1 [99]], .mk 1 (numT [50]) [] []]]
theorem known_parse : sumZ zeroR [97, 45, 40, 98, 45, 99, 41, 42, 50] = .ok knownE [] false := by kernel_rfl
theorem norm_2 : norm (false, [2], [1], ()) = (false, [2], [1], ()) := by
 rw [← num_2]
 have e : decP [50] = some (2, 1) := by decide +kernel
 have : numT [50] = ratN (List.isPrefixOf [45] [50]) 2 1 := by
  unfold numT
  rw [e]
  rfl
 rw [this]
 exact ratN_idem _ _ _
theorem num2_ok : isNumB (numT [50]) = true := by
 rw [num_2]
 unfold isNumB isRb largeB trimB
 rw [norm_2]
 show (((ofN 2 == [2]) && ((ofN 1 == [1]) && _)) && _) = true
 rw [ofN_2, ofN_1]
 rfl
theorem known_is : isE knownE = true := by
 have h : nodeB (.mk 1 (numT [50]) [] []) = true := by
  unfold nodeB
  show ((((0 : Nat) : Int) == kidsN 1) && (if (1 : Int) = 1 then isNumB (numT [50]) && strEq [] [] else _)) = true
  rw [if_pos rfl, num2_ok]
  rfl
 have h2 : okE 2 (.mk 1 (numT [50]) [] []) = true := by
  show (decide (2 < 32) && (nodeB (.mk 1 (numT [50]) [] []) && okEs 3 [])) = true
  rw [h]; rfl
 unfold isE knownE
 show ((true && (true && (true && (okE 1 (nodeE 5 [nodeE 4 [nmE1 [98], nmE1 [99]], .mk 1 (numT [50]) [] []]) && true)))) && _) = true
 have h3 : okE 1 (nodeE 5 [nodeE 4 [nmE1 [98], nmE1 [99]], .mk 1 (numT [50]) [] []]) = true := by
  show (true && (true && (true && (okE 2 (.mk 1 (numT [50]) [] []) && true)))) = true
  rw [h2]; rfl
 rw [h3]
 rfl
theorem known_pr : prE knownE = [97, 32, 45, 32, 40, 98, 32, 45, 32, 99, 41, 32, 42, 32, 50] := by
 have h : prE (.mk 1 (numT [50]) [] []) = [50] := by
  show (exactS (norm (numT [50])).1 (nv (norm (numT [50])).2.1) (nv (norm (numT [50])).2.2.1) 0 61).1 = [50]
  rw [num_2, norm_2]
  show (exactS false 2 1 0 61).1 = [50]
  unfold exactS
  rw [if_pos (by decide)]
  show sgS false ++ ptd (pr 2) 0 = [50]
  unfold ptd pr
  rw [if_pos rfl, if_neg (by decide), dgz_pos (by decide), show 2 / 10 = 0 from rfl, dgz_zero]
  rfl
 show parS _ (prE (nmE1 [97])) ++ markK 4 ++ parS _ (parS _ (parS _ (prE (nmE1 [98])) ++ markK 4 ++ parS _ (prE (nmE1 [99]))) ++ markK 5 ++ parS _ (prE (.mk 1 (numT [50]) [] []))) = _
 rw [h]
 rfl
theorem knownE_good : exGood knownE := node2_good 4 (leaf_good 2 zeroR _ zeroR_nok (by simp)) (node2_good 5 (node2_good 4 (leaf_good 2 zeroR _ zeroR_nok (by simp)) (leaf_good 2 zeroR _ zeroR_nok (by simp))) (leaf_good 1 _ [] (numT_ok _ (by simp)) (by simp)))
theorem Print_all (e : Expr) (ha : allOk e) (hs : szE e ≤ 1000000) : (expr_Print e).run = some (if isE e = true then prE e else []) := by
 have hn := ndE_sz e
 unfold expr_Print
 rw [T.run_bind_of (IsAll_run e ha (by omega))]
 cases h : isE e with
 | false => rfl
 | true =>
  have ho : okE 0 e = true := by unfold isE at h; rw [Bool.and_eq_true] at h; exact h.1
  rw [T.run_ite_f (by rfl), T.run_bind_of (print_run e 0 ho ha (by omega)), T.run_ret, if_pos rfl]
theorem known5_run : law5_known.run = some true := by
 have hp : parseE [97, 45, 40, 98, 45, 99, 41, 42, 50] = (knownE, ((0 : Int), (0 : Int))) := by
  unfold parseE
  rw [known_parse]
  unfold parA topP
  dsimp only
  rw [if_neg (by decide), known_is, if_neg (by simp)]
 have h1 := Parse_run [97, 45, 40, 98, 45, 99, 41, 42, 50] (by decide)
 rw [hp] at h1
 have hsz : szE knownE ≤ 1000000 := by
  have e : szE (.mk 1 (numT [50]) [] []) = 3 + 0 + 8 * 1 + 8 * 1 + 0 := by rw [num_2]; rfl
  have e2 : szE knownE = 3 + 0 + 0 + 0 + (szE (nmE1 [97]) + ((3 + 0 + 0 + 0 + (szE (nodeE 4 [nmE1 [98], nmE1 [99]]) + (szE (.mk 1 (numT [50]) [] []) + 0))) + 0)) := rfl
  rw [e2, e]
  decide
 have h2 := Print_all knownE knownE_good.1 hsz
 rw [known_is, if_pos rfl, known_pr] at h2
 unfold law5_known
 rw [T.run_bind_of h1]
 dsimp only
 rw [T.run_ite_t (by rfl), T.run_ite_t (by rfl), T.run_bind_of h2, T.run_ret]
 rfl
end Go.AM.Lf
namespace Go.AM.Lf
open PL
theorem bind_mono {R R' : PR} {f f' : Expr → Str → Bool → PR} (h : R ≠ .no → R' = R) (hf : ∀ e r l, f e r l ≠ .no → f' e r l = f e r l) (hn : R.bind f ≠ .no) : R'.bind f' = R.bind f := by
 cases R with
 | no => exact absurd rfl hn
 | er k b r d l => rw [h (by simp)]; rfl
 | ok e r l => rw [h (by simp)]; exact hf e r l hn
theorem rowL_mono {K K' : Bool → Str → PR} (hK : ∀ l q, K l q ≠ .no → K' l q = K l q) (m1 m2 : UInt8) (k1 k2 : Int) : ∀ (n n' : Nat) (e : Expr) (r : Str) (l : Bool), n ≤ n' → rowL K m1 m2 k1 k2 n e r l ≠ .no → rowL K' m1 m2 k1 k2 n' e r l = rowL K m1 m2 k1 k2 n e r l
 | 0, _, _, _, _, _, h => absurd rfl h
 | n + 1, 0, _, _, _, h, _ => by omega
 | n + 1, n' + 1, e, r, l, h, hn => by
  unfold rowL at hn ⊢
  cases q : takeS [m1, m2] r with
  | none => rfl
  | some x =>
   obtain ⟨c, q'⟩ := x
   rw [q] at hn
   exact bind_mono (hK l q') (fun e2 q2 l2 h2 => rowL_mono hK m1 m2 k1 k2 n n' _ q2 l2 (by omega) h2) hn
theorem rowP_mono {K K' : Bool → Str → PR} (hK : ∀ l q, K l q ≠ .no → K' l q = K l q) (m1 m2 : UInt8) (k1 k2 : Int) (n n' : Nat) (h : n ≤ n') (l : Bool) (r : Str) (hn : rowP K m1 m2 k1 k2 n l r ≠ .no) : rowP K' m1 m2 k1 k2 n' l r = rowP K m1 m2 k1 k2 n l r :=
 bind_mono (hK l r) (fun e q l' h2 => rowL_mono hK m1 m2 k1 k2 n n' e q l' h h2) hn
theorem facP_mono {z : Rat} {F S F' S' : Nat → Bool → Str → PR} (hF : ∀ d l q, F d l q ≠ .no → F' d l q = F d l q) (hS : ∀ d l q, S d l q ≠ .no → S' d l q = S d l q) (d : Nat) (l : Bool) (s : Str) (hn : facP z F S d l s ≠ .no) : facP z F' S' d l s = facP z F S d l s := by
 unfold facP at hn ⊢
 cases e : skS s with
 | nil => rfl
 | cons c r =>
  rw [e] at hn
  dsimp only at hn ⊢
  by_cases c45 : c = 45
  ·rw [if_pos c45] at hn ⊢
   rw [if_pos c45]
   by_cases c31 : 31 ≤ d
   ·rw [if_pos c31, if_pos c31]
   ·rw [if_neg c31] at hn ⊢
    rw [if_neg c31]
    exact bind_mono (hF _ _ _) (fun _ _ _ _ => rfl) hn
  ·rw [if_neg c45] at hn ⊢
   rw [if_neg c45]
   by_cases c40 : c = 40
   ·rw [if_pos c40] at hn ⊢
    rw [if_pos c40]
    by_cases c31 : 31 ≤ d
    ·rw [if_pos c31, if_pos c31]
    ·rw [if_neg c31] at hn ⊢
     rw [if_neg c31]
     exact bind_mono (hS _ _ _) (fun _ _ _ _ => rfl) hn
   ·rw [if_neg c40, if_neg c40]
theorem pX_mono (z : Rat) : ∀ (n n' : Nat), n ≤ n' → (∀ d l r, pF z n d l r ≠ .no → pF z n' d l r = pF z n d l r) ∧ (∀ d l r, pP z n d l r ≠ .no → pP z n' d l r = pP z n d l r) ∧ (∀ d l r, pS z n d l r ≠ .no → pS z n' d l r = pS z n d l r)
 | 0, _, _ => ⟨fun _ _ _ h => absurd (by unfold pF; rfl) h, fun _ _ _ h => absurd (by unfold pP; rfl) h, fun _ _ _ h => absurd (by unfold pS; rfl) h⟩
 | n + 1, 0, h => by omega
 | n + 1, n' + 1, h => by
  obtain ⟨h1, h2, h3⟩ := pX_mono z n n' (by omega)
  refine ⟨fun d l r hn => ?_, fun d l r hn => ?_, fun d l r hn => ?_⟩
  ·unfold pF at hn ⊢; exact facP_mono h1 h3 d l r hn
  ·unfold pP at hn ⊢; exact rowP_mono (h1 d) _ _ _ _ n n' (by omega) l r hn
  ·unfold pS at hn ⊢; exact rowP_mono (h2 d) _ _ _ _ n n' (by omega) l r hn
def SF (d : Nat) (l : Bool) (s : Str) (R : PR) : Prop := R ≠ .no ∧ ∃ n, pF zeroR n d l s = R
def SP (d : Nat) (l : Bool) (s : Str) (R : PR) : Prop := R ≠ .no ∧ ∃ n, pP zeroR n d l s = R
def SS (d : Nat) (l : Bool) (s : Str) (R : PR) : Prop := R ≠ .no ∧ ∃ n, pS zeroR n d l s = R
def RP (d : Nat) (e : Expr) (r : Str) (l : Bool) (R : PR) : Prop := R ≠ .no ∧ ∃ n m, rowL (pF zeroR n d) 42 47 5 6 m e r l = R
def RS (d : Nat) (e : Expr) (r : Str) (l : Bool) (R : PR) : Prop := R ≠ .no ∧ ∃ n m, rowL (pP zeroR n d) 43 45 3 4 m e r l = R
theorem SP_of {d : Nat} {l : Bool} {s : Str} {e : Expr} {q : Str} {l' : Bool} {R : PR} (h1 : SF d l s (.ok e q l')) (h2 : RP d e q l' R) : SP d l s R := by
 obtain ⟨_, n1, e1⟩ := h1
 obtain ⟨hR, n2, m, e2⟩ := h2
 refine ⟨hR, max (max n1 n2) m + 1, ?_⟩
 unfold pP rowP
 rw [(pX_mono zeroR n1 (max (max n1 n2) m) (by omega)).1 d l s (by rw [e1]; simp), e1]
 show rowL _ _ _ _ _ _ e q l' = R
 rw [rowL_mono (fun l q h => (pX_mono zeroR n2 (max (max n1 n2) m) (by omega)).1 d l q h) 42 47 5 6 m (max (max n1 n2) m) e q l' (by omega) (by rw [e2]; exact hR), e2]
theorem SS_of {d : Nat} {l : Bool} {s : Str} {e : Expr} {q : Str} {l' : Bool} {R : PR} (h1 : SP d l s (.ok e q l')) (h2 : RS d e q l' R) : SS d l s R := by
 obtain ⟨_, n1, e1⟩ := h1
 obtain ⟨hR, n2, m, e2⟩ := h2
 refine ⟨hR, max (max n1 n2) m + 1, ?_⟩
 unfold pS rowP
 rw [(pX_mono zeroR n1 (max (max n1 n2) m) (by omega)).2.1 d l s (by rw [e1]; simp), e1]
 show rowL _ _ _ _ _ _ e q l' = R
 rw [rowL_mono (fun l q h => (pX_mono zeroR n2 (max (max n1 n2) m) (by omega)).2.1 d l q h) 43 45 3 4 m (max (max n1 n2) m) e q l' (by omega) (by rw [e2]; exact hR), e2]
theorem RP_stop {d : Nat} {e : Expr} {r : Str} {l : Bool} (h : takeS [42, 47] r = none) : RP d e r l (.ok e (skS r) l) := ⟨by simp, 0, 1, by unfold rowL; rw [h]⟩
theorem RS_stop {d : Nat} {e : Expr} {r : Str} {l : Bool} (h : takeS [43, 45] r = none) : RS d e r l (.ok e (skS r) l) := ⟨by simp, 0, 1, by unfold rowL; rw [h]⟩
theorem RP_step {d : Nat} {e : Expr} {r : Str} {l : Bool} {c : UInt8} {q : Str} {e2 : Expr} {q2 : Str} {l2 : Bool} {R : PR} (h : takeS [42, 47] r = some (c, q)) (h1 : SF d l q (.ok e2 q2 l2)) (h2 : RP d (nodeE (if c = 42 then 5 else 6) [e, e2]) q2 l2 R) : RP d e r l R := by
 obtain ⟨_, n1, e1⟩ := h1
 obtain ⟨hR, n2, m, e3⟩ := h2
 refine ⟨hR, max n1 n2, m + 1, ?_⟩
 unfold rowL
 rw [h]
 dsimp only
 rw [(pX_mono zeroR n1 (max n1 n2) (by omega)).1 d l q (by rw [e1]; simp), e1]
 show rowL _ _ _ _ _ _ _ q2 l2 = R
 rw [rowL_mono (fun l q h => (pX_mono zeroR n2 (max n1 n2) (by omega)).1 d l q h) 42 47 5 6 m m _ q2 l2 (by omega) (by rw [e3]; exact hR), e3]
theorem RS_step {d : Nat} {e : Expr} {r : Str} {l : Bool} {c : UInt8} {q : Str} {e2 : Expr} {q2 : Str} {l2 : Bool} {R : PR} (h : takeS [43, 45] r = some (c, q)) (h1 : SP d l q (.ok e2 q2 l2)) (h2 : RS d (nodeE (if c = 43 then 3 else 4) [e, e2]) q2 l2 R) : RS d e r l R := by
 obtain ⟨_, n1, e1⟩ := h1
 obtain ⟨hR, n2, m, e3⟩ := h2
 refine ⟨hR, max n1 n2, m + 1, ?_⟩
 unfold rowL
 rw [h]
 dsimp only
 rw [(pX_mono zeroR n1 (max n1 n2) (by omega)).2.1 d l q (by rw [e1]; simp), e1]
 show rowL _ _ _ _ _ _ _ q2 l2 = R
 rw [rowL_mono (fun l q h => (pX_mono zeroR n2 (max n1 n2) (by omega)).2.1 d l q h) 43 45 3 4 m m _ q2 l2 (by omega) (by rw [e3]; exact hR), e3]
theorem takeS_sk (m r : Str) : takeS m (skS r) = takeS m r := by unfold takeS; rw [skS_idem]
theorem rowL_arg (K : Bool → Str → PR) (m1 m2 : UInt8) (k1 k2 : Int) (n : Nat) (e : Expr) (r : Str) (l : Bool) : rowL K m1 m2 k1 k2 n e (skS r) l = rowL K m1 m2 k1 k2 n e r l := by
 cases n with
 | zero => rfl
 | succ n => unfold rowL; rw [takeS_sk, skS_idem]
theorem RS_sk {d : Nat} {e : Expr} {r : Str} {l : Bool} {R : PR} (h : RS d e r l R) : RS d e (skS r) l R := by
 obtain ⟨hR, n, m, e2⟩ := h
 exact ⟨hR, n, m, by rw [rowL_arg, e2]⟩
theorem isL_D {c : UInt8} (h : isL c = true) : isD c = false := by
 unfold isL at h
 rw [Bool.and_eq_true, decide_eq_true_eq, decide_eq_true_eq] at h
 cases q : isD c with
 | false => rfl
 | true => have := isD_iff.1 q; omega
theorem SF_nam {d : Nat} {l : Bool} {s r : Str} {c : UInt8} (hs : skS s = c :: r) (hc : isL c = true) : SF d l s (namP (c :: r) l) := by
 refine ⟨by unfold namP; simp, 1, ?_⟩
 have c45 : c ≠ 45 := by rintro rfl; revert hc; decide
 have c40 : c ≠ 40 := by rintro rfl; revert hc; decide
 unfold pF facP
 rw [hs]
 dsimp only
 rw [if_neg c45, if_neg c40, if_neg (by rw [isL_D hc]; simp), if_pos hc]
theorem SS_top {s : Str} {R : PR} (h : SS 0 false s R) : sumZ zeroR s = R := by
 obtain ⟨hR, n, e⟩ := h
 have h2 := sumZ_no zeroR_nok s
 unfold sumZ at h2 ⊢
 have a := (pX_mono zeroR (3 * s.length + 3) (max n (3 * s.length + 3)) (by omega)).2.2 0 false s h2
 have b := (pX_mono zeroR n (max n (3 * s.length + 3)) (by omega)).2.2 0 false s (by rw [e]; exact hR)
 rw [← a, b, e]
end Go.AM.Lf
namespace Go.AM.Lf
open PL
def sepB : Str → Bool
 | [] => true
 | c :: _ => !isIn c && !(c == 46)
theorem sep_head {q : Str} (h : sepB q = true) : ∀ c r, q = c :: r → isIn c = false ∧ c ≠ 46 := by
 rintro c r rfl
 have h : (!isIn c && !(c == 46)) = true := h
 rw [Bool.and_eq_true] at h
 exact ⟨by simpa using h.1, by simpa using h.2⟩
theorem lexW_name : ∀ (n : Nat) (s q : Str), s.length ≤ n → s.all isIn = true → sepB q = true → lexW isIn n (s ++ q) = (s, q)
 | 0, [], q, _, _, _ => rfl
 | 0, _ :: _, _, h, _, _ => by simp at h
 | n + 1, [], [], _, _, _ => rfl
 | n + 1, [], c :: q, _, _, hq => by
  have := (sep_head hq c q rfl).1
  show (if isIn c = true then _ else ([], c :: q)) = _
  rw [if_neg (by rw [this]; simp)]
 | n + 1, c :: s, q, h, ha, hq => by
  rw [List.all_cons, Bool.and_eq_true] at ha
  have ih := lexW_name n s q (by simpa using h) ha.2 hq
  show (if isIn c = true then (c :: (lexW isIn n (s ++ q)).1, (lexW isIn n (s ++ q)).2) else _) = _
  rw [if_pos ha.1, ih]
theorem nameOk_parts {s : Str} (h : nameOk s = true) : s.length ≤ 24 ∧ s.all isIn = true ∧ ∃ c r, s = c :: r ∧ isL c = true := by
 have h2 := nameOk_len h
 refine ⟨h2.1, h2.2, ?_⟩
 cases s with
 | nil => cases h
 | cons c r =>
  unfold nameOk at h
  dsimp only at h
  rw [Bool.and_eq_true, Bool.and_eq_true] at h
  exact ⟨c, r, rfl, h.2.1⟩
theorem namP_text {s : Str} (h : nameOk s = true) (l : Bool) {q : Str} (hq : sepB q = true) : namP (s ++ q) l = .ok (.mk 2 zeroR s []) q l := by
 obtain ⟨h1, h2, _⟩ := nameOk_parts h
 unfold namP
 rw [lexW_name 24 s q h1 h2 hq]
theorem skS_ne {c : UInt8} {r : Str} (h : c ≠ 32) : skS (c :: r) = c :: r := by unfold skS; rw [if_neg h]
theorem isL_32 {c : UInt8} (h : isL c = true) : c ≠ 32 := by rintro rfl; revert h; decide
end Go.AM.Lf
namespace Go.AM.Lf
open PL
theorem okE_mk {d : Nat} {k : Int} {n : Rat} {s : Str} {l : List Expr} (h1 : d < 32) (h2 : nodeB (.mk k n s l) = true) (h3 : okEs (d + 1) l = true) : okE d (.mk k n s l) = true := by
 show (decide (d < 32) && (nodeB (.mk k n s l) && okEs (d + 1) l)) = true
 rw [decide_eq_true h1, h2, h3]; rfl
end Go.AM.Lf
namespace Go.AM.Lf
open PL
def sgC (p s : Bool) : UInt8 := bif p then (bif s then 47 else 42) else (bif s then 45 else 43)
def sgK (p s : Bool) : Int := bif p then (bif s then 6 else 5) else (bif s then 4 else 3)
def sgT (p : Bool) : List Bool → Str
 | [] => []
 | s :: r => sgC p s :: 98 :: sgT p r
def sgE (p : Bool) : Expr → List Bool → Expr
 | e, [] => e
 | e, s :: r => sgE p (nodeE (sgK p s) [e, nmE1 [98]]) r
theorem sgT_sep (p : Bool) (l : List Bool) : sepB (sgT p l) = true := by
 cases l with
 | nil => rfl
 | cons s r => cases p <;> cases s <;> rfl
theorem sgT_len (p : Bool) : ∀ l : List Bool, (sgT p l).length = 2 * l.length
 | [] => rfl
 | s :: r => by show (sgT p r).length + 1 + 1 = 2 * (r.length + 1); rw [sgT_len p r]; omega
theorem sgT_snoc (p : Bool) : ∀ (l : List Bool) (s : Bool), sgT p (l ++ [s]) = sgT p l ++ [sgC p s, 98]
 | [], _ => rfl
 | x :: r, s => by show _ :: _ :: sgT p (r ++ [s]) = _ :: _ :: (sgT p r ++ [sgC p s, 98]); rw [sgT_snoc p r s]
theorem sgE_snoc (p : Bool) : ∀ (l : List Bool) (e : Expr) (s : Bool), sgE p e (l ++ [s]) = nodeE (sgK p s) [sgE p e l, nmE1 [98]]
 | [], _, _ => rfl
 | x :: r, e, s => by show sgE p (nodeE (sgK p x) [e, nmE1 [98]]) (r ++ [s]) = _; rw [sgE_snoc p r]; rfl
theorem nam_rd (c : UInt8) (hc : isL c = true) (d : Nat) (l : Bool) (q : Str) (hq : sepB q = true) : SF d l (c :: q) (.ok (nmE1 [c]) q l) := by
 have h := SF_nam (d := d) (l := l) (skS_ne (isL_32 hc) : skS (c :: q) = c :: q) hc
 have hn : nameOk [c] = true := by
  unfold nameOk
  show (true && (isL c && (isIn c && true))) = true
  rw [hc, isL_in hc]; rfl
 have := namP_text hn l hq
 have e : namP (c :: q) l = .ok (.mk 2 zeroR [c] []) q l := this
 rw [e] at h
 exact h
theorem prod_rd : ∀ (l : List Bool) (e : Expr), RP 0 e (sgT true l) false (.ok (sgE true e l) [] false)
 | [], e => RP_stop rfl
 | s :: r, e => by
  have hsk : takeS [42, 47] (sgT true (s :: r)) = some (sgC true s, 98 :: sgT true r) := by cases s <;> rfl
  refine RP_step hsk (nam_rd 98 (by decide) 0 false _ (sgT_sep true r)) ?_
  have : (if sgC true s = 42 then (5 : Int) else 6) = sgK true s := by cases s <;> rfl
  rw [this]
  exact prod_rd r _
theorem sum_rd : ∀ (l : List Bool) (e : Expr), RS 0 e (sgT false l) false (.ok (sgE false e l) [] false)
 | [], e => RS_stop rfl
 | s :: r, e => by
  have hsk : takeS [43, 45] (sgT false (s :: r)) = some (sgC false s, 98 :: sgT false r) := by cases s <;> rfl
  have hno : takeS [42, 47] (sgT false r) = none := by
   cases r with
   | nil => rfl
   | cons t r => cases t <;> rfl
  refine RS_step hsk (SP_of (nam_rd 98 (by decide) 0 false _ (sgT_sep false r)) (RP_stop hno)) ?_
  have : (if sgC false s = 43 then (3 : Int) else 4) = sgK false s := by cases s <;> rfl
  rw [this]
  exact RS_sk (sum_rd r _)
theorem nm_ok (c : UInt8) (hc : isL c = true) (d : Nat) (hd : d < 32) : okE d (nmE1 [c]) = true := by
 refine okE_mk hd ?_ rfl
 show (true && (true && (true && (isL c && (isIn c && true))))) = true
 rw [hc, isL_in hc]; rfl
theorem sgE_ok (p : Bool) : ∀ (l : List Bool) (e : Expr) (d : Nat), d + l.length < 32 → okE (d + l.length) e = true → okE d (sgE p e l) = true
 | [], _, _, _, h => h
 | s :: r, e, d, hd, h => by
  simp only [List.length_cons] at hd h
  refine sgE_ok p r _ d (by omega) (okE_mk (by omega) ?_ ?_)
  ·cases p <;> cases s <;> rfl
  ·show (okE (d + r.length + 1) e && (okE (d + r.length + 1) (nmE1 [98]) && true)) = true
   rw [show d + r.length + 1 = d + (r.length + 1) by omega, h, nm_ok 98 (by decide) _ (by omega)]; rfl
theorem sgE_nd (p : Bool) : ∀ (l : List Bool) (e : Expr), ndE (sgE p e l) = ndE e + 2 * l.length
 | [], _ => rfl
 | s :: r, e => by
  show ndE (sgE p _ r) = _
  rw [sgE_nd p r, nd2, show ndE (nmE1 [98]) = 1 from rfl, List.length_cons]; omega
theorem nm_good (c : UInt8) : exGood (nmE1 [c]) := leaf_good 2 zeroR _ zeroR_nok (by simp)
theorem sgE_good (p : Bool) : ∀ (l : List Bool) (e : Expr), exGood e → exGood (sgE p e l)
 | [], _, h => h
 | s :: r, e, h => sgE_good p r _ (node2_good _ h (nm_good 98))
theorem left_parse (p : Bool) (l : List Bool) (hl : l.length ≤ 28) : parseE (97 :: sgT p l) = (sgE p (nmE1 [97]) l, ((0 : Int), (0 : Int))) := by
 have hs : SS 0 false (97 :: sgT p l) (.ok (sgE p (nmE1 [97]) l) [] false) := by
  cases p with
  | true => exact SS_of (SP_of (nam_rd 97 (by decide) 0 false _ (sgT_sep true l)) (prod_rd l _)) (RS_stop rfl)
  | false =>
   have hno : takeS [42, 47] (sgT false l) = none := by
    cases l with
    | nil => rfl
    | cons t r => cases t <;> rfl
   exact SS_of (SP_of (nam_rd 97 (by decide) 0 false _ (sgT_sep false l)) (RP_stop hno)) (RS_sk (sum_rd l _))
 have hI : isE (sgE p (nmE1 [97]) l) = true := by
  unfold isE
  rw [sgE_nd, sgE_ok p l (nmE1 [97]) 0 (by omega) (nm_ok 97 (by decide) _ (by omega)), decide_eq_true (by rw [show ndE (nmE1 [97]) = 1 from rfl]; omega)]
  rfl
 unfold parseE
 rw [SS_top hs]
 unfold parA topP
 dsimp only
 rw [if_neg (by decide), hI, if_neg (by simp)]
theorem leftL_run (p : Bool) (l : List Bool) (hl : l.length ≤ 28) : (law5_ExprLeft_L0 l p (([97] : Str), ((0 : Int), nmE1 [97]))).run = some (97 :: sgT p l, sgE p (nmE1 [97]) l) := by
 have key : ∀ (m k : Nat), k + m = l.length → (law5_ExprLeft_L0 l p (97 :: sgT p (l.take k), ((k : Int), sgE p (nmE1 [97]) (l.take k)))).run = some (97 :: sgT p l, sgE p (nmE1 [97]) l) := by
  intro m
  induction m with
  | zero =>
   intro k hk
   have : k = l.length := by omega
   subst this
   rw [List.take_length]
   refine T.loop_done ?_
   unfold law5_ExprLeft_R0
   dsimp only
   rw [T.run_ite_f (lt_f _), T.run_ret]
  | succ m ih =>
   intro k hk
   have hlt : k < l.length := by omega
   have ht : l.take (k + 1) = l.take k ++ [l[k]] := (List.take_append_getElem hlt).symm
   refine (T.loop_step ?_).trans (ih (k + 1) (by omega))
   rw [ht, sgT_snoc, sgE_snoc]
   unfold law5_ExprLeft_R0
   dsimp only
   have hln := sgT_len p (l.take k)
   have htk : (l.take k).length ≤ 28 := by rw [List.length_take]; omega
   have hc : (bif (l[k] && p) then ([47] : Str) else (bif p then ([42] : Str) else (bif l[k] then ([45] : Str) else ([43] : Str)))) = [sgC p l[k]] := by
    cases p <;> cases l[k] <;> rfl
   have hk2 : (bif (l[k] && p) then (6 : Int) else (bif p then (5 : Int) else (bif l[k] then (4 : Int) else (3 : Int)))) = sgK p l[k] := by
    cases p <;> cases l[k] <;> rfl
   have l1 : ∀ x : UInt8, ([x] : Str).length = 1 := fun _ => rfl
   rw [T.run_ite_t (lt_t hlt), T.run_obl ⟨idx_ok hlt, fun _ _ => idx_ok hlt⟩, nth_at hlt, hc, hk2, T.run_leN _ (by rw [l1, List.length_cons]; omega), T.run_leN _ (by rw [len_cat, l1, l1, List.length_cons]; omega), T.run_ret, ix1 k _ hlt (by omega), cat_eq, cat_eq, List.append_assoc]
   rfl
 exact key l.length 0 (by omega)
theorem law5_ExprLeft_run (l : List Bool) (p : Bool) : (law5_ExprLeft l p).run = some true := by
 unfold law5_ExprLeft
 by_cases c : 28 < l.length
 ·rw [T.run_ite_t (decide_eq_true (by omega)), T.run_ret]
 ·have hl := sgT_len p l
  have hg := sgE_good p l (nmE1 [97]) (nm_good 97)
  have hn := sgE_nd p l (nmE1 [97])
  have e1 : ndE (nmE1 [97]) = 1 := rfl
  have hL := leftL_run p l (by omega)
  have hL : (law5_ExprLeft_L0 l p (([97] : Str), ((0 : Int), (Expr.mk (2 : Int) (false, (([] : List Int), (([] : List Int), ()))) ([97] : Str) ([] : List AM.Expr))))).run = _ := hL
  rw [T.run_ite_f (decide_eq_false (by omega)), T.run_bind_of hL]
  dsimp only
  rw [T.run_bind_of (Parse_run _ (by rw [List.length_cons]; omega)), left_parse p l (by omega)]
  dsimp only
  rw [T.run_ite_t (by rfl), T.run_bind_of (ref5_Same_refl _ hg.1 (by omega)), T.run_ite_true, T.run_bind_of known5_run, T.run_ret]
theorem law5_ExprLeft_law (x : denL [.sl .bool, .bool]) (hw : wfL [.sl .bool, .bool] x) (hb : bkL [.sl .bool, .bool] x ≤ 1048576) : (law5_ExprLeft (toPs [.sl .bool, .bool] x).1 (toPs [.sl .bool, .bool] x).2).run = some true := law5_ExprLeft_run x.1 x.2.1
end Go.AM.Lf
