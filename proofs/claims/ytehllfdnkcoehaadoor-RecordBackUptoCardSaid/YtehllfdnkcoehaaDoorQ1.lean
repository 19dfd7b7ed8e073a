/-
  Plain laws of the lifted program, part 1.
-/
import Derived.Test.YtehllfdnkcoehaaDoorLf0
import Derived.Test.YtehllfdnkcoehaaDoorAmA
import Derived.Test.YtehllfdnkcoehaaDoorAmD
import Derived.Test.YtehllfdnkcoehaaDoorQ0
set_option linter.unusedVariables false
namespace Go.AM.Lf
open PL
theorem limbs2_run (a b : List Int) (la : a.length ≤ 1000000000) (e : a = b) : (ref2_limbs a b).run = some true := by
  subst e
  have key : (ref2_limbs_L0 a a 0).run = some (.inl ()) := by
    have := T.loop_scan (r := ref2_limbs_R0 a a) a (dflt (.int .u32)) (fun (_ : Unit) i => i) (fun _ _ => True) (fun _ _ => (.inl () : Unit ⊕ Bool)) (fun k b x xs hk hx hm hd hI => ?_) (fun b _ => ?_) (b := ()) trivial
    · exact this
    · left
      refine ⟨(), ?_, trivial, rfl⟩
      unfold ref2_limbs_R0
      dsimp only
      rw [T.run_ite_t (lt_t hk), T.run_obl (idx_ok hk), T.run_obl (idx_ok hk), T.run_ite_f (by simp), T.run_ret, ix1 k _ hk (by omega)]
    · unfold ref2_limbs_R0
      dsimp only
      rw [T.run_ite_f (lt_f _), T.run_ret]
  unfold ref2_limbs
  rw [T.run_ite_f (by simp), T.run_bind_of key]; rfl
theorem Same_run (a b : Rat) (ha : ratOk 100000 a) (hb : ratOk 100000 b) (h : val a = val b) : (ref2_Same a b).run = some true := by
  unfold ref2_Same
  have l := qlen_val (by omega) ha
  have h1 := qlen_num (val a); have h2 := qlen_den (val a)
  rw [T.run_bind_of (ref2_norm a (ok_up ha (by omega))), T.run_bind_of (ref2_norm b (ok_up hb (by omega))), norm_toR, norm_toR, ← h, T.run_ite_t (by simp), toR_num, toR_den, T.run_bind_of (limbs2_run _ _ (by omega) rfl), T.run_ite_true, T.run_bind_of (limbs2_run _ _ (by omega) rfl), T.run_ret]
end Go.AM.Lf
namespace Go.AM.PL
theorem isD_dgt (n : Nat) : isD (dgt n) = true ∧ (dgt n).toNat - 48 = n % 10 := by
  have h : (dgt n).toNat = 48 + n % 10 := by unfold dgt; rw [UInt8.toNat_ofNat']; omega
  exact ⟨isD_iff.2 (by omega), by omega⟩
theorem dgz_digs (n : Nat) : digs (dgz n) = true ∧ dval (dgz n) = n := by
  induction n using Nat.strongRecOn with
  | _ n ih =>
    by_cases h : n = 0
    · subst h; rw [dgz_zero]; exact ⟨rfl, rfl⟩
    · obtain ⟨h1, h2⟩ := ih (n / 10) (by omega)
      obtain ⟨h3, h4⟩ := isD_dgt n
      rw [dgz_pos h]
      refine ⟨by rw [digs_app, h1, digs_cons, h3]; rfl, ?_⟩
      rw [dval_snoc, h2, h4]; omega
theorem pr_digs (n : Nat) : digs (pr n) = true ∧ dval (pr n) = n := by
  unfold pr
  split
  · rename_i h; subst h; exact ⟨by decide, by decide⟩
  · exact dgz_digs n
theorem dgz_ne {n : Nat} (h : n ≠ 0) : dgz n ≠ [] := by rw [dgz_pos h]; simp
theorem pr_ne (n : Nat) : pr n ≠ [] := by
  unfold pr
  split
  · simp
  · rename_i h; exact dgz_ne h
theorem pr_lt (n k : Nat) (hk : 1 ≤ k) (h : n < 10 ^ k) : (pr n).length ≤ k := by
  unfold pr
  split
  · simpa using hk
  · exact dgz_len n k h
theorem head_dig {t : Str} (h : digs t = true) (hn : t ≠ []) (r : Str) : List.isPrefixOf [45] (t ++ r) = false := by
  cases t with
  | nil => exact absurd rfl hn
  | cons b t =>
    rw [digs_cons, Bool.and_eq_true] at h
    have hb := isD_iff.1 h.1
    have : (45 : UInt8) ≠ b := fun z => by subst z; have e : (45 : UInt8).toNat = 45 := rfl; omega
    show ((45 : UInt8) == b && true) = false
    rw [Bool.and_true]; exact beq_eq_false_iff_ne.2 this
end Go.AM.PL
namespace Go.AM.Lf
open PL
theorem sign_of (b : Bool) (t : Str) (h : List.isPrefixOf [45] t = false) : List.isPrefixOf [45] (sgS b ++ t) = b ∧ trimPre (sgS b ++ t) [45] = t := by
  unfold trimPre sgS
  cases b with
  | false => rw [if_neg (by simp), List.nil_append]; exact ⟨h, by rw [if_neg (by rw [h]; simp)]⟩
  | true =>
    have e : List.isPrefixOf [45] ([45] ++ t) = true := by simp [List.isPrefixOf]
    rw [if_pos rfl, e]
    exact ⟨rfl, by rw [if_pos rfl]; simp⟩
theorem parse_of (b : Bool) (t : Str) (n d : Nat) (h : List.isPrefixOf [45] t = false) (hl : t.length ≤ 399) (hd : decT t = some (n, d)) : (dec_Parse (sgS b ++ t)).run = some (ratN b n d, 0) := by
  obtain ⟨h1, h2⟩ := sign_of b t h
  have hs := sgS_len b
  have hlen : (sgS b ++ t).length ≤ 400 := by rw [List.length_append]; omega
  rw [dec_Parse_run _ (by omega), if_neg (by omega)]
  unfold decP
  rw [h1, h2, hd]
theorem parse_whole (b : Bool) (n : Nat) (hl : (pr n).length ≤ 399) : (dec_Parse (sgS b ++ pr n)).run = some (ratN b n 1, 0) := by
  obtain ⟨h1, h2⟩ := pr_digs n
  have h3 := pr_ne n
  have := head_dig h1 h3 []
  rw [List.append_nil] at this
  exact parse_of b (pr n) n 1 this hl (by rw [decT_all h1, if_neg h3, h2])
theorem parse_frac (b : Bool) (n d : Nat) (hd : d ≠ 0) (hl : (pr n).length + (pr d).length ≤ 398) : (dec_Parse (sgS b ++ (pr n ++ 47 :: pr d))).run = some (ratN b n d, 0) := by
  obtain ⟨h1, h2⟩ := pr_digs n
  obtain ⟨k1, k2⟩ := pr_digs d
  have h3 := pr_ne n
  have k3 := pr_ne d
  refine parse_of b _ n d (head_dig h1 h3 _) (by simp; omega) ?_
  rw [decT_cut h1 47 _ (by decide), if_neg h3, if_neg (by simp [k3, k1]), if_neg (by decide), if_pos rfl, k2, if_neg hd, h2]
theorem limb_dig (n k : Nat) (h : (ofN n).length ≤ k) : n < 10 ^ (10 * k) := by
  refine Nat.lt_of_lt_of_le (ofN_len_le.1 h) ?_
  rw [Nat.pow_mul]
  exact Nat.pow_le_pow_left (by decide) k
theorem pr_limb (n k : Nat) (hk : 1 ≤ k) (h : (ofN n).length ≤ k) : (pr n).length ≤ 10 * k := pr_lt n (10 * k) (by omega) (limb_dig n k h)
theorem norm_self (a : Rat) : ratN (norm a).1 (nv (norm a).2.1) (nv (norm a).2.2.1) = norm a := norm_idem a
theorem parse_print (a : Rat) (h : ratOk 1000 a) (hl : (pr (nv (norm a).2.1)).length + (pr (nv (norm a).2.2.1)).length ≤ 398) : (dec_Parse (printS (norm a))).run = some (norm a, 0) := by
  have hd := ratN_den a.1 (nv a.2.1) (nv a.2.2.1)
  have hs := norm_self a
  change nv (norm a).2.2.1 ≠ 0 at hd
  generalize norm a = v at *
  unfold printS
  by_cases c : nv v.2.2.1 = 1
  · rw [if_pos c, parse_whole _ _ (by omega)]
    rw [c] at hs
    rw [hs]
  · rw [if_neg c, List.append_assoc]
    show (dec_Parse (sgS v.1 ++ (pr (nv v.2.1) ++ (47 :: pr (nv v.2.2.1))))).run = _
    rw [parse_frac _ _ _ hd hl, hs]
end Go.AM.Lf
namespace Go.AM.Lf
open PL
theorem decT_lt {t : Str} {n d : Nat} (h : decT t = some (n, d)) : n < 10 ^ t.length ∧ d ≤ 10 ^ t.length := by
  obtain ⟨u, r, rfl, h1, h2⟩ := runLen t
  have hu := dval_lt h1
  cases r with
  | nil =>
    rw [List.append_nil, decT_all h1] at h
    split at h
    · cases h
    · cases h
      rw [List.append_nil]
      exact ⟨hu, Nat.one_le_pow _ _ (by omega)⟩
  | cons c q =>
    rw [decT_cut h1 c q (h2 c q rfl)] at h
    have hl : (u ++ c :: q).length = u.length + q.length + 1 := by simp; omega
    have mono : ∀ {a b : Nat}, a ≤ b → 10 ^ a ≤ 10 ^ b := fun h => Nat.pow_le_pow_right (by omega) h
    split at h
    · cases h
    · split at h
      · cases h
      · rename_i hq
        have hd : digs q = true := by cases hh : digs q with | true => rfl | false => exact absurd (.inr hh) hq
        have hq1 := dval_lt hd
        rw [hl]
        split at h
        · cases h
          refine ⟨?_, mono (by omega)⟩
          have e : 10 ^ (u.length + q.length) ≤ 10 ^ (u.length + q.length + 1) := mono (by omega)
          rw [Nat.pow_add] at e
          have : (dval u + 1) * 10 ^ q.length ≤ 10 ^ u.length * 10 ^ q.length := Nat.mul_le_mul_right _ hu
          rw [Nat.add_mul, Nat.one_mul] at this
          omega
        · split at h
          · split at h
            · cases h
            · cases h
              have e1 : 10 ^ u.length ≤ 10 ^ (u.length + q.length + 1) := mono (by omega)
              have e2 : 10 ^ q.length ≤ 10 ^ (u.length + q.length + 1) := mono (by omega)
              omega
          · cases h
theorem big42 : 10 ^ 400 < 4294967296 ^ 42 := by decide +kernel
theorem lt_len {n k : Nat} (h : n ≤ 10 ^ k) (hk : k ≤ 400) : (ofN n).length ≤ 42 :=
  ofN_len_le.2 (Nat.lt_of_le_of_lt (Nat.le_trans h (Nat.pow_le_pow_right (by omega) hk)) big42)
theorem parse_small {s : Str} {n d : Nat} (neg : Bool) (hs : s.length ≤ 400) (h : decP s = some (n, d)) : ratOk 50 (ratN neg n d) := by
  have hl := trimPre_len s [45]
  obtain ⟨h1, h2⟩ := decT_lt h
  exact ratN_ok _ _ _ _ (by omega) (Nat.le_trans (lt_len (by omega) (by omega : (trimPre s [45]).length ≤ 400)) (by omega)) (Nat.le_trans (lt_len h2 (by omega)) (by omega))
end Go.AM.Lf
namespace Go.AM.T
theorem run_same {α β : Type} (a : β) (t : T α) : (obl (a = a) t).run = t.run := run_obl rfl t
end Go.AM.T
namespace Go.AM.Lf
open PL
abbrev tyIt : Ty := .cons .str (.cons tyRat .nil)
abbrev ItT := den tyIt
theorem all_at {α : Type} {l : List α} {P : α → Prop} (h : ∀ k (hk : k < l.length), P l[k]) : ∀ x ∈ l, P x := by
  intro x hx
  obtain ⟨k, hk, rfl⟩ := List.getElem_of_mem hx
  exact h k hk
theorem nth_at {α : Type} {l : List α} {k : Nat} (h : k < l.length) (d : α) : nth l (k : Int) d = l[k] := by simp [nth, h]
theorem bytesOf_len (s : Str) : (bytesOf s).length = s.length := by unfold bytesOf; simp
theorem bytesOf_app (s t : Str) : bytesOf (s ++ t) = bytesOf s ++ bytesOf t := by unfold bytesOf; simp
theorem bytesStr_of (s : Str) : bytesStr (bytesOf s) = s := by
  unfold bytesStr bytesOf
  rw [List.map_map]
  conv => rhs; rw [← List.map_id s]
  refine List.map_congr_left fun b _ => ?_
  simp [byteOf]
theorem bytesOf_range (s : Str) : ∀ n ∈ bytesOf s, (0 : Int) ≤ n ∧ n < 256 := by
  intro n hn
  unfold bytesOf at hn
  obtain ⟨b, _, rfl⟩ := List.mem_map.1 hn
  have := b.toNat_lt
  omega
theorem writeString_run (s b : Str) (h : b.length + s.length ≤ 140737488355328) : (strings_Builder_WriteString_S s () (bytesOf b)).run = some ((s.length : Int), (), bytesOf (b ++ s)) := by
  unfold strings_Builder_WriteString_S bld_copyCheck
  simp only [T.bind]
  rw [T.run_cur _ rfl rfl rfl, T.run_true, T.run_app _ rfl rfl rfl (by simp only [bytesOf_len]; omega), T.run_cur _ (by simp) rfl (by simp), T.run_obl (by simp), T.run_ret, bytesOf_app]
theorem bldString_run (b : Str) (h : b.length ≤ 140737488355328) : (bld_String () (bytesOf b)).run = some (b, ()) := by
  unfold bld_String strT
  rw [T.run_obl ⟨bytesOf_range b, by rw [bytesOf_len]; exact h⟩, T.run_ret, bytesStr_of]
def itemS (x : ItT) : Str := x.1 ++ [32] ++ printS (norm x.2.1) ++ [10]
def itemOk (x : ItT) : Prop := x.1.length ≤ 100000 ∧ ratOk 1000 x.2.1
theorem itemS_len {x : ItT} (h : itemOk x) : (itemS x).length ≤ 140003 := by
  have := printS_len _ h.2
  have := h.1
  unfold itemS
  simp only [List.length_append, List.length_cons, List.length_nil]
  omega
theorem encode_run (l : List ItT) (h : ∀ x ∈ l, itemOk x) (hl : l.length ≤ 1000000) : (record_Encode l).run = some (l.flatMap itemS) := by
  have key := T.loop_fold (r := record_Encode_R0 l (l.length : Int)) l (dflt tyIt) (fun (b : Str) i => (i, (), bytesOf b)) (fun k b => b.length ≤ k * 140003) (fun b x => b ++ itemS x) (fun b => ((), bytesOf b)) (fun k b x hk hx hm hI => ?_) (fun b hI => ?_) (b := []) (by simp)
  · obtain ⟨k1, k2⟩ := key
    rw [foldl_cat, List.nil_append] at k1 k2
    have k1 : (record_Encode_L0 l (l.length : Int) ((0 : Int), ((), ([] : List Int)))).run = some ((), bytesOf (l.flatMap itemS)) := k1
    unfold record_Encode
    rw [T.run_cur _ rfl rfl rfl, T.run_same, T.run_bind_of k1]
    dsimp only
    rw [T.run_cur _ rfl rfl rfl, T.run_same, T.run_bind_of (bldString_run _ (by omega))]
    rfl
  · have h1 := printS_len _ (h x hm).2
    have h2 := itemS_len (h x hm)
    have h3 := (h x hm).1
    have h4 := mul_mono (c := 140003) (show k + 1 ≤ l.length from hk)
    rw [Nat.add_mul, Nat.one_mul] at h4
    have hd : (dec_Print (x.2.1.1, (x.2.1.2.1, (x.2.1.2.2.1, ())))).run = some (printS (norm x.2.1)) := dec_Print_run x.2.1 (h x hm).2
    have hw := writeString_run (itemS x) b (by omega)
    refine ⟨?_, by rw [List.length_append, Nat.add_mul, Nat.one_mul]; omega⟩
    unfold record_Encode_R0
    dsimp only
    rw [T.run_ite_t (lt_t hk), T.run_obl (idx_ok hk), hx, T.run_leN _ (by simp; omega), T.run_bind_of hd, T.run_leN _ (by simp [cat_eq]; omega), T.run_leN _ (by simp [cat_eq]; omega), T.run_cur _ rfl rfl rfl, T.run_same]
    have e : cat (cat (cat x.1 [32]) (printS (norm x.2.1))) [10] = itemS x := rfl
    rw [e, T.run_bind_of hw]
    dsimp only
    rw [T.run_cur _ rfl rfl rfl, T.run_same, T.run_ret, ix1 k _ hk (by omega)]
  · unfold record_Encode_R0
    dsimp only
    rw [T.run_ite_f (lt_f _), T.run_cur _ rfl rfl rfl, T.run_same, T.run_ret]
theorem known21_run : (law21_known).run = some true := by
  have l3 : limbs [(3 : Int)] := by intro x hx; simp at hx; omega
  have h1 := encode_run [(([97] : Str), ((false, (([(1 : Int)] : List Int), (([(3 : Int)] : List Int), ()))), ()))] (fun x hx => by
    rw [List.mem_singleton] at hx; subst hx; exact ⟨by simp, one_limb, l3, by simp, by simp⟩) (by simp)
  have n1 : norm (false, [1], [3], ()) = (false, ofN 1, ofN 3, ()) := by
    show ratN false (nv [1]) (nv [3]) = _
    rw [show nv [1] = 1 from rfl, show nv [3] = 3 from rfl]; rfl
  have e : ([(([97] : Str), ((false, (([(1 : Int)] : List Int), (([(3 : Int)] : List Int), ()))), ()))] : List ItT).flatMap itemS = [97, 32, 49, 47, 51, 10] := by
    simp only [List.flatMap_cons, List.flatMap_nil, List.append_nil]
    unfold itemS
    dsimp only
    rw [n1]
    unfold printS
    simp only [nv_ofN]
    rw [if_neg (by omega)]
    unfold pr
    rw [if_neg (by omega), if_neg (by omega), dgz_small 1 (by omega) (by omega), dgz_small 3 (by omega) (by omega)]; rfl
  rw [e] at h1
  unfold law21_known
  rw [T.run_bind_of h1, T.run_ret, strEq_refl]
end Go.AM.Lf
namespace Go.AM.Lf
open PL
def isL (b : UInt8) : Bool := decide (97 ≤ (b.toNat : Int)) && decide ((b.toNat : Int) ≤ 122)
def isIn (b : UInt8) : Bool := isL b || ((decide (48 ≤ (b.toNat : Int)) && decide ((b.toNat : Int) ≤ 57)) || ((b.toNat : Int) == 95))
def nameOk (s : Str) : Bool := match s with | [] => false | b :: _ => decide (s.length ≤ 24) && (isL b && s.all isIn)
theorem isInner_run (b : UInt8) : (expr_isInner (b.toNat : Int)).run = some (isIn b) := by
  have h1 : (expr_isLetter (b.toNat : Int)).run = some (isL b) := rfl
  have h2 : (expr_isDigit (b.toNat : Int)).run = some (decide (48 ≤ (b.toNat : Int)) && decide ((b.toNat : Int) ≤ 57)) := rfl
  unfold expr_isInner isIn
  rw [T.run_bind_of h1]
  cases isL b with
  | true => rw [T.run_ite_true, T.run_ret]; rfl
  | false =>
    rw [T.run_ite_false, T.run_bind_of h2]
    cases (decide (48 ≤ (b.toNat : Int)) && decide ((b.toNat : Int) ≤ 57)) with
    | true => rw [T.run_ite_true, T.run_ret]; rfl
    | false => rw [T.run_ite_false, T.run_ret]; rfl
theorem Name_run (s : Str) : (expr_Name s).run = some (nameOk s) := by
  unfold expr_Name
  cases s with
  | nil => rfl
  | cons b r =>
    have e0 : strEq (b :: r) [] = false := by rw [strEq_iff]; simp
    rw [e0]
    by_cases c : 24 < (b :: r).length
    · have : (T.ite false (.ret true) (.ite (decide ((24 : Int) < ((b :: r).length : Int))) (.ret true) (.obl (idxOk (0 : Int) (List.length (b :: r))) <| T.bind (expr_isLetter (byteAt (b :: r) (0 : Int))) fun r => .ret (!r))) : T Bool).run = some true := by
        rw [T.run_ite_false, T.run_ite_t (decide_eq_true (by omega)), T.run_ret]
      rw [T.run_bind_of this, T.run_ite_true, T.run_ret]
      unfold nameOk
      rw [decide_eq_false (by omega)]; rfl
    · have hb : byteAt (b :: r) (0 : Int) = (b.toNat : Int) := byteAt_get (s := b :: r) (k := 0) (by simp)
      have h1 : (expr_isLetter (b.toNat : Int)).run = some (isL b) := rfl
      have : (T.ite false (.ret true) (.ite (decide ((24 : Int) < ((b :: r).length : Int))) (.ret true) (.obl (idxOk (0 : Int) (List.length (b :: r))) <| T.bind (expr_isLetter (byteAt (b :: r) (0 : Int))) fun r => .ret (!r))) : T Bool).run = some (!isL b) := by
        rw [T.run_ite_false, T.run_ite_f (decide_eq_false (by omega)), T.run_obl (by refine ⟨by omega, ?_⟩; simp only [List.length_cons]; omega), hb, T.run_bind_of h1, T.run_ret]
      rw [T.run_bind_of this]
      unfold nameOk
      dsimp only
      rw [decide_eq_true (by omega), Bool.true_and]
      cases isL b with
      | false => rw [T.run_ite_t (by rfl), T.run_ret]; rfl
      | true =>
        rw [T.run_ite_f (by rfl), Bool.true_and]
        have key : (expr_Name_L0 (b :: r) ((b :: r).length : Int) 0).run = some (if (b :: r).all isIn = true then .inl () else .inr false) := by
          refine T.loop_scan (r := expr_Name_R0 (b :: r) ((b :: r).length : Int)) (b :: r) (0 : UInt8) (fun (_ : Unit) i => i) (fun _ _ => True) (fun l _ => (if l.all isIn = true then .inl () else .inr false : Unit ⊕ Bool)) (fun k _ x xs hk hx hm hd hI => ?_) (fun _ _ => ?_) (b := ()) trivial
          · have hxk : (b :: r)[k] = x := by rw [← hx]; unfold nth; rw [Int.toNat_natCast, List.getD_eq_getElem?_getD, List.getElem?_eq_getElem hk]; rfl
            have hbk : byteAt (b :: r) (k : Int) = (x.toNat : Int) := by rw [byteAt_get hk, hxk]
            cases hin : isIn x with
            | true =>
              left
              refine ⟨(), ?_, trivial, ?_⟩
              · unfold expr_Name_R0
                rw [T.run_ite_t (lt_t hk), T.run_obl (idx_ok hk), hbk, T.run_bind_of (isInner_run x), hin, T.run_ite_f (by rfl), T.run_ret, ix1 k _ hk (by omega)]
              · rw [List.all_cons, hin, Bool.true_and]
            | false =>
              right
              unfold expr_Name_R0
              rw [T.run_ite_t (lt_t hk), T.run_obl (idx_ok hk), hbk, T.run_bind_of (isInner_run x), hin, T.run_ite_t (by rfl), T.run_ret, List.all_cons, hin]
              rfl
          · unfold expr_Name_R0
            rw [T.run_ite_f (lt_f _), T.run_ret]; rfl
        rw [T.run_bind_of key]
        cases h : (b :: r).all isIn with
        | true => rfl
        | false => rfl
end Go.AM.Lf
namespace Go.AM.PL
def splitL : Str → List Str × Str
  | [] => ([], [])
  | b :: r => if b = 10 then ([] :: (splitL r).1, (splitL r).2) else match (splitL r).1 with
    | [] => ([], b :: (splitL r).2)
    | l :: ls => ((b :: l) :: ls, (splitL r).2)
theorem splitL_at (w q : Str) (h : (10 : UInt8) ∉ w) : splitL (w ++ 10 :: q) = (w :: (splitL q).1, (splitL q).2) := by
  induction w with
  | nil => simp [splitL]
  | cons b w ih =>
    have hb : b ≠ 10 := fun z => h (by simp [z])
    have hw := ih fun z => h (List.mem_cons_of_mem _ z)
    rw [List.cons_append, splitL, if_neg hb, hw]
theorem splitL_none (w : Str) (h : (10 : UInt8) ∉ w) : splitL w = ([], w) := by
  induction w with
  | nil => rfl
  | cons b w ih =>
    have hb : b ≠ 10 := fun z => h (by simp [z])
    have hw := ih fun z => h (List.mem_cons_of_mem _ z)
    rw [splitL, if_neg hb, hw]
theorem splitL_back : ∀ s : Str, s = (splitL s).1.flatMap (fun l => l ++ [10]) ++ (splitL s).2 ∧ (10 : UInt8) ∉ (splitL s).2
  | [] => ⟨rfl, by simp [splitL]⟩
  | b :: r => by
    obtain ⟨h1, h2⟩ := splitL_back r
    unfold splitL
    by_cases c : b = 10
    · rw [if_pos c]
      refine ⟨?_, h2⟩
      subst c
      conv => lhs; rw [h1]
      simp
    · rw [if_neg c]
      cases hl : (splitL r).1 with
      | nil =>
        rw [hl] at h1
        refine ⟨by conv => lhs; rw [h1]
                   simp, ?_⟩
        intro hm
        rcases List.mem_cons.1 hm with hm | hm
        · exact c hm.symm
        · exact h2 hm
      | cons l ls =>
        rw [hl] at h1
        refine ⟨?_, h2⟩
        conv => lhs; rw [h1]
        simp
def linesI (s : Str) : List Str := (splitL s).1 ++ if (splitL s).2 = [] then [] else [(splitL s).2]
theorem linesI_at (w q : Str) (h : (10 : UInt8) ∉ w) : linesI (w ++ 10 :: q) = w :: linesI q := by
  unfold linesI; rw [splitL_at w q h]; rfl
theorem linesI_none (w : Str) (h : (10 : UInt8) ∉ w) (hn : w ≠ []) : linesI w = [w] := by
  unfold linesI; rw [splitL_none w h]; simp [hn]
end Go.AM.PL
namespace Go.AM.Lf
open PL
def numO (u : Str) : Option Rat := if 400 < u.length then none else (decP u).map fun p => ratN (List.isPrefixOf [45] u) p.1 p.2
theorem dec_numO (u : Str) (hu : u.length ≤ 1000000000) : ∃ r e, (dec_Parse u).run = some (r, e) ∧ ((e = 0 ∧ numO u = some r) ∨ (e ≠ 0 ∧ numO u = none)) := by
  have h := dec_Parse_run u hu
  unfold numO
  by_cases c : 400 < u.length
  · rw [if_pos c] at h ⊢
    exact ⟨_, _, h, .inr ⟨by decide, rfl⟩⟩
  · rw [if_neg c] at h ⊢
    cases hd : decP u with
    | none => rw [hd] at h; exact ⟨_, _, h, .inr ⟨by decide, rfl⟩⟩
    | some p => rw [hd] at h; exact ⟨_, _, h, .inl ⟨rfl, rfl⟩⟩
theorem numO_ok {u : Str} {r : Rat} (h : numO u = some r) : ratOk 50 r := by
  unfold numO at h
  split at h
  · cases h
  · rename_i c
    obtain ⟨p, hp, rfl⟩ := Option.map_eq_some_iff.1 h
    exact parse_small _ (by omega) hp
def itemO (t : Str) : Option ItT := match numO (cutSt t [32]).2.1 with
  | some r => if nameOk (cutSt t [32]).1 = true then some ((cutSt t [32]).1, r, ()) else none
  | none => none
def itemsO : List Str → Option (List ItT)
  | [] => some []
  | t :: r => match itemO t with
    | some x => (itemsO r).map (x :: ·)
    | none => none
def smallIt (x : ItT) : Prop := x.1.length ≤ 24 ∧ ratOk 50 x.2.1
theorem nameOk_len {s : Str} (h : nameOk s = true) : s.length ≤ 24 ∧ s.all isIn = true := by
  cases s with
  | nil => cases h
  | cons b r =>
    unfold nameOk at h
    simp only [Bool.and_eq_true, decide_eq_true_eq] at h
    exact ⟨h.1, h.2.2⟩
theorem itemO_ok {t : Str} {x : ItT} (h : itemO t = some x) : smallIt x := by
  unfold itemO at h
  split at h
  · rename_i r hr
    split at h
    · rename_i hn
      cases h
      exact ⟨(nameOk_len hn).1, numO_ok hr⟩
    · cases h
  · cases h
theorem ref5_Name_run (s : Str) : (ref5_Name s).run = some (nameOk s) := by
  have hL : ∀ b : UInt8, (ref5_letter (b.toNat : Int)).run = some (isL b) := fun _ => rfl
  have hD : ∀ b : UInt8, (ref5_digit (b.toNat : Int)).run = some (decide (48 ≤ (b.toNat : Int)) && decide ((b.toNat : Int) ≤ 57)) := fun _ => rfl
  unfold ref5_Name
  cases s with
  | nil => rfl
  | cons b r =>
    by_cases c : 24 < (b :: r).length
    · have : (T.ite (decide (((b :: r).length : Int) < (1 : Int))) (.ret true) (.ite (decide ((24 : Int) < ((b :: r).length : Int))) (.ret true) (.obl (idxOk (0 : Int) (List.length (b :: r))) <| T.bind (ref5_letter (byteAt (b :: r) (0 : Int))) fun r => .ret (!r))) : T Bool).run = some true := by
        rw [T.run_ite_f (decide_eq_false (by omega)), T.run_ite_t (decide_eq_true (by omega)), T.run_ret]
      rw [T.run_bind_of this, T.run_ite_true, T.run_ret]
      unfold nameOk
      rw [decide_eq_false (by omega)]; rfl
    · have hb : byteAt (b :: r) (0 : Int) = (b.toNat : Int) := byteAt_get (s := b :: r) (k := 0) (by simp)
      have : (T.ite (decide (((b :: r).length : Int) < (1 : Int))) (.ret true) (.ite (decide ((24 : Int) < ((b :: r).length : Int))) (.ret true) (.obl (idxOk (0 : Int) (List.length (b :: r))) <| T.bind (ref5_letter (byteAt (b :: r) (0 : Int))) fun r => .ret (!r))) : T Bool).run = some (!isL b) := by
        rw [T.run_ite_f (decide_eq_false (by simp only [List.length_cons]; omega)), T.run_ite_f (decide_eq_false (by omega)), T.run_obl (by refine ⟨by omega, ?_⟩; simp only [List.length_cons]; omega), hb, T.run_bind_of (hL b), T.run_ret]
      rw [T.run_bind_of this]
      unfold nameOk
      dsimp only
      rw [decide_eq_true (by omega), Bool.true_and]
      cases hbl : isL b with
      | false => rw [T.run_ite_t (by rfl), T.run_ret]; rfl
      | true =>
        rw [T.run_ite_f (by rfl), Bool.true_and]
        have hbi : isIn b = true := by unfold isIn; rw [hbl]; rfl
        have key : (ref5_Name_L0 (b :: r) 1).run = some (if r.all isIn = true then .inl () else .inr false) := by
          have hloop := T.loop_run (r := ref5_Name_R0 (b :: r)) (fun i => ∃ k : Nat, i = ((k + 1 : Nat) : Int) ∧ k ≤ r.length) (fun i => ((b :: r).length : Int).toNat - i.toNat) (fun i => if (r.drop (i.toNat - 1)).all isIn = true then .inl () else .inr false) (fun i hi => ?_) (s := 1) ⟨0, rfl, by omega⟩
          · exact hloop
          · obtain ⟨k, rfl, hk⟩ := hi
            have ek : ((k + 1 : Nat) : Int).toNat - 1 = k := by omega
            by_cases q : k < r.length
            · have hq : k + 1 < (b :: r).length := by simp only [List.length_cons]; omega
              have hbk : byteAt (b :: r) ((k + 1 : Nat) : Int) = (r[k].toNat : Int) := by rw [byteAt_get hq]; rfl
              have hdrop : r.drop k = r[k] :: r.drop (k + 1) := List.drop_eq_getElem_cons q
              have hin : ((.obl (idxOk ((k + 1 : Nat) : Int) (List.length (b :: r))) <| T.bind (ref5_letter (byteAt (b :: r) ((k + 1 : Nat) : Int))) fun r1 =>
                  .ite (!r1) (.obl (idxOk ((k + 1 : Nat) : Int) (List.length (b :: r))) <| T.bind (ref5_digit (byteAt (b :: r) ((k + 1 : Nat) : Int))) fun r2 =>
                      .ite (!r2) (.obl (idxOk ((k + 1 : Nat) : Int) (List.length (b :: r))) <| .ret ((byteAt (b :: r) ((k + 1 : Nat) : Int)) != (95 : Int))) (.ret false)) (.ret false)) : T Bool).run = some (!isIn r[k]) := by
                rw [T.run_obl (idx_ok hq), hbk, T.run_bind_of (hL _)]
                unfold isIn
                cases isL r[k] with
                | true => rfl
                | false =>
                  rw [T.run_ite_t (by rfl), T.run_obl (idx_ok hq), T.run_bind_of (hD _)]
                  cases (decide (48 ≤ (r[k].toNat : Int)) && decide ((r[k].toNat : Int) ≤ 57)) with
                  | true => rfl
                  | false => rw [T.run_ite_t (by rfl), T.run_obl (idx_ok hq), T.run_ret]; rfl
              cases hik : isIn r[k] with
              | true =>
                left
                refine ⟨((k + 1 + 1 : Nat) : Int), ?_, ⟨k + 1, rfl, q⟩, by simp only [List.length_cons]; omega, ?_⟩
                · unfold ref5_Name_R0
                  rw [T.run_ite_t (lt_t hq), T.run_bind_of hin, hik, T.run_ite_f (by rfl), T.run_ret, ix1 (k + 1) _ hq (by omega)]
                · rw [ek, hdrop, List.all_cons, hik, Bool.true_and, show ((k + 1 + 1 : Nat) : Int).toNat - 1 = k + 1 by omega]
              | false =>
                right
                unfold ref5_Name_R0
                rw [T.run_ite_t (lt_t hq), T.run_bind_of hin, hik, T.run_ite_t (by rfl), T.run_ret, ek, hdrop, List.all_cons, hik]
                rfl
            · right
              have hk2 : k = r.length := by omega
              unfold ref5_Name_R0
              rw [T.run_ite_f (decide_eq_false (by simp only [List.length_cons]; omega)), T.run_ret, ek, hk2, List.drop_length]; rfl
        rw [T.run_bind_of key, List.all_cons, hbi, Bool.true_and]
        cases h : r.all isIn with
        | true => rfl
        | false => rfl
theorem cut_run (s : Str) (c : UInt8) (h : s.length ≤ 1000000000) : (strings_Cut s [c]).run = some (cutSt s [c]) := by
  unfold strings_Cut
  rw [T.run_obl (by omega), T.run_ret]
theorem cutSt_len (s : Str) (c : UInt8) : (cutSt s [c]).1.length ≤ s.length ∧ (cutSt s [c]).2.1.length ≤ s.length := by
  by_cases h : c ∈ s
  · obtain ⟨w, q, rfl, hw⟩ := split_at h
    rw [cutSt_at c w q hw]
    simp only [List.length_append, List.length_cons]
    exact ⟨by omega, by omega⟩
  · rw [cutSt_none c s h]; simp
theorem decode_loop (s : Str) (hs : s.length ≤ 100000) : ∃ z, (record_Decode_L0 s (s, [])).run = some z ∧
    ((∃ ys, itemsO (linesI s) = some ys ∧ z = .inl ys ∧ ys.length ≤ s.length ∧ ∀ x ∈ ys, smallIt x) ∨ (itemsO (linesI s) = none ∧ ∃ t, z = .inr (2, t))) := by
  refine T.loop_post (r := record_Decode_R0 s) (fun st : Str × List ItT => itemsO (linesI s) = (itemsO (linesI st.1)).map (st.2 ++ ·) ∧ st.2.length + st.1.length ≤ s.length ∧ ∀ x ∈ st.2, smallIt x) (fun st => st.1.length) _ (fun st hst => ?_) ⟨by simp, by simp, by simp⟩
  obtain ⟨rest, xs⟩ := st
  obtain ⟨h1, h2, h3⟩ := hst
  dsimp only at h1 h2 h3
  by_cases hr : rest = []
  · right
    subst hr
    have e : itemsO (linesI []) = some [] := rfl
    rw [e] at h1
    refine ⟨.inl xs, ?_, .inl ⟨xs, by simpa using h1, rfl, by omega, h3⟩⟩
    unfold record_Decode_R0
    dsimp only
    rw [strEq_refl, T.run_ite_f (by rfl), T.run_cur _ rfl rfl rfl, T.run_same, T.run_ret]
  · have e0 : strEq rest [] = false := by rw [strEq_iff]; simpa using hr
    obtain ⟨line, more, fl, hcut, hlines, hmore⟩ : ∃ line more fl, cutSt rest [10] = (line, more, fl) ∧ linesI rest = line :: linesI more ∧ more.length + 1 ≤ rest.length ∧ line.length ≤ rest.length := by
      by_cases hm : (10 : UInt8) ∈ rest
      · obtain ⟨w, q, rfl, hw⟩ := split_at hm
        exact ⟨w, q, true, cutSt_at 10 w q hw, linesI_at w q hw, by simp, by simp⟩
      · have : 0 < rest.length := List.length_pos_iff.2 hr
        exact ⟨rest, [], false, cutSt_none 10 rest hm, linesI_none rest hm hr, by simp only [List.length_nil]; omega, by omega⟩
    obtain ⟨hmore, hline⟩ := hmore
    have c1 := cut_run rest 10 (by omega)
    have c2 := cut_run line 32 (by omega)
    rw [hcut] at c1
    have lc := cutSt_len line 32
    obtain ⟨nm, num, fl2, hc2⟩ : ∃ nm num fl2, cutSt line [32] = (nm, num, fl2) := ⟨_, _, _, rfl⟩
    have hitem : itemO line = match numO num with | some r => if nameOk nm = true then some (nm, r, ()) else none | none => none := by unfold itemO; rw [hc2]
    rw [hc2] at c2 lc
    dsimp only at lc
    obtain ⟨r2, e, hp, hcase⟩ := dec_numO num (by omega)
    rw [hlines] at h1
    have hn := Name_run nm
    have head : ∀ {α : Type} (k : Bool × List ItT × Rat → T α), ((record_Decode_R0 s (rest, xs)).run = (T.bind (.ite (e != (0 : Int)) (.obl (curOk (List.length xs) (0 : Nat) (List.length xs) (List.length xs)) <| .obl ((List.length xs) = (List.length xs)) <| .ret (true, (xs, r2)))
              (T.bind (expr_Name nm) fun r3 => .obl (curOk (List.length xs) (0 : Nat) (List.length xs) (List.length xs)) <| .obl ((List.length xs) = (List.length xs)) <| .ret ((!r3), (xs, r2))) : T (Bool × List ItT × Rat)) fun (x, xs1, v) =>
        .ite x (.obl ((List.length xs1) = (List.length xs1)) <| .ret (.inr (.inr ((2 : Int), xs1))))
          (.obl (appOk (List.length xs1) (List.length xs1) (0 : Nat) (List.length xs1) (List.length xs1) (1 : Nat) (72 : Nat)) <|
            .obl (curOk ((List.length xs1) + (1 : Nat)) (0 : Nat) ((List.length xs1) + (1 : Nat)) (List.length (xs1 ++ ([(nm, ((v.1, (v.2.1, (v.2.2.1, ()))), ()))] : List ItT)))) <|
            .obl (((List.length xs1) + (1 : Nat)) = (List.length (xs1 ++ ([(nm, ((v.1, (v.2.1, (v.2.2.1, ()))), ()))] : List ItT)))) <|
            .ret (.inl (more, (xs1 ++ ([(nm, ((v.1, (v.2.1, (v.2.2.1, ()))), ()))] : List ItT)))))).run) := by
      intro α k
      unfold record_Decode_R0
      dsimp only
      rw [e0, T.run_ite_t (by rfl), T.run_bind_of c1]
      dsimp only
      rw [T.run_bind_of c2]
      dsimp only
      rw [T.run_bind_of hp]
    rw [head (α := Unit) (fun _ => .ret ())]
    have inner : ((.ite (e != (0 : Int)) (.obl (curOk (List.length xs) (0 : Nat) (List.length xs) (List.length xs)) <| .obl ((List.length xs) = (List.length xs)) <| .ret (true, (xs, r2)))
              (T.bind (expr_Name nm) fun r3 => .obl (curOk (List.length xs) (0 : Nat) (List.length xs) (List.length xs)) <| .obl ((List.length xs) = (List.length xs)) <| .ret ((!r3), (xs, r2))) : T (Bool × List ItT × Rat))).run = some (e != 0 || !nameOk nm, xs, r2) := by
      cases q : (e != (0 : Int)) with
      | true => rw [T.run_ite_true, T.run_cur _ rfl rfl rfl, T.run_same, T.run_ret]; rfl
      | false => rw [T.run_ite_false, T.run_bind_of hn, T.run_cur _ rfl rfl rfl, T.run_same, T.run_ret]; rfl
    rw [T.run_bind_of inner]
    dsimp only
    cases hi : itemO line with
    | none =>
      right
      have hbad : (e != 0 || !nameOk nm) = true := by
        rw [hitem] at hi
        rcases hcase with ⟨he, hno⟩ | ⟨he, hno⟩
        · rw [hno] at hi
          dsimp only at hi
          split at hi
          · cases hi
          · rename_i hnn
            have : nameOk nm = false := by simpa using hnn
            rw [this]; simp
        · have : (e != 0) = true := by simpa using he
          rw [this]; rfl
      have hnone : itemsO (linesI s) = none := by
        rw [h1]
        unfold itemsO
        rw [hi]; rfl
      refine ⟨.inr (2, xs), ?_, .inr ⟨hnone, xs, rfl⟩⟩
      rw [T.run_ite_t hbad, T.run_same, T.run_ret]
    | some x =>
      left
      have hx : x = (nm, r2, ()) ∧ (e != 0 || !nameOk nm) = false := by
        rw [hitem] at hi
        rcases hcase with ⟨he, hno⟩ | ⟨he, hno⟩
        · rw [hno] at hi
          dsimp only at hi
          split at hi
          · rename_i hnn
            cases hi
            subst he
            exact ⟨rfl, by rw [hnn]; rfl⟩
          · cases hi
        · rw [hno] at hi; cases hi
      obtain ⟨rfl, hgood⟩ := hx
      have hsx := itemO_ok hi
      refine ⟨(more, xs ++ [(nm, r2, ())]), ?_, ⟨?_, by simp; omega, ?_⟩, by dsimp only; omega⟩
      · rw [T.run_ite_f hgood, T.run_app _ rfl rfl rfl (by omega), T.run_cur _ (by simp) rfl (by simp), T.run_obl (by simp), T.run_ret]
      · rw [h1]
        dsimp only
        conv => lhs; rw [itemsO, hi]
        dsimp only
        cases itemsO (linesI more) with
        | none => rfl
        | some ys => simp
      · intro y hy
        rcases List.mem_append.1 hy with hy | hy
        · exact h3 y hy
        · rw [List.mem_singleton] at hy
          subst hy; exact hsx
def encE (l : List ItT) : Str := l.flatMap itemS
def decS (s : Str) : List ItT × Int := match itemsO (splitL s).1 with
  | some ys => if encE ys = s then (ys, 0) else ([], 2)
  | none => ([], 2)
theorem smallIt_ok {x : ItT} (h : smallIt x) : itemOk x := ⟨by have := h.1; omega, ok_up h.2 (by omega)⟩
theorem enc_end (ys : List ItT) : encE ys = [] ∨ ∃ t, encE ys = t ++ [10] := by
  rcases List.eq_nil_or_concat ys with rfl | ⟨l, x, rfl⟩
  · exact .inl rfl
  · right
    refine ⟨encE l ++ (x.1 ++ [32] ++ printS (norm x.2.1)), ?_⟩
    unfold encE
    rw [List.concat_eq_append, List.flatMap_append]
    simp [itemS]
theorem enc_ne (s : Str) (h : (splitL s).2 ≠ []) (ys : List ItT) : encE ys ≠ s := by
  obtain ⟨h1, h2⟩ := splitL_back s
  intro he
  obtain ⟨t, b, hb⟩ : ∃ t b, (splitL s).2 = t ++ [b] := by
    rcases List.eq_nil_or_concat (splitL s).2 with q | ⟨l, x, q⟩
    · exact absurd q h
    · exact ⟨l, x, by rw [q, List.concat_eq_append]⟩
  rw [hb] at h1 h2
  rcases enc_end ys with hn | ⟨u, hu⟩
  · rw [hn] at he
    rw [← he] at h1
    simp at h1
  · rw [hu, h1, ← List.append_assoc] at he
    have := List.append_inj_right' he rfl
    simp at this
    exact h2 (by simp [this])
theorem record_Decode_run (s : Str) (hs : s.length ≤ 100000) : (record_Decode s).run = some (decS s) ∧ ∀ x ∈ (decS s).1, smallIt x := by
  obtain ⟨z, hz, hc⟩ := decode_loop s hs
  unfold record_Decode
  rw [T.run_cur _ rfl rfl rfl, T.run_same, T.run_bind_of hz]
  unfold decS
  rcases hc with ⟨ys, h1, rfl, h2, h3⟩ | ⟨h1, t, rfl⟩
  · have he := encode_run ys (fun x hx => smallIt_ok (h3 x hx)) (by omega)
    dsimp only [Sum.elim_inl]
    rw [T.run_same]
    simp only [Nat.zero_add, List.take_length, List.drop_zero]
    rw [T.run_bind_of he]
    have hsp : itemsO (splitL s).1 = some ys ∨ encE ys ≠ s := by
      by_cases hr : (splitL s).2 = []
      · left
        unfold linesI at h1
        rwa [hr, if_pos rfl, List.append_nil] at h1
      · exact .inr (enc_ne s hr ys)
    by_cases heq : encE ys = s
    · have h1' := hsp.resolve_right fun h => h heq
      rw [h1']
      dsimp only
      have e1 : strEq (ys.flatMap itemS) s = true := by rw [strEq_iff]; exact decide_eq_true heq
      rw [e1, if_pos heq, T.run_ite_f (by rfl), T.run_true, T.run_ret]
      exact ⟨rfl, h3⟩
    · have e1 : strEq (ys.flatMap itemS) s = false := by rw [strEq_iff]; exact decide_eq_false heq
      rw [e1, T.run_ite_t (by rfl), T.run_ret]
      have : (match itemsO (splitL s).1 with | some ys => if encE ys = s then (ys, (0 : Int)) else ([], 2) | none => ([], 2)) = ([], 2) := by
        cases hq : itemsO (splitL s).1 with
        | none => rfl
        | some y2 =>
          dsimp only
          by_cases hr : (splitL s).2 = []
          · unfold linesI at h1
            rw [hr, if_pos rfl, List.append_nil, hq] at h1
            cases h1
            rw [if_neg heq]
          · rw [if_neg (enc_ne s hr y2)]
      rw [this]
      exact ⟨rfl, by simp⟩
  · dsimp only [Sum.elim_inr]
    rw [T.run_ret]
    have : (match itemsO (splitL s).1 with | some ys => if encE ys = s then (ys, (0 : Int)) else ([], 2) | none => ([], 2)) = ([], 2) := by
      cases hq : itemsO (splitL s).1 with
      | none => rfl
      | some y2 =>
        dsimp only
        by_cases hr : (splitL s).2 = []
        · unfold linesI at h1
          rw [hr, if_pos rfl, List.append_nil, hq] at h1
          cases h1
        · rw [if_neg (enc_ne s hr y2)]
    rw [this]
    exact ⟨rfl, by simp⟩
end Go.AM.Lf
namespace Go.AM.Lf
open PL
theorem sumB_len {α : Type} (f : α → Nat) (l : List α) (h : ∀ x, 1 ≤ f x) : l.length ≤ sumB f l := by
  induction l with
  | nil => simp
  | cons y l ih =>
    show _ ≤ f y + sumB f l
    have := h y
    simp; omega
end Go.AM.Lf
namespace Go.AM.Lf
open PL
theorem own_run (l : List ItT) (hl : l.length ≤ 1000000) : (law21_own l).run = some l := by
  have key := T.loop_fold (r := law21_own_R0 l) l (dflt tyIt) (fun (b : List ItT) i => (i, b)) (fun k b => b.length = k) (fun b x => b ++ [x]) id (fun k b x hk hx hm hI => ?_) (fun b hI => ?_) (b := []) rfl
  · obtain ⟨k1, k2⟩ := key
    rw [foldl_snoc (fun x => x), List.nil_append] at k1
    simp only [List.map_id'] at k1
    have k1 : (law21_own_L0 l ((0 : Int), [])).run = some l := k1
    unfold law21_own
    rw [T.run_cur _ rfl rfl rfl, T.run_same, T.run_bind_of k1, T.run_same, T.run_ret, Nat.zero_add, List.take_length, List.drop_zero]
  · refine ⟨?_, by simp; omega⟩
    unfold law21_own_R0
    dsimp only
    rw [T.run_ite_t (lt_t hk), T.run_obl (idx_ok hk), hx, T.run_app _ rfl rfl rfl (by omega), T.run_cur _ (by simp) rfl (by simp), T.run_obl (by simp), T.run_ret, ix1 k _ hk (by omega)]
  · unfold law21_own_R0
    dsimp only
    rw [T.run_ite_f (lt_f _), T.run_cur _ rfl rfl rfl, T.run_same, T.run_ret]; rfl
theorem items_run (a b : List ItT) (hl : a.length ≤ 1000000) (hab : a.length = b.length) (h : ∀ k (h1 : k < a.length) (h2 : k < b.length), a[k].1 = b[k].1 ∧ ratOk 100000 a[k].2.1 ∧ ratOk 100000 b[k].2.1 ∧ val a[k].2.1 = val b[k].2.1) : (law21_items a b).run = some true := by
  have key : (law21_items_L0 a b 0).run = some (.inl ()) := by
    refine T.loop_scan (r := law21_items_R0 a b) a (dflt tyIt) (fun (_ : Unit) i => i) (fun _ _ => True) (fun _ _ => (.inl () : Unit ⊕ Bool)) (fun k _ x xs hk hx hm hd hI => ?_) (fun _ _ => ?_) (b := ()) trivial
    · left
      have hkb : k < b.length := by omega
      obtain ⟨q1, q2, q3, q4⟩ := h k hk hkb
      refine ⟨(), ?_, trivial, rfl⟩
      have inner : ((.obl (idxOk (k : Int) (List.length a)) <| .obl (idxOk (k : Int) (List.length b)) <| .ite (!(strEq (nth a (k : Int) (dflt tyIt)).1 (nth b (k : Int) (dflt tyIt)).1)) (.ret true)
              (.obl (idxOk (k : Int) (List.length a)) <| .obl (idxOk (k : Int) (List.length b)) <| T.bind (ref2_Same (nth a (k : Int) (dflt tyIt)).2.1 (nth b (k : Int) (dflt tyIt)).2.1) fun r => .ret (!r))) : T Bool).run = some false := by
        rw [T.run_obl (idx_ok hk), T.run_obl (idx_ok hkb), nth_at hk, nth_at hkb, q1, strEq_refl, T.run_ite_f (by rfl), T.run_obl (idx_ok hk), T.run_obl (idx_ok hkb), T.run_bind_of (Same_run _ _ q2 q3 q4), T.run_ret]; rfl
      unfold law21_items_R0
      rw [T.run_ite_t (lt_t hk)]
      refine (T.run_bind_of inner _).trans ?_
      rw [T.run_ite_false, T.run_ret, ix1 k _ hk (by omega)]
    · unfold law21_items_R0
      rw [T.run_ite_f (lt_f _), T.run_ret]
  unfold law21_items
  rw [T.run_ite_f (by rw [hab]; simp), T.run_bind_of key]; rfl
theorem long21_run (l : List ItT) (hl : l.length ≤ 4000000000) : ∃ b, (law21_long l).run = some b ∧ (b = false → l.length ≤ 31 ∧ ∀ x ∈ l, x.1.length ≤ 60 ∧ x.2.1.2.1.length ≤ 3 ∧ x.2.1.2.2.1.length ≤ 3) := by
  have := T.loop_post (r := law21_long_R0 l) (fun i : Int => ∃ k : Nat, i = (k : Int) ∧ k ≤ l.length ∧ k ≤ 31 ∧ ∀ x ∈ l.take k, x.1.length ≤ 60 ∧ x.2.1.2.1.length ≤ 3 ∧ x.2.1.2.2.1.length ≤ 3) (fun i => l.length - i.toNat)
    (fun z : Unit ⊕ Bool => z = .inr true ∨ (z = .inl () ∧ l.length ≤ 31 ∧ ∀ x ∈ l, x.1.length ≤ 60 ∧ x.2.1.2.1.length ≤ 3 ∧ x.2.1.2.2.1.length ≤ 3)) (fun i hs => ?_) (s := 0) ⟨0, rfl, by omega, by omega, by simp⟩
  · obtain ⟨z, h1, h2⟩ := this
    have h1 : (law21_long_L0 l 0).run = some z := h1
    unfold law21_long
    rw [T.run_bind_of h1]
    rcases h2 with rfl | ⟨rfl, h2⟩
    · exact ⟨true, rfl, fun h => by cases h⟩
    · exact ⟨false, rfl, fun _ => h2⟩
  · obtain ⟨k, rfl, hk, hk2, hI⟩ := hs
    by_cases c : k < l.length
    · unfold law21_long_R0
      rw [T.run_ite_t (lt_t c), T.run_obl (fun _ => ⟨idx_ok c, fun _ => ⟨idx_ok c, fun _ => idx_ok c⟩⟩), nth_at c]
      cases hb : (decide ((30 : Int) < (k : Int)) || (decide ((60 : Int) < ((l[k]).1.length : Int)) || (decide ((3 : Int) < ((l[k]).2.1.2.1.length : Int)) || decide ((3 : Int) < ((l[k]).2.1.2.2.1.length : Int))))) with
      | true => right; exact ⟨_, rfl, .inl rfl⟩
      | false =>
        simp only [Bool.or_eq_false_iff, decide_eq_false_iff_not] at hb
        left
        refine ⟨_, rfl, ⟨k + 1, ix1 k _ c (by omega), c, by omega, fun x hx => ?_⟩, ?_⟩
        · rw [List.take_succ_eq_append_getElem c] at hx
          rcases List.mem_append.1 hx with hx | hx
          · exact hI x hx
          · have : x = l[k] := by simpa using hx
            subst this; exact ⟨by omega, by omega, by omega⟩
        · rw [ix1 k _ c (by omega)]; omega
    · have hkl : k = l.length := by omega
      right
      refine ⟨.inl (), ?_, .inr ⟨rfl, by omega, ?_⟩⟩
      · unfold law21_long_R0
        rw [T.run_ite_f (decide_eq_false (by omega)), T.run_ret]
      · rw [hkl, List.take_length] at hI; exact hI
end Go.AM.Lf
namespace Go.AM.Lf
open PL
theorem isIn_ne {b : UInt8} (h : isIn b = true) : b ≠ 10 ∧ b ≠ 32 := by
  constructor <;> (rintro rfl; revert h; decide)
theorem name_free {s : Str} (h : nameOk s = true) : (10 : UInt8) ∉ s ∧ (32 : UInt8) ∉ s := by
  have ha := (nameOk_len h).2
  exact ⟨fun hm => (isIn_ne (List.all_eq_true.1 ha _ hm)).1 rfl, fun hm => (isIn_ne (List.all_eq_true.1 ha _ hm)).2 rfl⟩
theorem printS_free (a : Rat) : (10 : UInt8) ∉ printS a := by
  have hp : ∀ n, (10 : UInt8) ∉ pr n := fun n => nil_of_digs (pr_digs n).1 10 (by decide)
  have hs : (10 : UInt8) ∉ sgS a.1 := by unfold sgS; split <;> decide
  unfold printS
  split
  · intro hm
    rcases List.mem_append.1 hm with hm | hm
    · exact hs hm
    · exact hp _ hm
  · intro hm
    rcases List.mem_append.1 hm with hm | hm
    · rcases List.mem_append.1 hm with hm | hm
      · exact hs hm
      · exact hp _ hm
    · rcases List.mem_append.1 hm with hm | hm
      · revert hm; decide
      · exact hp _ hm
def lineS (x : ItT) : Str := x.1 ++ 32 :: printS (norm x.2.1)
theorem itemS_line (x : ItT) : itemS x = lineS x ++ [10] := by unfold itemS lineS; simp
theorem line_free {x : ItT} (h : nameOk x.1 = true) : (10 : UInt8) ∉ lineS x := by
  unfold lineS
  intro hm
  rcases List.mem_append.1 hm with hm | hm
  · exact (name_free h).1 hm
  · rcases List.mem_cons.1 hm with hm | hm
    · revert hm; decide
    · exact printS_free _ hm
theorem item_line {x : ItT} (h : nameOk x.1 = true) (hr : ratOk 3 x.2.1) : itemO (lineS x) = some (x.1, norm x.2.1, ()) := by
  unfold itemO lineS
  rw [cutSt_at 32 x.1 _ (name_free h).2]
  dsimp only
  have hn := norm_ok (k := 3) (by omega) hr
  have l1 := pr_limb (nv (norm x.2.1).2.1) 3 (by omega) (Nat.le_trans (ofN_nv_len hn.1) hn.2.2.1)
  have l2 := pr_limb (nv (norm x.2.1).2.2.1) 3 (by omega) (Nat.le_trans (ofN_nv_len hn.2.1) hn.2.2.2)
  have hp := parse_print x.2.1 (ok_up hr (by omega)) (by omega)
  have hlen := printS_len x.2.1 (ok_up hr (by omega))
  obtain ⟨r, e, h1, h2⟩ := dec_numO (printS (norm x.2.1)) (by omega)
  rw [hp] at h1
  cases h1
  rcases h2 with ⟨_, h2⟩ | ⟨h2, _⟩
  · rw [h2]; simp [h]
  · exact absurd rfl h2
theorem splitL_enc (l : List ItT) (h : ∀ x ∈ l, nameOk x.1 = true) : splitL (encE l) = (l.map lineS, []) := by
  induction l with
  | nil => rfl
  | cons x r ih =>
    have hr := ih fun y hy => h y (List.mem_cons_of_mem _ hy)
    have e : encE (x :: r) = lineS x ++ 10 :: encE r := by
      unfold encE
      rw [List.flatMap_cons, itemS_line]; simp
    rw [e, splitL_at _ _ (line_free (h x List.mem_cons_self)), hr]; rfl
theorem itemsO_lines (l : List ItT) (h : ∀ x ∈ l, nameOk x.1 = true) (hr : ∀ x ∈ l, ratOk 3 x.2.1) : itemsO (l.map lineS) = some (l.map fun x => (x.1, norm x.2.1, ())) := by
  induction l with
  | nil => rfl
  | cons x r ih =>
    have hi := ih (fun y hy => h y (List.mem_cons_of_mem _ hy)) fun y hy => hr y (List.mem_cons_of_mem _ hy)
    rw [List.map_cons, itemsO, item_line (h x List.mem_cons_self) (hr x List.mem_cons_self)]
    dsimp only
    rw [hi]; rfl
theorem decS_enc (l : List ItT) (h : ∀ x ∈ l, nameOk x.1 = true) (hr : ∀ x ∈ l, ratOk 3 x.2.1) : decS (encE l) = (l.map (fun x => (x.1, norm x.2.1, ())), 0) := by
  unfold decS
  rw [splitL_enc l h, itemsO_lines l h hr]
  dsimp only
  have e : encE (l.map fun x => (x.1, norm x.2.1, ())) = encE l := by
    unfold encE
    rw [List.flatMap_map]
    congr 1
    funext x
    unfold itemS
    dsimp only
    rw [norm_idem]
  rw [if_pos e]
theorem back_names (l : List ItT) (hl : l.length ≤ 1000000) : ∃ z, (law21_RecordBack_L0 l 0).run = some z ∧ (z = .inr true ∨ (z = .inl () ∧ ∀ x ∈ l, nameOk x.1 = true)) := by
  refine T.loop_post (r := law21_RecordBack_R0 l) (fun i : Int => ∃ k : Nat, i = (k : Int) ∧ k ≤ l.length ∧ ∀ j (hj : j < l.length), j < k → nameOk l[j].1 = true) (fun i => l.length - i.toNat) _ (fun i hs => ?_) ⟨0, rfl, by omega, fun j _ hj => by omega⟩
  obtain ⟨k, rfl, hk, hI⟩ := hs
  by_cases c : k < l.length
  · unfold law21_RecordBack_R0
    rw [T.run_ite_t (lt_t c), T.run_obl (idx_ok c), nth_at c, T.run_bind_of (ref5_Name_run _)]
    cases hn : nameOk l[k].1 with
    | true =>
      left
      rw [T.run_ite_f (by rfl), T.run_ret]
      refine ⟨_, rfl, ⟨k + 1, ix1 k _ c (by omega), c, fun j hj hj2 => ?_⟩, by rw [ix1 k _ c (by omega)]; omega⟩
      rcases Nat.lt_succ_iff_lt_or_eq.1 hj2 with h | rfl
      · exact hI j hj h
      · exact hn
    | false =>
      right
      rw [T.run_ite_t (by rfl), T.run_bind_of known21_run, T.run_ret]
      exact ⟨_, rfl, .inl rfl⟩
  · right
    unfold law21_RecordBack_R0
    rw [T.run_ite_f (decide_eq_false (by omega)), T.run_ret]
    exact ⟨_, rfl, .inr ⟨rfl, all_at fun j hj => hI j hj (by omega)⟩⟩
theorem law21_RecordBack_all (l : List ItT) (hl : l.length ≤ 1048576) (hr : ∀ x ∈ l, limbs x.2.1.2.1 ∧ limbs x.2.1.2.2.1) : (law21_RecordBack l).run = some true := by
  obtain ⟨b, hb, hB⟩ := long21_run l (by omega)
  unfold law21_RecordBack
  rw [T.run_bind_of hb]
  cases b with
  | true => rfl
  | false =>
    obtain ⟨hn, hx⟩ := hB rfl
    have h3 : ∀ x ∈ l, ratOk 3 x.2.1 := fun x h => ⟨(hr x h).1, (hr x h).2, (hx x h).2.1, (hx x h).2.2⟩
    have hok : ∀ x ∈ l, itemOk x := fun x h => ⟨by have := (hx x h).1; omega, ok_up (h3 x h) (by omega)⟩
    obtain ⟨z, hz, hc⟩ := back_names l (by omega)
    rw [T.run_ite_false, T.run_bind_of hz]
    rcases hc with rfl | ⟨rfl, hnm⟩
    · rfl
    · dsimp only [Sum.elim_inl]
      have e1 : (record_Encode l).run = some (encE l) := encode_run l hok (by omega)
      have hlen : (encE l).length ≤ 100000 := by
        have : ∀ x ∈ l, (itemS x).length ≤ 1000 := fun x h => by
          have hn3 := norm_ok (k := 3) (by omega) (h3 x h)
          have l1 := pr_limb (nv (norm x.2.1).2.1) 3 (by omega) (Nat.le_trans (ofN_nv_len hn3.1) hn3.2.2.1)
          have l2 := pr_limb (nv (norm x.2.1).2.2.1) 3 (by omega) (Nat.le_trans (ofN_nv_len hn3.2.1) hn3.2.2.2)
          have hs : (sgS (norm x.2.1).1).length ≤ 1 := by unfold sgS; split <;> simp
          have hpl : (printS (norm x.2.1)).length ≤ 100 := by
            unfold printS
            split
            · rw [List.length_append]; omega
            · simp only [List.length_append, List.length_cons, List.length_nil]; omega
          have := (hx x h).1
          unfold itemS
          simp only [List.length_append, List.length_cons, List.length_nil]; omega
        have := flatMap_len itemS l 1000 this
        have h2 : l.length * 1000 ≤ 31 * 1000 := Nat.mul_le_mul_right _ hn
        unfold encE
        omega
      obtain ⟨d1, d2⟩ := record_Decode_run (encE l) hlen
      rw [decS_enc l hnm h3] at d1 d2
      rw [T.run_bind_of e1, T.run_bind_of d1]
      dsimp only
      have hit := items_run (l.map fun x => (x.1, norm x.2.1, ())) l (by rw [List.length_map]; omega) (by rw [List.length_map]) (fun k h1 h2 => by
        rw [List.getElem_map]
        refine ⟨rfl, ok_up (norm_ok (k := 3) (by omega) (h3 _ (List.getElem_mem h2))) (by omega), ok_up (h3 _ (List.getElem_mem h2)) (by omega), norm_val _⟩)
      rw [T.run_ite_t (by rfl), T.run_bind_of (own_run l (by omega)), T.run_bind_of hit, T.run_ite_true, T.run_bind_of known21_run, T.run_ret]
theorem law21_RecordBack_law (x : denL [.sl tyIt]) (hw : wfL [.sl tyIt] x) (hb : bkL [.sl tyIt] x ≤ 1048576) : (law21_RecordBack (toPs [.sl tyIt] x)).run = some true := by
  obtain ⟨l, u⟩ := x
  have e : bkL [.sl tyIt] (l, u) = (sumB (bk tyIt) l + 1) + 0 := rfl
  have e2 : ∀ x, bk tyIt x = (x.1.length + 1) + (bk tyRat x.2.1 + 1) := fun _ => rfl
  have k := sumB_len (bk tyIt) l (fun x => by rw [e2]; omega)
  exact law21_RecordBack_all l (by omega) (fun x hx => by
    have hwx : wf tyIt x := hw.1 x hx
    exact rat_wf hwx.2.1)
end Go.AM.Lf
