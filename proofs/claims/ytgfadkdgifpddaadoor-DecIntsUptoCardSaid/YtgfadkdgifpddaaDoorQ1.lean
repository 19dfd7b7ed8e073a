/-
  Plain laws of the lifted program, part 1.
-/
import Derived.Test.YtgfadkdgifpddaaDoorLf0
import Derived.Test.YtgfadkdgifpddaaDoorAmA
import Derived.Test.YtgfadkdgifpddaaDoorAmD
import Derived.Test.YtgfadkdgifpddaaDoorQ0
set_option linter.unusedVariables false
namespace Go.AM.PL
def decT (t : Str) : Option (Nat × Nat) :=
  if t.takeWhile isD = [] then none else match t.dropWhile isD with
  | [] => some (dval (t.takeWhile isD), 1)
  | c :: q => if q = [] ∨ digs q = false then none else if c = 46 then some (dval (t.takeWhile isD) * 10 ^ q.length + dval q, 10 ^ q.length)
    else if c = 47 then (if dval q = 0 then none else some (dval (t.takeWhile isD), dval q)) else none
theorem takeWhile_digs {u : Str} (h : digs u = true) (r : Str) (hr : ∀ c q, r = c :: q → isD c = false) : (u ++ r).takeWhile isD = u ∧ (u ++ r).dropWhile isD = r := by
  induction u with
  | nil =>
    cases r with
    | nil => exact ⟨rfl, rfl⟩
    | cons c q => have := hr c q rfl; simp [this]
  | cons b u ih =>
    rw [digs_cons, Bool.and_eq_true] at h
    obtain ⟨i1, i2⟩ := ih h.2
    simp [h.1, i1, i2]
theorem decT_all {u : Str} (h : digs u = true) : decT u = if u = [] then none else some (dval u, 1) := by
  have := takeWhile_digs h [] (fun c q z => by cases z)
  rw [List.append_nil] at this
  unfold decT
  rw [this.1, this.2]
theorem decT_cut {u : Str} (h : digs u = true) (c : UInt8) (q : Str) (hc : isD c = false) : decT (u ++ c :: q) = if u = [] then none else if q = [] ∨ digs q = false then none else if c = 46 then some (dval u * 10 ^ q.length + dval q, 10 ^ q.length)
    else if c = 47 then (if dval q = 0 then none else some (dval u, dval q)) else none := by
  have := takeWhile_digs h (c :: q) (fun c' q' z => by cases z; exact hc)
  unfold decT
  rw [this.1, this.2]
theorem decT_bad {u : Str} (h : digs u = true) (c : UInt8) (q : Str) (hc : isD c = false) (h1 : c ≠ 46) (h2 : c ≠ 47) : decT (u ++ c :: q) = none := by
  rw [decT_cut h c q hc, if_neg h1, if_neg h2]
  split
  · rfl
  · split <;> rfl
theorem split_nondig {w : Str} (h : digs w = false) : ∃ u c v, w = u ++ c :: v ∧ digs u = true ∧ isD c = false := by
  induction w with
  | nil => cases h
  | cons b w ih =>
    cases hb : isD b with
    | false => exact ⟨[], b, w, rfl, rfl, hb⟩
    | true =>
      rw [digs_cons, hb, Bool.true_and] at h
      obtain ⟨u, c, v, rfl, h1, h2⟩ := ih h
      exact ⟨b :: u, c, v, rfl, by rw [digs_cons, hb, h1]; rfl, h2⟩
theorem split_at {c : UInt8} {s : Str} (h : c ∈ s) : ∃ w q, s = w ++ c :: q ∧ c ∉ w := by
  induction s with
  | nil => cases h
  | cons b s ih =>
    by_cases hb : b = c
    · subst hb; exact ⟨[], s, rfl, by simp⟩
    · obtain ⟨w, q, rfl, h2⟩ := ih (by rcases List.mem_cons.1 h with h | h; exact absurd h.symm hb; exact h)
      exact ⟨b :: w, q, rfl, by simp [h2]; exact fun z => hb z.symm⟩
theorem idxS_at (c : UInt8) (w q : Str) (h : c ∉ w) : idxS (w ++ c :: q) [c] = (w.length : Int) := by
  induction w with
  | nil => simp [idxS]
  | cons b w ih =>
    have hb : c ≠ b := fun z => h (by simp [z])
    have hw := ih (fun z => h (List.mem_cons_of_mem _ z))
    rw [List.cons_append]
    unfold idxS
    rw [hw]
    have e1 : List.isPrefixOf [c] (b :: (w ++ c :: q)) = false := by simp [List.isPrefixOf, hb]
    rw [e1]
    have e2 : ((w.length : Int) == -1) = false := by simp
    rw [e2]
    simp
theorem idxS_none (c : UInt8) (s : Str) (h : c ∉ s) : idxS s [c] = -1 := by
  induction s with
  | nil => rfl
  | cons b w ih =>
    have hb : c ≠ b := fun z => h (by simp [z])
    unfold idxS
    rw [ih (fun z => h (List.mem_cons_of_mem _ z))]
    have e1 : List.isPrefixOf [c] (b :: w) = false := by simp [List.isPrefixOf, hb]
    rw [e1]; rfl
theorem cutSt_at (c : UInt8) (w q : Str) (h : c ∉ w) : cutSt (w ++ c :: q) [c] = (w, q, true) := by
  unfold cutSt
  rw [idxS_at c w q h, if_pos (by omega)]
  simp
theorem cutSt_none (c : UInt8) (s : Str) (h : c ∉ s) : cutSt s [c] = (s, [], false) := by
  unfold cutSt
  rw [idxS_none c s h, if_neg (by omega)]
theorem natO_some {s : Str} {n : Nat} (h : natO s = some n) : s ≠ [] ∧ s.length ≤ 400 ∧ digs s = true ∧ n = dval s := by
  unfold natO at h
  split at h
  · cases h
  · rename_i hc
    cases h
    simp only [not_or] at hc
    exact ⟨hc.1, by omega, by simpa using hc.2.2, rfl⟩
theorem natO_of {s : Str} (h1 : s ≠ []) (h2 : s.length ≤ 400) (h3 : digs s = true) : natO s = some (dval s) := by
  unfold natO
  rw [if_neg (by simp [h1, h3]; omega)]
theorem natO_no {s : Str} (h : s = [] ∨ digs s = false) : natO s = none := by
  unfold natO
  rw [if_pos (by rcases h with h | h; exact .inl h; exact .inr (.inr h))]
end Go.AM.PL
namespace Go.AM.Lf
open PL
def zeroR : Rat := (false, [], [], ())
def decP (s : Str) : Option (Nat × Nat) := decT (trimPre s [45])
theorem trimPre_len (s p : Str) : (trimPre s p).length ≤ s.length := by unfold trimPre; split <;> simp
theorem parse_core (t : Str) (ht : t.length ≤ 400) (neg : Bool) :
    (T.bind (strings_Cut t ([46] : Str)) fun (whole, part, ok) =>
      .ite ok
        (T.bind (nat_Parse part) fun (r, is) =>
          .obl (((List.length whole) + (List.length part)) ≤ (4611686018427387904 : Nat)) <|
          T.bind (nat_Parse (cat whole part)) fun (n, both) =>
          .ite ((strEq whole ([] : Str)) || ((!is) || (!both)))
            (.ret ((false, (([] : List Int), (([] : List Int), ()))), (2 : Int)))
            (T.bind (dec_ten (Nat.cast (List.length part) : Int)) fun r1 =>
              T.bind (rat_Of neg n r1) fun r2 =>
              .ret (r2, (0 : Int))))
        (T.bind (strings_Cut t ([47] : Str)) fun (num, den, ok1) =>
          T.bind (nat_Parse num) fun (n1, is1) =>
          T.bind (nat_Parse (bif (!ok1) then ([49] : Str) else den)) fun (d, both1) =>
          .ite ((!is1) || ((!both1) || ((Nat.cast (List.length d) : Int) == (0 : Int))))
            (.ret ((false, (([] : List Int), (([] : List Int), ()))), (2 : Int)))
            (T.bind (rat_Of neg n1 d) fun r3 =>
              .ret (r3, (0 : Int)))) : T (Rat × Int)).run = some (match decT t with | some (n, d) => (ratN neg n d, (0 : Int)) | none => (zeroR, (2 : Int))) := by
  have hcut : ∀ c : UInt8, (strings_Cut t [c]).run = some (cutSt t [c]) := fun c => by
    unfold strings_Cut; rw [T.run_obl (by omega), T.run_ret]
  rw [T.run_bind_of (hcut 46)]
  have h46 : isD 46 = false := by decide
  have h47 : isD 47 = false := by decide
  by_cases c1 : (46 : UInt8) ∈ t
  · obtain ⟨w, p, rfl, hw⟩ := split_at c1
    rw [cutSt_at 46 w p hw]
    have hl : w.length + p.length + 1 ≤ 400 := by simp at ht; omega
    dsimp only
    rw [T.run_ite_true, T.run_bind_of (nat_Parse_run p (by omega))]
    have hwp := nat_Parse_run (cat w p) (by rw [len_cat]; omega)
    by_cases d1 : digs w = true
    · rw [decT_cut d1 46 p h46]
      by_cases d2 : w = []
      · subst d2
        rw [if_pos rfl]
        generalize natO p = o at *
        cases o <;> (dsimp only; rw [T.run_leN _ (by simp; omega), T.run_bind_of hwp]; generalize natO (cat [] p) = o2; cases o2 <;> rfl)
      · rw [if_neg d2]
        by_cases d3 : p = [] ∨ digs p = false
        · rw [if_pos d3, natO_no d3]
          dsimp only
          rw [T.run_leN _ (by omega), T.run_bind_of hwp]
          generalize natO (cat w p) = o2
          cases o2 <;> (dsimp only; rw [T.run_ite_t (by simp), T.run_ret]; rfl)
        · rw [if_neg d3, if_pos rfl]
          have d4 : p ≠ [] := fun z => d3 (.inl z)
          have d5 : digs p = true := by cases h : digs p with | true => rfl | false => exact absurd (.inr h) d3
          have d6 : digs (cat w p) = true := by rw [cat_eq, digs_app, d1, d5]; rfl
          have d7 : cat w p ≠ [] := by rw [cat_eq]; simp [d2]
          rw [natO_of d4 (by omega) d5]
          rw [natO_of d7 (by rw [len_cat]; omega) d6] at hwp
          dsimp only at hwp ⊢
          have e1 : strEq w [] = false := by rw [strEq_iff]; simpa using d2
          have h10 := ten_len p.length
          have hn := dval_len d6
          have ho := rat_Of_run neg (ofN (dval (cat w p))) (ofN (10 ^ p.length)) (limbs_ofN _) (limbs_ofN _) (by rw [len_cat] at hn; omega) (by omega)
          rw [nv_ofN, nv_ofN] at ho
          rw [T.run_leN _ (by omega), T.run_bind_of hwp]
          dsimp only
          rw [T.run_ite_f (by rw [e1]; rfl), T.run_bind_of (dec_ten_run p.length (by omega)), T.run_bind_of ho, T.run_ret, cat_eq, dval_app]
    · have d1 : digs w = false := by simpa using d1
      obtain ⟨u, c, v, rfl, g1, g2⟩ := split_nondig d1
      have hc46 : c ≠ 46 := fun z => hw (by simp [z])
      have e : decT (u ++ c :: v ++ 46 :: p) = none := by
        rw [List.append_assoc, List.cons_append, decT_cut g1 c _ g2]
        have : digs (v ++ 46 :: p) = false := by rw [digs_app, digs_cons, h46]; simp
        rw [if_pos (show v ++ 46 :: p = [] ∨ digs (v ++ 46 :: p) = false from .inr this)]; split <;> rfl
      rw [e]
      have hno : natO (cat (u ++ c :: v) p) = none := natO_no (.inr (by rw [cat_eq, digs_app, d1]; rfl))
      rw [hno] at hwp
      generalize natO p = o at *
      cases o <;> (dsimp only; rw [T.run_leN _ (by omega), T.run_bind_of hwp]; dsimp only; rw [T.run_ite_t (by simp), T.run_ret]; rfl)
  · rw [cutSt_none 46 t c1]
    dsimp only
    rw [T.run_ite_false, T.run_bind_of (hcut 47)]
    have fin : ∀ (num den : Str) (x : Bool), num.length ≤ 400 → den.length ≤ 400 → (T.bind (nat_Parse num) fun (n1, is1) =>
          T.bind (nat_Parse (bif (!x) then ([49] : Str) else den)) fun (d, both1) =>
          .ite ((!is1) || ((!both1) || ((Nat.cast (List.length d) : Int) == (0 : Int))))
            (.ret ((false, (([] : List Int), (([] : List Int), ()))), (2 : Int)))
            (T.bind (rat_Of neg n1 d) fun r3 => .ret (r3, (0 : Int))) : T (Rat × Int)).run =
          some (match natO num, natO (bif (!x) then ([49] : Str) else den) with | some n, some d => if d = 0 then (zeroR, (2 : Int)) else (ratN neg n d, (0 : Int)) | _, _ => (zeroR, (2 : Int))) := by
      intro num den x hn hd
      have hd2 : (bif (!x) then ([49] : Str) else den).length ≤ 400 := by cases x <;> simp [hd]
      generalize (bif (!x) then ([49] : Str) else den) = dd at *
      rw [T.run_bind_of (nat_Parse_run num (by omega))]
      have hdd := nat_Parse_run dd (by omega)
      cases h1 : natO num with
      | none =>
        dsimp only
        rw [T.run_bind_of hdd]
        generalize natO dd = o
        cases o <;> rfl
      | some n =>
        dsimp only
        rw [T.run_bind_of hdd]
        cases h2 : natO dd with
        | none => rfl
        | some d =>
          obtain ⟨a1, a2, a3, rfl⟩ := natO_some h1
          obtain ⟨b1, b2, b3, rfl⟩ := natO_some h2
          dsimp only
          have l1 := dval_len a3
          have l2 := dval_len b3
          by_cases z : dval dd = 0
          · rw [z, ofN_zero, if_pos rfl]; rfl
          · rw [if_neg z]
            have : (ofN (dval dd)).length ≠ 0 := fun h => z (ofN_eq_nil.1 (List.eq_nil_of_length_eq_zero h))
            have ho := rat_Of_run neg (ofN (dval num)) (ofN (dval dd)) (limbs_ofN _) (limbs_ofN _) (by omega) (by omega)
            rw [nv_ofN, nv_ofN] at ho
            rw [T.run_ite_f (by simp; exact fun h => z (ofN_eq_nil.1 h)), T.run_bind_of ho, T.run_ret]
    by_cases c2 : (47 : UInt8) ∈ t
    · obtain ⟨w, q, rfl, hw⟩ := split_at c2
      rw [cutSt_at 47 w q hw]
      have hl : w.length + q.length + 1 ≤ 400 := by simp at ht; omega
      rw [fin w q true (by omega) (by omega)]
      rw [show (bif (!true) then ([49] : Str) else q) = q from rfl]
      by_cases d1 : digs w = true
      · rw [decT_cut d1 47 q h47]
        by_cases d2 : w = []
        · rw [if_pos d2, natO_no (.inl d2)]
        · rw [if_neg d2, natO_of d2 (by omega) d1]
          by_cases d3 : q = [] ∨ digs q = false
          · rw [if_pos d3, natO_no d3]
          · have d4 : q ≠ [] := fun z => d3 (.inl z)
            have d5 : digs q = true := by cases h : digs q with | true => rfl | false => exact absurd (.inr h) d3
            rw [if_neg d3, if_neg (by decide), if_pos rfl, natO_of d4 (by omega) d5]
            dsimp only
            split <;> rfl
      · have d1 : digs w = false := by simpa using d1
        obtain ⟨u, c, v, rfl, g1, g2⟩ := split_nondig d1
        rw [natO_no (.inr d1)]
        have hc47 : c ≠ 47 := fun z => hw (by simp [z])
        have hc46 : c ≠ 46 := fun z => c1 (by simp [z])
        rw [List.append_assoc, List.cons_append, decT_bad g1 c _ g2 hc46 hc47]
    · rw [cutSt_none 47 t c2]
      rw [fin t [] false ht (by simp)]
      rw [show (bif (!false) then ([49] : Str) else []) = [49] from rfl]
      have h1 : natO [49] = some 1 := by decide
      rw [h1]
      by_cases d1 : digs t = true
      · rw [decT_all d1]
        by_cases d2 : t = []
        · rw [if_pos d2, natO_no (.inl d2)]
        · rw [if_neg d2, natO_of d2 ht d1]; rfl
      · have d1 : digs t = false := by simpa using d1
        rw [natO_no (.inr d1)]
        obtain ⟨u, c, v, rfl, g1, g2⟩ := split_nondig d1
        have hc47 : c ≠ 47 := fun z => c2 (by simp [z])
        have hc46 : c ≠ 46 := fun z => c1 (by simp [z])
        rw [decT_bad g1 c _ g2 hc46 hc47]
theorem dec_Parse_run (s : Str) (hs : s.length ≤ 1000000000) : (dec_Parse s).run = some (if 400 < s.length then (zeroR, (3 : Int)) else match decP s with | some (n, d) => (ratN (List.isPrefixOf [45] s) n d, (0 : Int)) | none => (zeroR, (2 : Int))) := by
  unfold dec_Parse
  by_cases c : 400 < s.length
  · rw [T.run_ite_t (decide_eq_true (by omega)), if_pos c, T.run_ret]; rfl
  · have hp : (strings_CutPrefix s [45]).run = some (trimPre s [45], List.isPrefixOf [45] s) := rfl
    have hl := trimPre_len s [45]
    rw [T.run_ite_f (decide_eq_false (by omega)), if_neg c, T.run_bind_of hp]
    exact parse_core _ (by omega) _
end Go.AM.Lf
namespace Go.AM.PL
theorem isD_dgt (n : Nat) : isD (dgt n) = true ∧ (dgt n).toNat - 48 = n % 10 := by
  have h : (dgt n).toNat = 48 + n % 10 := by unfold dgt; rw [UInt8.toNat_ofNat']; omega
  exact ⟨isD_iff.2 (by omega), by omega⟩
theorem dgz_digs (n : Nat) : digs (dgz n) = true ∧ dval (dgz n) = n := by
  induction n using Nat.strongRecOn with
  | _ n ih =>
    by_cases h : n = 0
    · subst h; rw [dgz_zero]; exact ⟨rfl, rfl⟩
    · obtain ⟨h1, h2⟩ := ih (n / 10) (by omega)
      obtain ⟨h3, h4⟩ := isD_dgt n
      rw [dgz_pos h]
      refine ⟨by rw [digs_app, h1, digs_cons, h3]; rfl, ?_⟩
      rw [dval_snoc, h2, h4]; omega
theorem pr_digs (n : Nat) : digs (pr n) = true ∧ dval (pr n) = n := by
  unfold pr
  split
  · rename_i h; subst h; exact ⟨by decide, by decide⟩
  · exact dgz_digs n
theorem dgz_ne {n : Nat} (h : n ≠ 0) : dgz n ≠ [] := by rw [dgz_pos h]; simp
theorem pr_ne (n : Nat) : pr n ≠ [] := by
  unfold pr
  split
  · simp
  · rename_i h; exact dgz_ne h
theorem pr_lt (n k : Nat) (hk : 1 ≤ k) (h : n < 10 ^ k) : (pr n).length ≤ k := by
  unfold pr
  split
  · simpa using hk
  · exact dgz_len n k h
theorem head_dig {t : Str} (h : digs t = true) (hn : t ≠ []) (r : Str) : List.isPrefixOf [45] (t ++ r) = false := by
  cases t with
  | nil => exact absurd rfl hn
  | cons b t =>
    rw [digs_cons, Bool.and_eq_true] at h
    have hb := isD_iff.1 h.1
    have : (45 : UInt8) ≠ b := fun z => by subst z; have e : (45 : UInt8).toNat = 45 := rfl; omega
    show ((45 : UInt8) == b && true) = false
    rw [Bool.and_true]; exact beq_eq_false_iff_ne.2 this
end Go.AM.PL
namespace Go.AM.Lf
open PL
theorem sign_of (b : Bool) (t : Str) (h : List.isPrefixOf [45] t = false) : List.isPrefixOf [45] (sgS b ++ t) = b ∧ trimPre (sgS b ++ t) [45] = t := by
  unfold trimPre sgS
  cases b with
  | false => rw [if_neg (by simp), List.nil_append]; exact ⟨h, by rw [if_neg (by rw [h]; simp)]⟩
  | true =>
    have e : List.isPrefixOf [45] ([45] ++ t) = true := by simp [List.isPrefixOf]
    rw [if_pos rfl, e]
    exact ⟨rfl, by rw [if_pos rfl]; simp⟩
theorem parse_of (b : Bool) (t : Str) (n d : Nat) (h : List.isPrefixOf [45] t = false) (hl : t.length ≤ 399) (hd : decT t = some (n, d)) : (dec_Parse (sgS b ++ t)).run = some (ratN b n d, 0) := by
  obtain ⟨h1, h2⟩ := sign_of b t h
  have hs := sgS_len b
  have hlen : (sgS b ++ t).length ≤ 400 := by rw [List.length_append]; omega
  rw [dec_Parse_run _ (by omega), if_neg (by omega)]
  unfold decP
  rw [h1, h2, hd]
theorem parse_whole (b : Bool) (n : Nat) (hl : (pr n).length ≤ 399) : (dec_Parse (sgS b ++ pr n)).run = some (ratN b n 1, 0) := by
  obtain ⟨h1, h2⟩ := pr_digs n
  have h3 := pr_ne n
  have := head_dig h1 h3 []
  rw [List.append_nil] at this
  exact parse_of b (pr n) n 1 this hl (by rw [decT_all h1, if_neg h3, h2])
theorem limb_dig (n k : Nat) (h : (ofN n).length ≤ k) : n < 10 ^ (10 * k) := by
  refine Nat.lt_of_lt_of_le (ofN_len_le.1 h) ?_
  rw [Nat.pow_mul]
  exact Nat.pow_le_pow_left (by decide) k
theorem pr_limb (n k : Nat) (hk : 1 ≤ k) (h : (ofN n).length ≤ k) : (pr n).length ≤ 10 * k := pr_lt n (10 * k) (by omega) (limb_dig n k h)
theorem ratN_frac (b : Bool) (n d m e : Nat) (hd : d ≠ 0) (he : e ≠ 0) (h : n * e = m * d) : ratN b n d = ratN b m e := by
  rw [ratN_toR, ratN_toR]
  congr 1
  rw [qv_sgn, qv_sgn, Rat.mkRat_eq_iff hd he]
  unfold sgn
  cases b with
  | false => simp only [Bool.false_eq_true, if_false]; exact_mod_cast h
  | true => simp only [if_true]; rw [Int.neg_mul, Int.neg_mul]; congr 1; exact_mod_cast h
end Go.AM.Lf
namespace Go.AM.Lf
open PL
theorem rnd_mul (x d : Nat) (hd : 0 < d) : rnd (x * d) d = x := by
  unfold rnd
  rw [Nat.mul_mod_left, Nat.mul_div_cancel _ hd, if_neg (by omega)]
theorem rnd_one (x : Nat) : rnd x 1 = x := by have := rnd_mul x 1 (by omega); rwa [Nat.mul_one] at this
theorem int_rat (neg : Bool) (N : Nat) : (ratN neg N 1).1 = (neg && decide (N ≠ 0)) ∧ nv (ratN neg N 1).2.1 = N ∧ nv (ratN neg N 1).2.2.1 = 1 ∧ norm (ratN neg N 1) = ratN neg N 1 := by
  refine ⟨ratN_fst neg N 1 (by omega), ?_, ?_, ratN_idem neg N 1⟩
  · unfold ratN
    split
    · rename_i h; show nv [] = N; rw [nv_nil]; omega
    · simp
  · unfold ratN
    split
    · rfl
    · simp
theorem law3_DecInts_all (n : List Int) (neg : Bool) (hn : limbs n) (hl : n.length ≤ 1048576) : (law3_DecInts n neg).run = some true := by
  unfold law3_DecInts
  by_cases c : 6 < n.length
  · rw [T.run_ite_t (decide_eq_true (by omega)), T.run_ret]
  · have ho := ref2_Of_run neg n [1] hn one_limb (by omega) (by simp)
    rw [show nv [1] = 1 from rfl] at ho
    have hN := ofN_nv_len hn
    have hp := pr_limb (nv n) 6 (by omega) (by omega)
    obtain ⟨r1, r2, r3, r4⟩ := int_rat neg (nv n)
    have hok : ratOk 1000 (ratN neg (nv n) 1) := ratN_ok _ _ _ _ (by omega) (by omega) (by rw [ofN_one]; simp)
    have hPr := dec_Print_run _ hok
    have hEx := dec_Exact_run _ hok
    have hFx := dec_Fixed_run _ hok 0
    have hRo := dec_Round_run _ hok 3
    rw [r4] at hPr hEx hFx hRo
    have hs : (bif (ratN neg (nv n) 1).1 then (cat ([45] : Str) (pr (nv n))) else pr (nv n)) = sgS (ratN neg (nv n) 1).1 ++ pr (nv n) := by
      unfold sgS
      cases (ratN neg (nv n) 1).1 <;> rfl
    have e1 : printS (ratN neg (nv n) 1) = sgS (ratN neg (nv n) 1).1 ++ pr (nv n) := by unfold printS; rw [if_pos r3, r2]
    have e2 : exactS (ratN neg (nv n) 1).1 (nv (ratN neg (nv n) 1).2.1) (nv (ratN neg (nv n) 1).2.2.1) 0 61 = (sgS (ratN neg (nv n) 1).1 ++ pr (nv n), true) := by
      rw [r2, r3]
      unfold exactS
      rw [if_pos (Nat.mod_one _), Nat.div_one, Nat.pow_zero, Nat.mul_one]
      unfold ptd; rw [if_pos rfl]
    have e3 : fixedS (ratN neg (nv n) 1) (clampS 0) = sgS (ratN neg (nv n) 1).1 ++ pr (nv n) := by
      unfold fixedS rndR
      rw [show clampS 0 = 0 from rfl, r2, r3, Nat.pow_zero, Nat.mul_one, rnd_one, r1]
      unfold ptd; rw [if_pos rfl]
      congr 2
      cases neg <;> simp
    have e4 : ratN (ratN neg (nv n) 1).1 (nv n) 1 = ratN neg (nv n) 1 := by
      rw [r1]
      by_cases z : nv n = 0
      · rw [z]; unfold ratN; rw [if_pos (.inl rfl), if_pos (.inl rfl)]
      · rw [show (neg && decide (nv n ≠ 0)) = neg by simp [z]]
    have e5 : ratN (ratN neg (nv n) 1).1 (rndR (ratN neg (nv n) 1) (clampS 3)) (10 ^ clampS 3) = ratN neg (nv n) 1 := by
      unfold rndR
      rw [show clampS 3 = 3 from rfl, r2, r3, rnd_one, ← e4]
      rw [e4]
      rw [ratN_frac _ _ _ (nv n) 1 (by omega) (by omega) (by omega), e4]
    have hpar := parse_whole (ratN neg (nv n) 1).1 (nv n) (by omega)
    rw [e4] at hpar
    rw [e1] at hPr
    rw [e2] at hEx
    rw [e3] at hFx
    rw [e5] at hRo
    generalize ratN neg (nv n) 1 = v at *
    have hone := law3_one_refl v (ok_up hok (by omega))
    rw [T.run_ite_f (decide_eq_false (by omega)), T.run_bind_of ho, T.run_bind_of (ref1_Print_run n hn (by omega)), T.run_obl (fun _ => by simp; omega), hs, T.run_bind_of hEx]
    dsimp only
    rw [T.run_bind_of hpar]
    dsimp only
    rw [T.run_bind_of hPr, T.run_ite_t (strEq_refl _), T.run_ite_true, T.run_ite_t (strEq_refl _), T.run_bind_of hFx, T.run_ite_t (strEq_refl _), T.run_ite_t (by rfl), T.run_bind_of hone, T.run_ite_true, T.run_bind_of hRo, T.run_bind_of hone, T.run_ite_true,
      T.run_bind_of known_run, T.run_ret]
theorem law3_DecInts_law (x : denL [.sl u32, .bool]) (hw : wfL [.sl u32, .bool] x) (hb : bkL [.sl u32, .bool] x ≤ 1048576) : (law3_DecInts (toPs [.sl u32, .bool] x).1 (toPs [.sl u32, .bool] x).2).run = some true := by
  obtain ⟨n, b, u⟩ := x
  have h : bkL [.sl u32, .bool] (n, b, u) = bk (.sl u32) n + (bk .bool b + 0) := rfl
  have h2 : bk (.sl u32) n = List.length n + 1 := bk_sl
  exact law3_DecInts_all n b (limbs_wf hw.1) (by omega)
end Go.AM.Lf
