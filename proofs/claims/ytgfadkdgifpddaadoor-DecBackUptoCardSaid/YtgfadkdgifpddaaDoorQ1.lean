/-
  Plain laws of the lifted program, part 1.
-/
import Derived.Test.YtgfadkdgifpddaaDoorLf0
import Derived.Test.YtgfadkdgifpddaaDoorAmA
import Derived.Test.YtgfadkdgifpddaaDoorAmD
import Derived.Test.YtgfadkdgifpddaaDoorQ0
set_option linter.unusedVariables false
namespace Go.AM.PL
def decT (t : Str) : Option (Nat × Nat) :=
  if t.takeWhile isD = [] then none else match t.dropWhile isD with
  | [] => some (dval (t.takeWhile isD), 1)
  | c :: q => if q = [] ∨ digs q = false then none else if c = 46 then some (dval (t.takeWhile isD) * 10 ^ q.length + dval q, 10 ^ q.length)
    else if c = 47 then (if dval q = 0 then none else some (dval (t.takeWhile isD), dval q)) else none
theorem takeWhile_digs {u : Str} (h : digs u = true) (r : Str) (hr : ∀ c q, r = c :: q → isD c = false) : (u ++ r).takeWhile isD = u ∧ (u ++ r).dropWhile isD = r := by
  induction u with
  | nil =>
    cases r with
    | nil => exact ⟨rfl, rfl⟩
    | cons c q => have := hr c q rfl; simp [this]
  | cons b u ih =>
    rw [digs_cons, Bool.and_eq_true] at h
    obtain ⟨i1, i2⟩ := ih h.2
    simp [h.1, i1, i2]
theorem decT_all {u : Str} (h : digs u = true) : decT u = if u = [] then none else some (dval u, 1) := by
  have := takeWhile_digs h [] (fun c q z => by cases z)
  rw [List.append_nil] at this
  unfold decT
  rw [this.1, this.2]
theorem decT_cut {u : Str} (h : digs u = true) (c : UInt8) (q : Str) (hc : isD c = false) : decT (u ++ c :: q) = if u = [] then none else if q = [] ∨ digs q = false then none else if c = 46 then some (dval u * 10 ^ q.length + dval q, 10 ^ q.length)
    else if c = 47 then (if dval q = 0 then none else some (dval u, dval q)) else none := by
  have := takeWhile_digs h (c :: q) (fun c' q' z => by cases z; exact hc)
  unfold decT
  rw [this.1, this.2]
theorem decT_bad {u : Str} (h : digs u = true) (c : UInt8) (q : Str) (hc : isD c = false) (h1 : c ≠ 46) (h2 : c ≠ 47) : decT (u ++ c :: q) = none := by
  rw [decT_cut h c q hc, if_neg h1, if_neg h2]
  split
  · rfl
  · split <;> rfl
theorem split_nondig {w : Str} (h : digs w = false) : ∃ u c v, w = u ++ c :: v ∧ digs u = true ∧ isD c = false := by
  induction w with
  | nil => cases h
  | cons b w ih =>
    cases hb : isD b with
    | false => exact ⟨[], b, w, rfl, rfl, hb⟩
    | true =>
      rw [digs_cons, hb, Bool.true_and] at h
      obtain ⟨u, c, v, rfl, h1, h2⟩ := ih h
      exact ⟨b :: u, c, v, rfl, by rw [digs_cons, hb, h1]; rfl, h2⟩
theorem split_at {c : UInt8} {s : Str} (h : c ∈ s) : ∃ w q, s = w ++ c :: q ∧ c ∉ w := by
  induction s with
  | nil => cases h
  | cons b s ih =>
    by_cases hb : b = c
    · subst hb; exact ⟨[], s, rfl, by simp⟩
    · obtain ⟨w, q, rfl, h2⟩ := ih (by rcases List.mem_cons.1 h with h | h; exact absurd h.symm hb; exact h)
      exact ⟨b :: w, q, rfl, by simp [h2]; exact fun z => hb z.symm⟩
theorem idxS_at (c : UInt8) (w q : Str) (h : c ∉ w) : idxS (w ++ c :: q) [c] = (w.length : Int) := by
  induction w with
  | nil => simp [idxS]
  | cons b w ih =>
    have hb : c ≠ b := fun z => h (by simp [z])
    have hw := ih (fun z => h (List.mem_cons_of_mem _ z))
    rw [List.cons_append]
    unfold idxS
    rw [hw]
    have e1 : List.isPrefixOf [c] (b :: (w ++ c :: q)) = false := by simp [List.isPrefixOf, hb]
    rw [e1]
    have e2 : ((w.length : Int) == -1) = false := by simp
    rw [e2]
    simp
theorem idxS_none (c : UInt8) (s : Str) (h : c ∉ s) : idxS s [c] = -1 := by
  induction s with
  | nil => rfl
  | cons b w ih =>
    have hb : c ≠ b := fun z => h (by simp [z])
    unfold idxS
    rw [ih (fun z => h (List.mem_cons_of_mem _ z))]
    have e1 : List.isPrefixOf [c] (b :: w) = false := by simp [List.isPrefixOf, hb]
    rw [e1]; rfl
theorem cutSt_at (c : UInt8) (w q : Str) (h : c ∉ w) : cutSt (w ++ c :: q) [c] = (w, q, true) := by
  unfold cutSt
  rw [idxS_at c w q h, if_pos (by omega)]
  simp
theorem cutSt_none (c : UInt8) (s : Str) (h : c ∉ s) : cutSt s [c] = (s, [], false) := by
  unfold cutSt
  rw [idxS_none c s h, if_neg (by omega)]
theorem natO_some {s : Str} {n : Nat} (h : natO s = some n) : s ≠ [] ∧ s.length ≤ 400 ∧ digs s = true ∧ n = dval s := by
  unfold natO at h
  split at h
  · cases h
  · rename_i hc
    cases h
    simp only [not_or] at hc
    exact ⟨hc.1, by omega, by simpa using hc.2.2, rfl⟩
theorem natO_of {s : Str} (h1 : s ≠ []) (h2 : s.length ≤ 400) (h3 : digs s = true) : natO s = some (dval s) := by
  unfold natO
  rw [if_neg (by simp [h1, h3]; omega)]
theorem natO_no {s : Str} (h : s = [] ∨ digs s = false) : natO s = none := by
  unfold natO
  rw [if_pos (by rcases h with h | h; exact .inl h; exact .inr (.inr h))]
end Go.AM.PL
namespace Go.AM.Lf
open PL
def zeroR : Rat := (false, [], [], ())
def decP (s : Str) : Option (Nat × Nat) := decT (trimPre s [45])
theorem trimPre_len (s p : Str) : (trimPre s p).length ≤ s.length := by unfold trimPre; split <;> simp
theorem parse_core (t : Str) (ht : t.length ≤ 400) (neg : Bool) :
    (T.bind (strings_Cut t ([46] : Str)) fun (whole, part, ok) =>
      .ite ok
        (T.bind (nat_Parse part) fun (r, is) =>
          .obl (((List.length whole) + (List.length part)) ≤ (4611686018427387904 : Nat)) <|
          T.bind (nat_Parse (cat whole part)) fun (n, both) =>
          .ite ((strEq whole ([] : Str)) || ((!is) || (!both)))
            (.ret ((false, (([] : List Int), (([] : List Int), ()))), (2 : Int)))
            (T.bind (dec_ten (Nat.cast (List.length part) : Int)) fun r1 =>
              T.bind (rat_Of neg n r1) fun r2 =>
              .ret (r2, (0 : Int))))
        (T.bind (strings_Cut t ([47] : Str)) fun (num, den, ok1) =>
          T.bind (nat_Parse num) fun (n1, is1) =>
          T.bind (nat_Parse (bif (!ok1) then ([49] : Str) else den)) fun (d, both1) =>
          .ite ((!is1) || ((!both1) || ((Nat.cast (List.length d) : Int) == (0 : Int))))
            (.ret ((false, (([] : List Int), (([] : List Int), ()))), (2 : Int)))
            (T.bind (rat_Of neg n1 d) fun r3 =>
              .ret (r3, (0 : Int)))) : T (Rat × Int)).run = some (match decT t with | some (n, d) => (ratN neg n d, (0 : Int)) | none => (zeroR, (2 : Int))) := by
  have hcut : ∀ c : UInt8, (strings_Cut t [c]).run = some (cutSt t [c]) := fun c => by
    unfold strings_Cut; rw [T.run_obl (by omega), T.run_ret]
  rw [T.run_bind_of (hcut 46)]
  have h46 : isD 46 = false := by decide
  have h47 : isD 47 = false := by decide
  by_cases c1 : (46 : UInt8) ∈ t
  · obtain ⟨w, p, rfl, hw⟩ := split_at c1
    rw [cutSt_at 46 w p hw]
    have hl : w.length + p.length + 1 ≤ 400 := by simp at ht; omega
    dsimp only
    rw [T.run_ite_true, T.run_bind_of (nat_Parse_run p (by omega))]
    have hwp := nat_Parse_run (cat w p) (by rw [len_cat]; omega)
    by_cases d1 : digs w = true
    · rw [decT_cut d1 46 p h46]
      by_cases d2 : w = []
      · subst d2
        rw [if_pos rfl]
        generalize natO p = o at *
        cases o <;> (dsimp only; rw [T.run_leN _ (by simp; omega), T.run_bind_of hwp]; generalize natO (cat [] p) = o2; cases o2 <;> rfl)
      · rw [if_neg d2]
        by_cases d3 : p = [] ∨ digs p = false
        · rw [if_pos d3, natO_no d3]
          dsimp only
          rw [T.run_leN _ (by omega), T.run_bind_of hwp]
          generalize natO (cat w p) = o2
          cases o2 <;> (dsimp only; rw [T.run_ite_t (by simp), T.run_ret]; rfl)
        · rw [if_neg d3, if_pos rfl]
          have d4 : p ≠ [] := fun z => d3 (.inl z)
          have d5 : digs p = true := by cases h : digs p with | true => rfl | false => exact absurd (.inr h) d3
          have d6 : digs (cat w p) = true := by rw [cat_eq, digs_app, d1, d5]; rfl
          have d7 : cat w p ≠ [] := by rw [cat_eq]; simp [d2]
          rw [natO_of d4 (by omega) d5]
          rw [natO_of d7 (by rw [len_cat]; omega) d6] at hwp
          dsimp only at hwp ⊢
          have e1 : strEq w [] = false := by rw [strEq_iff]; simpa using d2
          have h10 := ten_len p.length
          have hn := dval_len d6
          have ho := rat_Of_run neg (ofN (dval (cat w p))) (ofN (10 ^ p.length)) (limbs_ofN _) (limbs_ofN _) (by rw [len_cat] at hn; omega) (by omega)
          rw [nv_ofN, nv_ofN] at ho
          rw [T.run_leN _ (by omega), T.run_bind_of hwp]
          dsimp only
          rw [T.run_ite_f (by rw [e1]; rfl), T.run_bind_of (dec_ten_run p.length (by omega)), T.run_bind_of ho, T.run_ret, cat_eq, dval_app]
    · have d1 : digs w = false := by simpa using d1
      obtain ⟨u, c, v, rfl, g1, g2⟩ := split_nondig d1
      have hc46 : c ≠ 46 := fun z => hw (by simp [z])
      have e : decT (u ++ c :: v ++ 46 :: p) = none := by
        rw [List.append_assoc, List.cons_append, decT_cut g1 c _ g2]
        have : digs (v ++ 46 :: p) = false := by rw [digs_app, digs_cons, h46]; simp
        rw [if_pos (show v ++ 46 :: p = [] ∨ digs (v ++ 46 :: p) = false from .inr this)]; split <;> rfl
      rw [e]
      have hno : natO (cat (u ++ c :: v) p) = none := natO_no (.inr (by rw [cat_eq, digs_app, d1]; rfl))
      rw [hno] at hwp
      generalize natO p = o at *
      cases o <;> (dsimp only; rw [T.run_leN _ (by omega), T.run_bind_of hwp]; dsimp only; rw [T.run_ite_t (by simp), T.run_ret]; rfl)
  · rw [cutSt_none 46 t c1]
    dsimp only
    rw [T.run_ite_false, T.run_bind_of (hcut 47)]
    have fin : ∀ (num den : Str) (x : Bool), num.length ≤ 400 → den.length ≤ 400 → (T.bind (nat_Parse num) fun (n1, is1) =>
          T.bind (nat_Parse (bif (!x) then ([49] : Str) else den)) fun (d, both1) =>
          .ite ((!is1) || ((!both1) || ((Nat.cast (List.length d) : Int) == (0 : Int))))
            (.ret ((false, (([] : List Int), (([] : List Int), ()))), (2 : Int)))
            (T.bind (rat_Of neg n1 d) fun r3 => .ret (r3, (0 : Int))) : T (Rat × Int)).run =
          some (match natO num, natO (bif (!x) then ([49] : Str) else den) with | some n, some d => if d = 0 then (zeroR, (2 : Int)) else (ratN neg n d, (0 : Int)) | _, _ => (zeroR, (2 : Int))) := by
      intro num den x hn hd
      have hd2 : (bif (!x) then ([49] : Str) else den).length ≤ 400 := by cases x <;> simp [hd]
      generalize (bif (!x) then ([49] : Str) else den) = dd at *
      rw [T.run_bind_of (nat_Parse_run num (by omega))]
      have hdd := nat_Parse_run dd (by omega)
      cases h1 : natO num with
      | none =>
        dsimp only
        rw [T.run_bind_of hdd]
        generalize natO dd = o
        cases o <;> rfl
      | some n =>
        dsimp only
        rw [T.run_bind_of hdd]
        cases h2 : natO dd with
        | none => rfl
        | some d =>
          obtain ⟨a1, a2, a3, rfl⟩ := natO_some h1
          obtain ⟨b1, b2, b3, rfl⟩ := natO_some h2
          dsimp only
          have l1 := dval_len a3
          have l2 := dval_len b3
          by_cases z : dval dd = 0
          · rw [z, ofN_zero, if_pos rfl]; rfl
          · rw [if_neg z]
            have : (ofN (dval dd)).length ≠ 0 := fun h => z (ofN_eq_nil.1 (List.eq_nil_of_length_eq_zero h))
            have ho := rat_Of_run neg (ofN (dval num)) (ofN (dval dd)) (limbs_ofN _) (limbs_ofN _) (by omega) (by omega)
            rw [nv_ofN, nv_ofN] at ho
            rw [T.run_ite_f (by simp; exact fun h => z (ofN_eq_nil.1 h)), T.run_bind_of ho, T.run_ret]
    by_cases c2 : (47 : UInt8) ∈ t
    · obtain ⟨w, q, rfl, hw⟩ := split_at c2
      rw [cutSt_at 47 w q hw]
      have hl : w.length + q.length + 1 ≤ 400 := by simp at ht; omega
      rw [fin w q true (by omega) (by omega)]
      rw [show (bif (!true) then ([49] : Str) else q) = q from rfl]
      by_cases d1 : digs w = true
      · rw [decT_cut d1 47 q h47]
        by_cases d2 : w = []
        · rw [if_pos d2, natO_no (.inl d2)]
        · rw [if_neg d2, natO_of d2 (by omega) d1]
          by_cases d3 : q = [] ∨ digs q = false
          · rw [if_pos d3, natO_no d3]
          · have d4 : q ≠ [] := fun z => d3 (.inl z)
            have d5 : digs q = true := by cases h : digs q with | true => rfl | false => exact absurd (.inr h) d3
            rw [if_neg d3, if_neg (by decide), if_pos rfl, natO_of d4 (by omega) d5]
            dsimp only
            split <;> rfl
      · have d1 : digs w = false := by simpa using d1
        obtain ⟨u, c, v, rfl, g1, g2⟩ := split_nondig d1
        rw [natO_no (.inr d1)]
        have hc47 : c ≠ 47 := fun z => hw (by simp [z])
        have hc46 : c ≠ 46 := fun z => c1 (by simp [z])
        rw [List.append_assoc, List.cons_append, decT_bad g1 c _ g2 hc46 hc47]
    · rw [cutSt_none 47 t c2]
      rw [fin t [] false ht (by simp)]
      rw [show (bif (!false) then ([49] : Str) else []) = [49] from rfl]
      have h1 : natO [49] = some 1 := by decide
      rw [h1]
      by_cases d1 : digs t = true
      · rw [decT_all d1]
        by_cases d2 : t = []
        · rw [if_pos d2, natO_no (.inl d2)]
        · rw [if_neg d2, natO_of d2 ht d1]; rfl
      · have d1 : digs t = false := by simpa using d1
        rw [natO_no (.inr d1)]
        obtain ⟨u, c, v, rfl, g1, g2⟩ := split_nondig d1
        have hc47 : c ≠ 47 := fun z => c2 (by simp [z])
        have hc46 : c ≠ 46 := fun z => c1 (by simp [z])
        rw [decT_bad g1 c _ g2 hc46 hc47]
theorem dec_Parse_run (s : Str) (hs : s.length ≤ 1000000000) : (dec_Parse s).run = some (if 400 < s.length then (zeroR, (3 : Int)) else match decP s with | some (n, d) => (ratN (List.isPrefixOf [45] s) n d, (0 : Int)) | none => (zeroR, (2 : Int))) := by
  unfold dec_Parse
  by_cases c : 400 < s.length
  · rw [T.run_ite_t (decide_eq_true (by omega)), if_pos c, T.run_ret]; rfl
  · have hp : (strings_CutPrefix s [45]).run = some (trimPre s [45], List.isPrefixOf [45] s) := rfl
    have hl := trimPre_len s [45]
    rw [T.run_ite_f (decide_eq_false (by omega)), if_neg c, T.run_bind_of hp]
    exact parse_core _ (by omega) _
end Go.AM.Lf
namespace Go.AM.PL
theorem isD_dgt (n : Nat) : isD (dgt n) = true ∧ (dgt n).toNat - 48 = n % 10 := by
  have h : (dgt n).toNat = 48 + n % 10 := by unfold dgt; rw [UInt8.toNat_ofNat']; omega
  exact ⟨isD_iff.2 (by omega), by omega⟩
theorem dgz_digs (n : Nat) : digs (dgz n) = true ∧ dval (dgz n) = n := by
  induction n using Nat.strongRecOn with
  | _ n ih =>
    by_cases h : n = 0
    · subst h; rw [dgz_zero]; exact ⟨rfl, rfl⟩
    · obtain ⟨h1, h2⟩ := ih (n / 10) (by omega)
      obtain ⟨h3, h4⟩ := isD_dgt n
      rw [dgz_pos h]
      refine ⟨by rw [digs_app, h1, digs_cons, h3]; rfl, ?_⟩
      rw [dval_snoc, h2, h4]; omega
theorem pr_digs (n : Nat) : digs (pr n) = true ∧ dval (pr n) = n := by
  unfold pr
  split
  · rename_i h; subst h; exact ⟨by decide, by decide⟩
  · exact dgz_digs n
theorem dgz_ne {n : Nat} (h : n ≠ 0) : dgz n ≠ [] := by rw [dgz_pos h]; simp
theorem pr_ne (n : Nat) : pr n ≠ [] := by
  unfold pr
  split
  · simp
  · rename_i h; exact dgz_ne h
theorem pr_lt (n k : Nat) (hk : 1 ≤ k) (h : n < 10 ^ k) : (pr n).length ≤ k := by
  unfold pr
  split
  · simpa using hk
  · exact dgz_len n k h
theorem rep_digs (k : Nat) : digs (repS [48] k) = true ∧ dval (repS [48] k) = 0 := by
  induction k with
  | zero => exact ⟨rfl, rfl⟩
  | succ k ih =>
    show digs ([48] ++ repS [48] k) = true ∧ dval ([48] ++ repS [48] k) = 0
    rw [digs_app, dval_app, ih.1, ih.2]
    exact ⟨by decide, by show 0 * _ + 0 = 0; omega⟩
theorem head_dig {t : Str} (h : digs t = true) (hn : t ≠ []) (r : Str) : List.isPrefixOf [45] (t ++ r) = false := by
  cases t with
  | nil => exact absurd rfl hn
  | cons b t =>
    rw [digs_cons, Bool.and_eq_true] at h
    have hb := isD_iff.1 h.1
    have : (45 : UInt8) ≠ b := fun z => by subst z; have e : (45 : UInt8).toNat = 45 := rfl; omega
    show ((45 : UInt8) == b && true) = false
    rw [Bool.and_true]; exact beq_eq_false_iff_ne.2 this
end Go.AM.PL
namespace Go.AM.Lf
open PL
theorem sign_of (b : Bool) (t : Str) (h : List.isPrefixOf [45] t = false) : List.isPrefixOf [45] (sgS b ++ t) = b ∧ trimPre (sgS b ++ t) [45] = t := by
  unfold trimPre sgS
  cases b with
  | false => rw [if_neg (by simp), List.nil_append]; exact ⟨h, by rw [if_neg (by rw [h]; simp)]⟩
  | true =>
    have e : List.isPrefixOf [45] ([45] ++ t) = true := by simp [List.isPrefixOf]
    rw [if_pos rfl, e]
    exact ⟨rfl, by rw [if_pos rfl]; simp⟩
theorem parse_of (b : Bool) (t : Str) (n d : Nat) (h : List.isPrefixOf [45] t = false) (hl : t.length ≤ 399) (hd : decT t = some (n, d)) : (dec_Parse (sgS b ++ t)).run = some (ratN b n d, 0) := by
  obtain ⟨h1, h2⟩ := sign_of b t h
  have hs := sgS_len b
  have hlen : (sgS b ++ t).length ≤ 400 := by rw [List.length_append]; omega
  rw [dec_Parse_run _ (by omega), if_neg (by omega)]
  unfold decP
  rw [h1, h2, hd]
theorem parse_whole (b : Bool) (n : Nat) (hl : (pr n).length ≤ 399) : (dec_Parse (sgS b ++ pr n)).run = some (ratN b n 1, 0) := by
  obtain ⟨h1, h2⟩ := pr_digs n
  have h3 := pr_ne n
  have := head_dig h1 h3 []
  rw [List.append_nil] at this
  exact parse_of b (pr n) n 1 this hl (by rw [decT_all h1, if_neg h3, h2])
theorem parse_frac (b : Bool) (n d : Nat) (hd : d ≠ 0) (hl : (pr n).length + (pr d).length ≤ 398) : (dec_Parse (sgS b ++ (pr n ++ 47 :: pr d))).run = some (ratN b n d, 0) := by
  obtain ⟨h1, h2⟩ := pr_digs n
  obtain ⟨k1, k2⟩ := pr_digs d
  have h3 := pr_ne n
  have k3 := pr_ne d
  refine parse_of b _ n d (head_dig h1 h3 _) (by simp; omega) ?_
  rw [decT_cut h1 47 _ (by decide), if_neg h3, if_neg (by simp [k3, k1]), if_neg (by decide), if_pos rfl, k2, if_neg hd, h2]
theorem ptd_parts (s : Str) (k : Nat) (hk : k ≠ 0) (hs : digs s = true) : ∃ w p, ptd s k = w ++ 46 :: p ∧ digs w = true ∧ w ≠ [] ∧ digs p = true ∧ p.length = k ∧ dval w * 10 ^ k + dval p = dval s ∧ w.length + k = max s.length (k + 1) := by
  unfold ptd
  rw [if_neg hk]
  have hr := rep_digs (k + 1 - s.length)
  have hl := repS_len (k + 1 - s.length)
  have hd : digs (repS [48] (k + 1 - s.length) ++ s) = true := by rw [digs_app, hr.1, hs]; rfl
  have hv : dval (repS [48] (k + 1 - s.length) ++ s) = dval s := by rw [dval_app, hr.2]; omega
  have hlen : (repS [48] (k + 1 - s.length) ++ s).length = (k + 1 - s.length) + s.length := by rw [List.length_append, hl]
  generalize repS [48] (k + 1 - s.length) ++ s = t at *
  refine ⟨t.take (t.length - k), t.drop (t.length - k), by simp, ?_, ?_, ?_, by simp; omega, ?_, by simp; omega⟩
  · exact List.all_eq_true.2 fun x hx => List.all_eq_true.1 hd x (List.mem_of_mem_take hx)
  · intro z
    have := congrArg List.length z
    simp at this; omega
  · exact List.all_eq_true.2 fun x hx => List.all_eq_true.1 hd x (List.mem_of_mem_drop hx)
  · have := dval_app (t.take (t.length - k)) (t.drop (t.length - k))
    rw [List.take_append_drop, hv, List.length_drop, show t.length - (t.length - k) = k by omega] at this
    exact this.symm
theorem parse_ptd (b : Bool) (n k : Nat) (hl : (pr n).length + k ≤ 397) : (dec_Parse (sgS b ++ ptd (pr n) k)).run = some (ratN b n (10 ^ k), 0) := by
  obtain ⟨h1, h2⟩ := pr_digs n
  by_cases hk : k = 0
  · subst hk
    have : ptd (pr n) 0 = pr n := by unfold ptd; rw [if_pos rfl]
    rw [this]
    exact parse_whole b n (by omega)
  · obtain ⟨w, p, e, a1, a2, a3, a4, a5, a6⟩ := ptd_parts (pr n) k hk h1
    rw [e]
    have hp : p ≠ [] := fun z => hk (by rw [← a4, z]; rfl)
    refine parse_of b _ n (10 ^ k) (head_dig a1 a2 _) (by simp; omega) ?_
    rw [decT_cut a1 46 _ (by decide), if_neg a2, if_neg (by simp [hp, a3]), if_pos rfl, a4, a5, h2]
theorem limb_dig (n k : Nat) (h : (ofN n).length ≤ k) : n < 10 ^ (10 * k) := by
  refine Nat.lt_of_lt_of_le (ofN_len_le.1 h) ?_
  rw [Nat.pow_mul]
  exact Nat.pow_le_pow_left (by decide) k
theorem pr_limb (n k : Nat) (hk : 1 ≤ k) (h : (ofN n).length ≤ k) : (pr n).length ≤ 10 * k := pr_lt n (10 * k) (by omega) (limb_dig n k h)
theorem norm_self (a : Rat) : ratN (norm a).1 (nv (norm a).2.1) (nv (norm a).2.2.1) = norm a := norm_idem a
theorem parse_print (a : Rat) (h : ratOk 1000 a) (hl : (pr (nv (norm a).2.1)).length + (pr (nv (norm a).2.2.1)).length ≤ 398) : (dec_Parse (printS (norm a))).run = some (norm a, 0) := by
  have hd := ratN_den a.1 (nv a.2.1) (nv a.2.2.1)
  have hs := norm_self a
  change nv (norm a).2.2.1 ≠ 0 at hd
  generalize norm a = v at *
  unfold printS
  by_cases c : nv v.2.2.1 = 1
  · rw [if_pos c, parse_whole _ _ (by omega)]
    rw [c] at hs
    rw [hs]
  · rw [if_neg c, List.append_assoc]
    show (dec_Parse (sgS v.1 ++ (pr (nv v.2.1) ++ (47 :: pr (nv v.2.2.1))))).run = _
    rw [parse_frac _ _ _ hd hl, hs]
theorem ratN_frac (b : Bool) (n d m e : Nat) (hd : d ≠ 0) (he : e ≠ 0) (h : n * e = m * d) : ratN b n d = ratN b m e := by
  rw [ratN_toR, ratN_toR]
  congr 1
  rw [qv_sgn, qv_sgn, Rat.mkRat_eq_iff hd he]
  unfold sgn
  cases b with
  | false => simp only [Bool.false_eq_true, if_false]; exact_mod_cast h
  | true => simp only [if_true]; rw [Int.neg_mul, Int.neg_mul]; congr 1; exact_mod_cast h
theorem exactS_ok (b : Bool) (N D : Nat) (hD : D ≠ 0) : ∀ (f k : Nat) (s : Str), exactS b N D k f = (s, true) → ∃ j, k ≤ j ∧ j < k + f ∧ N * 10 ^ j % D = 0 ∧ s = sgS b ++ ptd (pr (N * 10 ^ j / D)) j
  | 0, k, s, h => by unfold exactS at h; cases h
  | f + 1, k, s, h => by
    unfold exactS at h
    split at h
    · rename_i c; cases h; exact ⟨k, Nat.le_refl _, by omega, c, rfl⟩
    · obtain ⟨j, h1, h2, h3, h4⟩ := exactS_ok b N D hD f (k + 1) s h
      exact ⟨j, by omega, by omega, h3, h4⟩
theorem parse_exact (v : Rat) (hv : ratN v.1 (nv v.2.1) (nv v.2.2.1) = v) (hd : nv v.2.2.1 ≠ 0) (hl : (ofN (nv v.2.1)).length ≤ 16) (s : Str) (h : exactS v.1 (nv v.2.1) (nv v.2.2.1) 0 61 = (s, true)) : (dec_Parse s).run = some (v, 0) := by
  obtain ⟨j, _, h2, h3, rfl⟩ := exactS_ok _ _ _ hd _ _ _ h
  have hN := limb_dig _ _ hl
  have hq : nv v.2.1 * 10 ^ j / nv v.2.2.1 < 10 ^ (160 + j) := by
    refine Nat.lt_of_le_of_lt (Nat.div_le_self _ _) ?_
    rw [Nat.pow_add]
    exact Nat.mul_lt_mul_of_pos_right hN (Nat.pow_pos (by omega))
  have hp := pr_lt _ (160 + j) (by omega) hq
  rw [parse_ptd _ _ j (by omega)]
  have : ratN v.1 (nv v.2.1 * 10 ^ j / nv v.2.2.1) (10 ^ j) = ratN v.1 (nv v.2.1) (nv v.2.2.1) := by
    refine ratN_frac _ _ _ _ _ (Nat.pos_iff_ne_zero.1 (Nat.pow_pos (by omega))) hd ?_
    rw [Nat.div_mul_cancel (Nat.dvd_of_mod_eq_zero h3)]
  rw [this, hv]
theorem norm_lens {a : Rat} (h1 : limbs a.2.1) (h2 : limbs a.2.2.1) (hl : a.2.1.length + a.2.2.1.length ≤ 16) : (ofN (nv (norm a).2.1)).length + (ofN (nv (norm a).2.2.1)).length ≤ 17 ∧ (ofN (nv (norm a).2.1)).length ≤ 16 := by
  unfold norm ratN
  split
  · constructor
    · show (ofN (nv [])).length + (ofN (nv [1])).length ≤ 17
      rw [show nv [] = 0 from rfl, show nv [1] = 1 from rfl, ofN_zero, ofN_one]; simp
    · show (ofN (nv [])).length ≤ 16
      rw [show nv [] = 0 from rfl, ofN_zero]; simp
  · simp only [nv_ofN]
    have a1 := ofN_mono (Nat.div_le_self (nv a.2.1) (Nat.gcd (nv a.2.1) (nv a.2.2.1)))
    have a2 := ofN_mono (Nat.div_le_self (nv a.2.2.1) (Nat.gcd (nv a.2.1) (nv a.2.2.1)))
    have a3 := ofN_nv_len h1
    have a4 := ofN_nv_len h2
    omega
theorem law3_DecBack_all (a : Rat) (hl : limbs a.2.1 ∧ limbs a.2.2.1) (hbk : a.2.1.length + a.2.2.1.length ≤ 1048576) : (law3_DecBack a).run = some true := by
  unfold law3_DecBack
  rw [T.run_bind_of (big1_run a (by omega))]
  by_cases c : 16 < a.2.1.length + a.2.2.1.length
  · rw [decide_eq_true c]; rfl
  · rw [decide_eq_false c, T.run_ite_false]
    have ha : ratOk 1000 a := ⟨hl.1, hl.2, by omega, by omega⟩
    obtain ⟨n1, n2⟩ := norm_lens hl.1 hl.2 (by omega)
    have hd := ratN_den a.1 (nv a.2.1) (nv a.2.2.1)
    change nv (norm a).2.2.1 ≠ 0 at hd
    have p1 : (pr (nv (norm a).2.1)).length ≤ 10 * max 1 (ofN (nv (norm a).2.1)).length := pr_limb _ _ (by omega) (by omega)
    have p2 : (pr (nv (norm a).2.2.1)).length ≤ 10 * max 1 (ofN (nv (norm a).2.2.1)).length := pr_limb _ _ (by omega) (by omega)
    have hpp := parse_print a ha (by omega)
    have hno : ratOk 1000000000 (norm a) := ok_up (norm_ok (by omega) ha) (by omega)
    rw [T.run_bind_of (ref2_norm a (ok_up ha (by omega))), T.run_bind_of (dec_Print_run a ha), T.run_bind_of hpp]
    dsimp only
    rw [T.run_bind_of (dec_Exact_run a ha)]
    have hex := parse_exact (norm a) (norm_self a) hd n2
    generalize exactS (norm a).1 (nv (norm a).2.1) (nv (norm a).2.2.1) 0 61 = z at *
    obtain ⟨s, ok⟩ := z
    dsimp only
    cases ok with
    | false =>
      rw [T.run_bind_of (by rw [T.run_ite_false, T.run_ret])]
      show (T.ite _ _ _).run = _
      rw [T.run_ite_t (by rfl), T.run_bind_of (law3_one_refl _ hno), T.run_ite_true, T.run_bind_of known_run, T.run_ret]
    | true =>
      have h1 := hex s rfl
      rw [T.run_bind_of (a := .inl (norm a, norm a)) (by
        rw [T.run_ite_true, T.run_bind_of h1]
        dsimp only
        rw [T.run_bind_of (a := (false, norm a, norm a, norm a)) (by rw [T.run_ite_f (by rfl), T.run_bind_of (law3_one_refl _ hno), T.run_ret]; rfl)]
        rfl)]
      show (T.ite _ _ _).run = _
      rw [T.run_ite_t (by rfl), T.run_bind_of (law3_one_refl _ hno), T.run_ite_true, T.run_bind_of known_run, T.run_ret]
theorem law3_DecBack_law (x : denL [tyRat]) (hw : wfL [tyRat] x) (hb : bkL [tyRat] x ≤ 1048576) : (law3_DecBack (toPs [tyRat] x)).run = some true := by
  obtain ⟨a, u⟩ := x
  have h : bkL [tyRat] (a, u) = bk tyRat a + 0 := rfl
  exact law3_DecBack_all a (rat_wf hw.1) (rat_bk (a := a) (k := 1048576) (by omega))
end Go.AM.Lf
