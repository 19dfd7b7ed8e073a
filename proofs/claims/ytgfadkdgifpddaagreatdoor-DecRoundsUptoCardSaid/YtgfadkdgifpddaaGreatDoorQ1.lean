/-
  Plain laws of the lifted program, part 1.
-/
import Derived.Test.YtgfadkdgifpddaaGreatDoorLf0
import Derived.Test.YtgfadkdgifpddaaGreatDoorAmA
import Derived.Test.YtgfadkdgifpddaaGreatDoorAmD
import Derived.Test.YtgfadkdgifpddaaGreatDoorQ0
set_option linter.unusedVariables false
namespace Go.AM.PL
theorem ix1 (k n : Nat) (h : k < n) (hn : n ≤ 4000000000000) : w64 ((k : Int) + 1) = ((k + 1 : Nat) : Int) := by rw [w64_in (by omega) (by omega)]; omega
theorem lt_t {k n : Nat} (h : k < n) : decide ((k : Int) < (n : Int)) = true := decide_eq_true (by omega)
theorem lt_f (n : Nat) : decide ((n : Int) < (n : Int)) = false := decide_eq_false (by omega)
theorem idx_ok {k n : Nat} (h : k < n) : idxOk (k : Int) n := ⟨by omega, by omega⟩
theorem cat_eq (a b : Str) : cat a b = a ++ b := rfl
theorem len_cat (a b : Str) : (cat a b).length = a.length + b.length := by rw [cat_eq, List.length_append]
end Go.AM.PL
namespace Go.AM.PL
def isD (b : UInt8) : Bool := decide (48 ≤ b.toNat ∧ b.toNat ≤ 57)
def digs (s : Str) : Bool := s.all isD
def dval (s : Str) : Nat := s.foldl (fun n b => n * 10 + (b.toNat - 48)) 0
theorem dval_from (s : Str) (n : Nat) : s.foldl (fun n b => n * 10 + (b.toNat - 48)) n = n * 10 ^ s.length + dval s := by
  unfold dval
  induction s generalizing n with
  | nil => simp
  | cons b s ih =>
    rw [List.foldl_cons, List.foldl_cons, ih, ih (0 * 10 + (b.toNat - 48)), List.length_cons, Nat.pow_succ]
    grind
theorem dval_app (s t : Str) : dval (s ++ t) = dval s * 10 ^ t.length + dval t := by
  have := dval_from t (dval s)
  unfold dval at this ⊢
  rw [List.foldl_append, this]
theorem dval_snoc (s : Str) (b : UInt8) : dval (s ++ [b]) = dval s * 10 + (b.toNat - 48) := by
  unfold dval; rw [List.foldl_append]; rfl
theorem isD_iff {b : UInt8} : isD b = true ↔ 48 ≤ b.toNat ∧ b.toNat ≤ 57 := by unfold isD; simp
theorem dval_lt {s : Str} (h : digs s = true) : dval s < 10 ^ s.length := by
  have key : ∀ (s : Str) (n k : Nat), digs s = true → n < 10 ^ k → s.foldl (fun n b => n * 10 + (b.toNat - 48)) n < 10 ^ (k + s.length) := by
    intro s
    induction s with
    | nil => intro n k _ h; simpa using h
    | cons b s ih =>
      intro n k hd hn
      simp only [digs, List.all_cons, Bool.and_eq_true] at hd
      have hb := isD_iff.1 hd.1
      have := ih (n * 10 + (b.toNat - 48)) (k + 1) hd.2 (by rw [Nat.pow_succ]; omega)
      rw [List.foldl_cons, List.length_cons]
      rwa [show k + (s.length + 1) = k + 1 + s.length by omega]
  have := key s 0 0 h (by simp)
  simpa [dval] using this
theorem digs_app (s t : Str) : digs (s ++ t) = (digs s && digs t) := by unfold digs; rw [List.all_append]
theorem digs_cons (b : UInt8) (t : Str) : digs (b :: t) = (isD b && digs t) := rfl
theorem dval_len {s : Str} (h : digs s = true) : (ofN (dval s)).length ≤ s.length + 1 := by
  refine Nat.le_trans (ofN_mono (Nat.le_of_lt (dval_lt h))) ?_
  refine ofN_len_le.2 (Nat.lt_of_lt_of_le (Nat.pow_lt_pow_right (a := 10) (by omega) (Nat.lt_succ_self s.length)) ?_)
  exact Nat.pow_le_pow_left (by omega) _
def natO (s : Str) : Option Nat := if s = [] ∨ 400 < s.length ∨ digs s = false then none else some (dval s)
theorem arrAt_arrF (f : Nat → Bool) : ∀ (n k i : Nat), i < n → arrAt .bool (arrN .bool n) (arrF (e := .bool) f n k) i = f (k + i)
  | 0, _, _, h => by omega
  | n + 1, k, 0, _ => by
    show (match (castTy (a := .bool) (f k) : Option (den .bool)) with | some y => y | none => dflt .bool) = _
    simp [castTy]
  | n + 1, k, i + 1, h => by
    show arrAt .bool (arrN .bool n) (arrF (e := .bool) f n (k + 1)) i = _
    rw [arrAt_arrF f n (k + 1) i (by omega)]
    congr 1; omega
abbrev digitsS : Str := [48, 49, 50, 51, 52, 53, 54, 55, 56, 57]
theorem dig_tab : ∀ c : Fin 256, digitsS.contains (UInt8.ofNat c.val) = decide (48 ≤ c.val ∧ c.val ≤ 57) := by decide +kernel
theorem byteAt_get {s : Str} {k : Nat} (h : k < s.length) : byteAt s (k : Int) = ((s[k]).toNat : Int) := by
  unfold byteAt; simp [h]
theorem cutS_drop1 (b : UInt8) (s : Str) : cutS 1 (((b :: s).length : Nat) : Int) (b :: s) = s := by unfold cutS; simp
theorem cutS_init (s : Str) (b : UInt8) : cutS 0 ((s.length : Nat) : Int) (s ++ [b]) = s := by unfold cutS; simp
end Go.AM.PL
namespace Go.AM.Lf
open PL
theorem contains_run (b : UInt8) : (strings_asciiSet_contains (asciiF digitsS) (b.toNat : Int)).run = some (isD b) := by
  have hb : b.toNat < 256 := b.toNat_lt
  unfold strings_asciiSet_contains
  rw [T.run_obl ⟨by omega, by omega⟩, T.run_ret]
  unfold asciiF
  rw [Int.toNat_natCast, arrAt_arrF _ 256 0 _ hb, Nat.zero_add]
  exact congrArg some (dig_tab ⟨b.toNat, hb⟩)
theorem trimRight_run (s : Str) (hs : s.length ≤ 1000000000) : ∃ r, (strings_trimRightASCII s (asciiF digitsS)).run = some r ∧ digs r = digs s ∧ (digs r = true → r = []) ∧ r.length ≤ s.length := by
  have := T.loop_post (r := strings_trimRightASCII_R0 (asciiF digitsS)) (fun t : Str => digs t = digs s ∧ t.length ≤ s.length) (fun t => t.length) (fun r : Str => digs r = digs s ∧ (digs r = true → r = []) ∧ r.length ≤ s.length) (fun t ht => ?_) (s := s) ⟨rfl, Nat.le_refl _⟩
  · obtain ⟨r, h1, h2⟩ := this
    have h1 : (strings_trimRightASCII_L0 (asciiF digitsS) s).run = some r := h1
    unfold strings_trimRightASCII
    rw [T.run_bind_of h1]
    exact ⟨r, rfl, h2⟩
  · rcases List.eq_nil_or_concat t with rfl | ⟨l, b, rfl⟩
    · right
      refine ⟨[], ?_, ht.1, fun _ => rfl, by simp⟩
      unfold strings_trimRightASCII_R0
      dsimp only
      rw [T.run_ite_f (by rfl), T.run_ret]
    · rw [List.concat_eq_append] at ht ⊢
      have hl : (l ++ [b]).length = l.length + 1 := by simp
      have e1 : w64 (((l ++ [b]).length : Int) - 1) = (l.length : Int) := by rw [hl, w64_in (by omega) (by omega)]; omega
      have e2 : byteAt (l ++ [b]) (l.length : Int) = (b.toNat : Int) := by rw [byteAt_get (by simp)]; simp
      unfold strings_trimRightASCII_R0
      dsimp only
      rw [T.run_ite_t (decide_eq_true (by rw [hl]; omega)), e1, T.run_idx _ (by omega) (by rw [hl]; omega), e2, T.run_bind_of (contains_run b)]
      cases hb : isD b with
      | false =>
        right
        refine ⟨_, by rw [T.run_ite_t (by rfl), T.run_ret], ht.1, fun h => ?_, ht.2⟩
        rw [digs_app, digs_cons, hb] at h; simp at h
      | true =>
        left
        refine ⟨l, by rw [T.run_ite_f (by rfl), T.run_sl _ (by omega) (by omega) (by rw [hl]; omega), T.run_ret, cutS_init], ⟨?_, by omega⟩, by omega⟩
        rw [← ht.1, digs_app, digs_cons, hb]; simp [digs]
theorem trimLeft_run (s : Str) (hs : s.length ≤ 1000000000) : ∃ r, (strings_trimLeftASCII s (asciiF digitsS)).run = some r ∧ digs r = digs s ∧ (digs r = true → r = []) := by
  have := T.loop_post (r := strings_trimLeftASCII_R0 (asciiF digitsS)) (fun t : Str => digs t = digs s) (fun t => t.length) (fun r : Str => digs r = digs s ∧ (digs r = true → r = [])) (fun t ht => ?_) (s := s) rfl
  · obtain ⟨r, h1, h2⟩ := this
    have h1 : (strings_trimLeftASCII_L0 (asciiF digitsS) s).run = some r := h1
    unfold strings_trimLeftASCII
    rw [T.run_bind_of h1]
    exact ⟨r, rfl, h2⟩
  · cases t with
    | nil =>
      right
      refine ⟨[], ?_, ht, fun _ => rfl⟩
      unfold strings_trimLeftASCII_R0
      dsimp only
      rw [T.run_ite_f (by rfl), T.run_ret]
    | cons b l =>
      have e2 : byteAt (b :: l) 0 = (b.toNat : Int) := rfl
      unfold strings_trimLeftASCII_R0
      dsimp only
      rw [T.run_ite_t (decide_eq_true (by simp)), T.run_idx _ (by omega) (by simp), e2, T.run_bind_of (contains_run b)]
      cases hb : isD b with
      | false =>
        right
        refine ⟨_, by rw [T.run_ite_t (by rfl), T.run_ret], ht, fun h => ?_⟩
        rw [digs_cons, hb] at h; simp at h
      | true =>
        left
        refine ⟨l, by rw [T.run_ite_f (by rfl), T.run_sl _ (by omega) (by simp; omega) (by omega), T.run_ret, cutS_drop1], ?_, by simp⟩
        rw [← ht, digs_cons, hb]; rfl
theorem ascii_digits : ∀ (j : Nat) b, digitsS[j]? = some b → b.toNat < 128 := by
  intro j b h
  have : b ∈ digitsS := List.mem_of_getElem? h
  simp only [digitsS, List.mem_cons, List.not_mem_nil, or_false] at this
  rcases this with rfl | rfl | rfl | rfl | rfl | rfl | rfl | rfl | rfl | rfl <;> decide
theorem Trim_digits_run (s : Str) (hs : s.length ≤ 1000000000) (hn : s ≠ []) : ∃ r, (strings_Trim s digitsS).run = some r ∧ strEq r [] = digs s := by
  obtain ⟨r1, a1, a2, a3, a4⟩ := trimRight_run s hs
  obtain ⟨r, b1, b2, b3⟩ := trimLeft_run r1 (by omega)
  refine ⟨r, ?_, ?_⟩
  · have hm : (strings_makeASCIISet digitsS).run = some (asciiF digitsS, true) := by
      unfold strings_makeASCIISet
      rw [T.run_obl ⟨by decide, ascii_digits⟩, T.run_ret]
    have e1 : strEq s [] = false := by rw [strEq_iff]; simpa using hn
    unfold strings_Trim
    rw [T.run_ite_f (by rw [e1]; rfl), T.run_obl (fun h => by simp at h), T.run_ite_f (by rfl), T.run_bind_of hm, T.run_ite_true, T.run_bind_of a1, T.run_bind_of b1, T.run_ret]
  · rw [strEq_iff]
    rw [a2] at b2
    cases h : digs s with
    | true => rw [h] at b2; rw [b3 b2]; simp
    | false =>
      rw [h] at b2
      refine decide_eq_false fun z => ?_
      subst z; cases b2
theorem step10 (v : Nat) (b : UInt8) (hb : isD b = true) : wu64 (wu8 ((b.toNat : Int) - 48)) = ((b.toNat - 48 : Nat) : Int) := by
  have := isD_iff.1 hb
  rw [wu8_in (by omega) (by omega), wu64_in (by omega) (by omega)]; omega
theorem ten_limbs : limbs [(10 : Int)] := by intro x hx; simp at hx; omega
theorem nat_Parse_run (s : Str) (hs : s.length ≤ 1000000000) : (nat_Parse s).run = some (match natO s with | some n => (ofN n, true) | none => ([], false)) := by
  unfold nat_Parse natO
  by_cases c1 : s = []
  · subst c1; rw [if_pos (.inl rfl)]; rfl
  · have e1 : strEq s [] = false := by rw [strEq_iff]; simpa using c1
    by_cases c2 : 400 < s.length
    · have hg : (.ite (strEq s ([] : Str)) (.ret true) (.ite (decide ((400 : Int) < (Nat.cast (List.length s) : Int))) (.ret true) (T.bind (strings_Trim s ([48, 49, 50, 51, 52, 53, 54, 55, 56, 57] : Str)) fun r => .ret (!(strEq r ([] : Str))))) : T Bool).run = some true := by
        rw [T.run_ite_f e1, T.run_ite_t (decide_eq_true (by omega)), T.run_ret]
      rw [T.run_bind_of hg, if_pos (.inr (.inl c2))]; rfl
    · obtain ⟨r, h1, h2⟩ := Trim_digits_run s hs c1
      have hg : (.ite (strEq s ([] : Str)) (.ret true) (.ite (decide ((400 : Int) < (Nat.cast (List.length s) : Int))) (.ret true) (T.bind (strings_Trim s ([48, 49, 50, 51, 52, 53, 54, 55, 56, 57] : Str)) fun r => .ret (!(strEq r ([] : Str))))) : T Bool).run = some (!(digs s)) := by
        rw [T.run_ite_f e1, T.run_ite_f (decide_eq_false (by omega)), T.run_bind_of h1, T.run_ret, h2]
      rw [T.run_bind_of hg]
      cases hd : digs s with
      | false => rw [if_pos (.inr (.inr rfl))]; rfl
      | true =>
        rw [if_neg (by simp [c1]; omega), T.run_ite_f (by rfl)]
        have hL : (nat_Parse_L0 s (s.length : Int) ([], 0)).run = some (ofN (dval s)) := by
          have := T.loop_run (r := nat_Parse_R0 s (s.length : Int)) (fun st : List Int × Int => ∃ k : Nat, st = (ofN (dval (s.take k)), (k : Int)) ∧ k ≤ s.length) (fun st => s.length - st.2.toNat) (fun _ => ofN (dval s)) (fun st hst => ?_) (s := ([], 0)) ⟨0, by simp [dval, ofN_zero], by omega⟩
          · exact this
          · obtain ⟨k, rfl, hk⟩ := hst
            by_cases c : k < s.length
            · left
              have hb : isD s[k] = true := List.all_eq_true.1 hd _ (List.getElem_mem c)
              have ht : digs (s.take k) = true := List.all_eq_true.2 fun x hx => List.all_eq_true.1 hd x (List.mem_of_mem_take hx)
              have hl := dval_len ht
              have hl' : (ofN (dval (s.take k))).length ≤ 500 := by rw [List.length_take] at hl; omega
              have hm := nat_Mul_run (ofN (dval (s.take k))) [10] (limbs_ofN _) ten_limbs (by omega) (by simp)
              rw [nv_ofN, show nv [10] = 10 from rfl] at hm
              have hml := ofN_mul_len (dval (s.take k)) 10
              have h10 : (ofN 10).length ≤ 1 := ofN_len_le.2 (by decide)
              have hd9 : (ofN (s[k].toNat - 48)).length ≤ 1 := ofN_len_le.2 (by have := isD_iff.1 hb; show _ < 4294967296 ^ 1; omega)
              have ha := nat_Add_run (ofN (dval (s.take k) * 10)) (ofN (s[k].toNat - 48)) (limbs_ofN _) (limbs_ofN _) (by omega) (by omega)
              rw [nv_ofN, nv_ofN] at ha
              refine ⟨(ofN (dval (s.take (k + 1))), ((k + 1 : Nat) : Int)), ?_, ⟨k + 1, rfl, c⟩, by simp only [Int.toNat_natCast]; omega, rfl⟩
              unfold nat_Parse_R0
              dsimp only
              rw [T.run_ite_t (lt_t c), T.run_bind_of hm, T.run_obl (idx_ok c), byteAt_get c, step10 0 _ hb, T.run_bind_of (nat_Of_run _ (by have := isD_iff.1 hb; omega)), T.run_bind_of ha, T.run_ret, ix1 k _ c (by omega),
                List.take_succ_eq_append_getElem c, dval_snoc]
            · have : k = s.length := by omega
              subst this
              right
              unfold nat_Parse_R0
              dsimp only
              rw [T.run_ite_f (lt_f _), T.run_ret, List.take_length]
        rw [T.run_bind_of hL, T.run_ret]
end Go.AM.Lf
namespace Go.AM.PL
def decT (t : Str) : Option (Nat × Nat) :=
  if t.takeWhile isD = [] then none else match t.dropWhile isD with
  | [] => some (dval (t.takeWhile isD), 1)
  | c :: q => if q = [] ∨ digs q = false then none else if c = 46 then some (dval (t.takeWhile isD) * 10 ^ q.length + dval q, 10 ^ q.length)
    else if c = 47 then (if dval q = 0 then none else some (dval (t.takeWhile isD), dval q)) else none
theorem takeWhile_digs {u : Str} (h : digs u = true) (r : Str) (hr : ∀ c q, r = c :: q → isD c = false) : (u ++ r).takeWhile isD = u ∧ (u ++ r).dropWhile isD = r := by
  induction u with
  | nil =>
    cases r with
    | nil => exact ⟨rfl, rfl⟩
    | cons c q => have := hr c q rfl; simp [this]
  | cons b u ih =>
    rw [digs_cons, Bool.and_eq_true] at h
    obtain ⟨i1, i2⟩ := ih h.2
    simp [h.1, i1, i2]
theorem decT_all {u : Str} (h : digs u = true) : decT u = if u = [] then none else some (dval u, 1) := by
  have := takeWhile_digs h [] (fun c q z => by cases z)
  rw [List.append_nil] at this
  unfold decT
  rw [this.1, this.2]
theorem decT_cut {u : Str} (h : digs u = true) (c : UInt8) (q : Str) (hc : isD c = false) : decT (u ++ c :: q) = if u = [] then none else if q = [] ∨ digs q = false then none else if c = 46 then some (dval u * 10 ^ q.length + dval q, 10 ^ q.length)
    else if c = 47 then (if dval q = 0 then none else some (dval u, dval q)) else none := by
  have := takeWhile_digs h (c :: q) (fun c' q' z => by cases z; exact hc)
  unfold decT
  rw [this.1, this.2]
theorem decT_bad {u : Str} (h : digs u = true) (c : UInt8) (q : Str) (hc : isD c = false) (h1 : c ≠ 46) (h2 : c ≠ 47) : decT (u ++ c :: q) = none := by
  rw [decT_cut h c q hc, if_neg h1, if_neg h2]
  split
  · rfl
  · split <;> rfl
theorem split_nondig {w : Str} (h : digs w = false) : ∃ u c v, w = u ++ c :: v ∧ digs u = true ∧ isD c = false := by
  induction w with
  | nil => cases h
  | cons b w ih =>
    cases hb : isD b with
    | false => exact ⟨[], b, w, rfl, rfl, hb⟩
    | true =>
      rw [digs_cons, hb, Bool.true_and] at h
      obtain ⟨u, c, v, rfl, h1, h2⟩ := ih h
      exact ⟨b :: u, c, v, rfl, by rw [digs_cons, hb, h1]; rfl, h2⟩
theorem split_at {c : UInt8} {s : Str} (h : c ∈ s) : ∃ w q, s = w ++ c :: q ∧ c ∉ w := by
  induction s with
  | nil => cases h
  | cons b s ih =>
    by_cases hb : b = c
    · subst hb; exact ⟨[], s, rfl, by simp⟩
    · obtain ⟨w, q, rfl, h2⟩ := ih (by rcases List.mem_cons.1 h with h | h; exact absurd h.symm hb; exact h)
      exact ⟨b :: w, q, rfl, by simp [h2]; exact fun z => hb z.symm⟩
theorem idxS_at (c : UInt8) (w q : Str) (h : c ∉ w) : idxS (w ++ c :: q) [c] = (w.length : Int) := by
  induction w with
  | nil => simp [idxS]
  | cons b w ih =>
    have hb : c ≠ b := fun z => h (by simp [z])
    have hw := ih (fun z => h (List.mem_cons_of_mem _ z))
    rw [List.cons_append]
    unfold idxS
    rw [hw]
    have e1 : List.isPrefixOf [c] (b :: (w ++ c :: q)) = false := by simp [List.isPrefixOf, hb]
    rw [e1]
    have e2 : ((w.length : Int) == -1) = false := by simp
    rw [e2]
    simp
theorem idxS_none (c : UInt8) (s : Str) (h : c ∉ s) : idxS s [c] = -1 := by
  induction s with
  | nil => rfl
  | cons b w ih =>
    have hb : c ≠ b := fun z => h (by simp [z])
    unfold idxS
    rw [ih (fun z => h (List.mem_cons_of_mem _ z))]
    have e1 : List.isPrefixOf [c] (b :: w) = false := by simp [List.isPrefixOf, hb]
    rw [e1]; rfl
theorem cutSt_at (c : UInt8) (w q : Str) (h : c ∉ w) : cutSt (w ++ c :: q) [c] = (w, q, true) := by
  unfold cutSt
  rw [idxS_at c w q h, if_pos (by omega)]
  simp
theorem cutSt_none (c : UInt8) (s : Str) (h : c ∉ s) : cutSt s [c] = (s, [], false) := by
  unfold cutSt
  rw [idxS_none c s h, if_neg (by omega)]
theorem natO_some {s : Str} {n : Nat} (h : natO s = some n) : s ≠ [] ∧ s.length ≤ 400 ∧ digs s = true ∧ n = dval s := by
  unfold natO at h
  split at h
  · cases h
  · rename_i hc
    cases h
    simp only [not_or] at hc
    exact ⟨hc.1, by omega, by simpa using hc.2.2, rfl⟩
theorem natO_of {s : Str} (h1 : s ≠ []) (h2 : s.length ≤ 400) (h3 : digs s = true) : natO s = some (dval s) := by
  unfold natO
  rw [if_neg (by simp [h1, h3]; omega)]
theorem natO_no {s : Str} (h : s = [] ∨ digs s = false) : natO s = none := by
  unfold natO
  rw [if_pos (by rcases h with h | h; exact .inl h; exact .inr (.inr h))]
end Go.AM.PL
namespace Go.AM.Lf
open PL
def zeroR : Rat := (false, [], [], ())
def decP (s : Str) : Option (Nat × Nat) := decT (trimPre s [45])
theorem trimPre_len (s p : Str) : (trimPre s p).length ≤ s.length := by unfold trimPre; split <;> simp
theorem parse_core (t : Str) (ht : t.length ≤ 400) (neg : Bool) :
    (T.bind (strings_Cut t ([46] : Str)) fun (whole, part, ok) =>
      .ite ok
        (T.bind (nat_Parse part) fun (r, is) =>
          .obl (((List.length whole) + (List.length part)) ≤ (4611686018427387904 : Nat)) <|
          T.bind (nat_Parse (cat whole part)) fun (n, both) =>
          .ite ((strEq whole ([] : Str)) || ((!is) || (!both)))
            (.ret ((false, (([] : List Int), (([] : List Int), ()))), (2 : Int)))
            (T.bind (dec_ten (Nat.cast (List.length part) : Int)) fun r1 =>
              T.bind (rat_Of neg n r1) fun r2 =>
              .ret (r2, (0 : Int))))
        (T.bind (strings_Cut t ([47] : Str)) fun (num, den, ok1) =>
          T.bind (nat_Parse num) fun (n1, is1) =>
          T.bind (nat_Parse (bif (!ok1) then ([49] : Str) else den)) fun (d, both1) =>
          .ite ((!is1) || ((!both1) || ((Nat.cast (List.length d) : Int) == (0 : Int))))
            (.ret ((false, (([] : List Int), (([] : List Int), ()))), (2 : Int)))
            (T.bind (rat_Of neg n1 d) fun r3 =>
              .ret (r3, (0 : Int)))) : T (Rat × Int)).run = some (match decT t with | some (n, d) => (ratN neg n d, (0 : Int)) | none => (zeroR, (2 : Int))) := by
  have hcut : ∀ c : UInt8, (strings_Cut t [c]).run = some (cutSt t [c]) := fun c => by
    unfold strings_Cut; rw [T.run_obl (by omega), T.run_ret]
  rw [T.run_bind_of (hcut 46)]
  have h46 : isD 46 = false := by decide
  have h47 : isD 47 = false := by decide
  by_cases c1 : (46 : UInt8) ∈ t
  · obtain ⟨w, p, rfl, hw⟩ := split_at c1
    rw [cutSt_at 46 w p hw]
    have hl : w.length + p.length + 1 ≤ 400 := by simp at ht; omega
    dsimp only
    rw [T.run_ite_true, T.run_bind_of (nat_Parse_run p (by omega))]
    have hwp := nat_Parse_run (cat w p) (by rw [len_cat]; omega)
    by_cases d1 : digs w = true
    · rw [decT_cut d1 46 p h46]
      by_cases d2 : w = []
      · subst d2
        rw [if_pos rfl]
        generalize natO p = o at *
        cases o <;> (dsimp only; rw [T.run_leN _ (by simp; omega), T.run_bind_of hwp]; generalize natO (cat [] p) = o2; cases o2 <;> rfl)
      · rw [if_neg d2]
        by_cases d3 : p = [] ∨ digs p = false
        · rw [if_pos d3, natO_no d3]
          dsimp only
          rw [T.run_leN _ (by omega), T.run_bind_of hwp]
          generalize natO (cat w p) = o2
          cases o2 <;> (dsimp only; rw [T.run_ite_t (by simp), T.run_ret]; rfl)
        · rw [if_neg d3, if_pos rfl]
          have d4 : p ≠ [] := fun z => d3 (.inl z)
          have d5 : digs p = true := by cases h : digs p with | true => rfl | false => exact absurd (.inr h) d3
          have d6 : digs (cat w p) = true := by rw [cat_eq, digs_app, d1, d5]; rfl
          have d7 : cat w p ≠ [] := by rw [cat_eq]; simp [d2]
          rw [natO_of d4 (by omega) d5]
          rw [natO_of d7 (by rw [len_cat]; omega) d6] at hwp
          dsimp only at hwp ⊢
          have e1 : strEq w [] = false := by rw [strEq_iff]; simpa using d2
          have h10 := ten_len p.length
          have hn := dval_len d6
          have ho := rat_Of_run neg (ofN (dval (cat w p))) (ofN (10 ^ p.length)) (limbs_ofN _) (limbs_ofN _) (by rw [len_cat] at hn; omega) (by omega)
          rw [nv_ofN, nv_ofN] at ho
          rw [T.run_leN _ (by omega), T.run_bind_of hwp]
          dsimp only
          rw [T.run_ite_f (by rw [e1]; rfl), T.run_bind_of (dec_ten_run p.length (by omega)), T.run_bind_of ho, T.run_ret, cat_eq, dval_app]
    · have d1 : digs w = false := by simpa using d1
      obtain ⟨u, c, v, rfl, g1, g2⟩ := split_nondig d1
      have hc46 : c ≠ 46 := fun z => hw (by simp [z])
      have e : decT (u ++ c :: v ++ 46 :: p) = none := by
        rw [List.append_assoc, List.cons_append, decT_cut g1 c _ g2]
        have : digs (v ++ 46 :: p) = false := by rw [digs_app, digs_cons, h46]; simp
        rw [if_pos (show v ++ 46 :: p = [] ∨ digs (v ++ 46 :: p) = false from .inr this)]; split <;> rfl
      rw [e]
      have hno : natO (cat (u ++ c :: v) p) = none := natO_no (.inr (by rw [cat_eq, digs_app, d1]; rfl))
      rw [hno] at hwp
      generalize natO p = o at *
      cases o <;> (dsimp only; rw [T.run_leN _ (by omega), T.run_bind_of hwp]; dsimp only; rw [T.run_ite_t (by simp), T.run_ret]; rfl)
  · rw [cutSt_none 46 t c1]
    dsimp only
    rw [T.run_ite_false, T.run_bind_of (hcut 47)]
    have fin : ∀ (num den : Str) (x : Bool), num.length ≤ 400 → den.length ≤ 400 → (T.bind (nat_Parse num) fun (n1, is1) =>
          T.bind (nat_Parse (bif (!x) then ([49] : Str) else den)) fun (d, both1) =>
          .ite ((!is1) || ((!both1) || ((Nat.cast (List.length d) : Int) == (0 : Int))))
            (.ret ((false, (([] : List Int), (([] : List Int), ()))), (2 : Int)))
            (T.bind (rat_Of neg n1 d) fun r3 => .ret (r3, (0 : Int))) : T (Rat × Int)).run =
          some (match natO num, natO (bif (!x) then ([49] : Str) else den) with | some n, some d => if d = 0 then (zeroR, (2 : Int)) else (ratN neg n d, (0 : Int)) | _, _ => (zeroR, (2 : Int))) := by
      intro num den x hn hd
      have hd2 : (bif (!x) then ([49] : Str) else den).length ≤ 400 := by cases x <;> simp [hd]
      generalize (bif (!x) then ([49] : Str) else den) = dd at *
      rw [T.run_bind_of (nat_Parse_run num (by omega))]
      have hdd := nat_Parse_run dd (by omega)
      cases h1 : natO num with
      | none =>
        dsimp only
        rw [T.run_bind_of hdd]
        generalize natO dd = o
        cases o <;> rfl
      | some n =>
        dsimp only
        rw [T.run_bind_of hdd]
        cases h2 : natO dd with
        | none => rfl
        | some d =>
          obtain ⟨a1, a2, a3, rfl⟩ := natO_some h1
          obtain ⟨b1, b2, b3, rfl⟩ := natO_some h2
          dsimp only
          have l1 := dval_len a3
          have l2 := dval_len b3
          by_cases z : dval dd = 0
          · rw [z, ofN_zero, if_pos rfl]; rfl
          · rw [if_neg z]
            have : (ofN (dval dd)).length ≠ 0 := fun h => z (ofN_eq_nil.1 (List.eq_nil_of_length_eq_zero h))
            have ho := rat_Of_run neg (ofN (dval num)) (ofN (dval dd)) (limbs_ofN _) (limbs_ofN _) (by omega) (by omega)
            rw [nv_ofN, nv_ofN] at ho
            rw [T.run_ite_f (by simp; exact fun h => z (ofN_eq_nil.1 h)), T.run_bind_of ho, T.run_ret]
    by_cases c2 : (47 : UInt8) ∈ t
    · obtain ⟨w, q, rfl, hw⟩ := split_at c2
      rw [cutSt_at 47 w q hw]
      have hl : w.length + q.length + 1 ≤ 400 := by simp at ht; omega
      rw [fin w q true (by omega) (by omega)]
      rw [show (bif (!true) then ([49] : Str) else q) = q from rfl]
      by_cases d1 : digs w = true
      · rw [decT_cut d1 47 q h47]
        by_cases d2 : w = []
        · rw [if_pos d2, natO_no (.inl d2)]
        · rw [if_neg d2, natO_of d2 (by omega) d1]
          by_cases d3 : q = [] ∨ digs q = false
          · rw [if_pos d3, natO_no d3]
          · have d4 : q ≠ [] := fun z => d3 (.inl z)
            have d5 : digs q = true := by cases h : digs q with | true => rfl | false => exact absurd (.inr h) d3
            rw [if_neg d3, if_neg (by decide), if_pos rfl, natO_of d4 (by omega) d5]
            dsimp only
            split <;> rfl
      · have d1 : digs w = false := by simpa using d1
        obtain ⟨u, c, v, rfl, g1, g2⟩ := split_nondig d1
        rw [natO_no (.inr d1)]
        have hc47 : c ≠ 47 := fun z => hw (by simp [z])
        have hc46 : c ≠ 46 := fun z => c1 (by simp [z])
        rw [List.append_assoc, List.cons_append, decT_bad g1 c _ g2 hc46 hc47]
    · rw [cutSt_none 47 t c2]
      rw [fin t [] false ht (by simp)]
      rw [show (bif (!false) then ([49] : Str) else []) = [49] from rfl]
      have h1 : natO [49] = some 1 := by decide
      rw [h1]
      by_cases d1 : digs t = true
      · rw [decT_all d1]
        by_cases d2 : t = []
        · rw [if_pos d2, natO_no (.inl d2)]
        · rw [if_neg d2, natO_of d2 ht d1]; rfl
      · have d1 : digs t = false := by simpa using d1
        rw [natO_no (.inr d1)]
        obtain ⟨u, c, v, rfl, g1, g2⟩ := split_nondig d1
        have hc47 : c ≠ 47 := fun z => c2 (by simp [z])
        have hc46 : c ≠ 46 := fun z => c1 (by simp [z])
        rw [decT_bad g1 c _ g2 hc46 hc47]
theorem dec_Parse_run (s : Str) (hs : s.length ≤ 1000000000) : (dec_Parse s).run = some (if 400 < s.length then (zeroR, (3 : Int)) else match decP s with | some (n, d) => (ratN (List.isPrefixOf [45] s) n d, (0 : Int)) | none => (zeroR, (2 : Int))) := by
  unfold dec_Parse
  by_cases c : 400 < s.length
  · rw [T.run_ite_t (decide_eq_true (by omega)), if_pos c, T.run_ret]; rfl
  · have hp : (strings_CutPrefix s [45]).run = some (trimPre s [45], List.isPrefixOf [45] s) := rfl
    have hl := trimPre_len s [45]
    rw [T.run_ite_f (decide_eq_false (by omega)), if_neg c, T.run_bind_of hp]
    exact parse_core _ (by omega) _
end Go.AM.Lf
namespace Go.AM.Lf
open PL
def i64r (n : Int) : Prop := -9223372036854775808 ≤ n ∧ n ≤ 9223372036854775807
end Go.AM.Lf
namespace Go.AM.PL
theorem q_div (p q : Q) (h : q ≠ 0) : p / q = qv (decide (p.num < 0) != decide (q.num < 0)) (p.num.natAbs * q.den) (p.den * q.num.natAbs) := by
  have hn : q.num ≠ 0 := fun z => h (Rat.num_eq_zero.1 z)
  have h1 : (q⁻¹).num.natAbs = q.den := by
    rw [Rat.num_inv, Int.natAbs_mul, Int.natAbs_sign_of_ne_zero hn, Nat.one_mul, Int.natAbs_natCast]
  have h2 : (q⁻¹).den = q.num.natAbs := by rw [Rat.den_inv, if_neg hn]
  have h3 : decide ((q⁻¹).num < 0) = decide (q.num < 0) := by
    refine decide_eq_decide.2 ?_
    rw [Rat.num_inv]
    have hd := q.den_pos
    rcases Int.lt_trichotomy q.num 0 with c | c | c
    · rw [Int.sign_eq_neg_one_of_neg c]; omega
    · exact absurd c hn
    · rw [Int.sign_eq_one_of_pos c]; omega
  rw [Rat.div_def, q_mul, h1, h2, h3, qv_sgn]
theorem qv_int (b : Bool) (n : Nat) : qv b n 1 = ((sgn b n : Int) : Q) := by
  rw [qv_sgn, Rat.mkRat_eq_div]
  have : ((1 : Nat) : Q) = 1 := rfl
  rw [this]
  grind
end Go.AM.PL
namespace Go.AM.Lf
open PL
theorem ref2_Div_run (a b : Rat) (ha : ratOk 10000000 a) (hb : ratOk 10000000 b) (h : val b ≠ 0) : (ref2_Div a b).run = some (toR (val a / val b), true) := by
  unfold ref2_Div
  rw [T.run_bind_of (ref2_norm a (ok_up ha (by omega))), T.run_bind_of (ref2_norm b (ok_up hb (by omega))), norm_toR, norm_toR]
  have la := qlen_val (by omega) ha
  have lb := qlen_val (by omega) hb
  rw [q_div _ _ h]
  generalize val a = p at *
  generalize val b = q at *
  simp only [toR_fst, toR_num, toR_den]
  have l1 := qlen_num p; have l2 := qlen_den p; have l3 := qlen_num q; have l4 := qlen_den q
  have m1 := ofN_mul_len p.num.natAbs q.den
  have m2 := ofN_mul_len p.den q.num.natAbs
  have hz : (((ofN q.num.natAbs).length : Int) == 0) = false := by rw [len_zero]; exact decide_eq_false fun z => h (Rat.num_eq_zero.1 (Int.natAbs_eq_zero.1 z))
  rw [T.run_ite_f hz, T.run_bind_of (ref1_Mul_ofN _ _ (by omega) (by omega)), T.run_bind_of (ref1_Mul_ofN _ _ (by omega) (by omega)), T.run_bind_of (ref2_Of_toR _ _ _ (by omega) (by omega)), T.run_ret]
  rfl
theorem ref2_Int_run (n : Int) (h : i64r n) : (ref2_Int n).run = some (toR (n : Q)) := by
  obtain ⟨h1, h2⟩ := h
  unfold ref2_Int
  have hN : (bif (decide (n < (0 : Int))) then (wu64 ((0 : Int) - (wu64 n))) else (wu64 n)) = ((n.natAbs : Nat) : Int) := by
    by_cases c : n < 0
    · rw [decide_eq_true c, cond_true, wu64_mod n, wu64_mod]; omega
    · rw [decide_eq_false c, cond_false, wu64_in (by omega) (by omega)]; omega
  have hl : (ofN n.natAbs).length ≤ 2 := ofN_len_le.2 (by show n.natAbs < 4294967296 ^ 2; omega)
  have ho := ref2_Of_run (decide (n < 0)) (ofN n.natAbs) [1] (limbs_ofN _) one_limb (by omega) (by simp)
  rw [nv_ofN, show nv [1] = 1 from rfl, ratN_toR, qv_int] at ho
  have hs : sgn (decide (n < 0)) n.natAbs = n := by
    unfold sgn
    by_cases c : n < 0
    · rw [decide_eq_true c, if_pos rfl]; omega
    · rw [decide_eq_false c, if_neg (by simp)]; omega
  rw [hs] at ho
  rw [hN, T.run_bind_of (ref1_Of_run n.natAbs (by omega)), T.run_bind_of ho, T.run_ret]
end Go.AM.Lf
namespace Go.AM.PL
theorem isD_dgt (n : Nat) : isD (dgt n) = true ∧ (dgt n).toNat - 48 = n % 10 := by
  have h : (dgt n).toNat = 48 + n % 10 := by unfold dgt; rw [UInt8.toNat_ofNat']; omega
  exact ⟨isD_iff.2 (by omega), by omega⟩
theorem dgz_digs (n : Nat) : digs (dgz n) = true ∧ dval (dgz n) = n := by
  induction n using Nat.strongRecOn with
  | _ n ih =>
    by_cases h : n = 0
    · subst h; rw [dgz_zero]; exact ⟨rfl, rfl⟩
    · obtain ⟨h1, h2⟩ := ih (n / 10) (by omega)
      obtain ⟨h3, h4⟩ := isD_dgt n
      rw [dgz_pos h]
      refine ⟨by rw [digs_app, h1, digs_cons, h3]; rfl, ?_⟩
      rw [dval_snoc, h2, h4]; omega
theorem pr_digs (n : Nat) : digs (pr n) = true ∧ dval (pr n) = n := by
  unfold pr
  split
  · rename_i h; subst h; exact ⟨by decide, by decide⟩
  · exact dgz_digs n
theorem dgz_ne {n : Nat} (h : n ≠ 0) : dgz n ≠ [] := by rw [dgz_pos h]; simp
theorem pr_ne (n : Nat) : pr n ≠ [] := by
  unfold pr
  split
  · simp
  · rename_i h; exact dgz_ne h
theorem pr_lt (n k : Nat) (hk : 1 ≤ k) (h : n < 10 ^ k) : (pr n).length ≤ k := by
  unfold pr
  split
  · simpa using hk
  · exact dgz_len n k h
theorem rep_digs (k : Nat) : digs (repS [48] k) = true ∧ dval (repS [48] k) = 0 := by
  induction k with
  | zero => exact ⟨rfl, rfl⟩
  | succ k ih =>
    show digs ([48] ++ repS [48] k) = true ∧ dval ([48] ++ repS [48] k) = 0
    rw [digs_app, dval_app, ih.1, ih.2]
    exact ⟨by decide, by show 0 * _ + 0 = 0; omega⟩
theorem head_dig {t : Str} (h : digs t = true) (hn : t ≠ []) (r : Str) : List.isPrefixOf [45] (t ++ r) = false := by
  cases t with
  | nil => exact absurd rfl hn
  | cons b t =>
    rw [digs_cons, Bool.and_eq_true] at h
    have hb := isD_iff.1 h.1
    have : (45 : UInt8) ≠ b := fun z => by subst z; have e : (45 : UInt8).toNat = 45 := rfl; omega
    show ((45 : UInt8) == b && true) = false
    rw [Bool.and_true]; exact beq_eq_false_iff_ne.2 this
end Go.AM.PL
namespace Go.AM.Lf
open PL
theorem sign_of (b : Bool) (t : Str) (h : List.isPrefixOf [45] t = false) : List.isPrefixOf [45] (sgS b ++ t) = b ∧ trimPre (sgS b ++ t) [45] = t := by
  unfold trimPre sgS
  cases b with
  | false => rw [if_neg (by simp), List.nil_append]; exact ⟨h, by rw [if_neg (by rw [h]; simp)]⟩
  | true =>
    have e : List.isPrefixOf [45] ([45] ++ t) = true := by simp [List.isPrefixOf]
    rw [if_pos rfl, e]
    exact ⟨rfl, by rw [if_pos rfl]; simp⟩
theorem parse_of (b : Bool) (t : Str) (n d : Nat) (h : List.isPrefixOf [45] t = false) (hl : t.length ≤ 399) (hd : decT t = some (n, d)) : (dec_Parse (sgS b ++ t)).run = some (ratN b n d, 0) := by
  obtain ⟨h1, h2⟩ := sign_of b t h
  have hs := sgS_len b
  have hlen : (sgS b ++ t).length ≤ 400 := by rw [List.length_append]; omega
  rw [dec_Parse_run _ (by omega), if_neg (by omega)]
  unfold decP
  rw [h1, h2, hd]
theorem parse_whole (b : Bool) (n : Nat) (hl : (pr n).length ≤ 399) : (dec_Parse (sgS b ++ pr n)).run = some (ratN b n 1, 0) := by
  obtain ⟨h1, h2⟩ := pr_digs n
  have h3 := pr_ne n
  have := head_dig h1 h3 []
  rw [List.append_nil] at this
  exact parse_of b (pr n) n 1 this hl (by rw [decT_all h1, if_neg h3, h2])
theorem ptd_parts (s : Str) (k : Nat) (hk : k ≠ 0) (hs : digs s = true) : ∃ w p, ptd s k = w ++ 46 :: p ∧ digs w = true ∧ w ≠ [] ∧ digs p = true ∧ p.length = k ∧ dval w * 10 ^ k + dval p = dval s ∧ w.length + k = max s.length (k + 1) := by
  unfold ptd
  rw [if_neg hk]
  have hr := rep_digs (k + 1 - s.length)
  have hl := repS_len (k + 1 - s.length)
  have hd : digs (repS [48] (k + 1 - s.length) ++ s) = true := by rw [digs_app, hr.1, hs]; rfl
  have hv : dval (repS [48] (k + 1 - s.length) ++ s) = dval s := by rw [dval_app, hr.2]; omega
  have hlen : (repS [48] (k + 1 - s.length) ++ s).length = (k + 1 - s.length) + s.length := by rw [List.length_append, hl]
  generalize repS [48] (k + 1 - s.length) ++ s = t at *
  refine ⟨t.take (t.length - k), t.drop (t.length - k), by simp, ?_, ?_, ?_, by simp; omega, ?_, by simp; omega⟩
  · exact List.all_eq_true.2 fun x hx => List.all_eq_true.1 hd x (List.mem_of_mem_take hx)
  · intro z
    have := congrArg List.length z
    simp at this; omega
  · exact List.all_eq_true.2 fun x hx => List.all_eq_true.1 hd x (List.mem_of_mem_drop hx)
  · have := dval_app (t.take (t.length - k)) (t.drop (t.length - k))
    rw [List.take_append_drop, hv, List.length_drop, show t.length - (t.length - k) = k by omega] at this
    exact this.symm
theorem parse_ptd (b : Bool) (n k : Nat) (hl : (pr n).length + k ≤ 397) : (dec_Parse (sgS b ++ ptd (pr n) k)).run = some (ratN b n (10 ^ k), 0) := by
  obtain ⟨h1, h2⟩ := pr_digs n
  by_cases hk : k = 0
  · subst hk
    have : ptd (pr n) 0 = pr n := by unfold ptd; rw [if_pos rfl]
    rw [this]
    exact parse_whole b n (by omega)
  · obtain ⟨w, p, e, a1, a2, a3, a4, a5, a6⟩ := ptd_parts (pr n) k hk h1
    rw [e]
    have hp : p ≠ [] := fun z => hk (by rw [← a4, z]; rfl)
    refine parse_of b _ n (10 ^ k) (head_dig a1 a2 _) (by simp; omega) ?_
    rw [decT_cut a1 46 _ (by decide), if_neg a2, if_neg (by simp [hp, a3]), if_pos rfl, a4, a5, h2]
theorem limb_dig (n k : Nat) (h : (ofN n).length ≤ k) : n < 10 ^ (10 * k) := by
  refine Nat.lt_of_lt_of_le (ofN_len_le.1 h) ?_
  rw [Nat.pow_mul]
  exact Nat.pow_le_pow_left (by decide) k
theorem norm_lens {a : Rat} (h1 : limbs a.2.1) (h2 : limbs a.2.2.1) (hl : a.2.1.length + a.2.2.1.length ≤ 16) : (ofN (nv (norm a).2.1)).length + (ofN (nv (norm a).2.2.1)).length ≤ 17 ∧ (ofN (nv (norm a).2.1)).length ≤ 16 := by
  unfold norm ratN
  split
  · constructor
    · show (ofN (nv [])).length + (ofN (nv [1])).length ≤ 17
      rw [show nv [] = 0 from rfl, show nv [1] = 1 from rfl, ofN_zero, ofN_one]; simp
    · show (ofN (nv [])).length ≤ 16
      rw [show nv [] = 0 from rfl, ofN_zero]; simp
  · simp only [nv_ofN]
    have a1 := ofN_mono (Nat.div_le_self (nv a.2.1) (Nat.gcd (nv a.2.1) (nv a.2.2.1)))
    have a2 := ofN_mono (Nat.div_le_self (nv a.2.2.1) (Nat.gcd (nv a.2.1) (nv a.2.2.1)))
    have a3 := ofN_nv_len h1
    have a4 := ofN_nv_len h2
    omega
end Go.AM.Lf
namespace Go.AM.Lf
open PL
theorem rnd_mul (x d : Nat) (hd : 0 < d) : rnd (x * d) d = x := by
  unfold rnd
  rw [Nat.mul_mod_left, Nat.mul_div_cancel _ hd, if_neg (by omega)]
theorem rnd_one (x : Nat) : rnd x 1 = x := by have := rnd_mul x 1 (by omega); rwa [Nat.mul_one] at this
theorem rndQ_idem (q : Q) (k : Nat) : rndQ (rndQ q k) k = rndQ q k := by
  have ht : 0 < 10 ^ k := Nat.pow_pos (by omega)
  have key : ∀ (b : Bool) (X : Nat), rndQ (qv b X (10 ^ k)) k = qv b X (10 ^ k) := by
    intro b X
    by_cases hX : X = 0
    · subst hX
      rw [qv_zero_num]
      unfold rndQ
      rw [Rat.zero_num, Rat.zero_den]
      show mkRat (sgn (decide ((0 : Int) < 0)) (rnd ((0 : Int).natAbs * 10 ^ k) 1)) (10 ^ k) = 0
      rw [show (0 : Int).natAbs = 0 from rfl, Nat.zero_mul, rnd_one]
      exact Rat.zero_mkRat _
    · have hg : 0 < Nat.gcd X (10 ^ k) := Nat.gcd_pos_of_pos_left _ (by omega)
      have hden := qv_den b X (10 ^ k) (by omega)
      have hnum := qv_num b X (10 ^ k) (by omega)
      have hp : 0 < X / Nat.gcd X (10 ^ k) := Nat.div_pos (Nat.le_of_dvd (by omega) (Nat.gcd_dvd_left _ _)) hg
      have e1 : (qv b X (10 ^ k)).num.natAbs = X / Nat.gcd X (10 ^ k) := by rw [hnum, signed_abs]
      have e2 : decide ((qv b X (10 ^ k)).num < 0) = b := by
        rw [hnum]
        cases b with
        | false => exact decide_eq_false (by rw [if_neg (by simp)]; omega)
        | true => exact decide_eq_true (by simp; omega)
      have e3 : X / Nat.gcd X (10 ^ k) * 10 ^ k = X * (10 ^ k / Nat.gcd X (10 ^ k)) := by
        have a1 := Nat.div_mul_cancel (Nat.gcd_dvd_left X (10 ^ k))
        have a2 := Nat.div_mul_cancel (Nat.gcd_dvd_right X (10 ^ k))
        generalize Nat.gcd X (10 ^ k) = g at *
        generalize 10 ^ k = t at *
        generalize hx : X / g = x at *
        generalize hy : t / g = y at *
        rw [← a1, ← a2]
        grind
      have hd : 0 < 10 ^ k / Nat.gcd X (10 ^ k) := Nat.div_pos (Nat.le_of_dvd ht (Nat.gcd_dvd_right _ _)) hg
      unfold rndQ
      rw [e1, e2, hden, e3, rnd_mul _ _ hd]; rfl
  exact key _ _
def fq (N i : Nat) : Q := qv false N (10 ^ i)
theorem fq_eq (N i : Nat) : fq N i = (N : Q) / ((10 ^ i : Nat) : Q) := by
  unfold fq qv
  rw [if_neg (by simp), Rat.mkRat_eq_div]; rfl
theorem fq_step (N i : Nat) : fq N i / 10 = fq N (i + 1) := by
  rw [fq_eq, fq_eq, Nat.pow_succ, Rat.natCast_mul, Rat.div_def, Rat.div_def, Rat.div_def, Rat.inv_mul_rev, Rat.mul_assoc, Rat.mul_comm _ (10 : Q)⁻¹]; rfl
theorem fq_len (N i k : Nat) (hN : (ofN N).length ≤ k) (hi : i + 1 ≤ k) : qlen (fq N i) ≤ k := qv_len _ _ _ _ (by omega) hN (Nat.le_trans (ten_len i) hi)
theorem ten_val : (ref2_Int 10).run = some (toR 10) := ref2_Int_run 10 ⟨by omega, by omega⟩
theorem qlen_small (n : Nat) (h : n < 4294967296) : qlen (n : Q) ≤ 1 := by
  unfold qlen
  rw [Rat.num_natCast, Rat.den_natCast, ofN_one]
  exact Nat.max_le.2 ⟨ofN_len_le.2 (by simpa using h), by simp⟩
theorem div_ten (N i : Nat) (hN : (ofN N).length ≤ 1000) (hi : i ≤ 900) : (ref2_Div (toR (fq N i)) (toR 10)).run = some (toR (fq N (i + 1)), true) := by
  have := ref2_Div_run (toR (fq N i)) (toR 10) (ratOk_toR (Nat.le_trans (fq_len N i 1000 hN (by omega)) (by omega))) (ratOk_toR (Nat.le_trans (qlen_small 10 (by omega)) (by omega))) (by rw [val_toR]; decide)
  rwa [val_toR, val_toR, fq_step] at this
end Go.AM.Lf
namespace Go.AM.PL
theorem qabs (z : Q) : qv false z.num.natAbs z.den = if z < 0 then -z else z := by
  by_cases c : z < 0
  · rw [if_pos c, q_neg, decide_eq_true (num_neg.2 c)]; rfl
  · rw [if_neg c]
    have h : ¬ z.num < 0 := fun h => c (num_neg.1 h)
    unfold qv
    rw [if_neg (by simp), show ((z.num.natAbs : Nat) : Int) = z.num by omega, Rat.mkRat_self]
theorem half_alg (x n d t : Q) (hd : 0 < d) (ht : 0 < t) (h1 : 2 * (x * d) ≤ 2 * (n * t) + d) (h2 : 2 * (n * t) ≤ 2 * (x * d) + d) :
    (x / t - n / d) + (x / t - n / d) ≤ 1 / t ∧ -(x / t - n / d) + -(x / t - n / d) ≤ 1 / t := by
  have hT := Rat.inv_pos.2 ht
  have hE := Rat.inv_pos.2 hd
  have e1 : t * t⁻¹ = 1 := Rat.mul_inv_cancel t (fun z => by subst z; exact Rat.lt_irrefl ht)
  have e2 : d * d⁻¹ = 1 := Rat.mul_inv_cancel d (fun z => by subst z; exact Rat.lt_irrefl hd)
  have hTE : 0 ≤ t⁻¹ * d⁻¹ := Rat.le_of_lt (Rat.mul_pos hT hE)
  have k1 := Rat.mul_le_mul_of_nonneg_right h1 hTE
  have k2 := Rat.mul_le_mul_of_nonneg_right h2 hTE
  rw [Rat.div_def, Rat.div_def, Rat.div_def]
  generalize t⁻¹ = T at *
  generalize d⁻¹ = E at *
  have f1 : 2 * (x * d) * (T * E) = 2 * (x * T) * (d * E) := by grind
  have f2 : (2 * (n * t) + d) * (T * E) = 2 * (n * E) * (t * T) + T * (d * E) := by grind
  have f3 : 2 * (n * t) * (T * E) = 2 * (n * E) * (t * T) := by grind
  have f4 : (2 * (x * d) + d) * (T * E) = 2 * (x * T) * (d * E) + T * (d * E) := by grind
  rw [f1, f2, e1, e2] at k1
  rw [f3, f4, e1, e2] at k2
  constructor <;> grind
end Go.AM.PL
namespace Go.AM.Lf
open PL
theorem rnd_near (n d : Nat) (hd : 0 < d) : 2 * (rnd n d * d) ≤ 2 * n + d ∧ 2 * n ≤ 2 * (rnd n d * d) + d := by
  have h1 := Nat.div_add_mod n d
  have h2 := Nat.mod_lt n hd
  unfold rnd
  generalize n / d = a at *
  generalize n % d = r at *
  have e : (a + 1) * d = d * a + d := by grind
  have e2 : a * d = d * a := Nat.mul_comm a d
  split
  · rw [e]; omega
  · rw [e2]; omega
theorem sgn_cast (b : Bool) (n : Nat) : ((sgn b n : Int) : Q) = if b = true then -(n : Q) else (n : Q) := by
  unfold sgn
  cases b with
  | false => rfl
  | true => simp only [if_true]; rfl
theorem nearQ (q : Q) (k : Nat) : (rndQ q k - q) + (rndQ q k - q) ≤ fq 1 k ∧ -(rndQ q k - q) + -(rndQ q k - q) ≤ fq 1 k := by
  have hd := q.den_pos
  have ht : 0 < 10 ^ k := Nat.pow_pos (by omega)
  obtain ⟨h1, h2⟩ := rnd_near (q.num.natAbs * 10 ^ k) q.den hd
  have hq : q = ((sgn (decide (q.num < 0)) q.num.natAbs : Int) : Q) / (q.den : Q) := by rw [sgn_num, ← Rat.mkRat_eq_div, Rat.mkRat_self]
  have hr : rndQ q k = ((sgn (decide (q.num < 0)) (rnd (q.num.natAbs * 10 ^ k) q.den) : Int) : Q) / ((10 ^ k : Nat) : Q) := by unfold rndQ; rw [Rat.mkRat_eq_div]
  have hone : fq 1 k = 1 / ((10 ^ k : Nat) : Q) := by rw [fq_eq]; rfl
  rw [hone, hr]
  have key := half_alg ((rnd (q.num.natAbs * 10 ^ k) q.den : Nat) : Q) ((q.num.natAbs : Nat) : Q) ((q.den : Nat) : Q) ((10 ^ k : Nat) : Q) (Rat.natCast_pos.2 hd) (Rat.natCast_pos.2 ht)
    (by have := (Rat.natCast_le_natCast (a := 2 * (rnd (q.num.natAbs * 10 ^ k) q.den * q.den)) (b := 2 * (q.num.natAbs * 10 ^ k) + q.den)).2 h1; simp only [Rat.natCast_add, Rat.natCast_mul] at this; exact this)
    (by have := (Rat.natCast_le_natCast (a := 2 * (q.num.natAbs * 10 ^ k)) (b := 2 * (rnd (q.num.natAbs * 10 ^ k) q.den * q.den) + q.den)).2 h2; simp only [Rat.natCast_add, Rat.natCast_mul] at this; exact this)
  generalize hx : rnd (q.num.natAbs * 10 ^ k) q.den = x at *
  rw [sgn_cast]
  generalize hb : decide (q.num < 0) = b at *
  rw [sgn_cast] at hq
  generalize ((x : Nat) : Q) = X at *
  generalize ((10 ^ k : Nat) : Q) = t at *
  generalize ((q.num.natAbs : Nat) : Q) = N at *
  generalize ((q.den : Nat) : Q) = D at *
  rw [hq]
  have n1 : ∀ y z : Q, (-y) / z = -(y / z) := fun y z => by rw [Rat.div_def, Rat.div_def, Rat.neg_mul]
  cases b with
  | false =>
    rw [if_neg (by simp), if_neg (by simp)]
    exact key
  | true =>
    rw [if_pos rfl, if_pos rfl, n1, n1]
    obtain ⟨k1, k2⟩ := key
    constructor <;> grind
theorem cmp_le {p q : Q} (h : p ≤ q) : cmpQ p q ≤ 0 := by
  unfold cmpQ
  by_cases c : p < q
  · rw [if_pos c]; omega
  · rw [if_neg c, if_pos (Rat.le_antisymm h (Rat.not_lt.1 c))]; omega
theorem law3_DecRounds_all (a : Rat) (s : Int) (hl : limbs a.2.1 ∧ limbs a.2.2.1) (hbk : a.2.1.length + a.2.2.1.length ≤ 1048576) : (law3_DecRounds a s).run = some true := by
  unfold law3_DecRounds
  have hguard : (T.bind (law3_big ([a] : List Rat)) fun r => .ite r (.ret true) (.ite (decide (s < (0 : Int))) (.ret true) (.ret (decide ((9 : Int) < s)))) : T Bool).run =
      some (decide (16 < a.2.1.length + a.2.2.1.length) || (decide (s < 0) || decide (9 < s))) := by
    rw [T.run_bind_of (big1_run a (by omega))]
    cases decide (16 < a.2.1.length + a.2.2.1.length) with
    | true => rfl
    | false => rw [T.run_ite_false]; cases decide (s < 0) <;> rfl
  rw [T.run_bind_of hguard]
  by_cases hg : 16 < a.2.1.length + a.2.2.1.length ∨ s < 0 ∨ 9 < s
  · rw [T.run_ite_t (by rcases hg with h | h | h <;> simp [h]), T.run_ret]
  · simp only [not_or] at hg
    obtain ⟨g1, g2, g3⟩ := hg
    obtain ⟨k, rfl⟩ := Int.eq_ofNat_of_zero_le (show 0 ≤ s by omega)
    have hck : clampS (k : Int) = k := clamp_id k (by omega)
    have ha : ratOk 1000 a := ⟨hl.1, hl.2, by omega, by omega⟩
    have hR := dec_Round_toR a ha k
    have hRl := rndQ_len a ha k
    rw [hck] at hR hRl
    have h1 : (ref2_Int 1).run = some (toR (fq 1 0)) := ref2_Int_run 1 ⟨by omega, by omega⟩
    have o1 : (ofN 1).length ≤ 1 := by rw [ofN_one]; simp
    have hL : (law3_DecRounds_L0 (k : Int) a (0, toR (rndQ (val a) k), toR (fq 1 0))).run = some (toR (rndQ (val a) k), toR (fq 1 k)) := by
      have := T.loop_run (r := law3_DecRounds_R0 (k : Int) a) (fun st : Int × Rat × Rat => ∃ i : Nat, st = ((i : Int), toR (rndQ (val a) k), toR (fq 1 i)) ∧ i ≤ k) (fun st => k - st.1.toNat) (fun _ => (toR (rndQ (val a) k), toR (fq 1 k))) (fun st hst => ?_) (s := (0, toR (rndQ (val a) k), toR (fq 1 0))) ⟨0, rfl, by omega⟩
      · exact this
      · obtain ⟨i, rfl, hi⟩ := hst
        unfold law3_DecRounds_R0
        dsimp only
        by_cases c : i < k
        · left
          refine ⟨(((i + 1 : Nat) : Int), toR (rndQ (val a) k), toR (fq 1 (i + 1))), ?_, ⟨i + 1, rfl, c⟩, by simp only [Int.toNat_natCast]; omega, rfl⟩
          rw [T.run_ite_t (lt_t c), T.run_bind_of ten_val, T.run_bind_of (div_ten 1 i (by omega) (by omega))]
          dsimp only
          rw [T.run_ret, ix1 i _ c (by omega)]
        · have : i = k := by omega
          subst this
          right
          rw [T.run_ite_f (lt_f _), T.run_ret]
    have hRok : ratOk 10000 (toR (rndQ (val a) k)) := ratOk_toR (by omega)
    have hla := qlen_val (by omega) ha
    have hS := ref2_Sub_run (toR (rndQ (val a) k)) a (ok_up hRok (by omega)) (ok_up ha (by omega))
    rw [val_toR] at hS
    have hFx := dec_Fixed_run a ha k
    rw [hck] at hFx
    -- the text
    have hX : rndR (norm a) k ≤ 10 ^ (160 + k) := by
      unfold rndR
      have hNl := (norm_lens hl.1 hl.2 (by omega)).2
      have hN := limb_dig _ _ hNl
      have hd : nv (norm a).2.2.1 ≠ 0 := ratN_den a.1 (nv a.2.1) (nv a.2.2.1)
      have hle : nv (norm a).2.1 * 10 ^ k + 1 ≤ 10 ^ (160 + k) := by
        rw [Nat.pow_add]
        exact Nat.mul_lt_mul_of_pos_right hN (Nat.pow_pos (by omega))
      have hdv := Nat.div_le_self (nv (norm a).2.1 * 10 ^ k) (nv (norm a).2.2.1)
      unfold rnd
      split <;> omega
    have hpl := pr_lt (rndR (norm a) k) (161 + k) (by omega) (Nat.lt_of_le_of_lt hX (Nat.pow_lt_pow_right (by omega) (by omega)))
    have hpar := parse_ptd ((norm a).1 && decide (rndR (norm a) k ≠ 0)) (rndR (norm a) k) k (by omega)
    have hsame : ratN ((norm a).1 && decide (rndR (norm a) k ≠ 0)) (rndR (norm a) k) (10 ^ k) = toR (rndQ (val a) k) := by
      rw [← round_toR]
      by_cases z : rndR (norm a) k = 0
      · rw [z]; unfold ratN; rw [if_pos (.inl rfl), if_pos (.inl rfl)]
      · rw [show ((norm a).1 && decide (rndR (norm a) k ≠ 0)) = (norm a).1 by simp [z]]
    rw [hsame] at hpar
    have hab := qabs (rndQ (val a) k - val a)
    have hnear := nearQ (val a) k
    have hlz := qlen_sub (rndQ (val a) k) (val a)
    have hidem := rndQ_idem (val a) k
    have hone := law3_one_refl (toR (rndQ (val a) k)) (ok_up hRok (by omega))
    have hR2l : (dec_Round (toR (rndQ (val a) k)) (k : Int)).run = some (toR (rndQ (val a) k)) := by
      have hok2 : ratOk 1000 (toR (rndQ (val a) k)) := by
        refine ratOk_toR ?_
        rw [← round_toR, ratN_toR] at hRok
        have e : rndQ (val a) k = qv (norm a).1 (rndR (norm a) k) (10 ^ k) := by have := round_toR a k; rw [ratN_toR] at this; exact (toR_inj this).symm
        rw [e]
        have hx2 : (ofN (rndR (norm a) k)).length ≤ 200 := ofN_len_le.2 (Nat.lt_of_le_of_lt hX (Nat.lt_of_lt_of_le (Nat.pow_lt_pow_right (a := 10) (m := 160 + k) (n := 200) (by omega) (by omega)) (Nat.pow_le_pow_left (by decide) _)))
        exact qv_len _ _ _ _ (by omega) (Nat.le_trans hx2 (by omega)) (Nat.le_trans (ten_len k) (by omega))
      have := dec_Round_toR (toR (rndQ (val a) k)) hok2 k
      rwa [hck, val_toR, hidem] at this
    generalize rndQ (val a) k - val a = z at *
    have hAdd := ref2_Add_run (false, (toR z).2.1, (toR z).2.2.1, ()) (false, (toR z).2.1, (toR z).2.2.1, ()) (by
      have := ratOk_toR (q := z) (k := 10000000) (by omega)
      exact ⟨this.1, this.2.1, this.2.2.1, this.2.2.2⟩) (by
      have := ratOk_toR (q := z) (k := 10000000) (by omega)
      exact ⟨this.1, this.2.1, this.2.2.1, this.2.2.2⟩)
    have hval : val (false, (toR z).2.1, (toR z).2.2.1, ()) = if z < 0 then -z else z := by
      unfold val
      rw [toR_num, toR_den]
      simp only [nv_ofN]
      exact hab
    rw [hval] at hAdd
    have hle : (if z < 0 then -z else z) + (if z < 0 then -z else z) ≤ fq 1 k := by split; exact hnear.2; exact hnear.1
    have hzl : qlen ((if z < 0 then -z else z) + (if z < 0 then -z else z)) ≤ 100000 := by
      have h := qlen_add (if z < 0 then -z else z) (if z < 0 then -z else z)
      have h2 : qlen (if z < 0 then -z else z) = qlen z := by split; exact qlen_neg z; rfl
      omega
    have hC := ref2_Cmp_run (toR ((if z < 0 then -z else z) + (if z < 0 then -z else z))) (toR (fq 1 k)) (ratOk_toR (by omega)) (ratOk_toR (Nat.le_trans (fq_len 1 k 1000 (by omega) (by omega)) (by omega)))
    rw [val_toR, val_toR] at hC
    have hgf : (decide (16 < a.2.1.length + a.2.2.1.length) || (decide ((k : Int) < 0) || decide (9 < (k : Int)))) = false := by simp; omega
    rw [hgf, T.run_ite_false, T.run_bind_of hR, T.run_bind_of h1, T.run_bind_of hL]
    dsimp only
    rw [T.run_bind_of hS, T.run_bind_of hFx]
    unfold fixedS
    rw [T.run_bind_of hpar]
    dsimp only
    rw [T.run_bind_of hAdd, T.run_bind_of hC, T.run_ite_t (decide_eq_true (cmp_le hle)), T.run_bind_of hR2l, T.run_bind_of hone, T.run_ite_true, T.run_ite_t (by rfl), T.run_bind_of hone, T.run_ite_true, T.run_bind_of known_run, T.run_ret]
theorem law3_DecRounds_law (x : denL [tyRat, i64]) (hw : wfL [tyRat, i64] x) (hb : bkL [tyRat, i64] x ≤ 1048576) : (law3_DecRounds (toPs [tyRat, i64] x).1 (toPs [tyRat, i64] x).2).run = some true := by
  obtain ⟨a, s, u⟩ := x
  have h : bkL [tyRat, i64] (a, s, u) = bk tyRat a + (bk i64 s + 0) := rfl
  exact law3_DecRounds_all a s (rat_wf hw.1) (rat_bk (a := a) (k := 1048576) (by omega))
end Go.AM.Lf
