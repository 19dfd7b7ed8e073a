/-
  Plain laws of the lifted program, part 1.
-/
import Derived.Test.YtalglafbfldajaaGreatDoorLf0
import Derived.Test.YtalglafbfldajaaGreatDoorAmA
import Derived.Test.YtalglafbfldajaaGreatDoorAmD
import Derived.Test.YtalglafbfldajaaGreatDoorQ0
set_option linter.unusedVariables false
namespace Go.AM.T
variable {σ ρ α β : Type}
theorem loop_fold {r : σ → T (σ ⊕ ρ)} (l : List α) (d : α) (e : β → Int → σ) (I : Nat → β → Prop) (g : β → α → β) (fin : β → ρ)
  (step : ∀ (k : Nat) (b : β) (x : α), k < l.length → nth l (k : Int) d = x → x ∈ l → I k b → (r (e b (k : Int))).run = some (.inl (e (g b x) ((k + 1 : Nat) : Int))) ∧ I (k + 1) (g b x))
  (done : ∀ b, I l.length b → (r (e b (l.length : Int))).run = some (.inr (fin b))) {b : β} (h0 : I 0 b) : (loop r (e b 0)).run = some (fin (l.foldl g b)) ∧ I l.length (l.foldl g b) := by
 have key : ∀ (n k : Nat) (b : β), n + k = l.length → I k b → (loop r (e b (k : Int))).run = some (fin ((l.drop k).foldl g b)) ∧ I l.length ((l.drop k).foldl g b) := by
  intro n
  induction n with
  | zero =>
   intro k b hk hb
   have : k = l.length := by omega
   subst this
   rw [List.drop_length]
   exact ⟨loop_done (done b hb), hb⟩
  | succ n ih =>
   intro k b hk hb
   have hlt : k < l.length := by omega
   have hd : l.drop k = l[k] :: l.drop (k + 1) := List.drop_eq_getElem_cons hlt
   have hn : nth l (k : Int) d = l[k] := by simp [nth, hlt]
   obtain ⟨h1, h2⟩ := step k b l[k] hlt hn (List.getElem_mem hlt) hb
   rw [hd, List.foldl_cons, loop_step h1]
   exact ih (k + 1) _ (by omega) h2
 have := key l.length 0 b (by omega) h0
 simpa using this
theorem loop_scan {r : σ → T (σ ⊕ ρ)} (l : List α) (d : α) (e : β → Int → σ) (I : Nat → β → Prop) (f : List α → β → ρ)
  (step : ∀ (k : Nat) (b : β) (x : α) (xs : List α), k < l.length → nth l (k : Int) d = x → x ∈ l → l.drop k = x :: xs → I k b →
   (∃ b', (r (e b (k : Int))).run = some (.inl (e b' ((k + 1 : Nat) : Int))) ∧ I (k + 1) b' ∧ f xs b' = f (x :: xs) b) ∨ (r (e b (k : Int))).run = some (.inr (f (x :: xs) b)))
  (done : ∀ b, I l.length b → (r (e b (l.length : Int))).run = some (.inr (f [] b))) {b : β} (h0 : I 0 b) : (loop r (e b 0)).run = some (f l b) := by
 have key : ∀ (n k : Nat) (b : β), n + k = l.length → I k b → (loop r (e b (k : Int))).run = some (f (l.drop k) b) := by
  intro n
  induction n with
  | zero =>
   intro k b hk hb
   have : k = l.length := by omega
   subst this
   rw [List.drop_length]
   exact loop_done (done b hb)
  | succ n ih =>
   intro k b hk hb
   have hlt : k < l.length := by omega
   have hd : l.drop k = l[k] :: l.drop (k + 1) := List.drop_eq_getElem_cons hlt
   have hn : nth l (k : Int) d = l[k] := by simp [nth, hlt]
   rcases step k b l[k] _ hlt hn (List.getElem_mem hlt) hd hb with ⟨b', h1, h2, h3⟩ | h1
   ·rw [hd, loop_step h1, ← h3]
    exact ih (k + 1) _ (by omega) h2
   ·rw [hd]; exact loop_done h1
 have := key l.length 0 b (by omega) h0
 simpa using this
end Go.AM.T
namespace Go.AM.PL
theorem ix1 (k n : Nat) (h : k < n) (hn : n ≤ 4000000000000) : w64 ((k : Int) + 1) = ((k + 1 : Nat) : Int) := by rw [w64_in (by omega) (by omega)]; omega
theorem lt_t {k n : Nat} (h : k < n) : decide ((k : Int) < (n : Int)) = true := decide_eq_true (by omega)
theorem lt_f (n : Nat) : decide ((n : Int) < (n : Int)) = false := decide_eq_false (by omega)
theorem idx_ok {k n : Nat} (h : k < n) : idxOk (k : Int) n := ⟨by omega, by omega⟩
theorem cat_eq (a b : Str) : cat a b = a ++ b := rfl
theorem len_cat (a b : Str) : (cat a b).length = a.length + b.length := by rw [cat_eq, List.length_append]
end Go.AM.PL
namespace Go.AM.Lf
open PL
theorem limbs_wf {l : List Int} (h : wf (.sl u32) l) : limbs l := fun x hx => by
 obtain ⟨p, q⟩ := h x hx
 have p' : (0 : Int) ≤ x := p
 have q' : x ≤ 4294967295 := q
 exact ⟨p', by omega⟩
theorem rat_wf {a : Rat} (h : wf tyRat a) : limbs a.2.1 ∧ limbs a.2.2.1 := ⟨limbs_wf h.2.1, limbs_wf h.2.2.1⟩
end Go.AM.Lf
namespace Go.AM.PL
def isD (b : UInt8) : Bool := decide (48 ≤ b.toNat ∧ b.toNat ≤ 57)
def digs (s : Str) : Bool := s.all isD
def dval (s : Str) : Nat := s.foldl (fun n b => n * 10 + (b.toNat - 48)) 0
theorem dval_from (s : Str) (n : Nat) : s.foldl (fun n b => n * 10 + (b.toNat - 48)) n = n * 10 ^ s.length + dval s := by
 unfold dval
 induction s generalizing n with
 | nil => simp
 | cons b s ih =>
  rw [List.foldl_cons, List.foldl_cons, ih, ih (0 * 10 + (b.toNat - 48)), List.length_cons, Nat.pow_succ]
  grind
theorem dval_app (s t : Str) : dval (s ++ t) = dval s * 10 ^ t.length + dval t := by
 have := dval_from t (dval s)
 unfold dval at this ⊢
 rw [List.foldl_append, this]
theorem dval_snoc (s : Str) (b : UInt8) : dval (s ++ [b]) = dval s * 10 + (b.toNat - 48) := by
 unfold dval; rw [List.foldl_append]; rfl
theorem isD_iff {b : UInt8} : isD b = true ↔ 48 ≤ b.toNat ∧ b.toNat ≤ 57 := by unfold isD; simp
theorem dval_lt {s : Str} (h : digs s = true) : dval s < 10 ^ s.length := by
 have key : ∀ (s : Str) (n k : Nat), digs s = true → n < 10 ^ k → s.foldl (fun n b => n * 10 + (b.toNat - 48)) n < 10 ^ (k + s.length) := by
  intro s
  induction s with
  | nil => intro n k _ h; simpa using h
  | cons b s ih =>
   intro n k hd hn
   simp only [digs, List.all_cons, Bool.and_eq_true] at hd
   have hb := isD_iff.1 hd.1
   have := ih (n * 10 + (b.toNat - 48)) (k + 1) hd.2 (by rw [Nat.pow_succ]; omega)
   rw [List.foldl_cons, List.length_cons]
   rwa [show k + (s.length + 1) = k + 1 + s.length by omega]
 have := key s 0 0 h (by simp)
 simpa [dval] using this
theorem digs_app (s t : Str) : digs (s ++ t) = (digs s && digs t) := by unfold digs; rw [List.all_append]
theorem digs_cons (b : UInt8) (t : Str) : digs (b :: t) = (isD b && digs t) := rfl
theorem dval_len {s : Str} (h : digs s = true) : (ofN (dval s)).length ≤ s.length + 1 := by
 refine Nat.le_trans (ofN_mono (Nat.le_of_lt (dval_lt h))) ?_
 refine ofN_len_le.2 (Nat.lt_of_lt_of_le (Nat.pow_lt_pow_right (a := 10) (by omega) (Nat.lt_succ_self s.length)) ?_)
 exact Nat.pow_le_pow_left (by omega) _
def natO (s : Str) : Option Nat := if s = [] ∨ 400 < s.length ∨ digs s = false then none else some (dval s)
theorem arrAt_arrF (f : Nat → Bool) : ∀ (n k i : Nat), i < n → arrAt .bool (arrN .bool n) (arrF (e := .bool) f n k) i = f (k + i)
 | 0, _, _, h => by omega
 | n + 1, k, 0, _ => by
  show (match (castTy (a := .bool) (f k) : Option (den .bool)) with | some y => y | none => dflt .bool) = _
  simp [castTy]
 | n + 1, k, i + 1, h => by
  show arrAt .bool (arrN .bool n) (arrF (e := .bool) f n (k + 1)) i = _
  rw [arrAt_arrF f n (k + 1) i (by omega)]
  congr 1; omega
abbrev digitsS : Str := [48, 49, 50, 51, 52, 53, 54, 55, 56, 57]
theorem dig_tab : ∀ c : Fin 256, digitsS.contains (UInt8.ofNat c.val) = decide (48 ≤ c.val ∧ c.val ≤ 57) := by decide +kernel
theorem byteAt_get {s : Str} {k : Nat} (h : k < s.length) : byteAt s (k : Int) = ((s[k]).toNat : Int) := by
 unfold byteAt; simp [h]
theorem cutS_drop1 (b : UInt8) (s : Str) : cutS 1 (((b :: s).length : Nat) : Int) (b :: s) = s := by unfold cutS; simp
theorem cutS_init (s : Str) (b : UInt8) : cutS 0 ((s.length : Nat) : Int) (s ++ [b]) = s := by unfold cutS; simp
end Go.AM.PL
namespace Go.AM.Lf
open PL
theorem contains_run (b : UInt8) : (strings_asciiSet_contains (asciiF digitsS) (b.toNat : Int)).run = some (isD b) := by
 have hb : b.toNat < 256 := b.toNat_lt
 unfold strings_asciiSet_contains
 rw [T.run_obl ⟨by omega, by omega⟩, T.run_ret]
 unfold asciiF
 rw [Int.toNat_natCast, arrAt_arrF _ 256 0 _ hb, Nat.zero_add]
 exact congrArg some (dig_tab ⟨b.toNat, hb⟩)
theorem trimRight_run (s : Str) (hs : s.length ≤ 1000000000) : ∃ r, (strings_trimRightASCII s (asciiF digitsS)).run = some r ∧ digs r = digs s ∧ (digs r = true → r = []) ∧ r.length ≤ s.length := by
 have := T.loop_post (r := strings_trimRightASCII_R0 (asciiF digitsS)) (fun t : Str => digs t = digs s ∧ t.length ≤ s.length) (fun t => t.length) (fun r : Str => digs r = digs s ∧ (digs r = true → r = []) ∧ r.length ≤ s.length) (fun t ht => ?_) (s := s) ⟨rfl, Nat.le_refl _⟩
 ·obtain ⟨r, h1, h2⟩ := this
  have h1 : (strings_trimRightASCII_L0 (asciiF digitsS) s).run = some r := h1
  unfold strings_trimRightASCII
  rw [T.run_bind_of h1]
  exact ⟨r, rfl, h2⟩
 ·rcases List.eq_nil_or_concat t with rfl | ⟨l, b, rfl⟩
  ·right
   refine ⟨[], ?_, ht.1, fun _ => rfl, by simp⟩
   unfold strings_trimRightASCII_R0
   dsimp only
   rw [T.run_ite_f (by rfl), T.run_ret]
  ·rw [List.concat_eq_append] at ht ⊢
   have hl : (l ++ [b]).length = l.length + 1 := by simp
   have e1 : w64 (((l ++ [b]).length : Int) - 1) = (l.length : Int) := by rw [hl, w64_in (by omega) (by omega)]; omega
   have e2 : byteAt (l ++ [b]) (l.length : Int) = (b.toNat : Int) := by rw [byteAt_get (by simp)]; simp
   unfold strings_trimRightASCII_R0
   dsimp only
   rw [T.run_ite_t (decide_eq_true (by rw [hl]; omega)), e1, T.run_idx _ (by omega) (by rw [hl]; omega), e2, T.run_bind_of (contains_run b)]
   cases hb : isD b with
   | false =>
    right
    refine ⟨_, by rw [T.run_ite_t (by rfl), T.run_ret], ht.1, fun h => ?_, ht.2⟩
    rw [digs_app, digs_cons, hb] at h; simp at h
   | true =>
    left
    refine ⟨l, by rw [T.run_ite_f (by rfl), T.run_sl _ (by omega) (by omega) (by rw [hl]; omega), T.run_ret, cutS_init], ⟨?_, by omega⟩, by omega⟩
    rw [← ht.1, digs_app, digs_cons, hb]; simp [digs]
theorem trimLeft_run (s : Str) (hs : s.length ≤ 1000000000) : ∃ r, (strings_trimLeftASCII s (asciiF digitsS)).run = some r ∧ digs r = digs s ∧ (digs r = true → r = []) := by
 have := T.loop_post (r := strings_trimLeftASCII_R0 (asciiF digitsS)) (fun t : Str => digs t = digs s) (fun t => t.length) (fun r : Str => digs r = digs s ∧ (digs r = true → r = [])) (fun t ht => ?_) (s := s) rfl
 ·obtain ⟨r, h1, h2⟩ := this
  have h1 : (strings_trimLeftASCII_L0 (asciiF digitsS) s).run = some r := h1
  unfold strings_trimLeftASCII
  rw [T.run_bind_of h1]
  exact ⟨r, rfl, h2⟩
 ·cases t with
  | nil =>
   right
   refine ⟨[], ?_, ht, fun _ => rfl⟩
   unfold strings_trimLeftASCII_R0
   dsimp only
   rw [T.run_ite_f (by rfl), T.run_ret]
  | cons b l =>
   have e2 : byteAt (b :: l) 0 = (b.toNat : Int) := rfl
   unfold strings_trimLeftASCII_R0
   dsimp only
   rw [T.run_ite_t (decide_eq_true (by simp)), T.run_idx _ (by omega) (by simp), e2, T.run_bind_of (contains_run b)]
   cases hb : isD b with
   | false =>
    right
    refine ⟨_, by rw [T.run_ite_t (by rfl), T.run_ret], ht, fun h => ?_⟩
    rw [digs_cons, hb] at h; simp at h
   | true =>
    left
    refine ⟨l, by rw [T.run_ite_f (by rfl), T.run_sl _ (by omega) (by simp; omega) (by omega), T.run_ret, cutS_drop1], ?_, by simp⟩
    rw [← ht, digs_cons, hb]; rfl
theorem ascii_digits : ∀ (j : Nat) b, digitsS[j]? = some b → b.toNat < 128 := by
 intro j b h
 have : b ∈ digitsS := List.mem_of_getElem? h
 simp only [digitsS, List.mem_cons, List.not_mem_nil, or_false] at this
 rcases this with rfl | rfl | rfl | rfl | rfl | rfl | rfl | rfl | rfl | rfl <;> decide
theorem Trim_digits_run (s : Str) (hs : s.length ≤ 1000000000) (hn : s ≠ []) : ∃ r, (strings_Trim s digitsS).run = some r ∧ strEq r [] = digs s := by
 obtain ⟨r1, a1, a2, a3, a4⟩ := trimRight_run s hs
 obtain ⟨r, b1, b2, b3⟩ := trimLeft_run r1 (by omega)
 refine ⟨r, ?_, ?_⟩
 ·have hm : (strings_makeASCIISet digitsS).run = some (asciiF digitsS, true) := by
   unfold strings_makeASCIISet
   rw [T.run_obl ⟨by decide, ascii_digits⟩, T.run_ret]
  have e1 : strEq s [] = false := by rw [strEq_iff]; simpa using hn
  unfold strings_Trim
  rw [T.run_ite_f (by rw [e1]; rfl), T.run_obl (fun h => by simp at h), T.run_ite_f (by rfl), T.run_bind_of hm, T.run_ite_true, T.run_bind_of a1, T.run_bind_of b1, T.run_ret]
 ·rw [strEq_iff]
  rw [a2] at b2
  cases h : digs s with
  | true => rw [h] at b2; rw [b3 b2]; simp
  | false =>
   rw [h] at b2
   refine decide_eq_false fun z => ?_
   subst z; cases b2
theorem step10 (v : Nat) (b : UInt8) (hb : isD b = true) : wu64 (wu8 ((b.toNat : Int) - 48)) = ((b.toNat - 48 : Nat) : Int) := by
 have := isD_iff.1 hb
 rw [wu8_in (by omega) (by omega), wu64_in (by omega) (by omega)]; omega
theorem ten_limbs : limbs [(10 : Int)] := by intro x hx; simp at hx; omega
theorem nat_Parse_run (s : Str) (hs : s.length ≤ 1000000000) : (nat_Parse s).run = some (match natO s with | some n => (ofN n, true) | none => ([], false)) := by
 unfold nat_Parse natO
 by_cases c1 : s = []
 ·subst c1; rw [if_pos (.inl rfl)]; rfl
 ·have e1 : strEq s [] = false := by rw [strEq_iff]; simpa using c1
  by_cases c2 : 400 < s.length
  ·have hg : (.ite (strEq s ([] : Str)) (.ret true) (.ite (decide ((400 : Int) < (Nat.cast (List.length s) : Int))) (.ret true) (T.bind (strings_Trim s ([48, 49, 50, 51, 52, 53, 54, 55, 56, 57] : Str)) fun r => .ret (!(strEq r ([] : Str))))) : T Bool).run = some true := by
    rw [T.run_ite_f e1, T.run_ite_t (decide_eq_true (by omega)), T.run_ret]
   rw [T.run_bind_of hg, if_pos (.inr (.inl c2))]; rfl
  ·obtain ⟨r, h1, h2⟩ := Trim_digits_run s hs c1
   have hg : (.ite (strEq s ([] : Str)) (.ret true) (.ite (decide ((400 : Int) < (Nat.cast (List.length s) : Int))) (.ret true) (T.bind (strings_Trim s ([48, 49, 50, 51, 52, 53, 54, 55, 56, 57] : Str)) fun r => .ret (!(strEq r ([] : Str))))) : T Bool).run = some (!(digs s)) := by
    rw [T.run_ite_f e1, T.run_ite_f (decide_eq_false (by omega)), T.run_bind_of h1, T.run_ret, h2]
   rw [T.run_bind_of hg]
   cases hd : digs s with
   | false => rw [if_pos (.inr (.inr rfl))]; rfl
   | true =>
    rw [if_neg (by simp [c1]; omega), T.run_ite_f (by rfl)]
    have hL : (nat_Parse_L0 s (s.length : Int) ([], 0)).run = some (ofN (dval s)) := by
     have := T.loop_run (r := nat_Parse_R0 s (s.length : Int)) (fun st : List Int × Int => ∃ k : Nat, st = (ofN (dval (s.take k)), (k : Int)) ∧ k ≤ s.length) (fun st => s.length - st.2.toNat) (fun _ => ofN (dval s)) (fun st hst => ?_) (s := ([], 0)) ⟨0, by simp [dval, ofN_zero], by omega⟩
     ·exact this
     ·obtain ⟨k, rfl, hk⟩ := hst
      by_cases c : k < s.length
      ·left
       have hb : isD s[k] = true := List.all_eq_true.1 hd _ (List.getElem_mem c)
       have ht : digs (s.take k) = true := List.all_eq_true.2 fun x hx => List.all_eq_true.1 hd x (List.mem_of_mem_take hx)
       have hl := dval_len ht
       have hl' : (ofN (dval (s.take k))).length ≤ 500 := by rw [List.length_take] at hl; omega
       have hm := nat_Mul_run (ofN (dval (s.take k))) [10] (limbs_ofN _) ten_limbs (by omega) (by simp)
       rw [nv_ofN, show nv [10] = 10 from rfl] at hm
       have hml := ofN_mul_len (dval (s.take k)) 10
       have h10 : (ofN 10).length ≤ 1 := ofN_len_le.2 (by decide)
       have hd9 : (ofN (s[k].toNat - 48)).length ≤ 1 := ofN_len_le.2 (by have := isD_iff.1 hb; show _ < 4294967296 ^ 1; omega)
       have ha := nat_Add_run (ofN (dval (s.take k) * 10)) (ofN (s[k].toNat - 48)) (limbs_ofN _) (limbs_ofN _) (by omega) (by omega)
       rw [nv_ofN, nv_ofN] at ha
       refine ⟨(ofN (dval (s.take (k + 1))), ((k + 1 : Nat) : Int)), ?_, ⟨k + 1, rfl, c⟩, by simp only [Int.toNat_natCast]; omega, rfl⟩
       unfold nat_Parse_R0
       dsimp only
       rw [T.run_ite_t (lt_t c), T.run_bind_of hm, T.run_obl (idx_ok c), byteAt_get c, step10 0 _ hb, T.run_bind_of (nat_Of_run _ (by have := isD_iff.1 hb; omega)), T.run_bind_of ha, T.run_ret, ix1 k _ c (by omega),
        List.take_succ_eq_append_getElem c, dval_snoc]
      ·have : k = s.length := by omega
       subst this
       right
       unfold nat_Parse_R0
       dsimp only
       rw [T.run_ite_f (lt_f _), T.run_ret, List.take_length]
    rw [T.run_bind_of hL, T.run_ret]
end Go.AM.Lf
namespace Go.AM.PL
def decT (t : Str) : Option (Nat × Nat) :=
 if t.takeWhile isD = [] then none else match t.dropWhile isD with
 | [] => some (dval (t.takeWhile isD), 1)
 | c :: q => if q = [] ∨ digs q = false then none else if c = 46 then some (dval (t.takeWhile isD) * 10 ^ q.length + dval q, 10 ^ q.length)
  else if c = 47 then (if dval q = 0 then none else some (dval (t.takeWhile isD), dval q)) else none
theorem takeWhile_digs {u : Str} (h : digs u = true) (r : Str) (hr : ∀ c q, r = c :: q → isD c = false) : (u ++ r).takeWhile isD = u ∧ (u ++ r).dropWhile isD = r := by
 induction u with
 | nil =>
  cases r with
  | nil => exact ⟨rfl, rfl⟩
  | cons c q => have := hr c q rfl; simp [this]
 | cons b u ih =>
  rw [digs_cons, Bool.and_eq_true] at h
  obtain ⟨i1, i2⟩ := ih h.2
  simp [h.1, i1, i2]
theorem decT_all {u : Str} (h : digs u = true) : decT u = if u = [] then none else some (dval u, 1) := by
 have := takeWhile_digs h [] (fun c q z => by cases z)
 rw [List.append_nil] at this
 unfold decT
 rw [this.1, this.2]
theorem decT_cut {u : Str} (h : digs u = true) (c : UInt8) (q : Str) (hc : isD c = false) : decT (u ++ c :: q) = if u = [] then none else if q = [] ∨ digs q = false then none else if c = 46 then some (dval u * 10 ^ q.length + dval q, 10 ^ q.length)
  else if c = 47 then (if dval q = 0 then none else some (dval u, dval q)) else none := by
 have := takeWhile_digs h (c :: q) (fun c' q' z => by cases z; exact hc)
 unfold decT
 rw [this.1, this.2]
theorem decT_bad {u : Str} (h : digs u = true) (c : UInt8) (q : Str) (hc : isD c = false) (h1 : c ≠ 46) (h2 : c ≠ 47) : decT (u ++ c :: q) = none := by
 rw [decT_cut h c q hc, if_neg h1, if_neg h2]
 split
 ·rfl
 ·split <;> rfl
theorem split_nondig {w : Str} (h : digs w = false) : ∃ u c v, w = u ++ c :: v ∧ digs u = true ∧ isD c = false := by
 induction w with
 | nil => cases h
 | cons b w ih =>
  cases hb : isD b with
  | false => exact ⟨[], b, w, rfl, rfl, hb⟩
  | true =>
   rw [digs_cons, hb, Bool.true_and] at h
   obtain ⟨u, c, v, rfl, h1, h2⟩ := ih h
   exact ⟨b :: u, c, v, rfl, by rw [digs_cons, hb, h1]; rfl, h2⟩
theorem split_at {c : UInt8} {s : Str} (h : c ∈ s) : ∃ w q, s = w ++ c :: q ∧ c ∉ w := by
 induction s with
 | nil => cases h
 | cons b s ih =>
  by_cases hb : b = c
  ·subst hb; exact ⟨[], s, rfl, by simp⟩
  ·obtain ⟨w, q, rfl, h2⟩ := ih (by rcases List.mem_cons.1 h with h | h; exact absurd h.symm hb; exact h)
   exact ⟨b :: w, q, rfl, by simp [h2]; exact fun z => hb z.symm⟩
theorem idxS_at (c : UInt8) (w q : Str) (h : c ∉ w) : idxS (w ++ c :: q) [c] = (w.length : Int) := by
 induction w with
 | nil => simp [idxS]
 | cons b w ih =>
  have hb : c ≠ b := fun z => h (by simp [z])
  have hw := ih (fun z => h (List.mem_cons_of_mem _ z))
  rw [List.cons_append]
  unfold idxS
  rw [hw]
  have e1 : List.isPrefixOf [c] (b :: (w ++ c :: q)) = false := by simp [List.isPrefixOf, hb]
  rw [e1]
  have e2 : ((w.length : Int) == -1) = false := by simp
  rw [e2]
  simp
theorem idxS_none (c : UInt8) (s : Str) (h : c ∉ s) : idxS s [c] = -1 := by
 induction s with
 | nil => rfl
 | cons b w ih =>
  have hb : c ≠ b := fun z => h (by simp [z])
  unfold idxS
  rw [ih (fun z => h (List.mem_cons_of_mem _ z))]
  have e1 : List.isPrefixOf [c] (b :: w) = false := by simp [List.isPrefixOf, hb]
  rw [e1]; rfl
theorem cutSt_at (c : UInt8) (w q : Str) (h : c ∉ w) : cutSt (w ++ c :: q) [c] = (w, q, true) := by
 unfold cutSt
 rw [idxS_at c w q h, if_pos (by omega)]
 simp
theorem cutSt_none (c : UInt8) (s : Str) (h : c ∉ s) : cutSt s [c] = (s, [], false) := by
 unfold cutSt
 rw [idxS_none c s h, if_neg (by omega)]
theorem natO_some {s : Str} {n : Nat} (h : natO s = some n) : s ≠ [] ∧ s.length ≤ 400 ∧ digs s = true ∧ n = dval s := by
 unfold natO at h
 split at h
 ·cases h
 ·rename_i hc
  cases h
  simp only [not_or] at hc
  exact ⟨hc.1, by omega, by simpa using hc.2.2, rfl⟩
theorem natO_of {s : Str} (h1 : s ≠ []) (h2 : s.length ≤ 400) (h3 : digs s = true) : natO s = some (dval s) := by
 unfold natO
 rw [if_neg (by simp [h1, h3]; omega)]
theorem natO_no {s : Str} (h : s = [] ∨ digs s = false) : natO s = none := by
 unfold natO
 rw [if_pos (by rcases h with h | h; exact .inl h; exact .inr (.inr h))]
end Go.AM.PL
namespace Go.AM.Lf
open PL
def zeroR : Rat := (false, [], [], ())
def decP (s : Str) : Option (Nat × Nat) := decT (trimPre s [45])
theorem trimPre_len (s p : Str) : (trimPre s p).length ≤ s.length := by unfold trimPre; split <;> simp
theorem parse_core (t : Str) (ht : t.length ≤ 400) (neg : Bool) :
  (T.bind (strings_Cut t ([46] : Str)) fun (whole, part, ok) =>
   .ite ok
    (T.bind (nat_Parse part) fun (r, is) =>
     .obl (((List.length whole) + (List.length part)) ≤ (4611686018427387904 : Nat)) <|
     T.bind (nat_Parse (cat whole part)) fun (n, both) =>
     .ite ((strEq whole ([] : Str)) || ((!is) || (!both)))
      (.ret ((false, (([] : List Int), (([] : List Int), ()))), (2 : Int)))
      (T.bind (dec_ten (Nat.cast (List.length part) : Int)) fun r1 =>
       T.bind (rat_Of neg n r1) fun r2 =>
       .ret (r2, (0 : Int))))
    (T.bind (strings_Cut t ([47] : Str)) fun (num, den, ok1) =>
     T.bind (nat_Parse num) fun (n1, is1) =>
     T.bind (nat_Parse (bif (!ok1) then ([49] : Str) else den)) fun (d, both1) =>
     .ite ((!is1) || ((!both1) || ((Nat.cast (List.length d) : Int) == (0 : Int))))
      (.ret ((false, (([] : List Int), (([] : List Int), ()))), (2 : Int)))
      (T.bind (rat_Of neg n1 d) fun r3 =>
       .ret (r3, (0 : Int)))) : T (Rat × Int)).run = some (match decT t with | some (n, d) => (ratN neg n d, (0 : Int)) | none => (zeroR, (2 : Int))) := by
 have hcut : ∀ c : UInt8, (strings_Cut t [c]).run = some (cutSt t [c]) := fun c => by
  unfold strings_Cut; rw [T.run_obl (by omega), T.run_ret]
 rw [T.run_bind_of (hcut 46)]
 have h46 : isD 46 = false := by decide
 have h47 : isD 47 = false := by decide
 by_cases c1 : (46 : UInt8) ∈ t
 ·obtain ⟨w, p, rfl, hw⟩ := split_at c1
  rw [cutSt_at 46 w p hw]
  have hl : w.length + p.length + 1 ≤ 400 := by simp at ht; omega
  dsimp only
  rw [T.run_ite_true, T.run_bind_of (nat_Parse_run p (by omega))]
  have hwp := nat_Parse_run (cat w p) (by rw [len_cat]; omega)
  by_cases d1 : digs w = true
  ·rw [decT_cut d1 46 p h46]
   by_cases d2 : w = []
   ·subst d2
    rw [if_pos rfl]
    generalize natO p = o at *
    cases o <;> (dsimp only; rw [T.run_leN _ (by simp; omega), T.run_bind_of hwp]; generalize natO (cat [] p) = o2; cases o2 <;> rfl)
   ·rw [if_neg d2]
    by_cases d3 : p = [] ∨ digs p = false
    ·rw [if_pos d3, natO_no d3]
     dsimp only
     rw [T.run_leN _ (by omega), T.run_bind_of hwp]
     generalize natO (cat w p) = o2
     cases o2 <;> (dsimp only; rw [T.run_ite_t (by simp), T.run_ret]; rfl)
    ·rw [if_neg d3, if_pos rfl]
     have d4 : p ≠ [] := fun z => d3 (.inl z)
     have d5 : digs p = true := by cases h : digs p with | true => rfl | false => exact absurd (.inr h) d3
     have d6 : digs (cat w p) = true := by rw [cat_eq, digs_app, d1, d5]; rfl
     have d7 : cat w p ≠ [] := by rw [cat_eq]; simp [d2]
     rw [natO_of d4 (by omega) d5]
     rw [natO_of d7 (by rw [len_cat]; omega) d6] at hwp
     dsimp only at hwp ⊢
     have e1 : strEq w [] = false := by rw [strEq_iff]; simpa using d2
     have h10 := ten_len p.length
     have hn := dval_len d6
     have ho := rat_Of_run neg (ofN (dval (cat w p))) (ofN (10 ^ p.length)) (limbs_ofN _) (limbs_ofN _) (by rw [len_cat] at hn; omega) (by omega)
     rw [nv_ofN, nv_ofN] at ho
     rw [T.run_leN _ (by omega), T.run_bind_of hwp]
     dsimp only
     rw [T.run_ite_f (by rw [e1]; rfl), T.run_bind_of (dec_ten_run p.length (by omega)), T.run_bind_of ho, T.run_ret, cat_eq, dval_app]
  ·have d1 : digs w = false := by simpa using d1
   obtain ⟨u, c, v, rfl, g1, g2⟩ := split_nondig d1
   have hc46 : c ≠ 46 := fun z => hw (by simp [z])
   have e : decT (u ++ c :: v ++ 46 :: p) = none := by
    rw [List.append_assoc, List.cons_append, decT_cut g1 c _ g2]
    have : digs (v ++ 46 :: p) = false := by rw [digs_app, digs_cons, h46]; simp
    rw [if_pos (show v ++ 46 :: p = [] ∨ digs (v ++ 46 :: p) = false from .inr this)]; split <;> rfl
   rw [e]
   have hno : natO (cat (u ++ c :: v) p) = none := natO_no (.inr (by rw [cat_eq, digs_app, d1]; rfl))
   rw [hno] at hwp
   generalize natO p = o at *
   cases o <;> (dsimp only; rw [T.run_leN _ (by omega), T.run_bind_of hwp]; dsimp only; rw [T.run_ite_t (by simp), T.run_ret]; rfl)
 ·rw [cutSt_none 46 t c1]
  dsimp only
  rw [T.run_ite_false, T.run_bind_of (hcut 47)]
  have fin : ∀ (num den : Str) (x : Bool), num.length ≤ 400 → den.length ≤ 400 → (T.bind (nat_Parse num) fun (n1, is1) =>
     T.bind (nat_Parse (bif (!x) then ([49] : Str) else den)) fun (d, both1) =>
     .ite ((!is1) || ((!both1) || ((Nat.cast (List.length d) : Int) == (0 : Int))))
      (.ret ((false, (([] : List Int), (([] : List Int), ()))), (2 : Int)))
      (T.bind (rat_Of neg n1 d) fun r3 => .ret (r3, (0 : Int))) : T (Rat × Int)).run =
     some (match natO num, natO (bif (!x) then ([49] : Str) else den) with | some n, some d => if d = 0 then (zeroR, (2 : Int)) else (ratN neg n d, (0 : Int)) | _, _ => (zeroR, (2 : Int))) := by
   intro num den x hn hd
   have hd2 : (bif (!x) then ([49] : Str) else den).length ≤ 400 := by cases x <;> simp [hd]
   generalize (bif (!x) then ([49] : Str) else den) = dd at *
   rw [T.run_bind_of (nat_Parse_run num (by omega))]
   have hdd := nat_Parse_run dd (by omega)
   cases h1 : natO num with
   | none =>
    dsimp only
    rw [T.run_bind_of hdd]
    generalize natO dd = o
    cases o <;> rfl
   | some n =>
    dsimp only
    rw [T.run_bind_of hdd]
    cases h2 : natO dd with
    | none => rfl
    | some d =>
     obtain ⟨a1, a2, a3, rfl⟩ := natO_some h1
     obtain ⟨b1, b2, b3, rfl⟩ := natO_some h2
     dsimp only
     have l1 := dval_len a3
     have l2 := dval_len b3
     by_cases z : dval dd = 0
     ·rw [z, ofN_zero, if_pos rfl]; rfl
     ·rw [if_neg z]
      have : (ofN (dval dd)).length ≠ 0 := fun h => z (ofN_eq_nil.1 (List.eq_nil_of_length_eq_zero h))
      have ho := rat_Of_run neg (ofN (dval num)) (ofN (dval dd)) (limbs_ofN _) (limbs_ofN _) (by omega) (by omega)
      rw [nv_ofN, nv_ofN] at ho
      rw [T.run_ite_f (by simp; exact fun h => z (ofN_eq_nil.1 h)), T.run_bind_of ho, T.run_ret]
  by_cases c2 : (47 : UInt8) ∈ t
  ·obtain ⟨w, q, rfl, hw⟩ := split_at c2
   rw [cutSt_at 47 w q hw]
   have hl : w.length + q.length + 1 ≤ 400 := by simp at ht; omega
   rw [fin w q true (by omega) (by omega)]
   rw [show (bif (!true) then ([49] : Str) else q) = q from rfl]
   by_cases d1 : digs w = true
   ·rw [decT_cut d1 47 q h47]
    by_cases d2 : w = []
    ·rw [if_pos d2, natO_no (.inl d2)]
    ·rw [if_neg d2, natO_of d2 (by omega) d1]
     by_cases d3 : q = [] ∨ digs q = false
     ·rw [if_pos d3, natO_no d3]
     ·have d4 : q ≠ [] := fun z => d3 (.inl z)
      have d5 : digs q = true := by cases h : digs q with | true => rfl | false => exact absurd (.inr h) d3
      rw [if_neg d3, if_neg (by decide), if_pos rfl, natO_of d4 (by omega) d5]
      dsimp only
      split <;> rfl
   ·have d1 : digs w = false := by simpa using d1
    obtain ⟨u, c, v, rfl, g1, g2⟩ := split_nondig d1
    rw [natO_no (.inr d1)]
    have hc47 : c ≠ 47 := fun z => hw (by simp [z])
    have hc46 : c ≠ 46 := fun z => c1 (by simp [z])
    rw [List.append_assoc, List.cons_append, decT_bad g1 c _ g2 hc46 hc47]
  ·rw [cutSt_none 47 t c2]
   rw [fin t [] false ht (by simp)]
   rw [show (bif (!false) then ([49] : Str) else []) = [49] from rfl]
   have h1 : natO [49] = some 1 := by decide
   rw [h1]
   by_cases d1 : digs t = true
   ·rw [decT_all d1]
    by_cases d2 : t = []
    ·rw [if_pos d2, natO_no (.inl d2)]
    ·rw [if_neg d2, natO_of d2 ht d1]; rfl
   ·have d1 : digs t = false := by simpa using d1
    rw [natO_no (.inr d1)]
    obtain ⟨u, c, v, rfl, g1, g2⟩ := split_nondig d1
    have hc47 : c ≠ 47 := fun z => c2 (by simp [z])
    have hc46 : c ≠ 46 := fun z => c1 (by simp [z])
    rw [decT_bad g1 c _ g2 hc46 hc47]
theorem dec_Parse_run (s : Str) (hs : s.length ≤ 1000000000) : (dec_Parse s).run = some (if 400 < s.length then (zeroR, (3 : Int)) else match decP s with | some (n, d) => (ratN (List.isPrefixOf [45] s) n d, (0 : Int)) | none => (zeroR, (2 : Int))) := by
 unfold dec_Parse
 by_cases c : 400 < s.length
 ·rw [T.run_ite_t (decide_eq_true (by omega)), if_pos c, T.run_ret]; rfl
 ·have hp : (strings_CutPrefix s [45]).run = some (trimPre s [45], List.isPrefixOf [45] s) := rfl
  have hl := trimPre_len s [45]
  rw [T.run_ite_f (decide_eq_false (by omega)), if_neg c, T.run_bind_of hp]
  exact parse_core _ (by omega) _
end Go.AM.Lf
namespace Go.AM.PL
theorem runLen (t : Str) : ∃ u r, t = u ++ r ∧ digs u = true ∧ (∀ c q, r = c :: q → isD c = false) := by
 induction t with
 | nil => exact ⟨[], [], rfl, rfl, fun c q h => by cases h⟩
 | cons b t ih =>
  cases hb : isD b with
  | false => exact ⟨[], b :: t, rfl, rfl, fun c q h => by cases h; exact hb⟩
  | true =>
   obtain ⟨u, r, rfl, h1, h2⟩ := ih
   exact ⟨b :: u, r, rfl, by rw [digs_cons, hb, h1]; rfl, h2⟩
end Go.AM.PL

namespace Go.AM.PL
theorem isD_dgt (n : Nat) : isD (dgt n) = true ∧ (dgt n).toNat - 48 = n % 10 := by
 have h : (dgt n).toNat = 48 + n % 10 := by unfold dgt; rw [UInt8.toNat_ofNat']; omega
 exact ⟨isD_iff.2 (by omega), by omega⟩
theorem dgz_digs (n : Nat) : digs (dgz n) = true ∧ dval (dgz n) = n := by
 induction n using Nat.strongRecOn with
 | _ n ih =>
  by_cases h : n = 0
  ·subst h; rw [dgz_zero]; exact ⟨rfl, rfl⟩
  ·obtain ⟨h1, h2⟩ := ih (n / 10) (by omega)
   obtain ⟨h3, h4⟩ := isD_dgt n
   rw [dgz_pos h]
   refine ⟨by rw [digs_app, h1, digs_cons, h3]; rfl, ?_⟩
   rw [dval_snoc, h2, h4]; omega
theorem pr_digs (n : Nat) : digs (pr n) = true ∧ dval (pr n) = n := by
 unfold pr
 split
 ·rename_i h; subst h; exact ⟨by decide, by decide⟩
 ·exact dgz_digs n
theorem rep_digs (k : Nat) : digs (repS [48] k) = true ∧ dval (repS [48] k) = 0 := by
 induction k with
 | zero => exact ⟨rfl, rfl⟩
 | succ k ih =>
  show digs ([48] ++ repS [48] k) = true ∧ dval ([48] ++ repS [48] k) = 0
  rw [digs_app, dval_app, ih.1, ih.2]
  exact ⟨by decide, by show 0 * _ + 0 = 0; omega⟩
end Go.AM.PL
namespace Go.AM.Lf
open PL
theorem ptd_parts (s : Str) (k : Nat) (hk : k ≠ 0) (hs : digs s = true) : ∃ w p, ptd s k = w ++ 46 :: p ∧ digs w = true ∧ w ≠ [] ∧ digs p = true ∧ p.length = k ∧ dval w * 10 ^ k + dval p = dval s ∧ w.length + k = max s.length (k + 1) := by
 unfold ptd
 rw [if_neg hk]
 have hr := rep_digs (k + 1 - s.length)
 have hl := repS_len (k + 1 - s.length)
 have hd : digs (repS [48] (k + 1 - s.length) ++ s) = true := by rw [digs_app, hr.1, hs]; rfl
 have hv : dval (repS [48] (k + 1 - s.length) ++ s) = dval s := by rw [dval_app, hr.2]; omega
 have hlen : (repS [48] (k + 1 - s.length) ++ s).length = (k + 1 - s.length) + s.length := by rw [List.length_append, hl]
 generalize repS [48] (k + 1 - s.length) ++ s = t at *
 refine ⟨t.take (t.length - k), t.drop (t.length - k), by simp, ?_, ?_, ?_, by simp; omega, ?_, by simp; omega⟩
 ·exact List.all_eq_true.2 fun x hx => List.all_eq_true.1 hd x (List.mem_of_mem_take hx)
 ·intro z
  have := congrArg List.length z
  simp at this; omega
 ·exact List.all_eq_true.2 fun x hx => List.all_eq_true.1 hd x (List.mem_of_mem_drop hx)
 ·have := dval_app (t.take (t.length - k)) (t.drop (t.length - k))
  rw [List.take_append_drop, hv, List.length_drop, show t.length - (t.length - k) = k by omega] at this
  exact this.symm
theorem exactS_ok (b : Bool) (N D : Nat) (hD : D ≠ 0) : ∀ (f k : Nat) (s : Str), exactS b N D k f = (s, true) → ∃ j, k ≤ j ∧ j < k + f ∧ N * 10 ^ j % D = 0 ∧ s = sgS b ++ ptd (pr (N * 10 ^ j / D)) j
 | 0, k, s, h => by unfold exactS at h; cases h
 | f + 1, k, s, h => by
  unfold exactS at h
  split at h
  ·rename_i c; cases h; exact ⟨k, Nat.le_refl _, by omega, c, rfl⟩
  ·obtain ⟨j, h1, h2, h3, h4⟩ := exactS_ok b N D hD f (k + 1) s h
   exact ⟨j, by omega, by omega, h3, h4⟩
end Go.AM.Lf
namespace Go.AM.Lf
open PL
theorem decT_lt {t : Str} {n d : Nat} (h : decT t = some (n, d)) : n < 10 ^ t.length ∧ d ≤ 10 ^ t.length := by
 obtain ⟨u, r, rfl, h1, h2⟩ := runLen t
 have hu := dval_lt h1
 cases r with
 | nil =>
  rw [List.append_nil, decT_all h1] at h
  split at h
  ·cases h
  ·cases h
   rw [List.append_nil]
   exact ⟨hu, Nat.one_le_pow _ _ (by omega)⟩
 | cons c q =>
  rw [decT_cut h1 c q (h2 c q rfl)] at h
  have hl : (u ++ c :: q).length = u.length + q.length + 1 := by simp; omega
  have mono : ∀ {a b : Nat}, a ≤ b → 10 ^ a ≤ 10 ^ b := fun h => Nat.pow_le_pow_right (by omega) h
  split at h
  ·cases h
  ·split at h
   ·cases h
   ·rename_i hq
    have hd : digs q = true := by cases hh : digs q with | true => rfl | false => exact absurd (.inr hh) hq
    have hq1 := dval_lt hd
    rw [hl]
    split at h
    ·cases h
     refine ⟨?_, mono (by omega)⟩
     have e : 10 ^ (u.length + q.length) ≤ 10 ^ (u.length + q.length + 1) := mono (by omega)
     rw [Nat.pow_add] at e
     have : (dval u + 1) * 10 ^ q.length ≤ 10 ^ u.length * 10 ^ q.length := Nat.mul_le_mul_right _ hu
     rw [Nat.add_mul, Nat.one_mul] at this
     omega
    ·split at h
     ·split at h
      ·cases h
      ·cases h
       have e1 : 10 ^ u.length ≤ 10 ^ (u.length + q.length + 1) := mono (by omega)
       have e2 : 10 ^ q.length ≤ 10 ^ (u.length + q.length + 1) := mono (by omega)
       omega
     ·cases h
theorem big42 : 10 ^ 400 < 4294967296 ^ 42 := by decide +kernel
theorem lt_len {n k : Nat} (h : n ≤ 10 ^ k) (hk : k ≤ 400) : (ofN n).length ≤ 42 :=
 ofN_len_le.2 (Nat.lt_of_le_of_lt (Nat.le_trans h (Nat.pow_le_pow_right (by omega) hk)) big42)
theorem parse_small {s : Str} {n d : Nat} (neg : Bool) (hs : s.length ≤ 400) (h : decP s = some (n, d)) : ratOk 50 (ratN neg n d) := by
 have hl := trimPre_len s [45]
 obtain ⟨h1, h2⟩ := decT_lt h
 exact ratN_ok _ _ _ _ (by omega) (Nat.le_trans (lt_len (by omega) (by omega : (trimPre s [45]).length ≤ 400)) (by omega)) (Nat.le_trans (lt_len h2 (by omega)) (by omega))
end Go.AM.Lf
namespace Go.AM.Lf
def ixF {α : Type} (p : α → Bool) (i : Int) : List α → Int
 | [] => -1
 | x :: r => if p x = true then i else ixF p (i + 1) r
end Go.AM.Lf
namespace Go.AM.T
theorem run_same {α β : Type} (a : β) (t : T α) : (obl (a = a) t).run = t.run := run_obl rfl t
end Go.AM.T
namespace Go.AM.Lf
open PL
theorem nth_at {α : Type} {l : List α} {k : Nat} (h : k < l.length) (d : α) : nth l (k : Int) d = l[k] := by simp [nth, h]
end Go.AM.Lf
namespace Go.AM.Lf
open PL
def isL (b : UInt8) : Bool := decide (97 ≤ (b.toNat : Int)) && decide ((b.toNat : Int) ≤ 122)
def isIn (b : UInt8) : Bool := isL b || ((decide (48 ≤ (b.toNat : Int)) && decide ((b.toNat : Int) ≤ 57)) || ((b.toNat : Int) == 95))
def nameOk (s : Str) : Bool := match s with | [] => false | b :: _ => decide (s.length ≤ 24) && (isL b && s.all isIn)
theorem isInner_run (b : UInt8) : (expr_isInner (b.toNat : Int)).run = some (isIn b) := by
 have h1 : (expr_isLetter (b.toNat : Int)).run = some (isL b) := rfl
 have h2 : (expr_isDigit (b.toNat : Int)).run = some (decide (48 ≤ (b.toNat : Int)) && decide ((b.toNat : Int) ≤ 57)) := rfl
 unfold expr_isInner isIn
 rw [T.run_bind_of h1]
 cases isL b with
 | true => rw [T.run_ite_true, T.run_ret]; rfl
 | false =>
  rw [T.run_ite_false, T.run_bind_of h2]
  cases (decide (48 ≤ (b.toNat : Int)) && decide ((b.toNat : Int) ≤ 57)) with
  | true => rw [T.run_ite_true, T.run_ret]; rfl
  | false => rw [T.run_ite_false, T.run_ret]; rfl
theorem Name_run (s : Str) : (expr_Name s).run = some (nameOk s) := by
 unfold expr_Name
 cases s with
 | nil => rfl
 | cons b r =>
  have e0 : strEq (b :: r) [] = false := by rw [strEq_iff]; simp
  rw [e0]
  by_cases c : 24 < (b :: r).length
  ·have : (T.ite false (.ret true) (.ite (decide ((24 : Int) < ((b :: r).length : Int))) (.ret true) (.obl (idxOk (0 : Int) (List.length (b :: r))) <| T.bind (expr_isLetter (byteAt (b :: r) (0 : Int))) fun r => .ret (!r))) : T Bool).run = some true := by
    rw [T.run_ite_false, T.run_ite_t (decide_eq_true (by omega)), T.run_ret]
   rw [T.run_bind_of this, T.run_ite_true, T.run_ret]
   unfold nameOk
   rw [decide_eq_false (by omega)]; rfl
  ·have hb : byteAt (b :: r) (0 : Int) = (b.toNat : Int) := byteAt_get (s := b :: r) (k := 0) (by simp)
   have h1 : (expr_isLetter (b.toNat : Int)).run = some (isL b) := rfl
   have : (T.ite false (.ret true) (.ite (decide ((24 : Int) < ((b :: r).length : Int))) (.ret true) (.obl (idxOk (0 : Int) (List.length (b :: r))) <| T.bind (expr_isLetter (byteAt (b :: r) (0 : Int))) fun r => .ret (!r))) : T Bool).run = some (!isL b) := by
    rw [T.run_ite_false, T.run_ite_f (decide_eq_false (by omega)), T.run_obl (by refine ⟨by omega, ?_⟩; simp only [List.length_cons]; omega), hb, T.run_bind_of h1, T.run_ret]
   rw [T.run_bind_of this]
   unfold nameOk
   dsimp only
   rw [decide_eq_true (by omega), Bool.true_and]
   cases isL b with
   | false => rw [T.run_ite_t (by rfl), T.run_ret]; rfl
   | true =>
    rw [T.run_ite_f (by rfl), Bool.true_and]
    have key : (expr_Name_L0 (b :: r) ((b :: r).length : Int) 0).run = some (if (b :: r).all isIn = true then .inl () else .inr false) := by
     refine T.loop_scan (r := expr_Name_R0 (b :: r) ((b :: r).length : Int)) (b :: r) (0 : UInt8) (fun (_ : Unit) i => i) (fun _ _ => True) (fun l _ => (if l.all isIn = true then .inl () else .inr false : Unit ⊕ Bool)) (fun k _ x xs hk hx hm hd hI => ?_) (fun _ _ => ?_) (b := ()) trivial
     ·have hxk : (b :: r)[k] = x := by rw [← hx]; unfold nth; rw [Int.toNat_natCast, List.getD_eq_getElem?_getD, List.getElem?_eq_getElem hk]; rfl
      have hbk : byteAt (b :: r) (k : Int) = (x.toNat : Int) := by rw [byteAt_get hk, hxk]
      cases hin : isIn x with
      | true =>
       left
       refine ⟨(), ?_, trivial, ?_⟩
       ·unfold expr_Name_R0
        rw [T.run_ite_t (lt_t hk), T.run_obl (idx_ok hk), hbk, T.run_bind_of (isInner_run x), hin, T.run_ite_f (by rfl), T.run_ret, ix1 k _ hk (by omega)]
       ·rw [List.all_cons, hin, Bool.true_and]
      | false =>
       right
       unfold expr_Name_R0
       rw [T.run_ite_t (lt_t hk), T.run_obl (idx_ok hk), hbk, T.run_bind_of (isInner_run x), hin, T.run_ite_t (by rfl), T.run_ret, List.all_cons, hin]
       rfl
     ·unfold expr_Name_R0
      rw [T.run_ite_f (lt_f _), T.run_ret]; rfl
    rw [T.run_bind_of key]
    cases h : (b :: r).all isIn with
    | true => rfl
    | false => rfl
end Go.AM.Lf
namespace Go.AM.Lf
open PL
mutual
/-- What an expression weighs. -/
def szE : Expr → Nat
 | .mk _ n s l => 3 + s.length + 8 * n.2.1.length + 8 * n.2.2.1.length + szEs l
def szEs : List Expr → Nat
 | [] => 0
 | e :: r => szE e + szEs r
end
mutual
theorem wtE_sz : ∀ (e : Expr) (left : Int), 0 ≤ wtE e left → wtE e left = left - szE e
 | .mk _ n s l, left, h => by
  have := wtEs_sz l (left - 3 - s.length - 8 * n.2.1.length - 8 * n.2.2.1.length)
  simp only [wtE, szE] at h ⊢
  rw [this h]; omega
theorem wtEs_sz : ∀ (l : List Expr) (left : Int), 0 ≤ wtEs l left → wtEs l left = left - szEs l
 | [], left, h => by simp [wtEs, szEs]
 | e :: r, left, h => by
  have h1 := wtE_sz e left
  have h2 := wtEs_sz r (wtE e left)
  have h3 := (wtEs_le r (wtE e left)).1
  by_cases c : 0 ≤ left
  ·simp only [wtEs, szEs, if_pos c] at h ⊢
   rw [h2 h, h1 (by omega)]; omega
  ·simp only [wtEs, if_neg c] at h; omega
end
end Go.AM.Lf
namespace Go.AM.Lf
open PL
def trimB (l : List Int) : Bool := ofN (nv l) == l
def isRb (a : Rat) : Bool := trimB a.2.1 && (trimB a.2.2.1 && (!(nv a.2.2.1 == 0) && (!(a.1 && (nv a.2.1 == 0)) && (Nat.gcd (nv a.2.1) (nv a.2.2.1) == 1))))
theorem trimB_iff {l : List Int} (h : limbs l) : trimB l = true ↔ trimd l := by
 unfold trimB
 constructor
 ·intro e
  have e : ofN (nv l) = l := by simpa using e
  rw [← e]; exact trimd_ofN _
 ·intro ht
  rw [ofN_nv h ht]; simp
theorem nat_Is_run (l : List Int) (h : limbs l) (hl : l.length ≤ 1000000000) : (nat_Is l).run = some (trimB l) := by
 unfold nat_Is
 cases l with
 | nil =>
  rw [T.run_obl (fun h => by simp at h), T.run_ret]
  have e : trimB [] = true := by unfold trimB; rw [show nv [] = 0 from rfl, ofN_zero]; rfl
  rw [e]; rfl
 | cons x r =>
  obtain ⟨n, hn⟩ : ∃ n, (x :: r).length = n + 1 := ⟨r.length, rfl⟩
  have ew : w64 (((x :: r).length : Int) - 1) = (n : Int) := by rw [hn, w64_in (by omega) (by omega)]; omega
  have hnl : n < (x :: r).length := by omega
  have e0 : (((x :: r).length : Int) == 0) = false := by rw [hn]; simp; omega
  have hg : (x :: r).getLast? = some ((x :: r)[n]) := by
   rw [List.getLast?_eq_getElem?, hn, Nat.add_sub_cancel, List.getElem?_eq_getElem hnl]
  rw [T.run_obl (fun _ => by rw [ew]; exact idx_ok hnl), T.run_ret, ew, nth_at hnl, e0, Bool.false_or]
  congr 1
  cases hq : ((x :: r)[n] != 0) with
  | true =>
   symm
   rw [trimB_iff h]
   intro y hy
   rw [hg] at hy
   cases hy
   simpa using hq
  | false =>
   symm
   rw [Bool.eq_false_iff]
   intro ht
   have := (trimB_iff h).1 ht _ hg
   simp at hq
   exact this hq
theorem rat_Is_run (a : Rat) (h : ratOk 100000000 a) : (rat_Is a).run = some (isRb a) := by
 obtain ⟨h1, h2, h3, h4⟩ := h
 unfold rat_Is isRb
 have n1 := nat_Is_run a.2.1 h1 (by omega)
 have n2 := nat_Is_run a.2.2.1 h2 (by omega)
 have hzD : trimB a.2.2.1 = true → (((a.2.2.1.length : Int)) == 0) = (nv a.2.2.1 == 0) := fun ht => by
  have e : ofN (nv a.2.2.1) = a.2.2.1 := ofN_nv h2 ((trimB_iff h2).1 ht)
  conv => lhs; rw [← e]
  rw [len_zero]
  cases q : decide (nv a.2.2.1 = 0) <;> simp_all
 have hzN : trimB a.2.1 = true → (((a.2.1.length : Int)) == 0) = (nv a.2.1 == 0) := fun ht => by
  have e : ofN (nv a.2.1) = a.2.1 := ofN_nv h1 ((trimB_iff h1).1 ht)
  conv => lhs; rw [← e]
  rw [len_zero]
  cases q : decide (nv a.2.1 = 0) <;> simp_all
 have hg := nat_Gcd_run a.2.1 a.2.2.1 h1 h2 (by omega) (by omega)
 have h1' : (nat_Of 1).run = some (ofN 1) := nat_Of_run 1 (by omega)
 have hc : ∀ g : Nat, (ofN g).length ≤ 100000001 → (nat_Cmp (ofN g) (ofN 1)).run = some (cmpI g 1) := fun g hl => by
  have := nat_Cmp_run (ofN g) (ofN 1) (limbs_ofN _) (limbs_ofN _) (by omega) (by rw [ofN_one]; simp)
  rwa [nv_ofN, nv_ofN] at this
 have head : ∀ b : Bool, ((T.bind (nat_Is a.2.1) fun r => .ite (!r) (.ret true) (T.bind (nat_Is a.2.2.1) fun r1 => .ite (!r1) (.ret true) (.ite ((a.2.2.1.length : Int) == (0 : Int)) (.ret true) (.ite a.1 (.ret ((a.2.1.length : Int) == (0 : Int))) (.ret false))))) : T Bool).run =
   some (!(trimB a.2.1 && (trimB a.2.2.1 && (!(nv a.2.2.1 == 0) && !(a.1 && (nv a.2.1 == 0)))))) := fun _ => by
  rw [T.run_bind_of n1]
  cases t1 : trimB a.2.1 with
  | false => rfl
  | true =>
   rw [T.run_ite_f (by rfl), T.run_bind_of n2]
   cases t2 : trimB a.2.2.1 with
   | false => rfl
   | true =>
    rw [T.run_ite_f (by rfl), hzD t2]
    cases nv a.2.2.1 == 0 with
    | true => rfl
    | false =>
     rw [T.run_ite_false, hzN t1]
     cases a.1 with
     | true => rw [T.run_ite_true, T.run_ret]; cases nv a.2.1 == 0 <;> rfl
     | false => rfl
 rw [T.run_bind_of (head true)]
 cases hb : (trimB a.2.1 && (trimB a.2.2.1 && (!(nv a.2.2.1 == 0) && !(a.1 && (nv a.2.1 == 0))))) with
 | false =>
  rw [T.run_ite_t (by rfl), T.run_ret]
  congr 1
  generalize (Nat.gcd (nv a.2.1) (nv a.2.2.1) == 1) = g
  revert hb
  cases trimB a.2.1 <;> cases trimB a.2.2.1 <;> cases (nv a.2.2.1 == 0) <;> cases a.1 <;> cases (nv a.2.1 == 0) <;> simp
 | true =>
  rw [T.run_ite_f (by rfl), T.run_bind_of hg, T.run_bind_of h1']
  have hle : (ofN (Nat.gcd (nv a.2.1) (nv a.2.2.1))).length ≤ 100000001 := by
   simp only [Bool.and_eq_true, Bool.not_eq_true', beq_eq_false_iff_ne] at hb
   have hd : 0 < nv a.2.2.1 := Nat.pos_of_ne_zero hb.2.2.1
   have m1 := ofN_mono (Nat.gcd_le_right (nv a.2.1) hd)
   have m2 := ofN_nv_len h2
   omega
  rw [T.run_bind_of (hc _ hle), T.run_ret]
  congr 1
  have hgc : (cmpI (Nat.gcd (nv a.2.1) (nv a.2.2.1)) 1 == 0) = (Nat.gcd (nv a.2.1) (nv a.2.2.1) == 1) := by
   generalize Nat.gcd (nv a.2.1) (nv a.2.2.1) = g
   unfold cmpI
   by_cases q1 : g < 1
   ·rw [if_pos q1]; simp; omega
   ·by_cases q2 : 1 < g
    ·rw [if_neg q1, if_pos q2]; simp; omega
    ·have : g = 1 := by omega
     subst this; rfl
  rw [hgc]
  revert hb
  generalize (Nat.gcd (nv a.2.1) (nv a.2.2.1) == 1) = g
  cases trimB a.2.1 <;> cases trimB a.2.2.1 <;> cases (nv a.2.2.1 == 0) <;> cases a.1 <;> cases (nv a.2.1 == 0) <;> simp
def largeB (a : Rat) : Bool := decide (16 < (norm a).2.1.length) || decide (16 < (norm a).2.2.1.length)
theorem rat_Large_run (a : Rat) (h : ratOk 100000000 a) : (rat_Large a).run = some (largeB a) := by
 unfold rat_Large largeB
 rw [T.run_bind_of (rat_norm a h), T.run_ret]
 congr 2
 ·exact decide_eq_decide.2 (by omega)
 ·exact decide_eq_decide.2 (by omega)
end Go.AM.Lf
namespace Go.AM.Lf
open PL
def isNumB (a : Rat) : Bool := isRb a && (!a.1 && (!largeB a && (exactS (norm a).1 (nv (norm a).2.1) (nv (norm a).2.2.1) 0 61).2))
def isNoneB (a : Rat) : Bool := !a.1 && (a.2.1.isEmpty && (a.2.2.1.isEmpty || isRb a))
def kidsN (k : Int) : Int := if k = 1 ∨ k = 2 then 0 else if k = 7 then 1 else if k = 3 ∨ k = 4 ∨ k = 5 ∨ k = 6 then 2 else -1
def nodeB (e : Expr) : Bool := ((e.kids.length : Int) == kidsN e.kind) && (if e.kind = 1 then isNumB e.num && strEq e.name [] else if e.kind = 2 then isNoneB e.num && nameOk e.name else isNoneB e.num && strEq e.name [])
mutual
def ndE : Expr → Nat
 | .mk _ _ _ l => 1 + ndEs l
def ndEs : List Expr → Nat
 | [] => 0
 | e :: r => ndE e + ndEs r
end
mutual
def okE (deep : Nat) : Expr → Bool
 | .mk k n s l => decide (deep < 32) && (nodeB (.mk k n s l) && okEs (deep + 1) l)
def okEs (deep : Nat) : List Expr → Bool
 | [] => true
 | e :: r => okE deep e && okEs deep r
end
theorem ndEs_len : ∀ (l : List Expr), l.length ≤ ndEs l
 | [] => Nat.le_refl _
 | .mk _ _ _ k :: r => by
  have := ndEs_len r
  unfold ndEs ndE
  simp only [List.length_cons]; omega
theorem ndEs_mem {e : Expr} : ∀ {l : List Expr}, e ∈ l → ndE e ≤ ndEs l
 | [], h => by cases h
 | x :: r, h => by
  unfold ndEs
  rcases List.mem_cons.1 h with rfl | h
  ·omega
  ·have := ndEs_mem h; omega
mutual
theorem ndE_sz : ∀ (e : Expr), 3 * ndE e ≤ szE e
 | .mk k n s l => by
  have := ndEs_sz l
  unfold ndE szE
  omega
theorem ndEs_sz : ∀ (l : List Expr), 3 * ndEs l ≤ szEs l
 | [] => Nat.le_refl _
 | e :: r => by
  have h1 := ndE_sz e
  have h2 := ndEs_sz r
  unfold ndEs szEs
  omega
end
def numOk (a : Rat) : Prop := ratOk 100 a
mutual
def allOk : Expr → Prop
 | .mk _ n _ l => numOk n ∧ allOks l
def allOks : List Expr → Prop
 | [] => True
 | e :: r => allOk e ∧ allOks r
end
theorem allOks_mem {l : List Expr} (h : allOks l) : ∀ e ∈ l, allOk e := by
 induction l with
 | nil => intro e he; cases he
 | cons x r ih =>
  intro e he
  rcases List.mem_cons.1 he with rfl | he
  ·exact h.1
  ·exact ih h.2 e he
mutual
theorem allOk_of : ∀ (e : Expr), wfE e → szE e ≤ 800 → allOk e
 | .mk k n s l, hw, hs => by
  unfold szE at hs
  have hw' : wf exprF (Expr.mk k n s l).flds := (wf_flds _).2 hw
  obtain ⟨_, hn, _, hl, _⟩ := hw'
  obtain ⟨r1, r2⟩ := rat_wf hn
  have r1 : limbs n.2.1 := r1
  have r2 : limbs n.2.2.1 := r2
  refine ⟨⟨r1, r2, by omega, by omega⟩, allOks_of l (fun e he => hl e he) (by omega)⟩
theorem allOks_of : ∀ (l : List Expr), (∀ e ∈ l, wfE e) → szEs l ≤ 800 → allOks l
 | [], _, _ => trivial
 | e :: r, hw, hs => by
  unfold szEs at hs
  exact ⟨allOk_of e (hw e List.mem_cons_self) (by omega), allOks_of r (fun x hx => hw x (List.mem_cons_of_mem _ hx)) (by omega)⟩
end
theorem isNone_run (a : Rat) (h : numOk a) : (expr_isNone a).run = some (isNoneB a) := by
 unfold expr_isNone isNoneB
 have hr := rat_Is_run a (ok_up h (by omega))
 have e : ∀ l : List Int, (((l.length : Int)) == 0) = l.isEmpty := fun l => by cases l <;> simp; omega
 rw [e, e]
 cases a.1 with
 | true => rfl
 | false =>
  rw [T.run_ite_t (by rfl)]
  cases a.2.1.isEmpty with
  | false => rfl
  | true =>
   rw [T.run_ite_true]
   cases a.2.2.1.isEmpty with
   | true => rfl
   | false => rw [T.run_ite_false, T.run_bind_of hr, T.run_ret]; rfl
theorem isNum_run (a : Rat) (h : numOk a) : (expr_isNum a).run = some (isNumB a) := by
 unfold expr_isNum isNumB
 have hr := rat_Is_run a (ok_up h (by omega))
 have hl := rat_Large_run a (ok_up h (by omega))
 have he := dec_Exact_run a (ok_up h (by omega))
 have head : ((T.bind (rat_Is a) fun r => .ite (!r) (.ret true) (.ite a.1 (.ret true) (T.bind (rat_Large a) fun r1 => .ret r1))) : T Bool).run = some (!(isRb a && (!a.1 && !largeB a))) := by
  rw [T.run_bind_of hr]
  cases isRb a with
  | false => rfl
  | true =>
   rw [T.run_ite_f (by rfl)]
   cases a.1 with
   | true => rfl
   | false => rw [T.run_ite_false, T.run_bind_of hl, T.run_ret]; simp
 rw [T.run_bind_of head]
 cases q : (isRb a && (!a.1 && !largeB a)) with
 | false =>
  rw [T.run_ite_t (by rfl), T.run_ret]
  congr 1
  revert q
  cases isRb a <;> cases a.1 <;> cases largeB a <;> simp
 | true =>
  rw [T.run_ite_f (by rfl), T.run_bind_of he]
  generalize exactS (norm a).1 (nv (norm a).2.1) (nv (norm a).2.2.1) 0 61 = x
  obtain ⟨x1, x2⟩ := x
  dsimp only
  rw [T.run_ret]
  congr 1
  revert q
  cases isRb a <;> cases a.1 <;> cases largeB a <;> simp
theorem kids_run (k : Int) : (expr_kids k).run = some (kidsN k) := by
 unfold expr_kids kidsN
 by_cases h1 : k = 1
 ·subst h1; rfl
 by_cases h2 : k = 2
 ·subst h2; rfl
 by_cases h7 : k = 7
 ·subst h7; rfl
 by_cases h3 : k = 3
 ·subst h3; rfl
 by_cases h4 : k = 4
 ·subst h4; rfl
 by_cases h5 : k = 5
 ·subst h5; rfl
 by_cases h6 : k = 6
 ·subst h6; rfl
 ·simp [h1, h2, h3, h4, h5, h6, h7]
theorem isNode_run (e : Expr) (h : numOk e.num) : (expr_isNode e).run = some (nodeB e) := by
 unfold expr_isNode nodeB
 rw [T.run_bind_of (kids_run _)]
 have hN := isNum_run e.num h
 have h0 := isNone_run e.num h
 have hn := Name_run e.name
 cases q : ((e.kids.length : Int) == kidsN e.kind) with
 | false => rw [T.run_ite_t (by rw [bne, q]; rfl), T.run_ret]; rfl
 | true =>
  rw [T.run_ite_f (by rw [bne, q]; rfl), Bool.true_and]
  by_cases h1 : e.kind = 1
  ·rw [if_pos h1, T.run_ite_t (by rw [h1]; rfl), T.run_bind_of hN]
   cases isNumB e.num with
   | true => rw [T.run_ite_true, T.run_ret]; rfl
   | false => rw [T.run_ite_false, T.run_ret]; rfl
  ·rw [if_neg h1, T.run_ite_f (by simpa using h1)]
   by_cases h2 : e.kind = 2
   ·rw [if_pos h2, T.run_ite_t (by rw [h2]; rfl), T.run_bind_of h0]
    cases isNoneB e.num with
    | true => rw [T.run_ite_true, T.run_bind_of hn, T.run_ret]; rfl
    | false => rw [T.run_ite_false, T.run_ret]; rfl
   ·rw [if_neg h2, T.run_ite_f (by simpa using h2), T.run_bind_of h0]
    cases isNoneB e.num with
    | true => rw [T.run_ite_true, T.run_ret]; rfl
    | false => rw [T.run_ite_false, T.run_ret]; rfl
end Go.AM.Lf
namespace Go.AM.Lf
open PL
def dd (acc : List Str) (xs : List Str) : List Str := xs.foldl (fun b x => if x ∈ b then b else b ++ [x]) acc
theorem dd_nil (acc : List Str) : dd acc [] = acc := rfl
theorem dd_cons (acc : List Str) (x : Str) (r : List Str) : dd acc (x :: r) = dd (if x ∈ acc then acc else acc ++ [x]) r := rfl
theorem dd_append (acc a b : List Str) : dd acc (a ++ b) = dd (dd acc a) b := by unfold dd; rw [List.foldl_append]
theorem dd_mem (acc xs : List Str) (x : Str) : x ∈ dd acc xs ↔ x ∈ acc ∨ x ∈ xs := by
 induction xs generalizing acc with
 | nil => simp [dd_nil]
 | cons y r ih =>
  rw [dd_cons, ih, List.mem_cons]
  by_cases h : y ∈ acc
  ·rw [if_pos h]
   constructor
   ·rintro (a | b); exact .inl a; exact .inr (.inr b)
   ·rintro (a | b | c); exact .inl a; exact .inl (b ▸ h); exact .inr c
  ·rw [if_neg h, List.mem_append, List.mem_singleton, or_assoc]
theorem dd_once_gen (b s xs : List Str) : dd b (dd s xs) = dd (dd b s) xs := by
 induction xs generalizing s with
 | nil => rfl
 | cons y r ih =>
  rw [dd_cons, ih, dd_cons]
  by_cases h : y ∈ s
  ·rw [if_pos h, if_pos ((dd_mem b s y).2 (.inr h))]
  ·rw [if_neg h, dd_append, dd_cons, dd_nil]
theorem dd_once (b xs : List Str) : dd b (dd [] xs) = dd b xs := by rw [dd_once_gen, dd_nil]
end Go.AM.Lf
namespace Go.AM.Lf
open PL
theorem ref5_Name_run (s : Str) : (ref5_Name s).run = some (nameOk s) := by
 have hL : ∀ b : UInt8, (ref5_letter (b.toNat : Int)).run = some (isL b) := fun _ => rfl
 have hD : ∀ b : UInt8, (ref5_digit (b.toNat : Int)).run = some (decide (48 ≤ (b.toNat : Int)) && decide ((b.toNat : Int) ≤ 57)) := fun _ => rfl
 unfold ref5_Name
 cases s with
 | nil => rfl
 | cons b r =>
  by_cases c : 24 < (b :: r).length
  ·have : (T.ite (decide (((b :: r).length : Int) < (1 : Int))) (.ret true) (.ite (decide ((24 : Int) < ((b :: r).length : Int))) (.ret true) (.obl (idxOk (0 : Int) (List.length (b :: r))) <| T.bind (ref5_letter (byteAt (b :: r) (0 : Int))) fun r => .ret (!r))) : T Bool).run = some true := by
    rw [T.run_ite_f (decide_eq_false (by omega)), T.run_ite_t (decide_eq_true (by omega)), T.run_ret]
   rw [T.run_bind_of this, T.run_ite_true, T.run_ret]
   unfold nameOk
   rw [decide_eq_false (by omega)]; rfl
  ·have hb : byteAt (b :: r) (0 : Int) = (b.toNat : Int) := byteAt_get (s := b :: r) (k := 0) (by simp)
   have : (T.ite (decide (((b :: r).length : Int) < (1 : Int))) (.ret true) (.ite (decide ((24 : Int) < ((b :: r).length : Int))) (.ret true) (.obl (idxOk (0 : Int) (List.length (b :: r))) <| T.bind (ref5_letter (byteAt (b :: r) (0 : Int))) fun r => .ret (!r))) : T Bool).run = some (!isL b) := by
    rw [T.run_ite_f (decide_eq_false (by simp only [List.length_cons]; omega)), T.run_ite_f (decide_eq_false (by omega)), T.run_obl (by refine ⟨by omega, ?_⟩; simp only [List.length_cons]; omega), hb, T.run_bind_of (hL b), T.run_ret]
   rw [T.run_bind_of this]
   unfold nameOk
   dsimp only
   rw [decide_eq_true (by omega), Bool.true_and]
   cases hbl : isL b with
   | false => rw [T.run_ite_t (by rfl), T.run_ret]; rfl
   | true =>
    rw [T.run_ite_f (by rfl), Bool.true_and]
    have hbi : isIn b = true := by unfold isIn; rw [hbl]; rfl
    have key : (ref5_Name_L0 (b :: r) 1).run = some (if r.all isIn = true then .inl () else .inr false) := by
     have hloop := T.loop_run (r := ref5_Name_R0 (b :: r)) (fun i => ∃ k : Nat, i = ((k + 1 : Nat) : Int) ∧ k ≤ r.length) (fun i => ((b :: r).length : Int).toNat - i.toNat) (fun i => if (r.drop (i.toNat - 1)).all isIn = true then .inl () else .inr false) (fun i hi => ?_) (s := 1) ⟨0, rfl, by omega⟩
     ·exact hloop
     ·obtain ⟨k, rfl, hk⟩ := hi
      have ek : ((k + 1 : Nat) : Int).toNat - 1 = k := by omega
      by_cases q : k < r.length
      ·have hq : k + 1 < (b :: r).length := by simp only [List.length_cons]; omega
       have hbk : byteAt (b :: r) ((k + 1 : Nat) : Int) = (r[k].toNat : Int) := by rw [byteAt_get hq]; rfl
       have hdrop : r.drop k = r[k] :: r.drop (k + 1) := List.drop_eq_getElem_cons q
       have hin : ((.obl (idxOk ((k + 1 : Nat) : Int) (List.length (b :: r))) <| T.bind (ref5_letter (byteAt (b :: r) ((k + 1 : Nat) : Int))) fun r1 =>
         .ite (!r1) (.obl (idxOk ((k + 1 : Nat) : Int) (List.length (b :: r))) <| T.bind (ref5_digit (byteAt (b :: r) ((k + 1 : Nat) : Int))) fun r2 =>
           .ite (!r2) (.obl (idxOk ((k + 1 : Nat) : Int) (List.length (b :: r))) <| .ret ((byteAt (b :: r) ((k + 1 : Nat) : Int)) != (95 : Int))) (.ret false)) (.ret false)) : T Bool).run = some (!isIn r[k]) := by
        rw [T.run_obl (idx_ok hq), hbk, T.run_bind_of (hL _)]
        unfold isIn
        cases isL r[k] with
        | true => rfl
        | false =>
         rw [T.run_ite_t (by rfl), T.run_obl (idx_ok hq), T.run_bind_of (hD _)]
         cases (decide (48 ≤ (r[k].toNat : Int)) && decide ((r[k].toNat : Int) ≤ 57)) with
         | true => rfl
         | false => rw [T.run_ite_t (by rfl), T.run_obl (idx_ok hq), T.run_ret]; rfl
       cases hik : isIn r[k] with
       | true =>
        left
        refine ⟨((k + 1 + 1 : Nat) : Int), ?_, ⟨k + 1, rfl, q⟩, by simp only [List.length_cons]; omega, ?_⟩
        ·unfold ref5_Name_R0
         rw [T.run_ite_t (lt_t hq), T.run_bind_of hin, hik, T.run_ite_f (by rfl), T.run_ret, ix1 (k + 1) _ hq (by omega)]
        ·rw [ek, hdrop, List.all_cons, hik, Bool.true_and, show ((k + 1 + 1 : Nat) : Int).toNat - 1 = k + 1 by omega]
       | false =>
        right
        unfold ref5_Name_R0
        rw [T.run_ite_t (lt_t hq), T.run_bind_of hin, hik, T.run_ite_t (by rfl), T.run_ret, ek, hdrop, List.all_cons, hik]
        rfl
      ·right
       have hk2 : k = r.length := by omega
       unfold ref5_Name_R0
       rw [T.run_ite_f (decide_eq_false (by simp only [List.length_cons]; omega)), T.run_ret, ek, hk2, List.drop_length]; rfl
    rw [T.run_bind_of key, List.all_cons, hbi, Bool.true_and]
    cases h : r.all isIn with
    | true => rfl
    | false => rfl
end Go.AM.Lf
namespace Go.AM.Lf
open PL
theorem ratB (a b : Rat) : ((a.1 == b.1) && ((a.2.1 == b.2.1) && (a.2.2.1 == b.2.2.1))) = true ↔ a = b := by
 obtain ⟨a1, a2, a3, ⟨⟩⟩ := a
 obtain ⟨b1, b2, b3, ⟨⟩⟩ := b
 simp only [Bool.and_eq_true, beq_iff_eq, Prod.mk.injEq, and_true]
theorem isRb_iff (a : Rat) (h1 : limbs a.2.1) (h2 : limbs a.2.2.1) : isRb a = true ↔ norm a = a := by
 unfold isRb norm
 obtain ⟨b, N, D, ⟨⟩⟩ := a
 dsimp only at h1 h2 ⊢
 simp only [Bool.and_eq_true, Bool.not_eq_true', beq_eq_false_iff_ne, beq_iff_eq, Bool.and_eq_false_imp]
 constructor
 ·rintro ⟨t1, t2, hd, hn, hg⟩
  have eN : ofN (nv N) = N := ofN_nv h1 ((trimB_iff h1).1 t1)
  have eD : ofN (nv D) = D := ofN_nv h2 ((trimB_iff h2).1 t2)
  unfold ratN
  by_cases c : nv N = 0
  ·rw [if_pos (.inl c)]
   rw [c, Nat.gcd_zero_left] at hg
   rw [c, ofN_zero] at eN
   rw [hg, ofN_one] at eD
   cases b with
   | true => exact absurd c (hn rfl)
   | false => rw [← eN, ← eD]
  ·rw [if_neg (by rintro (h | h); exact c h; exact hd h), hg, Nat.div_one, Nat.div_one, eN, eD]
 ·intro e
  unfold ratN at e
  by_cases c : nv N = 0 ∨ nv D = 0
  ·rw [if_pos c] at e
   simp only [Prod.mk.injEq, and_true] at e
   obtain ⟨rfl, rfl, rfl⟩ := e
   refine ⟨by rw [trimB_iff h1]; exact trimd_nil, ?_, by decide, by simp, by decide⟩
   rw [trimB_iff h2, ← ofN_one]; exact trimd_ofN _
  ·rw [if_neg c] at e
   simp only [Prod.mk.injEq, and_true, true_and] at e
   obtain ⟨e1, e2⟩ := e
   simp only [not_or] at c
   have v1 : nv N = nv N / Nat.gcd (nv N) (nv D) := by conv => lhs; rw [← e1, nv_ofN]
   refine ⟨by rw [trimB_iff h1, ← e1]; exact trimd_ofN _, by rw [trimB_iff h2, ← e2]; exact trimd_ofN _, c.2, fun _ => c.1, ?_⟩
   have hp : 0 < nv N := Nat.pos_of_ne_zero c.1
   by_cases g : Nat.gcd (nv N) (nv D) = 1
   ·exact g
   ·have hg0 : 0 < Nat.gcd (nv N) (nv D) := Nat.gcd_pos_of_pos_left _ hp
    have := Nat.div_lt_self hp (by omega : 1 < Nat.gcd (nv N) (nv D))
    omega
theorem limbsB_run (a b : List Int) (la : a.length ≤ 1000000000) : (ref2_limbs a b).run = some (a == b) := by
 unfold ref2_limbs
 by_cases hlen : a.length = b.length
 ·have key : (ref2_limbs_L0 a b 0).run = some (if a = b then .inl () else .inr false) := by
   have h := T.loop_run (r := ref2_limbs_R0 a b) (fun i => ∃ k : Nat, i = (k : Int) ∧ k ≤ a.length) (fun i => a.length - i.toNat) (fun i => if a.drop i.toNat = b.drop i.toNat then .inl () else .inr false) (fun i hi => ?_) (s := 0) ⟨0, rfl, by omega⟩
   ·unfold ref2_limbs_L0; simpa using h
   ·obtain ⟨k, rfl, hk⟩ := hi
    by_cases c : k < a.length
    ·have cb : k < b.length := by omega
     have ea : a.drop k = a[k] :: a.drop (k + 1) := List.drop_eq_getElem_cons c
     have eb : b.drop k = b[k] :: b.drop (k + 1) := List.drop_eq_getElem_cons cb
     have ek : ((k : Nat) : Int).toNat = k := rfl
     have hiff : (a.drop k = b.drop k) ↔ (a[k] = b[k] ∧ a.drop (k + 1) = b.drop (k + 1)) := by rw [ea, eb, List.cons.injEq]
     have ek1 : ((k + 1 : Nat) : Int).toNat = k + 1 := rfl
     by_cases q : a[k] = b[k]
     ·left
      refine ⟨((k + 1 : Nat) : Int), ?_, ⟨k + 1, rfl, c⟩, by omega, ?_⟩
      ·unfold ref2_limbs_R0
       rw [T.run_ite_t (lt_t c), T.run_obl (idx_ok c), T.run_obl (idx_ok cb), nth_at c, nth_at cb, T.run_ite_f (by simp [q]), T.run_ret, ix1 k _ c (by omega)]
      ·simp only [ek, ek1, hiff, q, true_and]
     ·right
      unfold ref2_limbs_R0
      rw [T.run_ite_t (lt_t c), T.run_obl (idx_ok c), T.run_obl (idx_ok cb), nth_at c, nth_at cb, T.run_ite_t (by simp [q]), T.run_ret, ek, if_neg (by rw [hiff]; exact fun h => q h.1)]
    ·right
     have hk2 : k = a.length := by omega
     unfold ref2_limbs_R0
     rw [T.run_ite_f (decide_eq_false (by omega)), T.run_ret, hk2]
     simp [hlen]
  rw [T.run_ite_f (by rw [hlen]; simp), T.run_bind_of key]
  by_cases e : a = b
  ·rw [if_pos e, e]; simp
  ·rw [if_neg e]
   have : (a == b) = false := by simpa using e
   rw [this]; rfl
 ·have e : (a == b) = false := by
   rw [beq_eq_false_iff_ne]
   intro e; exact hlen (by rw [e])
  rw [T.run_ite_t (by simp; omega), T.run_ret, e]
theorem ref2_Is_run (a : Rat) (h : ratOk 100000000 a) : (ref2_Is a).run = some (isRb a) := by
 unfold ref2_Is
 have hb : isRb a = ((a.1 == (norm a).1) && ((a.2.1 == (norm a).2.1) && (a.2.2.1 == (norm a).2.2.1))) := by
  rw [Bool.eq_iff_iff, isRb_iff a h.1 h.2.1, ratB]
  exact ⟨fun e => e.symm, fun e => e.symm⟩
 rw [T.run_bind_of (ref2_norm a h), hb]
 cases a.1 == (norm a).1 with
 | false => rfl
 | true =>
  rw [T.run_ite_true, T.run_bind_of (limbsB_run _ _ (by have := h.2.2.1; omega))]
  cases a.2.1 == (norm a).2.1 with
  | false => rfl
  | true => rw [T.run_ite_true, T.run_bind_of (limbsB_run _ _ (by have := h.2.2.2; omega)), T.run_ret]; rfl
theorem ref2_Large_run (a : Rat) (h : ratOk 100000000 a) : (ref2_Large a).run = some (largeB a) := by
 unfold ref2_Large largeB
 rw [T.run_bind_of (ref2_norm a h), T.run_ret]
 congr 2
 ·exact decide_eq_decide.2 (by omega)
 ·exact decide_eq_decide.2 (by omega)
theorem ref2_Good_run (a : Rat) (h : ratOk 100000000 a) : (ref2_Good a).run = some (isRb a && !largeB a) := by
 unfold ref2_Good
 rw [T.run_bind_of (ref2_Is_run a h)]
 cases isRb a with
 | false => rfl
 | true => rw [T.run_ite_true, T.run_bind_of (ref2_Large_run a h), T.run_ret]; rfl
theorem blank_run (a : Rat) (h : numOk a) : (ref5_blank a).run = some (isNoneB a) := by
 unfold ref5_blank isNoneB
 have hr := ref2_Is_run a (ok_up h (by omega))
 have e : ∀ l : List Int, (((l.length : Int)) == 0) = l.isEmpty := fun l => by cases l <;> simp; omega
 rw [e, e]
 cases a.1 with
 | true => rfl
 | false =>
  rw [T.run_ite_t (by rfl)]
  cases a.2.1.isEmpty with
  | false => rfl
  | true =>
   rw [T.run_ite_true]
   cases a.2.2.1.isEmpty with
   | true => rfl
   | false => rw [T.run_ite_false, T.run_bind_of hr, T.run_ret]; rfl
theorem one_loop (g : Expr × Int → T Bool) (kids : List Expr) (k0 : Int) (n0 : Rat) (s0 : Str) (D : Nat) (hl : kids.length ≤ 100000)
  (hg : ∀ e ∈ kids, (g (e, w64 (((D + 1 : Nat) : Int) + 1))).run = some (okE (D + 1) e)) :
  (ref5_one_L0 (fun y0 y1 => g (y0, y1)) ((D + 1 : Nat) : Int) (.mk k0 n0 s0 kids) (kids.length : Int) 0).run = some (if okEs (D + 1) kids = true then .inl () else .inr false) := by
 refine T.loop_scan (r := ref5_one_R0 (fun y0 y1 => g (y0, y1)) ((D + 1 : Nat) : Int) (.mk k0 n0 s0 kids) (kids.length : Int)) kids (dflt .expr) (fun (_ : Unit) i => i) (fun _ _ => True) (fun l _ => (if okEs (D + 1) l = true then .inl () else .inr false : Unit ⊕ Bool)) (fun k _ x xs hk hx hm hd hI => ?_) (fun _ _ => ?_) (b := ()) trivial
 ·have hx' := hg x hm
  have ek : Expr.kids (.mk k0 n0 s0 kids) = kids := rfl
  unfold ref5_one_R0
  rw [T.run_ite_t (lt_t hk), ek, T.run_obl (idx_ok hk), hx, T.run_bind_of hx']
  cases q : okE (D + 1) x with
  | true =>
   left
   refine ⟨(), ?_, trivial, ?_⟩
   ·rw [T.run_ite_f (by rfl), T.run_ret, ix1 k _ hk (by omega)]
   ·show _ = (if (okE (D + 1) x && okEs (D + 1) xs) = true then _ else _)
    rw [q, Bool.true_and]
  | false =>
   right
   rw [T.run_ite_t (by rfl), T.run_ret]
   show _ = some (Sum.inr (if (okE (D + 1) x && okEs (D + 1) xs) = true then _ else _))
   rw [q, Bool.false_and]; rfl
 ·unfold ref5_one_R0
  rw [T.run_ite_f (lt_f _), T.run_ret]; rfl
theorem one_run (e : Expr) (deep : Nat) (h : allOk e) (hn : ndE e ≤ 100000) (hd : deep ≤ 32) : (ref5_one e ((deep + 1 : Nat) : Int)).run = some (okE deep e) := by
 unfold ref5_one
 refine T.fix_run (fun x : Expr × Int => allOk x.1 ∧ ndE x.1 ≤ 100000 ∧ 1 ≤ x.2 ∧ x.2 ≤ 33) (fun x => ndE x.1) (fun x => okE (x.2.toNat - 1) x.1) (fun x hx g hg => ?_) (x := (e, ((deep + 1 : Nat) : Int))) ⟨h, hn, by dsimp only; omega, by dsimp only; omega⟩
 obtain ⟨e, d⟩ := x
 obtain ⟨ha, hn, hd0, hd1⟩ := hx
 dsimp only at ha hn hd0 hd1
 obtain ⟨D, rfl⟩ : ∃ D : Nat, d = ((D + 1 : Nat) : Int) := ⟨d.toNat - 1, by omega⟩
 cases e with | mk k n s kids =>
 obtain ⟨hnum, hkids⟩ := ha
 have hnd : ndE (.mk k n s kids) = 1 + ndEs kids := rfl
 have hlen := ndEs_len kids
 have hdd : (((D + 1 : Nat) : Int)).toNat - 1 = D := by omega
 dsimp only
 rw [hdd]
 unfold ref5_one_B
 show _ = some (decide (D < 32) && (nodeB (.mk k n s kids) && okEs (D + 1) kids))
 by_cases c : D < 32
 ·rw [T.run_ite_f (decide_eq_false (by omega)), decide_eq_true c, Bool.true_and]
  have hN := ref3_Exact_run n (ok_up hnum (by omega))
  have hG := ref2_Good_run n (ok_up hnum (by omega))
  have hB := blank_run n hnum
  have hNm := ref5_Name_run s
  have e0 : ∀ m : Nat, (((m : Int)) == 0) = (((m : Int)) == (0 : Int)) := fun _ => rfl
  have hrec : ∀ e ∈ kids, (g (e, w64 (((D + 1 : Nat) : Int) + 1))).run = some (okE (D + 1) e) := fun e he => by
   have hm := ndEs_mem he
   have ew : w64 (((D + 1 : Nat) : Int) + 1) = ((D + 1 + 1 : Nat) : Int) := by rw [w64_in (by omega) (by omega)]; omega
   have := hg (e, ((D + 1 + 1 : Nat) : Int)) ⟨allOks_mem hkids e he, by dsimp only; omega, by dsimp only; omega, by dsimp only; omega⟩ (by dsimp only; rw [hnd]; omega)
   rw [ew, this]
   dsimp only
   rw [show (((D + 1 + 1 : Nat) : Int)).toNat - 1 = D + 1 by omega]
  have hloop := one_loop g kids k n s D (by omega) hrec
  have ekids : Expr.kids (.mk k n s kids) = kids := rfl
  have ekind : Expr.kind (.mk k n s kids) = k := rfl
  have ename : Expr.name (.mk k n s kids) = s := rfl
  have enum_ : Expr.num (.mk k n s kids) = n := rfl
  have tail : ∀ kd : Int, (T.bind (.ite ((Nat.cast (List.length kids) : Int) != kd) (.ret true) (.ite (!(strEq s ([] : Str))) (.ret true) (T.bind (ref5_blank n) fun r4 => .ret (!r4))) : T Bool) fun x1 =>
     .ite x1 (.ret false) (T.bind (ref5_one_L0 (fun y0 y1 => g (y0, y1)) ((D + 1 : Nat) : Int) (.mk k n s kids) kd (0 : Int)) <| Sum.elim (fun _ => .ret true) (fun x2 => .ret x2)) : T Bool).run =
     some (((kids.length : Int) == kd) && ((isNoneB n && strEq s []) && okEs (D + 1) kids)) := by
   intro kd
   have head : (.ite ((Nat.cast (List.length kids) : Int) != kd) (.ret true) (.ite (!(strEq s ([] : Str))) (.ret true) (T.bind (ref5_blank n) fun r4 => .ret (!r4))) : T Bool).run = some (!(((kids.length : Int) == kd) && (isNoneB n && strEq s []))) := by
    cases q : ((kids.length : Int) == kd) with
    | false => rw [T.run_ite_t (by rw [bne, q]; rfl)]; rfl
    | true =>
     rw [T.run_ite_f (by rw [bne, q]; rfl)]
     cases strEq s [] with
     | false => rw [T.run_ite_t (by rfl), T.run_ret, Bool.and_false]; rfl
     | true => rw [T.run_ite_f (by rfl), T.run_bind_of hB, T.run_ret, Bool.and_true, Bool.true_and]
   rw [T.run_bind_of head]
   cases q : ((kids.length : Int) == kd) with
   | false => rfl
   | true =>
    have hkd : kd = (kids.length : Int) := by
     have : (kids.length : Int) = kd := by simpa using q
     exact this.symm
    subst hkd
    rw [Bool.true_and, Bool.true_and]
    cases (isNoneB n && strEq s []) with
    | false => rfl
    | true =>
     rw [T.run_ite_f (by rfl), T.run_bind_of hloop, Bool.true_and]
     cases okEs (D + 1) kids <;> rfl
  unfold nodeB kidsN
  rw [ekids, ekind, ename, enum_]
  by_cases h1 : k = 1
  ·subst h1
   have head : (T.bind (ref3_Exact n) fun (r, ok) => .ite ((Nat.cast (List.length kids) : Int) == (0 : Int)) (.ite (strEq s ([] : Str)) (T.bind (ref2_Good n) fun r1 => .ite r1 (.ite (!n.1) (.ret (.inr ok)) (.ret (.inr false))) (.ret (.inr false))) (.ret (.inr false))) (.ret (.inr false)) : T (Int ⊕ Bool)).run = some (.inr (((kids.length : Int) == 0) && (isNumB n && strEq s []))) := by
    rw [T.run_bind_of hN]
    unfold isNumB
    generalize exactS (norm n).1 (nv (norm n).2.1) (nv (norm n).2.2.1) 0 61 = x
    obtain ⟨x1, x2⟩ := x
    dsimp only
    cases (Nat.cast (List.length kids) : Int) == (0 : Int) with
    | false => rfl
    | true =>
     rw [T.run_ite_true]
     cases strEq s [] with
     | false => rw [T.run_ite_false, T.run_ret, Bool.and_false]; rfl
     | true =>
      rw [T.run_ite_true, T.run_bind_of hG]
      cases isRb n <;> cases largeB n <;> cases n.1 <;> cases x2 <;> rfl
   refine (T.run_bind_of (a := .inr (((kids.length : Int) == 0) && (isNumB n && strEq s []))) ?_ _).trans ?_
   ·rw [T.run_ite_t (by rfl)]; exact head
   ·rw [Sum.elim_inr, T.run_ret, if_pos (.inl rfl), if_pos rfl]
    cases q : ((kids.length : Int) == 0) with
    | false => rfl
    | true =>
     have : kids = [] := List.eq_nil_of_length_eq_zero (by have : (kids.length : Int) = 0 := (by simpa using q); omega)
     subst this
     show _ = some (true && (isNumB n && strEq s []) && true)
     rw [Bool.and_true]
  ·by_cases h2 : k = 2
   ·subst h2
    have head : (.ite ((Nat.cast (List.length kids) : Int) == (0 : Int)) (T.bind (ref5_Name s) fun r2 => .ite r2 (T.bind (ref5_blank n) fun r3 => .ret (.inr r3)) (.ret (.inr false))) (.ret (.inr false)) : T (Int ⊕ Bool)).run = some (.inr (((kids.length : Int) == 0) && (isNoneB n && nameOk s))) := by
     cases (Nat.cast (List.length kids) : Int) == (0 : Int) with
     | false => rfl
     | true =>
      rw [T.run_ite_true, T.run_bind_of hNm]
      cases nameOk s with
      | false => rw [T.run_ite_false, T.run_ret, Bool.and_false]; rfl
      | true => rw [T.run_ite_true, T.run_bind_of hB, T.run_ret, Bool.and_true, Bool.true_and]
    refine (T.run_bind_of (a := .inr (((kids.length : Int) == 0) && (isNoneB n && nameOk s))) ?_ _).trans ?_
    ·rw [T.run_ite_f (by rfl), T.run_ite_t (by rfl)]; exact head
    ·rw [Sum.elim_inr, T.run_ret, if_pos (.inr rfl), if_neg (by decide), if_pos rfl]
     cases q : ((kids.length : Int) == 0) with
     | false => rfl
     | true =>
      have : kids = [] := List.eq_nil_of_length_eq_zero (by have : (kids.length : Int) = 0 := (by simpa using q); omega)
      subst this
      show _ = some (true && (isNoneB n && nameOk s) && true)
      rw [Bool.and_true]
   ·have k1 : (k == 1) = false := by simpa using h1
    have k2 : (k == 2) = false := by simpa using h2
    have fin : ∀ kd : Int, (if k = 7 then (1 : Int) else if k = 3 ∨ k = 4 ∨ k = 5 ∨ k = 6 then 2 else -1) = kd → ((((kids.length : Int) == kd) && ((isNoneB n && strEq s []) && okEs (D + 1) kids))) =
      ((((kids.length : Int) == (if k = 1 ∨ k = 2 then (0 : Int) else if k = 7 then 1 else if k = 3 ∨ k = 4 ∨ k = 5 ∨ k = 6 then 2 else -1)) && (if k = 1 then isNumB n && strEq s [] else if k = 2 then isNoneB n && nameOk s else isNoneB n && strEq s [])) && okEs (D + 1) kids) := by
     intro kd hkd
     rw [if_neg (by rintro (h | h); exact h1 h; exact h2 h), hkd, if_neg h1, if_neg h2]
     simp only [Bool.and_assoc]
    by_cases h7 : k = 7
    ·refine (T.run_bind_of (a := .inl 1) ?_ _).trans ?_
     ·rw [T.run_ite_f k1, T.run_ite_f k2, T.run_ite_t (by simpa using h7), T.run_ret]
     ·rw [Sum.elim_inl, ← fin 1 (by rw [if_pos h7])]; exact tail 1
    ·have k7 : (k == 7) = false := by simpa using h7
     by_cases h3 : k = 3
     ·refine (T.run_bind_of (a := .inl 2) ?_ _).trans ?_
      ·rw [T.run_ite_f k1, T.run_ite_f k2, T.run_ite_f k7, T.run_ite_t (by simpa using h3), T.run_ret]
      ·rw [Sum.elim_inl, ← fin 2 (by rw [if_neg h7, if_pos (.inl h3)])]; exact tail 2
     ·have k3 : (k == 3) = false := by simpa using h3
      by_cases h4 : k = 4
      ·refine (T.run_bind_of (a := .inl 2) ?_ _).trans ?_
       ·rw [T.run_ite_f k1, T.run_ite_f k2, T.run_ite_f k7, T.run_ite_f k3, T.run_ite_t (by simpa using h4), T.run_ret]
       ·rw [Sum.elim_inl, ← fin 2 (by rw [if_neg h7, if_pos (.inr (.inl h4))])]; exact tail 2
      ·have k4 : (k == 4) = false := by simpa using h4
       by_cases h5 : k = 5
       ·refine (T.run_bind_of (a := .inl 2) ?_ _).trans ?_
        ·rw [T.run_ite_f k1, T.run_ite_f k2, T.run_ite_f k7, T.run_ite_f k3, T.run_ite_f k4, T.run_ite_t (by simpa using h5), T.run_ret]
        ·rw [Sum.elim_inl, ← fin 2 (by rw [if_neg h7, if_pos (.inr (.inr (.inl h5)))])]; exact tail 2
       ·have k5 : (k == 5) = false := by simpa using h5
        by_cases h6 : k = 6
        ·refine (T.run_bind_of (a := .inl 2) ?_ _).trans ?_
         ·rw [T.run_ite_f k1, T.run_ite_f k2, T.run_ite_f k7, T.run_ite_f k3, T.run_ite_f k4, T.run_ite_f k5, T.run_ite_t (by simpa using h6), T.run_ret]
         ·rw [Sum.elim_inl, ← fin 2 (by rw [if_neg h7, if_pos (.inr (.inr (.inr h6)))])]; exact tail 2
        ·have k6 : (k == 6) = false := by simpa using h6
         refine (T.run_bind_of (a := .inr false) ?_ _).trans ?_
         ·rw [T.run_ite_f k1, T.run_ite_f k2, T.run_ite_f k7, T.run_ite_f k3, T.run_ite_f k4, T.run_ite_f k5, T.run_ite_f k6, T.run_ret]
         ·rw [Sum.elim_inr, T.run_ret, ← fin (-1) (by rw [if_neg h7, if_neg (by rintro (h | h | h | h) <;> contradiction)])]
          have : ((kids.length : Int) == -1) = false := by simp
          rw [this]; rfl
 ·rw [T.run_ite_t (decide_eq_true (by omega)), T.run_ret, decide_eq_false c]; rfl
end Go.AM.Lf
namespace Go.AM.Lf
open PL
theorem ref5_Has_run (l : List Str) (s : Str) (hl : l.length ≤ 1000000000) : (ref5_Has l s).run = some (decide (s ∈ l)) := by
 have key : (ref5_Has_L0 l s 0).run = some (if s ∈ l then .inr true else .inl ()) := by
  refine T.loop_scan (r := ref5_Has_R0 l s) l (dflt .str) (fun (_ : Unit) i => i) (fun _ _ => True) (fun l _ => (if s ∈ l then .inr true else .inl () : Unit ⊕ Bool)) (fun k _ x xs hk hx hm hd hI => ?_) (fun _ _ => ?_) (b := ()) trivial
  ·unfold ref5_Has_R0
   rw [T.run_ite_t (lt_t hk), T.run_obl (idx_ok hk), hx, strEq_iff]
   by_cases q : x = s
   ·right
    rw [T.run_ite_t (decide_eq_true q), T.run_ret, if_pos (by simp [q])]
   ·left
    refine ⟨(), ?_, trivial, ?_⟩
    ·rw [T.run_ite_f (decide_eq_false q), T.run_ret, ix1 k _ hk (by omega)]
    ·have : (s ∈ x :: xs) ↔ s ∈ xs := by rw [List.mem_cons]; exact ⟨fun h => h.resolve_left fun e => q e.symm, .inr⟩
     simp only [this]
  ·unfold ref5_Has_R0
   rw [T.run_ite_f (lt_f _), T.run_ret, if_neg (by simp)]
 unfold ref5_Has
 rw [T.run_bind_of key]
 by_cases h : s ∈ l
 ·rw [if_pos h, decide_eq_true h]; rfl
 ·rw [if_neg h, decide_eq_false h]; rfl
theorem dd_len (xs acc : List Str) : (dd acc xs).length ≤ acc.length + xs.length := by
 induction xs generalizing acc with
 | nil => simp [dd_nil]
 | cons x r ih =>
  rw [dd_cons]
  have := ih (if x ∈ acc then acc else acc ++ [x])
  have h2 : (if x ∈ acc then acc else acc ++ [x]).length ≤ acc.length + 1 := by split <;> simp
  simp only [List.length_cons]; omega
mutual
theorem allE_len : ∀ e : Expr, (allE e).length ≤ bkE e
 | .mk k n s l => by
  have := allEs_len l
  unfold allE bkE
  rw [List.length_append]
  split <;> simp <;> omega
theorem allEs_len : ∀ l : List Expr, (allEs l).length ≤ bkEs l
 | [] => by simp [allEs]
 | e :: r => by
  have h1 := allE_len e
  have h2 := allEs_len r
  unfold allEs bkEs
  rw [List.length_append]; omega
end
theorem names_inner (g : Expr → T (List Str)) (e : Expr) (i : Int) (m acc : List Str) (hm : m.length ≤ 10000000) (ha : acc.length ≤ 10000000) :
  (ref5_Names_L1 (fun y0 => g y0) e i m (0, acc)).run = some (dd acc m) := by
 have key := T.loop_fold (r := ref5_Names_R1 (fun y0 => g y0) e i m) m (dflt .str) (fun (b : List Str) i => (i, b)) (fun k b => b.length ≤ acc.length + k) (fun b x => if x ∈ b then b else b ++ [x]) id (fun k b x hk hx hm' hI => ?_) (fun b hI => ?_) (b := acc) (by simp)
 ·exact key.1
 ·have hH := ref5_Has_run b x (by omega)
  unfold ref5_Names_R1
  dsimp only
  rw [T.run_ite_t (lt_t hk), T.run_obl (idx_ok hk), hx, T.run_same, Nat.zero_add, List.take_length, List.drop_zero, T.run_bind_of hH]
  by_cases q : x ∈ b
  ·rw [decide_eq_true q, if_pos q, T.run_ite_f (by rfl), T.run_cur _ rfl rfl rfl, T.run_same, T.run_ret, ix1 k _ hk (by omega)]
   exact ⟨rfl, by omega⟩
  ·rw [decide_eq_false q, if_neg q, T.run_ite_t (by rfl), T.run_obl (idx_ok hk), T.run_app _ rfl rfl rfl (by omega), T.run_cur _ (by simp) rfl (by simp), T.run_obl (by simp), T.run_ret, ix1 k _ hk (by omega)]
   exact ⟨rfl, by simp; omega⟩
 ·unfold ref5_Names_R1
  dsimp only
  rw [T.run_ite_f (lt_f _), T.run_cur _ rfl rfl rfl, T.run_same, T.run_ret]; rfl
theorem ref5_Names_run (e : Expr) (hb : bkE e ≤ 1000000) : (ref5_Names e).run = some (dd [] (allE e)) := by
 unfold ref5_Names
 refine T.fix_run (fun x : Expr => bkE x ≤ 1000000) (fun x => bkE x) (fun x => dd [] (allE x)) (fun x hx g hg => ?_) (x := e) hb
 have hk := bkEs_kids x
 have hkl := bkEs_len x.kids
 have loop : ∀ acc : List Str, acc.length ≤ 1 → (ref5_Names_L0 (fun y0 => g y0) x (0, acc)).run = some (dd acc (allEs x.kids)) := by
  intro acc hacc
  have key := T.loop_list (r := ref5_Names_R0 (fun y0 => g y0) x) x.kids (dflt .expr) (fun (b : List Str) i => (i, b)) (fun b r => b.length + bkEs r ≤ 1 + bkEs x.kids ∧ ∀ y ∈ r, y ∈ x.kids) (fun r b => dd b (allEs r)) ?_ ?_ ⟨(by omega : acc.length + bkEs x.kids ≤ 1 + bkEs x.kids), fun y hy => hy⟩
  ·exact key
  ·rintro b y ys i h0 hi hy ⟨h1, h2⟩
   obtain ⟨j, rfl⟩ : ∃ j : Nat, i = (j : Int) := ⟨i.toNat, by omega⟩
   have hj : j < x.kids.length := by omega
   simp only [bkEs] at h1
   have hm := bkEs_mem (h2 y List.mem_cons_self)
   have hr := hg y (by omega) (by omega)
   have hl := allE_len y
   have hd := dd_len (allE y) []
   simp only [List.length_nil] at hd
   have hin := names_inner g x (j : Int) (dd [] (allE y)) b (by omega) (by omega)
   rw [dd_once] at hin
   have hbl := dd_len (allE y) b
   refine .inl ⟨dd b (allE y), ?_, ⟨by omega, fun z hz => h2 z (List.mem_cons_of_mem _ hz)⟩, ?_⟩
   ·unfold ref5_Names_R0
    dsimp only
    rw [T.run_ite_t (decide_eq_true hi), T.run_obl ⟨h0, hi⟩, hy, T.run_bind_of hr, T.run_cur _ rfl rfl rfl, T.run_same, T.run_bind_of hin, T.run_cur _ rfl rfl rfl, T.run_same, T.run_ret, w64_in (by omega) (by omega)]
   ·show dd (dd b (allE y)) (allEs ys) = dd b (allE y ++ allEs ys)
    rw [dd_append]
  ·rintro b _
   unfold ref5_Names_R0
   dsimp only
   rw [T.run_ite_f (lt_f _), T.run_cur _ rfl rfl rfl, T.run_same, T.run_ret]; rfl
 unfold ref5_Names_B
 cases x with | mk k n s kids =>
 by_cases h2 : k = 2
 ·subst h2
  have hL := loop [s] (by simp)
  have hL : (ref5_Names_L0 (fun y0 => g y0) (.mk 2 n s kids) ((0 : Int), ([Expr.name (.mk 2 n s kids)] : List Str))).run = some (dd [s] (allEs kids)) := hL
  rw [T.run_ite_t (by rfl), T.run_leN _ (by omega), T.run_cur _ rfl rfl rfl, T.run_same, T.run_bind_of hL, T.run_same, T.run_ret, Nat.zero_add, List.take_length, List.drop_zero]
  rfl
 ·have hL := loop [] (by simp)
  have hL : (ref5_Names_L0 (fun y0 => g y0) (.mk k n s kids) ((0 : Int), ([] : List Str))).run = some (dd [] (allEs kids)) := hL
  rw [T.run_ite_f (by show (k == 2) = false; simpa using h2), T.run_cur _ rfl rfl rfl, T.run_same, T.run_bind_of hL, T.run_same, T.run_ret, Nat.zero_add, List.take_length, List.drop_zero]
  show some (dd [] (allEs kids)) = some (dd [] ((if k = 2 then [s] else []) ++ allEs kids))
  rw [if_neg h2]; rfl
theorem ref5_Nodes_run (e : Expr) (hb : bkE e ≤ 1000000000) : (ref5_Nodes e).run = some ((ndE e : Nat) : Int) := by
 unfold ref5_Nodes
 refine T.fix_run (fun x : Expr => bkE x ≤ 1000000000) (fun x => bkE x) (fun x => ((ndE x : Nat) : Int)) (fun x hx g hg => ?_) (x := e) hb
 have hk := bkEs_kids x
 have hkl := bkEs_len x.kids
 have ndb : ∀ (l : List Expr), ndEs l ≤ bkEs l := by
  have both : ∀ n, (∀ e : Expr, bkE e ≤ n → ndE e ≤ bkE e) := by
   intro n
   induction n using Nat.strongRecOn with
   | _ n ih =>
    intro e he
    cases e with | mk k m s l =>
    have hl : ∀ l' : List Expr, bkEs l' < n → ndEs l' ≤ bkEs l' := by
     intro l'
     induction l' with
     | nil => intro _; exact Nat.le_refl _
     | cons y r ihr =>
      intro h
      unfold bkEs at h ⊢
      unfold ndEs
      have h1 := ih (bkE y) (by omega) y (Nat.le_refl _)
      have h2 := ihr (by omega)
      omega
    have h3 : bkEs l < bkE (.mk k m s l) := bkEs_kids (.mk k m s l)
    have := hl l (by omega)
    unfold ndE
    omega
  intro l
  induction l with
  | nil => exact Nat.le_refl _
  | cons y r ihr =>
   unfold ndEs bkEs
   have := both (bkE y) y (Nat.le_refl _)
   omega
 have loop : (ref5_Nodes_L0 (fun y0 => g y0) x (1, 0)).run = some ((1 + ndEs x.kids : Nat) : Int) := by
  have key := T.loop_list (r := ref5_Nodes_R0 (fun y0 => g y0) x) x.kids (dflt .expr) (fun (b : Nat) i => (((b : Nat) : Int), i)) (fun b r => b + ndEs r ≤ 1 + ndEs x.kids ∧ ∀ y ∈ r, y ∈ x.kids) (fun r b => ((b + ndEs r : Nat) : Int)) ?_ ?_ (b := 1) ⟨Nat.le_refl _, fun y hy => hy⟩
  ·exact key
  ·rintro b y ys i h0 hi hy ⟨h1, h2⟩
   have hm := bkEs_mem (h2 y List.mem_cons_self)
   have hr := hg y (by omega) (by omega)
   have hnd := ndb x.kids
   have e1 : ndEs (y :: ys) = ndE y + ndEs ys := rfl
   rw [e1] at h1
   refine .inl ⟨b + ndE y, ?_, ⟨by omega, fun z hz => h2 z (List.mem_cons_of_mem _ hz)⟩, by rw [e1, Nat.add_assoc]⟩
   unfold ref5_Nodes_R0
   dsimp only
   rw [T.run_ite_t (decide_eq_true hi), T.run_obl ⟨h0, hi⟩, hy, T.run_bind_of hr, T.run_ret, w64_in (x := i + 1) (by omega) (by omega), w64_in (by omega) (by omega)]
   rfl
  ·rintro b _
   unfold ref5_Nodes_R0
   dsimp only
   rw [T.run_ite_f (lt_f _), T.run_ret]; rfl
 unfold ref5_Nodes_B
 rw [T.run_bind_of loop, T.run_ret]
 cases x with | mk k n s kids => rfl
theorem ref5_Is_run (e : Expr) (h : allOk e) (hb : bkE e ≤ 1000000) (hn : ndE e ≤ 256) : (ref5_Is e).run = some (okE 0 e) := by
 unfold ref5_Is
 have h1 : (ref5_one e 1).run = some (okE 0 e) := one_run e 0 h (by omega) (by omega)
 rw [T.run_bind_of h1]
 cases okE 0 e with
 | false => rfl
 | true => rw [T.run_ite_true, T.run_bind_of (ref5_Nodes_run e (by omega)), T.run_ret, decide_eq_true (by omega)]
end Go.AM.Lf
namespace Go.AM.Lf
open PL
def bindsK (k : Int) : Int := if k = 3 ∨ k = 4 then 1 else if k = 5 ∨ k = 6 then 2 else if k = 7 then 3 else 4
def markK (k : Int) : Str := if k = 3 then [32, 43, 32] else if k = 4 then [32, 45, 32] else if k = 5 then [32, 42, 32] else if k = 6 then [32, 47, 32] else []
def parS (b : Bool) (s : Str) : Str := if b = true then [40] ++ s ++ [41] else s
def joinK (k : Int) : List (Int × Str) → Str
 | [a] => [45] ++ parS (decide (a.1 < 3)) a.2
 | [a, b] => parS (decide (a.1 < bindsK k)) a.2 ++ markK k ++ parS (decide (b.1 < bindsK k + 1)) b.2
 | _ => []
mutual
def prE : Expr → Str
 | .mk k n s l => if k = 1 then (exactS (norm n).1 (nv (norm n).2.1) (nv (norm n).2.2.1) 0 61).1 else if k = 2 then s else joinK k (prL l)
def prL : List Expr → List (Int × Str)
 | [] => []
 | e :: r => (bindsK e.kind, prE e) :: prL r
end
theorem parS_len (b : Bool) (s : Str) : (parS b s).length ≤ s.length + 2 := by unfold parS; split <;> simp <;> omega
theorem markK_len (k : Int) : (markK k).length ≤ 3 := by unfold markK; (repeat' split) <;> simp
theorem exact_len (n : Rat) (h : numOk n) : (exactS (norm n).1 (nv (norm n).2.1) (nv (norm n).2.2.1) 0 61).1.length ≤ 6000 := by
 have hn := norm_ok (k := 100) (by omega) h
 have hd := ratN_den n.1 (nv n.2.1) (nv n.2.2.1)
 have hd : nv (norm n).2.2.1 ≠ 0 := hd
 rcases hx : exactS (norm n).1 (nv (norm n).2.1) (nv (norm n).2.2.1) 0 61 with ⟨s, b⟩
 cases b with
 | true =>
  obtain ⟨j, h1, h2, h3, rfl⟩ := exactS_ok _ _ _ hd 61 0 s hx
  have l1 := ofN_nv_len hn.1
  have l2 := hn.2.2.1
  have l3 := ten_len j
  have l4 := ofN_mul_len (nv (norm n).2.1) (10 ^ j)
  have l5 := ofN_mono (Nat.div_le_self (nv (norm n).2.1 * 10 ^ j) (nv (norm n).2.2.1))
  have l6 := pr_len (nv (norm n).2.1 * 10 ^ j / nv (norm n).2.2.1) 162 (by omega)
  have l7 : (sgS (norm n).1).length ≤ 1 := by unfold sgS; split <;> simp
  dsimp only
  rw [List.length_append]
  by_cases hj : j = 0
  ·subst hj
   unfold ptd
   rw [if_pos rfl]
   omega
  ·obtain ⟨w, p, e, _, _, _, hp, _, hw⟩ := ptd_parts (pr (nv (norm n).2.1 * 10 ^ j / nv (norm n).2.2.1)) j hj (pr_digs _).1
   rw [e, List.length_append, List.length_cons]
   omega
 | false =>
  have : ∀ (f k : Nat) (s : Str), exactS (norm n).1 (nv (norm n).2.1) (nv (norm n).2.2.1) k f = (s, false) → s = [] := by
   intro f
   induction f with
   | zero => intro k s h; unfold exactS at h; cases h; rfl
   | succ f ih =>
    intro k s h
    unfold exactS at h
    split at h
    ·cases h
    ·exact ih _ _ h
  rw [this 61 0 s hx]; simp
theorem okE_kids {d : Nat} {k : Int} {n : Rat} {s : Str} {l : List Expr} (h : okE d (.mk k n s l) = true) : ((l.length : Int) = kidsN k) ∧ okEs (d + 1) l = true := by
 have h : (decide (d < 32) && (nodeB (.mk k n s l) && okEs (d + 1) l)) = true := h
 simp only [Bool.and_eq_true] at h
 obtain ⟨_, h1, h2⟩ := h
 unfold nodeB at h1
 simp only [Bool.and_eq_true] at h1
 exact ⟨eq_of_beq h1.1, h2⟩
theorem prE_len : ∀ (m : Nat) (e : Expr) (d : Nat), ndE e ≤ m → okE d e = true → allOk e → (prE e).length ≤ 2000 * szE e := by
 intro m
 induction m with
 | zero => intro e d hm; cases e; unfold ndE at hm; omega
 | succ m ih =>
  intro e d hm ho ha
  cases e with | mk k n s l =>
  obtain ⟨hk, hl⟩ := okE_kids ho
  obtain ⟨hn, hal⟩ := ha
  have hnd : ndE (.mk k n s l) = 1 + ndEs l := rfl
  have hsz : szE (.mk k n s l) = 3 + s.length + 8 * n.2.1.length + 8 * n.2.2.1.length + szEs l := rfl
  rw [hnd] at hm
  rw [hsz]
  show (if k = 1 then (exactS (norm n).1 (nv (norm n).2.1) (nv (norm n).2.2.1) 0 61).1 else if k = 2 then s else joinK k (prL l)).length ≤ _
  by_cases h1 : k = 1
  ·rw [if_pos h1]; have := exact_len n hn; omega
  ·rw [if_neg h1]
   by_cases h2 : k = 2
   ·rw [if_pos h2]; omega
   ·rw [if_neg h2]
    match l, hl, hal, hm with
    | [], _, _, _ => show (joinK k []).length ≤ _; unfold joinK; simp
    | [a], hl, hal, hm =>
     have ha' : okE (d + 1) a = true := by
      have : (okE (d + 1) a && okEs (d + 1) []) = true := hl
      simp only [Bool.and_eq_true] at this; exact this.1
     have := ih a (d + 1) (by have : ndEs [a] = ndE a + 0 := rfl; omega) ha' hal.1
     have e1 : szEs [a] = szE a + 0 := rfl
     have hp := parS_len (decide (bindsK a.kind < 3)) (prE a)
     show ([45] ++ parS (decide (bindsK a.kind < 3)) (prE a)).length ≤ _
     rw [List.length_append, List.length_singleton, e1]; omega
    | [a, b], hl, hal, hm =>
     have hab : okE (d + 1) a = true ∧ okE (d + 1) b = true := by
      have : (okE (d + 1) a && (okE (d + 1) b && okEs (d + 1) [])) = true := hl
      simp only [Bool.and_eq_true] at this; exact ⟨this.1, this.2.1⟩
     have e0 : ndEs [a, b] = ndE a + (ndE b + 0) := rfl
     have h3 := ih a (d + 1) (by omega) hab.1 hal.1
     have h4 := ih b (d + 1) (by omega) hab.2 hal.2.1
     have e1 : szEs [a, b] = szE a + (szE b + 0) := rfl
     have hp := parS_len (decide (bindsK a.kind < bindsK k)) (prE a)
     have hq := parS_len (decide (bindsK b.kind < bindsK k + 1)) (prE b)
     have hm' := markK_len k
     show (parS (decide (bindsK a.kind < bindsK k)) (prE a) ++ markK k ++ parS (decide (bindsK b.kind < bindsK k + 1)) (prE b)).length ≤ _
     rw [List.length_append, List.length_append, e1]; omega
    | a :: b :: c :: r, _, _, _ => show (joinK k _).length ≤ _; unfold prL prL prL joinK; simp
theorem binds_run (e : Expr) : (expr_binds e).run = some (bindsK e.kind) := by
 unfold expr_binds bindsK
 generalize e.kind = k
 by_cases h3 : k = 3
 ·subst h3; rfl
 by_cases h4 : k = 4
 ·subst h4; rfl
 by_cases h5 : k = 5
 ·subst h5; rfl
 by_cases h6 : k = 6
 ·subst h6; rfl
 by_cases h7 : k = 7
 ·subst h7; rfl
 ·simp [h3, h4, h5, h6, h7]
theorem row_run (k : Int) : (ref5_row k).run = some (bindsK k) := by
 unfold ref5_row bindsK
 by_cases h3 : k = 3
 ·subst h3; rfl
 by_cases h4 : k = 4
 ·subst h4; rfl
 by_cases h5 : k = 5
 ·subst h5; rfl
 by_cases h6 : k = 6
 ·subst h6; rfl
 by_cases h7 : k = 7
 ·subst h7; rfl
 ·simp [h3, h4, h5, h6, h7]
theorem placed_run (g : Expr → T Str) (e : Expr) (least : Int) (t : Str) (hg : (g e).run = some t) (hl : t.length ≤ 1000000000000) : (expr_placed (fun y0 => g y0) e least).run = some (parS (decide (bindsK e.kind < least)) t) := by
 unfold expr_placed parS
 rw [T.run_bind_of (binds_run e)]
 cases decide (bindsK e.kind < least) with
 | true => rw [T.run_ite_true, T.run_bind_of hg, T.run_leN _ (by simp; omega), T.run_leN _ (by simp [cat_eq]; omega), T.run_ret, if_pos rfl]; rfl
 | false => rw [T.run_ite_false, T.run_bind_of hg, T.run_ret, if_neg (by simp)]
theorem kids_of {k : Int} {l : List Expr} (hk : (l.length : Int) = kidsN k) (h1 : k ≠ 1) (h2 : k ≠ 2) : (k = 7 ∧ ∃ a, l = [a]) ∨ ((k = 3 ∨ k = 4 ∨ k = 5 ∨ k = 6) ∧ ∃ a b, l = [a, b]) := by
 unfold kidsN at hk
 rw [if_neg (by rintro (h | h); exact h1 h; exact h2 h)] at hk
 by_cases h7 : k = 7
 ·rw [if_pos h7] at hk
  match l, hk with
  | [a], _ => exact .inl ⟨h7, a, rfl⟩
  | [], hk => simp at hk
  | _ :: _ :: _, hk => simp at hk; omega
 ·rw [if_neg h7] at hk
  by_cases h : k = 3 ∨ k = 4 ∨ k = 5 ∨ k = 6
  ·rw [if_pos h] at hk
   match l, hk with
   | [a, b], _ => exact .inr ⟨h, a, b, rfl⟩
   | [], hk => simp at hk
   | [_], hk => simp at hk
   | _ :: _ :: _ :: _, hk => simp at hk; omega
  ·rw [if_neg h] at hk; omega
theorem print_run (e : Expr) (d : Nat) (ho : okE d e = true) (ha : allOk e) (hs : szE e ≤ 1000000) : (expr_print e).run = some (prE e) := by
 unfold expr_print
 refine T.fix_run (fun x : Expr => (∃ d, okE d x = true) ∧ allOk x ∧ szE x ≤ 1000000) (fun x => ndE x) (fun x => prE x) (fun x hx g hg => ?_) (x := e) ⟨⟨d, ho⟩, ha, hs⟩
 obtain ⟨⟨d, ho⟩, ha, hs⟩ := hx
 cases x with | mk k n s l =>
 obtain ⟨hk, hl⟩ := okE_kids ho
 obtain ⟨hn, hal⟩ := ha
 have hnd : ndE (.mk k n s l) = 1 + ndEs l := rfl
 have hsz : szE (.mk k n s l) = 3 + s.length + 8 * n.2.1.length + 8 * n.2.2.1.length + szEs l := rfl
 have hE := dec_Exact_run n (ok_up hn (by omega))
 have hprE : prE (.mk k n s l) = if k = 1 then (exactS (norm n).1 (nv (norm n).2.1) (nv (norm n).2.2.1) 0 61).1 else if k = 2 then s else joinK k (prL l) := rfl
 rw [hprE]
 unfold expr_print_B
 rw [show Expr.kind (.mk k n s l) = k from rfl, show Expr.kids (.mk k n s l) = l from rfl, show Expr.num (.mk k n s l) = n from rfl, show Expr.name (.mk k n s l) = s from rfl]
 have hbind := binds_run (.mk k n s l)
 rw [show Expr.kind (.mk k n s l) = k from rfl] at hbind
 by_cases h1 : k = 1
 ·rw [if_pos h1]
  refine (T.run_bind_of (a := .inr (exactS (norm n).1 (nv (norm n).2.1) (nv (norm n).2.2.1) 0 61).1) ?_ _).trans rfl
  rw [T.run_ite_t (by simpa using h1), T.run_bind_of hE, T.run_ret]
 have k1 : (k == 1) = false := by simpa using h1
 by_cases h2 : k = 2
 ·rw [if_neg h1, if_pos h2]
  refine (T.run_bind_of (a := .inr s) ?_ _).trans rfl
  rw [T.run_ite_f k1, T.run_ite_t (by simpa using h2), T.run_ret]
 have k2 : (k == 2) = false := by simpa using h2
 rw [if_neg h1, if_neg h2]
 rcases kids_of hk h1 h2 with ⟨h7, a, rfl⟩ | ⟨h36, a, b, rfl⟩
 ·have ha' : okE (d + 1) a = true := by
   have : (okE (d + 1) a && okEs (d + 1) []) = true := hl
   simp only [Bool.and_eq_true] at this; exact this.1
  have e0 : ndEs [a] = ndE a + 0 := rfl
  have e1 : szEs [a] = szE a + 0 := rfl
  have hr := hg a ⟨⟨_, ha'⟩, hal.1, by omega⟩ (by omega)
  have hlen := prE_len (ndE a) a (d + 1) (Nat.le_refl _) ha' hal.1
  have hp := placed_run g a 3 (prE a) hr (by omega)
  have hpl := parS_len (decide (bindsK a.kind < 3)) (prE a)
  refine (T.run_bind_of (a := .inr (joinK k (prL [a]))) ?_ _).trans rfl
  rw [T.run_ite_f k1, T.run_ite_f k2, T.run_ite_t (by simpa using h7), T.run_obl ⟨by omega, by simp⟩, show nth [a] (0 : Int) (dflt .expr) = a from rfl, T.run_bind_of hp, T.run_leN _ (by simp; omega), T.run_ret]
  rfl
 ·have hab : okE (d + 1) a = true ∧ okE (d + 1) b = true := by
   have : (okE (d + 1) a && (okE (d + 1) b && okEs (d + 1) [])) = true := hl
   simp only [Bool.and_eq_true] at this; exact ⟨this.1, this.2.1⟩
  have e0 : ndEs [a, b] = ndE a + (ndE b + 0) := rfl
  have e1 : szEs [a, b] = szE a + (szE b + 0) := rfl
  have ra := hg a ⟨⟨_, hab.1⟩, hal.1, by omega⟩ (by omega)
  have rb := hg b ⟨⟨_, hab.2⟩, hal.2.1, by omega⟩ (by omega)
  have la := prE_len (ndE a) a (d + 1) (Nat.le_refl _) hab.1 hal.1
  have lb := prE_len (ndE b) b (d + 1) (Nat.le_refl _) hab.2 hal.2.1
  have hbk : w64 (bindsK k + 1) = bindsK k + 1 := by
   have : bindsK k = 1 ∨ bindsK k = 2 ∨ bindsK k = 3 ∨ bindsK k = 4 := by unfold bindsK; (repeat' split) <;> simp
   rw [w64_in (by omega) (by omega)]
  have pa := placed_run g a (bindsK k) (prE a) ra (by omega)
  have pb := placed_run g b (bindsK k + 1) (prE b) rb (by omega)
  have qa := parS_len (decide (bindsK a.kind < bindsK k)) (prE a)
  have qb := parS_len (decide (bindsK b.kind < bindsK k + 1)) (prE b)
  have hm := markK_len k
  have k7 : (k == 7) = false := by rw [beq_eq_false_iff_ne]; omega
  refine (T.run_bind_of (a := .inl (markK k)) ?_ _).trans ?_
  ·rw [T.run_ite_f k1, T.run_ite_f k2, T.run_ite_f k7]
   rcases h36 with rfl | rfl | rfl | rfl <;> rfl
  ·rw [Sum.elim_inl, T.run_obl ⟨by omega, by simp⟩, T.run_bind_of hbind, show nth [a, b] (0 : Int) (dflt .expr) = a from rfl, T.run_bind_of pa, T.run_leN _ (by omega), T.run_obl ⟨by omega, by simp⟩, T.run_bind_of hbind, hbk, show nth [a, b] (1 : Int) (dflt .expr) = b from rfl, T.run_bind_of pb, T.run_leN _ (by simp [cat_eq]; omega), T.run_ret]
   rfl
theorem text_run (e : Expr) (asks : Int) (d : Nat) (ho : okE d e = true) (ha : allOk e) (hs : szE e ≤ 100000) : (ref5_text e asks).run = some (parS (decide (bindsK e.kind < asks)) (prE e)) := by
 unfold ref5_text
 refine T.fix_run (fun x : Expr × Int => (∃ d, okE d x.1 = true) ∧ allOk x.1 ∧ szE x.1 ≤ 100000) (fun x => ndE x.1) (fun x => parS (decide (bindsK x.1.kind < x.2)) (prE x.1)) (fun x hx g hg => ?_) (x := (e, asks)) ⟨⟨d, ho⟩, ha, hs⟩
 obtain ⟨x, q⟩ := x
 obtain ⟨⟨d, ho⟩, ha, hs⟩ := hx
 dsimp only at ho ha hs
 have hlenx := prE_len (ndE x) x d (Nat.le_refl _) ho ha
 cases x with | mk k n s l =>
 obtain ⟨hk, hl⟩ := okE_kids ho
 obtain ⟨hn, hal⟩ := ha
 have hnd : ndE (.mk k n s l) = 1 + ndEs l := rfl
 have hsz : szE (.mk k n s l) = 3 + s.length + 8 * n.2.1.length + 8 * n.2.2.1.length + szEs l := rfl
 have hE := ref3_Exact_run n (ok_up hn (by omega))
 have hprE : prE (.mk k n s l) = if k = 1 then (exactS (norm n).1 (nv (norm n).2.1) (nv (norm n).2.2.1) 0 61).1 else if k = 2 then s else joinK k (prL l) := rfl
 unfold ref5_text_B
 rw [show Expr.kind (.mk k n s l) = k from rfl, show Expr.kids (.mk k n s l) = l from rfl, show Expr.num (.mk k n s l) = n from rfl, show Expr.name (.mk k n s l) = s from rfl]
 have fin : ∀ t : T Str, t.run = some (prE (.mk k n s l)) → (T.bind t fun s1 => T.bind (ref5_row k) fun r10 => .ite (decide (r10 < q))
   (.obl (((List.length ([40] : Str)) + (List.length s1)) ≤ (4611686018427387904 : Nat)) <| .obl (((List.length (cat ([40] : Str) s1)) + (List.length ([41] : Str))) ≤ (4611686018427387904 : Nat)) <| .ret (cat (cat ([40] : Str) s1) ([41] : Str))) (.ret s1) : T Str).run = some (parS (decide (bindsK k < q)) (prE (.mk k n s l))) := by
  intro t ht
  rw [T.run_bind_of ht, T.run_bind_of (row_run k)]
  cases decide (bindsK k < q) with
  | true => rw [T.run_ite_true, T.run_leN _ (by simp; omega), T.run_leN _ (by simp [cat_eq]; omega), T.run_ret]; rfl
  | false => rw [T.run_ite_false, T.run_ret]; rfl
 refine fin _ ?_
 rw [hprE]
 by_cases h1 : k = 1
 ·rw [if_pos h1, T.run_ite_t (by simpa using h1), T.run_bind_of hE, T.run_ret]
 have k1 : (k == 1) = false := by simpa using h1
 by_cases h2 : k = 2
 ·rw [if_neg h1, if_pos h2, T.run_ite_f k1, T.run_ite_t (by simpa using h2), T.run_ret]
 have k2 : (k == 2) = false := by simpa using h2
 rw [if_neg h1, if_neg h2]
 rcases kids_of hk h1 h2 with ⟨h7, a, rfl⟩ | ⟨h36, a, b, rfl⟩
 ·have ha' : okE (d + 1) a = true := by
   have : (okE (d + 1) a && okEs (d + 1) []) = true := hl
   simp only [Bool.and_eq_true] at this; exact this.1
  have e0 : ndEs [a] = ndE a + 0 := rfl
  have e1 : szEs [a] = szE a + 0 := rfl
  have hr := hg (a, 3) ⟨⟨_, ha'⟩, hal.1, by dsimp only; omega⟩ (by dsimp only; omega)
  have hlen := prE_len (ndE a) a (d + 1) (Nat.le_refl _) ha' hal.1
  have hpl := parS_len (decide (bindsK a.kind < 3)) (prE a)
  dsimp only at hr
  rw [T.run_ite_f k1, T.run_ite_f k2, T.run_ite_t (by simpa using h7), T.run_obl ⟨by omega, by simp⟩, show nth [a] (0 : Int) (dflt .expr) = a from rfl, T.run_bind_of hr, T.run_leN _ (by simp; omega), T.run_ret]
  rfl
 ·have hab : okE (d + 1) a = true ∧ okE (d + 1) b = true := by
   have : (okE (d + 1) a && (okE (d + 1) b && okEs (d + 1) [])) = true := hl
   simp only [Bool.and_eq_true] at this; exact ⟨this.1, this.2.1⟩
  have e0 : ndEs [a, b] = ndE a + (ndE b + 0) := rfl
  have e1 : szEs [a, b] = szE a + (szE b + 0) := rfl
  have ra : ∀ q : Int, (g (a, q)).run = some (parS (decide (bindsK a.kind < q)) (prE a)) := fun q => hg (a, q) ⟨⟨_, hab.1⟩, hal.1, by dsimp only; omega⟩ (by dsimp only; omega)
  have rb : ∀ q : Int, (g (b, q)).run = some (parS (decide (bindsK b.kind < q)) (prE b)) := fun q => hg (b, q) ⟨⟨_, hab.2⟩, hal.2.1, by dsimp only; omega⟩ (by dsimp only; omega)
  have la := prE_len (ndE a) a (d + 1) (Nat.le_refl _) hab.1 hal.1
  have lb := prE_len (ndE b) b (d + 1) (Nat.le_refl _) hab.2 hal.2.1
  have qa : ∀ q : Int, (parS (decide (bindsK a.kind < q)) (prE a)).length ≤ 1000000000 := fun q => by have := parS_len (decide (bindsK a.kind < q)) (prE a); omega
  have qb : ∀ q : Int, (parS (decide (bindsK b.kind < q)) (prE b)).length ≤ 1000000000 := fun q => by have := parS_len (decide (bindsK b.kind < q)) (prE b); omega
  have k7 : (k == 7) = false := by rw [beq_eq_false_iff_ne]; omega
  have two : ∀ (m : Str) (p q : Int), m.length ≤ 3 → (.obl (idxOk (0 : Int) (List.length [a, b])) <| T.bind (g (nth [a, b] (0 : Int) (dflt .expr), p)) fun r2 => .obl (((List.length r2) + (List.length m)) ≤ (4611686018427387904 : Nat)) <| .obl (idxOk (1 : Int) (List.length [a, b])) <|
    T.bind (g (nth [a, b] (1 : Int) (dflt .expr), q)) fun r3 => .obl (((List.length (cat r2 m)) + (List.length r3)) ≤ (4611686018427387904 : Nat)) <| .ret (cat (cat r2 m) r3) : T Str).run = some (parS (decide (bindsK a.kind < p)) (prE a) ++ m ++ parS (decide (bindsK b.kind < q)) (prE b)) := by
   intro m p q hm
   have h3 := qa p
   have h4 := qb q
   rw [T.run_obl ⟨by omega, by simp⟩, show nth [a, b] (0 : Int) (dflt .expr) = a from rfl, T.run_bind_of (ra p), T.run_leN _ (by omega), T.run_obl ⟨by omega, by simp⟩, show nth [a, b] (1 : Int) (dflt .expr) = b from rfl, T.run_bind_of (rb q), T.run_leN _ (by simp [cat_eq]; omega), T.run_ret]
   rfl
  rw [T.run_ite_f k1, T.run_ite_f k2, T.run_ite_f k7]
  rcases h36 with rfl | rfl | rfl | rfl
  ·rw [T.run_ite_t (by rfl)]; exact two [32, 43, 32] 1 2 (by simp)
  ·rw [T.run_ite_f (by rfl), T.run_ite_t (by rfl)]; exact two [32, 45, 32] 1 2 (by simp)
  ·rw [T.run_ite_f (by rfl), T.run_ite_f (by rfl), T.run_ite_t (by rfl)]; exact two [32, 42, 32] 2 3 (by simp)
  ·rw [T.run_ite_f (by rfl), T.run_ite_f (by rfl), T.run_ite_f (by rfl), T.run_ite_t (by rfl)]; exact two [32, 47, 32] 2 3 (by simp)
theorem ref5_Print_run (e : Expr) (ho : okE 0 e = true) (ha : allOk e) (hs : szE e ≤ 700) (hb : bkE e ≤ 1000000) : (ref5_Print e).run = some (prE e) := by
 have hn := ndE_sz e
 unfold ref5_Print
 rw [T.run_bind_of (ref5_Is_run e ha hb (by omega)), ho, T.run_ite_f (by rfl), T.run_bind_of (text_run e 1 0 ho ha (by omega)), T.run_ret]
 have : decide (bindsK e.kind < 1) = false := by
  refine decide_eq_false ?_
  unfold bindsK
  (repeat' split) <;> omega
 rw [this]; rfl
end Go.AM.Lf
namespace Go.AM
theorem T.fix_rel {σ ρ : Type} {b : (σ → T ρ) → σ → T ρ} (R : Nat → σ → ρ → Prop) (h0 : ∀ x y, ¬ R 0 x y)
  (h : ∀ n x y, R (n + 1) x y → ∀ g : σ → T ρ, (∀ x' y', R n x' y' → (g x').run = some y') → (b g x).run = some y) {n : Nat} {x : σ} {y : ρ} (hx : R n x y) : (T.fix b x).run = some y := by
 rw [T.run_leads, T.fix_leads]
 refine ⟨n, fun m hm => ?_⟩
 induction n generalizing m x y with
 | zero => exact absurd hx (h0 _ _)
 | succ n ih =>
  cases m with
  | zero => omega
  | succ m =>
   rw [← T.run_leads]
   exact h n x y hx (T.fixN b m) fun x' y' hr => by rw [T.run_leads]; exact ih hr m (by omega)
end Go.AM
namespace Go.AM.PL
def skS : Str → Str
 | [] => []
 | c :: r => if c = 32 then skS r else c :: r
def lexW (p : UInt8 → Bool) : Nat → Str → Str × Str
 | 0, r => ([], r)
 | _ + 1, [] => ([], [])
 | n + 1, c :: r => if p c = true then (c :: (lexW p n r).1, (lexW p n r).2) else ([], c :: r)
theorem lexW_cat (p : UInt8 → Bool) : ∀ (n : Nat) (r : Str), (lexW p n r).1 ++ (lexW p n r).2 = r
 | 0, r => rfl
 | _ + 1, [] => rfl
 | n + 1, c :: r => by
  unfold lexW
  split
  ·rw [List.cons_append, lexW_cat p n r]
  ·rfl
theorem lexW_all (p : UInt8 → Bool) : ∀ (n : Nat) (r : Str), r.length ≤ n → lexW p n r = (r.takeWhile p, r.dropWhile p)
 | 0, [], _ => rfl
 | 0, c :: r, h => by simp at h
 | _ + 1, [], _ => rfl
 | n + 1, c :: r, h => by
  unfold lexW
  rw [lexW_all p n r (by simp at h; omega)]
  cases hp : p c with
  | true => simp [hp]
  | false => simp [hp]
theorem skS_sfx : ∀ (r : Str), skS r <:+ r
 | [] => List.suffix_refl _
 | c :: r => by
  unfold skS
  split
  ·exact List.IsSuffix.trans (skS_sfx r) (List.suffix_cons c r)
  ·exact List.suffix_refl _
theorem skS_len (r : Str) : (skS r).length ≤ r.length := (skS_sfx r).length_le
theorem lexW_sfx (p : UInt8 → Bool) (n : Nat) (r : Str) : (lexW p n r).2 <:+ r := ⟨(lexW p n r).1, lexW_cat p n r⟩
def posS (s r : Str) : Nat := s.length - r.length
theorem posS_self (s : Str) : posS s s = 0 := by unfold posS; omega
theorem posS_nil (s : Str) : posS s [] = s.length := rfl
theorem sfx_tail {c : UInt8} {r s : Str} (h : (c :: r) <:+ s) : r <:+ s := List.IsSuffix.trans (List.suffix_cons c r) h
theorem posS_cons {c : UInt8} {r s : Str} (h : (c :: r) <:+ s) : posS s r = posS s (c :: r) + 1 ∧ posS s (c :: r) < s.length := by
 have := h.length_le
 simp only [List.length_cons] at this
 unfold posS; simp only [List.length_cons]; omega
theorem sfx_drop {r s : Str} (h : r <:+ s) : s.drop (posS s r) = r := by
 obtain ⟨t, rfl⟩ := h
 unfold posS
 rw [List.length_append, Nat.add_sub_cancel, List.drop_left]
theorem posS_get {c : UInt8} {r s : Str} (h : (c :: r) <:+ s) : byteAt s ((posS s (c :: r) : Nat) : Int) = (c.toNat : Int) := by
 have h1 := posS_cons h
 rw [byteAt_get h1.2]
 have h2 := sfx_drop h
 rw [List.drop_eq_getElem_cons h1.2] at h2
 injection h2 with h2 _
 rw [h2]
theorem posS_le {r q s : Str} (h : r <:+ q) (h2 : q <:+ s) : posS s q ≤ posS s r := by
 have := h.length_le; unfold posS; omega
theorem cutS_pos {a r q s : Str} (h : r <:+ s) (e : a ++ q = r) : cutS ((posS s r : Nat) : Int) ((posS s q : Nat) : Int) s = a := by
 subst e
 obtain ⟨t, rfl⟩ := h
 unfold cutS posS
 rw [Int.toNat_natCast, Int.toNat_natCast]
 simp only [List.length_append]
 rw [show t.length + (a.length + q.length) - q.length = t.length + a.length by omega, show t.length + (a.length + q.length) - (a.length + q.length) = t.length by omega, ← List.append_assoc, ← List.length_append, List.take_left, List.drop_left]
theorem idxB_mem : ∀ (l : Str) (c : UInt8), decide ((0 : Int) ≤ idxB l c) = l.contains c
 | [], _ => rfl
 | b :: l, c => by
  have ih := idxB_mem l c
  unfold idxB
  rw [List.contains_cons]
  by_cases h : b = c
  ·subst h; simp
  ·have h' : (b == c) = false := by simpa using h
   have h'' : (c == b) = false := by simpa using fun e : c = b => h e.symm
   rw [h', h'', Bool.false_or, ← ih]
   have hge : ∀ l : Str, idxB l c = -1 ∨ 0 ≤ idxB l c := by
    intro l
    induction l with
    | nil => exact .inl rfl
    | cons x l ih =>
     unfold idxB
     split
     ·right; omega
     ·split
      ·left; rfl
      ·right
       rename_i hne
       rcases ih with h | h
       ·exact absurd (by simpa using h) hne
       ·omega
   rcases hge l with h | h
   ·rw [h]; rfl
   ·have : (idxB l c == -1) = false := by simp; omega
    simp only [this, Bool.false_eq_true, if_false]
    rw [decide_eq_true (by omega), decide_eq_true (by omega)]
theorem byteOf_nat (c : UInt8) : byteOf (c.toNat : Int) = c := by unfold byteOf; simp
end Go.AM.PL
namespace Go.AM.Lf
open PL
def stP (s r : Str) (d : Nat) (l : Bool) : expr_parser := (s, ((posS s r : Nat) : Int), (d : Int), l, ())
theorem stP_fst (s r : Str) (d : Nat) (l : Bool) : (stP s r d l).1 = s := rfl
theorem stP_at (s r : Str) (d : Nat) (l : Bool) : (stP s r d l).2.1 = ((posS s r : Nat) : Int) := rfl
theorem stP_deep (s r : Str) (d : Nat) (l : Bool) : (stP s r d l).2.2.1 = (d : Int) := rfl
theorem stP_next {s r : Str} {c : UInt8} (d : Nat) (l : Bool) (h : (c :: r) <:+ s) (hs : s.length ≤ 1000000) : ((s, w64 (((posS s (c :: r) : Nat) : Int) + 1), (d : Int), l, ()) : expr_parser) = stP s r d l := by
 have := posS_cons h
 unfold stP
 rw [w64_in (by omega) (by omega), this.1]
 rfl
theorem pos_t {s r : Str} {c : UInt8} (h : (c :: r) <:+ s) : decide (((posS s (c :: r) : Nat) : Int) < (s.length : Int)) = true := decide_eq_true (by have := posS_cons h; omega)
theorem pos_f (s : Str) : decide (((posS s [] : Nat) : Int) < (s.length : Int)) = false := by rw [posS_nil]; exact decide_eq_false (by omega)
theorem pos_ok {s r : Str} {c : UInt8} (h : (c :: r) <:+ s) : idxOk ((posS s (c :: r) : Nat) : Int) s.length := ⟨by omega, by have := posS_cons h; omega⟩
theorem u8_c (c b : UInt8) : ((c.toNat : Int) == (b.toNat : Int)) = decide (c = b) := by
 by_cases h : c = b
 ·subst h; simp
 ·rw [decide_eq_false h]
  simp only [beq_eq_false_iff_ne, ne_eq]
  intro e
  exact h (UInt8.toNat_inj.1 (by omega))
theorem blanksL_run (s : Str) (hs : s.length ≤ 1000000) (d : Nat) (l : Bool) : ∀ (r : Str), r <:+ s → (expr_parser_blanks_S_L0 (stP s r d l)).run = some (stP s (skS r) d l)
 | [], _ => by
  refine T.loop_done ?_
  unfold expr_parser_blanks_S_R0
  dsimp only
  rw [stP_at, stP_fst, pos_f, T.run_obl (fun h => by cases h), T.run_ite_f (by rfl), T.run_ret]
  rfl
 | c :: r, h => by
  have e : (expr_parser_blanks_S_R0 (stP s (c :: r) d l)).run = some (if c = 32 then .inl (stP s r d l) else .inr (stP s (c :: r) d l)) := by
   unfold expr_parser_blanks_S_R0
   dsimp only
   rw [stP_at, stP_fst, pos_t h, T.run_obl (fun _ => pos_ok h), Bool.true_and, posS_get h, show ((c.toNat : Int) == 32) = decide (c = 32) from u8_c c 32]
   by_cases hc : c = 32
   ·rw [T.run_ite_t (by simpa using hc), T.run_ret, if_pos hc]
    show some (Sum.inl (s, w64 (((posS s (c :: r) : Nat) : Int) + 1), (d : Int), l, ())) = _
    rw [stP_next d l h hs]
   ·rw [T.run_ite_f (by simpa using hc), T.run_ret, if_neg hc]
  unfold skS
  by_cases hc : c = 32
  ·rw [if_pos hc] at e ⊢
   exact (T.loop_step e).trans (blanksL_run s hs d l r (sfx_tail h))
  ·rw [if_neg hc] at e ⊢
   exact T.loop_done e
theorem blanks_run (s : Str) (hs : s.length ≤ 1000000) (d : Nat) (l : Bool) (r : Str) (h : r <:+ s) : (expr_parser_blanks_S (stP s r d l)).run = some (stP s (skS r) d l) := by
 unfold expr_parser_blanks_S
 rw [T.run_bind_of (blanksL_run s hs d l r h), T.run_ret]
def takeS (some : Str) (r : Str) : Option (UInt8 × Str) := match skS r with
 | [] => none
 | c :: q => if some.contains c = true then .some (c, q) else none
theorem takesP_run (s : Str) (hs : s.length ≤ 1000000) (d : Nat) (l : Bool) (r : Str) (h : r <:+ s) (m : Str) :
  (expr_parser_takes_S m (stP s r d l)).run = some (match takeS m r with | some (c, q) => ((c.toNat : Int), stP s q d l) | none => (0, stP s (skS r) d l)) := by
 have hk := List.IsSuffix.trans (skS_sfx r) h
 unfold expr_parser_takes_S takeS
 rw [T.run_bind_of (blanks_run s hs d l r h)]
 cases e : skS r with
 | nil =>
  rw [T.run_bind_of (a := (false, stP s [] d l)) (by rw [stP_at, stP_fst, pos_f, T.run_ite_false, T.run_ret]), T.run_ite_false, T.run_ret]
 | cons c q =>
  rw [e] at hk
  have hi : (strings_IndexByte m (c.toNat : Int)).run = some (idxB m c) := by unfold strings_IndexByte; rw [T.run_ret, byteOf_nat]
  rw [T.run_bind_of (a := (m.contains c, stP s (c :: q) d l)) (by rw [stP_at, stP_fst, pos_t hk, T.run_ite_true, T.run_obl (pos_ok hk), posS_get hk, T.run_bind_of hi, T.run_ret, idxB_mem])]
  have hp := posS_cons hk
  dsimp only
  cases hc : m.contains c with
  | false => rw [T.run_ite_false, T.run_ret]; rfl
  | true =>
   rw [T.run_ite_true, stP_at, stP_fst, w64_in (x := ((posS s (c :: q) : Nat) : Int) + 1) (by omega) (by omega), show ((posS s (c :: q) : Nat) : Int) + 1 - 1 = ((posS s (c :: q) : Nat) : Int) by omega, w64_in (by omega) (by omega), T.run_obl (pos_ok hk), T.run_ret, posS_get hk]
   rw [show ((posS s (c :: q) : Nat) : Int) + 1 = ((posS s q : Nat) : Int) by omega]
   rfl
theorem isDig_run (b : UInt8) : (expr_isDigit (b.toNat : Int)).run = some (isD b) := by
 unfold expr_isDigit isD
 rw [T.run_ret]
 congr 1
 by_cases h1 : 48 ≤ b.toNat <;> by_cases h2 : b.toNat ≤ 57 <;> simp [h1, h2] <;> omega
theorem isLet_run (b : UInt8) : (expr_isLetter (b.toNat : Int)).run = some (isL b) := rfl
theorem whileL_run (s : Str) (hs : s.length ≤ 1000000) (d : Nat) (l : Bool) (is : Int → T Bool) (p : UInt8 → Bool) (hp : ∀ b : UInt8, (is (b.toNat : Int)).run = some (p b)) (f m : Nat) (hm : m ≤ 1000000) :
  ∀ (n : Nat) (r : Str), r <:+ s → f ≤ posS s r → posS s r - f + n = m → (expr_parser_while_S_L0 is (m : Int) (f : Int) (stP s r d l)).run = some (stP s (lexW p n r).2 d l) := by
 intro n r
 induction r generalizing n with
 | nil =>
  intro h hf he
  have : (lexW p n []).2 = [] := by cases n <;> rfl
  rw [this]
  refine T.loop_done ?_
  unfold expr_parser_while_S_R0
  dsimp only
  rw [T.run_bind_of (a := (false, stP s [] d l)) (by rw [stP_at, stP_fst, pos_f, T.run_ite_false, T.run_ret]), T.run_ite_false, T.run_ret]
 | cons c r ih =>
  intro h hf he
  have hpos := posS_cons h
  cases n with
  | zero =>
   refine T.loop_done ?_
   unfold expr_parser_while_S_R0
   dsimp only
   rw [T.run_bind_of (a := (false, stP s (c :: r) d l)) (by rw [stP_at, stP_fst, pos_t h, T.run_ite_true, w64_in (by omega) (by omega), T.run_ite_f (decide_eq_false (by omega)), T.run_ret]), T.run_ite_false, T.run_ret]
   rfl
  | succ n =>
   have e : (expr_parser_while_S_R0 is (m : Int) (f : Int) (stP s (c :: r) d l)).run = some (if p c = true then .inl (stP s r d l) else .inr (stP s (c :: r) d l)) := by
    unfold expr_parser_while_S_R0
    dsimp only
    rw [T.run_bind_of (a := (p c, stP s (c :: r) d l)) (by rw [stP_at, stP_fst, pos_t h, T.run_ite_true, w64_in (by omega) (by omega), T.run_ite_t (decide_eq_true (by omega)), T.run_obl (pos_ok h), posS_get h, T.run_bind_of (hp c), T.run_ret])]
    dsimp only
    cases p c with
    | false => rfl
    | true =>
     rw [T.run_ite_true, T.run_ret, if_pos rfl]
     show some (Sum.inl (s, w64 (((posS s (c :: r) : Nat) : Int) + 1), (d : Int), l, ())) = _
     rw [stP_next d l h hs]
   unfold lexW
   by_cases hc : p c = true
   ·rw [if_pos hc] at e ⊢
    exact (T.loop_step e).trans (ih n (sfx_tail h) (by omega) (by omega))
   ·rw [if_neg hc] at e ⊢
    exact T.loop_done e
theorem while_run (s : Str) (hs : s.length ≤ 1000000) (d : Nat) (l : Bool) (is : Int → T Bool) (p : UInt8 → Bool) (hp : ∀ b : UInt8, (is (b.toNat : Int)).run = some (p b)) (m : Nat) (hm : m ≤ 1000000) (r : Str) (h : r <:+ s) :
  (expr_parser_while_S is (m : Int) (stP s r d l)).run = some ((lexW p m r).1, stP s (lexW p m r).2 d l) := by
 unfold expr_parser_while_S
 have h2 := List.IsSuffix.trans (lexW_sfx p m r) h
 have h3 := posS_le (lexW_sfx p m r) h
 have h4 : posS s (lexW p m r).2 ≤ s.length := by unfold posS; omega
 rw [stP_at, T.run_bind_of (whileL_run s hs d l is p hp (posS s r) m hm m r h (Nat.le_refl _) (by omega))]
 rw [stP_at, stP_fst, T.run_obl ⟨by omega, by omega, by omega⟩, T.run_ret, cutS_pos h (lexW_cat p m r)]
end Go.AM.Lf
namespace Go.AM.Lf
open PL
inductive PR where
 | no
 | er (k : Int) (bad r : Str) (d : Nat) (l : Bool)
 | ok (e : Expr) (r : Str) (l : Bool)
def PR.bind : PR → (Expr → Str → Bool → PR) → PR
 | .no, _ => .no
 | .er k b r d l, _ => .er k b r d l
 | .ok e r l, f => f e r l
def nodeE (k : Int) (l : List Expr) : Expr := .mk k zeroR [] l
def numT (t : Str) : Rat := match decP t with | some (n, d) => ratN (List.isPrefixOf [45] t) n d | none => zeroR
def finN (z : Rat) (t r : Str) (l : Bool) : PR := if 400 < t.length then .ok (.mk 1 z [] []) r true else .ok (.mk 1 (numT t) [] []) r l
def numP (z : Rat) (d : Nat) (r : Str) (l : Bool) : PR := match r.dropWhile isD with
 | [] => finN z (r.takeWhile isD) [] l
 | c :: q => if c = 46 then (if q.takeWhile isD = [] then .er 2 q q d l else finN z (r.takeWhile isD ++ (46 :: q.takeWhile isD)) (q.dropWhile isD) l)
  else finN z (r.takeWhile isD) (c :: q) l
def namP (r : Str) (l : Bool) : PR := .ok (.mk 2 zeroR (lexW isIn 24 r).1 []) (lexW isIn 24 r).2 l
def rowL (K : Bool → Str → PR) (m1 m2 : UInt8) (k1 k2 : Int) : Nat → Expr → Str → Bool → PR
 | 0, _, _, _ => .no
 | n + 1, e, r, l => match takeS [m1, m2] r with
  | none => .ok e (skS r) l
  | some (c, q) => (K l q).bind fun e2 q2 l2 => rowL K m1 m2 k1 k2 n (nodeE (if c = m1 then k1 else k2) [e, e2]) q2 l2
def rowP (K : Bool → Str → PR) (m1 m2 : UInt8) (k1 k2 : Int) (n : Nat) (l : Bool) (r : Str) : PR := (K l r).bind fun e q l' => rowL K m1 m2 k1 k2 n e q l'
def facP (z : Rat) (F S : Nat → Bool → Str → PR) (d : Nat) (l : Bool) (s : Str) : PR := match skS s with
 | [] => .er 2 [] [] d l
 | c :: r =>
  if c = 45 then (if 31 ≤ d then .er 4 (c :: r) r (d + 1) l else (F (d + 1) l r).bind fun e q l' => .ok (nodeE 7 [e]) q l')
  else if c = 40 then (if 31 ≤ d then .er 4 (c :: r) r (d + 1) l else (S (d + 1) l r).bind fun e q l' => match takeS [41] q with
   | some (_, q') => .ok e q' l'
   | none => .er 2 (skS q) (skS q) (d + 1) l')
  else if isD c = true then numP z d (c :: r) l
  else if isL c = true then namP (c :: r) l
  else .er 2 (c :: r) (c :: r) d l
mutual
def pF (z : Rat) : Nat → Nat → Bool → Str → PR
 | 0, _, _, _ => .no
 | n + 1, d, l, s => facP z (pF z n) (pS z n) d l s
def pP (z : Rat) : Nat → Nat → Bool → Str → PR
 | 0, _, _, _ => .no
 | n + 1, d, l, s => rowP (pF z n d) 42 47 5 6 n l s
def pS (z : Rat) : Nat → Nat → Bool → Str → PR
 | 0, _, _, _ => .no
 | n + 1, d, l, s => rowP (pP z n d) 43 45 3 4 n l s
end
def PR.sfx (s : Str) : PR → Prop
 | .no => True
 | .er _ b r _ _ => b <:+ s ∧ r <:+ s
 | .ok _ r _ => r <:+ s
theorem PR.sfx_bind {s : Str} {R : PR} {f : Expr → Str → Bool → PR} (h : R.sfx s) (hf : ∀ e r l, r <:+ s → (f e r l).sfx s) : (R.bind f).sfx s := by
 cases R with
 | no => trivial
 | er => exact h
 | ok e r l => exact hf e r l h
theorem takeS_sfx {m r q : Str} {c : UInt8} (h : takeS m r = some (c, q)) : (c :: q) <:+ r ∧ m.contains c = true ∧ skS r = c :: q := by
 have := skS_sfx r
 unfold takeS at h
 split at h
 ·cases h
 ·rename_i c' q' e
  split at h
  ·cases h; rw [e] at this; exact ⟨this, by assumption, e⟩
  ·cases h
theorem finN_sfx {s r t : Str} {z : Rat} {l : Bool} (h : r <:+ s) : (finN z t r l).sfx s := by unfold finN; split <;> exact h
theorem dropW_sfx (p : UInt8 → Bool) (r : Str) : r.dropWhile p <:+ r := List.dropWhile_suffix p
theorem numP_sfx {s r : Str} {z : Rat} {d : Nat} {l : Bool} (h : r <:+ s) : (numP z d r l).sfx s := by
 have hd := dropW_sfx isD r
 unfold numP
 split
 ·exact finN_sfx List.nil_suffix
 ·rename_i c q e
  rw [e] at hd
  have hq := (sfx_tail hd).trans h
  split
  ·split
   ·exact ⟨hq, hq⟩
   ·exact finN_sfx ((dropW_sfx isD q).trans hq)
  ·exact finN_sfx (hd.trans h)
theorem rowL_sfx {s : Str} {K : Bool → Str → PR} (hK : ∀ l r, r <:+ s → (K l r).sfx s) (m1 m2 : UInt8) (k1 k2 : Int) : ∀ (n : Nat) (e : Expr) (r : Str) (l : Bool), r <:+ s → (rowL K m1 m2 k1 k2 n e r l).sfx s
 | 0, _, _, _, _ => trivial
 | n + 1, e, r, l, h => by
  unfold rowL
  split
  ·exact (skS_sfx r).trans h
  ·rename_i c q ht
   have hq := (sfx_tail (takeS_sfx ht).1).trans h
   exact PR.sfx_bind (hK l q hq) fun e2 q2 l2 h2 => rowL_sfx hK m1 m2 k1 k2 n _ q2 l2 h2
theorem rowP_sfx {s : Str} {K : Bool → Str → PR} (hK : ∀ l r, r <:+ s → (K l r).sfx s) (m1 m2 : UInt8) (k1 k2 : Int) (n : Nat) (l : Bool) (r : Str) (h : r <:+ s) : (rowP K m1 m2 k1 k2 n l r).sfx s :=
 PR.sfx_bind (hK l r h) fun _ _ _ h2 => rowL_sfx hK m1 m2 k1 k2 n _ _ _ h2
theorem facP_sfx {s : Str} {z : Rat} {F S : Nat → Bool → Str → PR} (hF : ∀ d l r, r <:+ s → (F d l r).sfx s) (hS : ∀ d l r, r <:+ s → (S d l r).sfx s) (d : Nat) (l : Bool) (r : Str) (h : r <:+ s) : (facP z F S d l r).sfx s := by
 have hk := (skS_sfx r).trans h
 unfold facP
 split
 ·exact ⟨List.nil_suffix, List.nil_suffix⟩
 ·rename_i c q e
  rw [e] at hk
  have hq := sfx_tail hk
  split
  ·split
   ·exact ⟨hk, hq⟩
   ·exact PR.sfx_bind (hF _ _ _ hq) fun _ _ _ h2 => h2
  ·split
   ·split
    ·exact ⟨hk, hq⟩
    ·refine PR.sfx_bind (hS _ _ _ hq) fun e2 q2 l2 h2 => ?_
     split
     ·rename_i ht
      exact (sfx_tail (takeS_sfx ht).1).trans h2
     ·exact ⟨(skS_sfx q2).trans h2, (skS_sfx q2).trans h2⟩
   ·split
    ·exact numP_sfx hk
    ·split
     ·exact (lexW_sfx isIn 24 (c :: q)).trans hk
     ·exact ⟨hk, hk⟩
theorem pX_sfx (z : Rat) (s : Str) : ∀ (n : Nat), (∀ d l r, r <:+ s → (pF z n d l r).sfx s) ∧ (∀ d l r, r <:+ s → (pP z n d l r).sfx s) ∧ (∀ d l r, r <:+ s → (pS z n d l r).sfx s)
 | 0 => ⟨fun _ _ _ _ => by unfold pF; trivial, fun _ _ _ _ => by unfold pP; trivial, fun _ _ _ _ => by unfold pS; trivial⟩
 | n + 1 => by
  obtain ⟨h1, h2, h3⟩ := pX_sfx z s n
  refine ⟨fun d l r h => ?_, fun d l r h => ?_, fun d l r h => ?_⟩
  ·unfold pF; exact facP_sfx h1 h3 d l r h
  ·unfold pP; exact rowP_sfx (h1 d) _ _ _ _ n l r h
  ·unfold pS; exact rowP_sfx (h2 d) _ _ _ _ n l r h
def encR (s : Str) (d : Nat) : PR → Option ((AM.Expr × expr_parser) ⊕ (expr_stop × expr_parser))
 | .no => none
 | .er k b r d' l => some (.inr ((k, (((posS s b : Nat) : Int), ())), stP s r d' l))
 | .ok e r l => some (.inl (e, stP s r d l))
theorem fail_run (e a : Int) (p : expr_parser) : (expr_parser_fail_S e a p).run = some (.inr ((e, (a, ())), p)) := rfl
theorem within_run (s : Str) (hs : s.length ≤ 1000000) {c : UInt8} {r : Str} (h : (c :: r) <:+ s) (d : Nat) (hd : d ≤ 31) (l : Bool) : (expr_parser_within_S (stP s r d l)).run = some (if 31 ≤ d then .inr ((4, (((posS s (c :: r) : Nat) : Int), ())), stP s r (d + 1) l) else .inl (stP s r (d + 1) l)) := by
 have hp := posS_cons h
 have e : ((stP s r d l).1, ((stP s r d l).2.1, ((w64 ((stP s r d l).2.2.1 + (1 : Int))), ((stP s r d l).2.2.2.1, ())))) = stP s r (d + 1) l := by
  rw [stP_deep, w64_in (by omega) (by omega)]; rfl
 unfold expr_parser_within_S
 rw [e, stP_deep, stP_at, w64_in (by omega) (by omega), w64_in (by omega) (by omega)]
 by_cases c1 : 31 ≤ d
 ·rw [if_pos c1, T.run_ite_t (decide_eq_true (by omega)), T.run_bind_of (fail_run _ _ _), Sum.elim_inr, T.run_ret, show ((posS s r : Nat) : Int) - 1 = ((posS s (c :: r) : Nat) : Int) by omega]
 ·rw [if_neg c1, T.run_ite_f (decide_eq_false (by omega)), T.run_ret]
theorem takeW_drop (p : UInt8 → Bool) (r : Str) : r.takeWhile p ++ r.dropWhile p = r := List.takeWhile_append_dropWhile
theorem number_run (s : Str) (hs : s.length ≤ 1000000) (d : Nat) (l : Bool) (r : Str) (h : r <:+ s) : (expr_parser_number_S (stP s r d l)).run = encR s d (numP zeroR d r l) := by
 have hdr := dropW_sfx isD r
 have hl := h.length_le
 have hw := while_run s hs d l (fun z0 => expr_isDigit z0) isD isDig_run s.length hs r h
 rw [lexW_all isD s.length r hl] at hw
 -- what is done with the text
 have fin : ∀ (t q : Str), (T.ite (decide ((400 : Int) < (Nat.cast (List.length t) : Int)))
    (.ret (.inl ((Expr.mk (1 : Int) (false, (([] : List Int), (([] : List Int), ()))) ([] : Str) ([] : List AM.Expr)), ((stP s q d l).1, ((stP s q d l).2.1, ((stP s q d l).2.2.1, (true, ())))))))
    (T.bind (dec_Parse t) fun (r, r1) =>
     .ret (.inl ((Expr.mk (1 : Int) (r.1, (r.2.1, (r.2.2.1, ()))) ([] : Str) ([] : List AM.Expr)), (stP s q d l)))) : T ((AM.Expr × expr_parser) ⊕ (expr_stop × expr_parser))).run = encR s d (finN zeroR t q l) := by
  intro t q
  unfold finN
  by_cases c1 : 400 < t.length
  ·rw [if_pos c1, T.run_ite_t (decide_eq_true (by omega)), T.run_ret]; rfl
  ·rw [if_neg c1, T.run_ite_f (decide_eq_false (by omega)), T.run_bind_of (dec_Parse_run t (by omega)), if_neg c1]
   unfold numT
   cases decP t with
   | none => rfl
   | some x => rfl
 unfold expr_parser_number_S numP
 rw [stP_fst, T.run_bind_of hw]
 dsimp only
 cases e : r.dropWhile isD with
 | nil =>
  rw [e] at hdr
  rw [T.run_bind_of (a := .inl (r.takeWhile isD, stP s [] d l, Expr.mk 0 (false, ([], ([], ()))) [] [])) (by rw [stP_at, stP_fst, pos_f, T.run_obl (fun h => by cases h), Bool.false_and, T.run_ite_false, T.run_ret]), Sum.elim_inl]
  exact fin _ _
 | cons c q =>
  rw [e] at hdr
  have hcq := hdr.trans h
  have hq := sfx_tail hcq
  have hpos := posS_cons hcq
  dsimp only
  by_cases hc : c = 46
  ·rw [if_pos hc]
   have hw2 := while_run s hs d l (fun z0 => expr_isDigit z0) isD isDig_run s.length hs q hq
   rw [lexW_all isD s.length q hq.length_le] at hw2
   have hlen1 : (r.takeWhile isD).length ≤ 1000000 := by have := congrArg List.length (takeW_drop isD r); rw [List.length_append] at this; omega
   have hlen2 : (q.takeWhile isD).length ≤ 1000000 := by have := congrArg List.length (takeW_drop isD q); rw [List.length_append] at this; have := hq.length_le; omega
   have cond : ((decide (((posS s (c :: q) : Nat) : Int) < (s.length : Int))) && ((byteAt s ((posS s (c :: q) : Nat) : Int)) == (46 : Int))) = true := by
    rw [pos_t hcq, Bool.true_and, posS_get hcq, show ((c.toNat : Int) == 46) = decide (c = 46) from u8_c c 46]; simpa using hc
   have st : (((stP s (c :: q) d l).1, ((w64 ((stP s (c :: q) d l).2.1 + (1 : Int))), ((stP s (c :: q) d l).2.2.1, ((stP s (c :: q) d l).2.2.2.1, ())))) : expr_parser) = stP s q d l := stP_next d l hcq hs
   by_cases hq0 : q.takeWhile isD = []
   ·rw [if_pos hq0, T.run_bind_of (a := .inr ((2, (((posS s q : Nat) : Int), ())), stP s q d l, Expr.mk 0 (false, ([], ([], ()))) [] [])), Sum.elim_inr]
    ·rfl
    ·rw [st, stP_at, stP_fst, T.run_obl (fun _ => pos_ok hcq), T.run_ite_t cond, T.run_bind_of hw2, T.run_ite_t (by rw [strEq_iff]; simpa using hq0)]
     have : q.dropWhile isD = q := by have := takeW_drop isD q; rw [hq0] at this; simpa using this
     rw [this, T.run_bind_of (fail_run _ _ _), Sum.elim_inr, T.run_ret, stP_at]
   ·rw [if_neg hq0, T.run_bind_of (a := .inl (cat (r.takeWhile isD) (cat [46] (q.takeWhile isD)), stP s (q.dropWhile isD) d l, Expr.mk 0 (false, ([], ([], ()))) [] [])), Sum.elim_inl]
    ·exact fin _ _
    ·rw [st, stP_at, stP_fst, T.run_obl (fun _ => pos_ok hcq), T.run_ite_t cond, T.run_bind_of hw2, T.run_ite_f (by rw [strEq_iff]; simpa using hq0), T.run_leN _ (by simp; omega), T.run_leN _ (by simp [cat_eq]; omega), T.run_ret]
  ·rw [if_neg hc, T.run_bind_of (a := .inl (r.takeWhile isD, stP s (c :: q) d l, Expr.mk 0 (false, ([], ([], ()))) [] [])), Sum.elim_inl]
   ·exact fin _ _
   ·rw [stP_at, stP_fst, T.run_obl (fun _ => pos_ok hcq), T.run_ite_f (by rw [pos_t hcq, Bool.true_and, posS_get hcq, show ((c.toNat : Int) == 46) = decide (c = 46) from u8_c c 46]; simpa using hc), T.run_ret]
end Go.AM.Lf
namespace Go.AM.Lf
open PL
abbrev KT := expr_parser → T ((AM.Expr × expr_parser) ⊕ (expr_stop × expr_parser))
abbrev zE : Expr := Expr.mk (0 : Int) (false, (([] : List Int), (([] : List Int), ()))) ([] : Str) ([] : List AM.Expr)
noncomputable def rowRT (K : KT) (marks1 : Str) (kinds1 : expr_stop) : (expr_parser × AM.Expr × AM.Expr) → T ((expr_parser × AM.Expr × AM.Expr) ⊕ ((expr_parser × AM.Expr × AM.Expr) ⊕ (expr_stop × expr_parser × AM.Expr × AM.Expr)))
 | (v, v1, v2) =>
  T.bind (expr_parser_takes_S marks1 v) fun (c, p3) =>
  .ite (c == (0 : Int))
   (.ret (.inr (.inl (p3, (v2, v2)))))
   (T.bind (K p3) <|
     Sum.elim (fun (r1, p4) =>
      T.bind (strings_IndexByte marks1 c) fun r2 =>
      .obl (idxOk r2 (2 : Nat)) <|
      .ret (.inl (p4, (v1, (Expr.mk (arrAt (.int .i64) tyexpr_stop kinds1 (Int.toNat r2)) (false, (([] : List Int), (([] : List Int), ()))) ([] : Str) ([v2, r1] : List AM.Expr))))))
     (fun (pv1, p5) =>
      .ret (.inr (.inr (pv1, (p5, (v1, v2)))))))
noncomputable def rowT (K : KT) (marks : Str) (kinds : expr_stop) (p : expr_parser) : T ((AM.Expr × expr_parser) ⊕ (expr_stop × expr_parser)) :=
 T.bind (K p) <|
  Sum.elim (fun (r, p1) =>
   T.bind (T.loop (rowRT K marks kinds) (p1, (zE, r))) <|
    Sum.elim (fun (v3, v4, v5) =>
     .ret (.inl (v4, v3)))
    (fun (p6, v6, v7, v8) =>
     .ret (.inr (p6, v6))))
  (fun (pv, p2) =>
   .ret (.inr (pv, p2)))
theorem idx2 {m1 m2 c : UInt8} (h : [m1, m2].contains c = true) : idxB [m1, m2] c = if c = m1 then 0 else 1 := by
 unfold idxB
 by_cases h1 : c = m1
 ·subst h1; simp
 ·have h1' : (m1 == c) = false := by simpa using fun e : m1 = c => h1 e.symm
  have h2 : c = m2 := by simpa [h1] using h
  subst h2
  rw [h1', if_neg h1]
  unfold idxB
  simp
theorem rowL_run (s : Str) (hs : s.length ≤ 1000000) (d : Nat) (K : KT) (Ks : Bool → Str → PR) (hK : ∀ l r, r <:+ s → Ks l r ≠ .no → (K (stP s r d l)).run = encR s d (Ks l r)) (hx : ∀ l r, r <:+ s → (Ks l r).sfx s) (m1 m2 : UInt8) (hm1 : m1 ≠ 0) (hm2 : m2 ≠ 0) (k1 k2 : Int) :
  ∀ (n : Nat) (e : Expr) (r : Str) (l : Bool), r <:+ s → rowL Ks m1 m2 k1 k2 n e r l ≠ .no →
   match rowL Ks m1 m2 k1 k2 n e r l with
   | .no => True
   | .ok e' r' l' => (T.loop (rowRT K [m1, m2] (k1, (k2, ()))) (stP s r d l, (zE, e))).run = some (.inl (stP s r' d l', (e', e')))
   | .er k b r' d' l' => ∃ x, (T.loop (rowRT K [m1, m2] (k1, (k2, ()))) (stP s r d l, (zE, e))).run = some (.inr ((k, (((posS s b : Nat) : Int), ())), (stP s r' d' l', (zE, x))))
 | 0, _, _, _, _, hn => absurd rfl hn
 | n + 1, e, r, l, h, hn => by
  have ht := takesP_run s hs d l r h [m1, m2]
  unfold rowL at hn ⊢
  cases q : takeS [m1, m2] r with
  | none =>
   rw [q] at ht
   dsimp only
   refine T.loop_done ?_
   unfold rowRT
   dsimp only
   rw [T.run_bind_of ht]
   rfl
  | some x =>
   obtain ⟨c, q'⟩ := x
   rw [q] at ht hn
   dsimp only at ht hn ⊢
   have hsf := takeS_sfx q
   have hq := (sfx_tail hsf.1).trans h
   have hc0 : ((c.toNat : Int) == 0) = false := by
    rw [show ((c.toNat : Int) == 0) = decide (c = 0) from u8_c c 0]
    have h2 : c = m1 ∨ c = m2 := by simpa using hsf.2.1
    rcases h2 with rfl | rfl <;> simpa
   have hK' := hK l q' hq
   have hx' := hx l q' hq
   cases z : Ks l q' with
   | no => rw [z] at hn; exact absurd rfl hn
   | er k b r' d' l' =>
    rw [z] at hK'
    have hK' := hK' (by simp)
    refine ⟨e, T.loop_done ?_⟩
    unfold rowRT
    dsimp only
    rw [T.run_bind_of ht]
    dsimp only
    rw [T.run_ite_f hc0, T.run_bind_of hK']
    rfl
   | ok e2 r2 l2 =>
    rw [z] at hK' hn hx'
    have hK' := hK' (by simp)
    have hi : (strings_IndexByte [m1, m2] (c.toNat : Int)).run = some (idxB [m1, m2] c) := by unfold strings_IndexByte; rw [T.run_ret, byteOf_nat]
    have step : (rowRT K [m1, m2] (k1, (k2, ())) (stP s r d l, (zE, e))).run = some (.inl (stP s r2 d l2, (zE, nodeE (if c = m1 then k1 else k2) [e, e2]))) := by
     unfold rowRT
     dsimp only
     rw [T.run_bind_of ht]
     dsimp only
     rw [T.run_ite_f hc0, T.run_bind_of hK', Sum.elim_inl, T.run_bind_of hi, idx2 hsf.2.1]
     by_cases hc : c = m1
     ·rw [if_pos hc, if_pos hc, T.run_obl ⟨by omega, by omega⟩, T.run_ret]
      rfl
     ·rw [if_neg hc, if_neg hc, T.run_obl ⟨by omega, by omega⟩, T.run_ret]
      rfl
    rw [T.loop_step step]
    exact rowL_run s hs d K Ks hK hx m1 m2 hm1 hm2 k1 k2 n _ r2 l2 hx' hn
theorem rowT_run (s : Str) (hs : s.length ≤ 1000000) (d : Nat) (K : KT) (Ks : Bool → Str → PR) (hK : ∀ l r, r <:+ s → Ks l r ≠ .no → (K (stP s r d l)).run = encR s d (Ks l r)) (hx : ∀ l r, r <:+ s → (Ks l r).sfx s) (m1 m2 : UInt8) (hm1 : m1 ≠ 0) (hm2 : m2 ≠ 0) (k1 k2 : Int)
  (n : Nat) (l : Bool) (r : Str) (h : r <:+ s) (hn : rowP Ks m1 m2 k1 k2 n l r ≠ .no) : (rowT K [m1, m2] (k1, (k2, ())) (stP s r d l)).run = encR s d (rowP Ks m1 m2 k1 k2 n l r) := by
 have hK' := hK l r h
 have hx' := hx l r h
 unfold rowT
 unfold rowP at hn ⊢
 cases z : Ks l r with
 | no => rw [z] at hn; exact absurd rfl hn
 | er k b r' d' l' =>
  rw [z] at hK'
  rw [T.run_bind_of (hK' (by simp))]
  rfl
 | ok e r' l' =>
  rw [z] at hK' hn hx'
  have hK' := hK' (by simp)
  have hn : rowL Ks m1 m2 k1 k2 n e r' l' ≠ .no := hn
  have hl := rowL_run s hs d K Ks hK hx m1 m2 hm1 hm2 k1 k2 n e r' l' hx' hn
  rw [T.run_bind_of hK', Sum.elim_inl]
  show _ = encR s d (rowL Ks m1 m2 k1 k2 n e r' l')
  cases w : rowL Ks m1 m2 k1 k2 n e r' l' with
  | no => exact absurd w hn
  | er k b r2 d2 l2 =>
   rw [w] at hl
   obtain ⟨x, hl⟩ := hl
   dsimp only
   rw [T.run_bind_of hl]
   rfl
  | ok e2 r2 l2 =>
   rw [w] at hl
   dsimp only at hl ⊢
   rw [T.run_bind_of hl]
   rfl
theorem factorB_run (s : Str) (hs : s.length ≤ 1000000) (FT ST : KT) (F S : Nat → Bool → Str → PR)
  (hF : ∀ d l r, d ≤ 31 → r <:+ s → F d l r ≠ .no → (FT (stP s r d l)).run = encR s d (F d l r)) (hS : ∀ d l r, d ≤ 31 → r <:+ s → S d l r ≠ .no → (ST (stP s r d l)).run = encR s d (S d l r))
  (xS : ∀ d l r, r <:+ s → (S d l r).sfx s) (d : Nat) (l : Bool) (r : Str) (hd : d ≤ 31) (h : r <:+ s) (hn : facP zeroR F S d l r ≠ .no) : (expr_parser_factor_S_B FT ST (stP s r d l)).run = encR s d (facP zeroR F S d l r) := by
 have ht := takesP_run s hs d l r h [45, 40]
 have hk := (skS_sfx r).trans h
 unfold expr_parser_factor_S_B
 unfold facP at hn ⊢
 unfold takeS at ht
 -- what deeper ones leave
 have down : ∀ (q : Str) (l' : Bool), (((stP s q (d + 1) l').1, ((stP s q (d + 1) l').2.1, ((w64 ((stP s q (d + 1) l').2.2.1 - (1 : Int))), ((stP s q (d + 1) l').2.2.2.1, ())))) : expr_parser) = stP s q d l' := by
  intro q l'
  rw [stP_deep, w64_in (by omega) (by omega)]
  show (s, (((posS s q : Nat) : Int), (((d + 1 : Nat) : Int) - 1, (l', ())))) = (s, (((posS s q : Nat) : Int), ((d : Int), (l', ()))))
  rw [show ((d + 1 : Nat) : Int) - 1 = (d : Int) by omega]
 cases e : skS r with
 | nil =>
  rw [e] at ht
  dsimp only at ht ⊢
  rw [T.run_bind_of ht]
  dsimp only
  rw [T.run_ite_f (by rfl), T.run_ite_f (by rfl)]
  rw [T.run_bind_of (a := (false, (stP s [] d l, zE))) (by rw [stP_at, stP_fst, pos_f, T.run_ite_false, T.run_ret])]
  dsimp only
  rw [T.run_ite_false, T.run_bind_of (a := (false, (stP s [] d l, zE))) (by rw [stP_at, stP_fst, pos_f, T.run_ite_false, T.run_ret])]
  rfl
 | cons c q =>
  rw [e] at ht hn hk
  have hq := sfx_tail hk
  dsimp only at ht hn ⊢
  have hw := within_run s hs hk d hd l
  by_cases c45 : c = 45
  ·subst c45
   rw [if_pos (by decide)] at ht
   dsimp only at ht
   rw [if_pos rfl] at hn ⊢
   rw [T.run_bind_of ht]
   dsimp only
   rw [T.run_ite_t (by rfl), T.run_bind_of hw]
   by_cases c31 : 31 ≤ d
   ·rw [if_pos c31, if_pos c31]; rfl
   ·rw [if_neg c31] at hn
    rw [if_neg c31, if_neg c31, Sum.elim_inl]
    have hf := hF (d + 1) l q (by omega) hq
    cases z : F (d + 1) l q with
    | no => rw [z] at hn; exact absurd rfl hn
    | er k b r' d' l' => rw [z] at hf; rw [T.run_bind_of (hf (by simp))]; rfl
    | ok e2 r2 l2 =>
     rw [z] at hf
     rw [T.run_bind_of (hf (by simp)), Sum.elim_inl]
     dsimp only
     rw [T.run_ret, down]
     rfl
  ·rw [if_neg c45] at hn ⊢
   by_cases c40 : c = 40
   ·subst c40
    rw [if_pos (by decide)] at ht
    dsimp only at ht
    rw [if_pos rfl] at hn ⊢
    rw [T.run_bind_of ht]
    dsimp only
    rw [T.run_ite_f (by rfl), T.run_ite_t (by rfl), T.run_bind_of hw]
    by_cases c31 : 31 ≤ d
    ·rw [if_pos c31, if_pos c31]; rfl
    ·rw [if_neg c31] at hn
     rw [if_neg c31, if_neg c31, Sum.elim_inl]
     have hf := hS (d + 1) l q (by omega) hq
     have xf := xS (d + 1) l q hq
     cases z : S (d + 1) l q with
     | no => rw [z] at hn; exact absurd rfl hn
     | er k b r' d' l' => rw [z] at hf; rw [T.run_bind_of (hf (by simp))]; rfl
     | ok e2 r2 l2 =>
      rw [z] at hf xf
      rw [T.run_bind_of (hf (by simp)), Sum.elim_inl]
      dsimp only
      have ht2 := takesP_run s hs (d + 1) l2 r2 xf [41]
      show _ = encR s d (match takeS [41] r2 with | some (_, q') => .ok e2 q' l2 | none => .er 2 (skS r2) (skS r2) (d + 1) l2)
      cases w : takeS [41] r2 with
      | none =>
       rw [w] at ht2
       dsimp only at ht2 ⊢
       rw [T.run_bind_of (a := .inr ((2, (((posS s (skS r2) : Nat) : Int), ())), (stP s (skS r2) (d + 1) l2, (zE, e2)))) (by rw [T.run_bind_of ht2]; rfl)]
       rfl
      | some x =>
       obtain ⟨c', q'⟩ := x
       rw [w] at ht2
       have hc' := (takeS_sfx w).2.1
       have hc' : c' = 41 := by simpa using hc'
       subst hc'
       dsimp only at ht2 ⊢
       rw [T.run_bind_of (a := .inl (stP s q' (d + 1) l2, (zE, e2))) (by rw [T.run_bind_of ht2]; rfl), Sum.elim_inl]
       dsimp only
       rw [T.run_ret, down]
       rfl
   ·rw [if_neg (by simp [c45, c40])] at ht
    dsimp only at ht
    rw [if_neg c40] at hn ⊢
    rw [T.run_bind_of ht]
    dsimp only
    rw [T.run_ite_f (by rfl), T.run_ite_f (by rfl)]
    rw [T.run_bind_of (a := (isD c, (stP s (c :: q) d l, zE))) (by rw [stP_at, stP_fst, pos_t hk, T.run_ite_true, T.run_obl (pos_ok hk), posS_get hk, T.run_bind_of (isDig_run c), T.run_ret])]
    dsimp only
    cases hD : isD c with
    | true =>
     rw [if_pos rfl, T.run_ite_true]
     have hnum := number_run s hs d l (c :: q) hk
     cases z : numP zeroR d (c :: q) l with
     | no =>
      exfalso
      rw [if_pos hD, z] at hn
      exact hn rfl
     | er k b r' d' l' => rw [z] at hnum; rw [T.run_bind_of hnum]; rfl
     | ok e2 r2 l2 => rw [z] at hnum; rw [T.run_bind_of hnum]; rfl
    | false =>
     rw [if_neg (by simp), T.run_ite_false]
     rw [T.run_bind_of (a := (isL c, (stP s (c :: q) d l, zE))) (by rw [stP_at, stP_fst, pos_t hk, T.run_ite_true, T.run_obl (pos_ok hk), posS_get hk, T.run_bind_of (isLet_run c), T.run_ret])]
     dsimp only
     cases hL : isL c with
     | true =>
      rw [if_pos rfl, T.run_ite_true]
      have hwl : (expr_parser_while_S (fun z0 => expr_isInner z0) 24 (stP s (c :: q) d l)).run = _ := while_run s hs d l (fun z0 => expr_isInner z0) isIn isInner_run 24 (by omega) (c :: q) hk
      rw [T.run_bind_of hwl]
      rfl
     | false =>
      rw [if_neg (by simp), T.run_ite_false]
      rfl
end Go.AM.Lf
namespace Go.AM.Lf
open PL
mutual
def mayE (deep : Nat) (left : Int) : Expr → Bool × Int
 | .mk k n s l => if left - 1 < 0 ∨ (decide (deep < 32) && nodeB (.mk k n s l)) = false then (false, left - 1) else mayEs (deep + 1) (left - 1) l
def mayEs (deep : Nat) (left : Int) : List Expr → Bool × Int
 | [] => (true, left)
 | e :: r => if (mayE deep left e).1 = true then mayEs deep (mayE deep left e).2 r else (false, (mayE deep left e).2)
end
mutual
theorem mayE_eq : ∀ (e : Expr) (d : Nat) (left : Int), 0 ≤ left → (mayE d left e).1 = (okE d e && decide ((ndE e : Int) ≤ left)) ∧ ((mayE d left e).1 = true → (mayE d left e).2 = left - ndE e) ∧ (mayE d left e).2 ≤ left ∧ -1 ≤ (mayE d left e).2
 | .mk k n s l, d, left, h => by
  have e1 : okE d (.mk k n s l) = ((decide (d < 32) && nodeB (.mk k n s l)) && okEs (d + 1) l) := by unfold okE; rw [Bool.and_assoc]
  have e2 : ndE (.mk k n s l) = 1 + ndEs l := rfl
  unfold mayE
  rw [e1, e2]
  by_cases c : left - 1 < 0
  ·rw [if_pos (.inl c)]
   refine ⟨?_, fun h => by simp at h, by omega, by dsimp only; omega⟩
   dsimp only
   rw [show decide (((1 + ndEs l : Nat) : Int) ≤ left) = false from decide_eq_false (by omega), Bool.and_false]
  ·cases q : (decide (d < 32) && nodeB (.mk k n s l)) with
   | false => rw [if_pos (.inr rfl)]; exact ⟨rfl, fun h => by simp at h, by dsimp only; omega, by dsimp only; omega⟩
   | true =>
    rw [if_neg (by rintro (h | h); exact c h; simp at h), Bool.true_and]
    obtain ⟨h1, h2, h3, h4⟩ := mayEs_eq l (d + 1) (left - 1) (by omega)
    refine ⟨?_, fun h => by rw [h2 h]; omega, by omega, by omega⟩
    rw [h1]
    congr 1
    exact decide_eq_decide.2 (by omega)
theorem mayEs_eq : ∀ (l : List Expr) (d : Nat) (left : Int), 0 ≤ left → (mayEs d left l).1 = (okEs d l && decide ((ndEs l : Int) ≤ left)) ∧ ((mayEs d left l).1 = true → (mayEs d left l).2 = left - ndEs l) ∧ (mayEs d left l).2 ≤ left ∧ -1 ≤ (mayEs d left l).2
 | [], d, left, h => by
  refine ⟨?_, fun _ => ?_, Int.le_refl _, ?_⟩
  ·show true = (true && decide (((0 : Nat) : Int) ≤ left)); simp; omega
  ·show left = left - ((0 : Nat) : Int); omega
  ·show -1 ≤ left; omega
 | e :: r, d, left, h => by
  have e1 : okEs d (e :: r) = (okE d e && okEs d r) := rfl
  have e2 : ndEs (e :: r) = ndE e + ndEs r := rfl
  obtain ⟨h1, h2, h3, h4⟩ := mayE_eq e d left h
  unfold mayEs
  rw [e1, e2]
  cases q : (mayE d left e).1 with
  | false =>
   rw [if_neg (by simp)]
   refine ⟨?_, fun h => by simp at h, h3, h4⟩
   dsimp only
   rw [q] at h1
   cases ho : okE d e with
   | false => rfl
   | true =>
    rw [ho, Bool.true_and] at h1
    have := of_decide_eq_false h1.symm
    rw [show decide (((ndE e + ndEs r : Nat) : Int) ≤ left) = false from decide_eq_false (by omega), Bool.and_false]
  | true =>
   rw [if_pos rfl]
   have hq := h2 q
   rw [q] at h1
   have h1 := h1.symm
   rw [Bool.and_eq_true, decide_eq_true_eq] at h1
   obtain ⟨g1, g2, g3, g4⟩ := mayEs_eq r d (mayE d left e).2 (by omega)
   refine ⟨?_, fun h => by rw [g2 h]; omega, by omega, by omega⟩
   rw [g1, h1.1, Bool.true_and]
   congr 1
   exact decide_eq_decide.2 (by omega)
end
theorem mayAll_run (e : Expr) (deep : Nat) (left : Int) (h : allOk e) (hl : ndE e ≤ 1000000) (hl0 : 0 ≤ left) (hl2 : left ≤ 100000) (hd : deep ≤ 32) : (expr_may_S e (deep : Int) left).run = some (mayE deep left e) := by
 unfold expr_may_S
 refine T.fix_run (fun x : Expr × Int × Int => allOk x.1 ∧ 0 ≤ x.2.1 ∧ x.2.1 ≤ 32 ∧ ndE x.1 ≤ 1000000 ∧ 0 ≤ x.2.2 ∧ x.2.2 ≤ 100000) (fun x => ndE x.1) (fun x => mayE x.2.1.toNat x.2.2 x.1) (fun x hx g hg => ?_) (x := (e, (deep : Int), left)) ⟨h, by dsimp only; omega, by dsimp only; omega, by dsimp only; omega, by dsimp only; omega, by dsimp only; omega⟩
 obtain ⟨e, d, L⟩ := x
 obtain ⟨ha, hd0, hd1, hn, hlf0, hlf⟩ := hx
 dsimp only at ha hd0 hd1 hn hlf0 hlf
 obtain ⟨D, rfl⟩ : ∃ D : Nat, d = (D : Int) := ⟨d.toNat, by omega⟩
 cases e with | mk k n s kids =>
 obtain ⟨hnum, hkids⟩ := ha
 have hnd : ndE (.mk k n s kids) = 1 + ndEs kids := by unfold ndE; rfl
 rw [hnd] at hn
 have ew : w64 (L - 1) = L - 1 := w64_in (by omega) (by omega)
 have hnode := isNode_run (.mk k n s kids) hnum
 simp only [Int.toNat_natCast]
 unfold expr_may_S_B
 rw [ew]
 have head : ((.ite (decide ((L - 1) < (0 : Int))) (.ret (true, L - 1)) (.ite (decide ((32 : Int) ≤ (D : Int))) (.ret (true, L - 1)) (T.bind (expr_isNode (.mk k n s kids)) fun r => .ret ((!r), L - 1)))) : T (Bool × Int)).run =
   some (decide (L - 1 < 0 ∨ (decide (D < 32) && nodeB (.mk k n s kids)) = false), L - 1) := by
  by_cases c0 : L - 1 < 0
  ·rw [T.run_ite_t (decide_eq_true c0), T.run_ret, decide_eq_true (.inl c0)]
  ·rw [T.run_ite_f (decide_eq_false c0)]
   by_cases c : D < 32
   ·rw [T.run_ite_f (decide_eq_false (by omega)), T.run_bind_of hnode, T.run_ret, decide_eq_true c, Bool.true_and]
    cases nodeB (.mk k n s kids) <;> simp [c0]
   ·rw [T.run_ite_t (decide_eq_true (by omega)), T.run_ret, decide_eq_false c, Bool.false_and]
    simp
 rw [T.run_bind_of head]
 dsimp only
 unfold mayE
 by_cases q : L - 1 < 0 ∨ (decide (D < 32) && nodeB (.mk k n s kids)) = false
 ·rw [T.run_ite_t (decide_eq_true q), T.run_ret, if_pos q]
 ·rw [T.run_ite_f (decide_eq_false q), if_neg q]
  have q1 : ¬ L - 1 < 0 := fun h => q (.inl h)
  have hD : D < 32 := by
   by_cases c : D < 32
   ·exact c
   ·exact absurd (.inr (by rw [decide_eq_false c]; rfl)) q
  have ed : w64 ((D : Int) + 1) = ((D + 1 : Nat) : Int) := by rw [w64_in (by omega) (by omega)]; omega
  have loop : ∃ z, (slices_IndexFunc_sl_Expr_expr_may_f1_S_L0 (fun y0 y1 y2 => g (y0, y1, y2)) kids (kids.length : Int) (((D : Int), ()), ((0 : Int), L - 1))).run = some z ∧
    (((mayEs (D + 1) (L - 1) kids).1 = true ∧ z = .inl (mayEs (D + 1) (L - 1) kids).2) ∨ ((mayEs (D + 1) (L - 1) kids).1 = false ∧ ∃ i : Int, 0 ≤ i ∧ z = .inr (i, (mayEs (D + 1) (L - 1) kids).2))) := by
   refine T.loop_post (r := slices_IndexFunc_sl_Expr_expr_may_f1_S_R0 (fun y0 y1 y2 => g (y0, y1, y2)) kids (kids.length : Int)) (fun st : (Int × Unit) × Int × Int => ∃ (j : Nat) (B : Int), st = (((D : Int), ()), (j : Int), B) ∧ j ≤ kids.length ∧ 0 ≤ B ∧ B ≤ 100000 ∧
    mayEs (D + 1) B (kids.drop j) = mayEs (D + 1) (L - 1) kids) (fun st => kids.length - st.2.1.toNat) _ (fun st hst => ?_) ⟨0, L - 1, rfl, by omega, by omega, by omega, by rw [List.drop_zero]⟩
   obtain ⟨j, B, rfl, hj, hB0, hB, hoB⟩ := hst
   by_cases c : j < kids.length
   ·have hdr : kids.drop j = kids[j] :: kids.drop (j + 1) := List.drop_eq_getElem_cons c
    rw [hdr] at hoB
    rw [show mayEs (D + 1) B (kids[j] :: kids.drop (j + 1)) = if (mayE (D + 1) B kids[j]).1 = true then mayEs (D + 1) (mayE (D + 1) B kids[j]).2 (kids.drop (j + 1)) else (false, (mayE (D + 1) B kids[j]).2) from rfl] at hoB
    have hmem := allOks_mem hkids _ (List.getElem_mem c)
    have hle1 := mayE_eq kids[j] (D + 1) B hB0
    have hsub : ndE kids[j] < 1 + ndEs kids := by have := ndEs_mem (List.getElem_mem c); omega
    have hrec := hg (kids[j], ((D + 1 : Nat) : Int), B) ⟨hmem, by dsimp only; omega, by dsimp only; omega, by dsimp only; omega, by dsimp only; omega, by dsimp only; omega⟩ (by dsimp only; rw [hnd]; exact hsub)
    dsimp only at hrec
    simp only [Int.toNat_natCast] at hrec
    have hf : (expr_may_f1_S (fun y0 y1 y2 => g (y0, y1, y2)) kids[j] (D : Int) B).run = some (!(mayE (D + 1) B kids[j]).1, (mayE (D + 1) B kids[j]).2) := by
     unfold expr_may_f1_S
     rw [ed, T.run_bind_of hrec]; rfl
    unfold slices_IndexFunc_sl_Expr_expr_may_f1_S_R0
    dsimp only
    rw [T.run_ite_t (lt_t c), T.run_obl (idx_ok c), nth_at c, T.run_bind_of hf]
    dsimp only
    cases hk : (mayE (D + 1) B kids[j]).1 with
    | true =>
     left
     rw [hk, if_pos rfl] at hoB
     rw [T.run_ite_f (by rfl), T.run_ret]
     have hlen := ndEs_len kids
     rw [ix1 j _ c (by omega)]
     have hb := hle1.1
     rw [hk] at hb
     have hb := hb.symm
     rw [Bool.and_eq_true, decide_eq_true_eq] at hb
     have h2 := hle1.2.1 hk
     refine ⟨_, rfl, ⟨j + 1, (mayE (D + 1) B kids[j]).2, rfl, c, by omega, by omega, hoB⟩, ?_⟩
     simp only [Int.toNat_natCast]
     omega
    | false =>
     right
     rw [hk, if_neg (by simp)] at hoB
     rw [T.run_ite_t (by rfl), T.run_ret]
     exact ⟨_, rfl, .inr ⟨by rw [← hoB], (j : Int), by omega, by rw [← hoB]⟩⟩
   ·right
    have hj2 : j = kids.length := by omega
    subst hj2
    rw [List.drop_length] at hoB
    unfold slices_IndexFunc_sl_Expr_expr_may_f1_S_R0
    dsimp only
    rw [T.run_ite_f (lt_f _), T.run_ret]
    exact ⟨_, rfl, .inl ⟨by rw [← hoB]; rfl, by rw [← hoB]; rfl⟩⟩
  obtain ⟨z, hz, hc⟩ := loop
  have hcf : (slices_ContainsFunc_sl_Expr_expr_may_f1_S (fun y0 y1 y2 => g (y0, y1, y2)) kids ((D : Int), ()) (L - 1)).run = some (!(mayEs (D + 1) (L - 1) kids).1, (mayEs (D + 1) (L - 1) kids).2) := by
   unfold slices_ContainsFunc_sl_Expr_expr_may_f1_S slices_IndexFunc_sl_Expr_expr_may_f1_S
   rcases hc with ⟨ho, rfl⟩ | ⟨ho, i, hi, rfl⟩
   ·have : ((T.bind (slices_IndexFunc_sl_Expr_expr_may_f1_S_L0 (fun y0 y1 y2 => g (y0, y1, y2)) kids (kids.length : Int) (((D : Int), ()), ((0 : Int), L - 1))) <| Sum.elim (fun v2 => .ret ((-1 : Int), v2)) (fun (x2, v3) => .ret (x2, v3))) : T (Int × Int)).run = some (-1, (mayEs (D + 1) (L - 1) kids).2) := by
     rw [T.run_bind_of hz]; rfl
    rw [T.run_bind_of this, ho]; rfl
   ·have : ((T.bind (slices_IndexFunc_sl_Expr_expr_may_f1_S_L0 (fun y0 y1 y2 => g (y0, y1, y2)) kids (kids.length : Int) (((D : Int), ()), ((0 : Int), L - 1))) <| Sum.elim (fun v2 => .ret ((-1 : Int), v2)) (fun (x2, v3) => .ret (x2, v3))) : T (Int × Int)).run = some (i, (mayEs (D + 1) (L - 1) kids).2) := by
     rw [T.run_bind_of hz]; rfl
    rw [T.run_bind_of this, ho, T.run_ret, decide_eq_true hi]; rfl
  rw [show Expr.kids (.mk k n s kids) = kids from rfl, T.run_bind_of hcf]
  dsimp only
  rw [T.run_ret, Bool.not_not]
def isE (e : Expr) : Bool := okE 0 e && decide (ndE e ≤ 256)
theorem IsAll_run (e : Expr) (h : allOk e) (hn : ndE e ≤ 1000000) : (expr_Is e).run = some (isE e) := by
 unfold expr_Is isE
 have := mayAll_run e 0 256 h hn (by omega) (by omega) (by omega)
 have this : (expr_may_S e 0 256).run = some (mayE 0 256 e) := this
 rw [T.run_bind_of this, T.run_ret, (mayE_eq e 0 256 (by omega)).1]
 congr 2
 exact decide_eq_decide.2 (by omega)
theorem ref5_IsAll_run (e : Expr) (h : allOk e) (hb : bkE e ≤ 1000000000) (hn : ndE e ≤ 100000) : (ref5_Is e).run = some (isE e) := by
 unfold ref5_Is isE
 have h1 : (ref5_one e 1).run = some (okE 0 e) := one_run e 0 h (by omega) (by omega)
 rw [T.run_bind_of h1]
 cases okE 0 e with
 | false => rfl
 | true =>
  rw [T.run_ite_true, T.run_bind_of (ref5_Nodes_run e hb), T.run_ret]
  congr 1
  rw [Bool.true_and]
  exact decide_eq_decide.2 (by omega)
end Go.AM.Lf
namespace Go.AM.Lf
open PL
def exGood (e : Expr) : Prop := allOk e ∧ bkE e ≤ 300 * ndE e
def PR.good (N : Nat) : PR → Prop
 | .ok e r _ => exGood e ∧ ndE e + r.length ≤ N
 | _ => True
theorem ndE_pos (e : Expr) : 1 ≤ ndE e := by cases e; unfold ndE; omega
theorem zeroR_nok : numOk zeroR := ⟨limbs_nil, limbs_nil, by show (0 : Nat) ≤ 100; omega, by show (0 : Nat) ≤ 100; omega⟩
theorem leaf_good (k : Int) (n : Rat) (s : Str) (hn : numOk n) (hs : s.length ≤ 24) : exGood (.mk k n s []) := by
 refine ⟨⟨hn, trivial⟩, ?_⟩
 have h3 := hn.2.2.1
 have h4 := hn.2.2.2
 show 1 + ((1 + ((List.length n.2.1 + 1) + ((List.length n.2.2.1 + 1) + 1))) + ((List.length s + 1) + ((0 + 1) + 1))) ≤ 300 * (1 + 0)
 omega
theorem node1_good (k : Int) {a : Expr} (h : exGood a) : exGood (nodeE k [a]) := by
 refine ⟨⟨zeroR_nok, h.1, trivial⟩, ?_⟩
 show 1 + ((1 + ((0 + 1) + ((0 + 1) + 1))) + ((0 + 1) + (((bkE a + 0) + 1) + 1))) ≤ 300 * (1 + (ndE a + 0))
 have := h.2
 omega
theorem node2_good (k : Int) {a b : Expr} (h : exGood a) (h2 : exGood b) : exGood (nodeE k [a, b]) := by
 refine ⟨⟨zeroR_nok, h.1, h2.1, trivial⟩, ?_⟩
 show 1 + ((1 + ((0 + 1) + ((0 + 1) + 1))) + ((0 + 1) + (((bkE a + (bkE b + 0)) + 1) + 1))) ≤ 300 * (1 + (ndE a + (ndE b + 0)))
 have := h.2
 have := h2.2
 omega
theorem nd1 (k : Int) (a : Expr) : ndE (nodeE k [a]) = 1 + ndE a := rfl
theorem nd2 (k : Int) (a b : Expr) : ndE (nodeE k [a, b]) = 1 + (ndE a + ndE b) := rfl
theorem PR.good_bind {N : Nat} {R : PR} {f : Expr → Str → Bool → PR} {M : Nat} (h : R.good M) (hf : ∀ e r l, exGood e → ndE e + r.length ≤ M → (f e r l).good N) : (R.bind f).good N := by
 cases R with
 | no => trivial
 | er => trivial
 | ok e r l => exact hf e r l h.1 h.2
theorem numT_ok (t : Str) (ht : t.length ≤ 400) : numOk (numT t) := by
 unfold numT
 split
 ·rename_i n d h
  have := parse_small (List.isPrefixOf [45] t) ht h
  exact ⟨this.1, this.2.1, by have := this.2.2.1; omega, by have := this.2.2.2; omega⟩
 ·exact zeroR_nok
theorem finN_good {z : Rat} (hz : numOk z) (t r : Str) (l : Bool) (N : Nat) (h : r.length + 1 ≤ N) : (finN z t r l).good N := by
 unfold finN
 split
 ·exact ⟨leaf_good 1 z [] hz (by simp), by show 1 + 0 + r.length ≤ N; omega⟩
 ·exact ⟨leaf_good 1 _ [] (numT_ok t (by omega)) (by simp), by show 1 + 0 + r.length ≤ N; omega⟩
theorem numP_good {z : Rat} (hz : numOk z) (d : Nat) (c : UInt8) (r : Str) (l : Bool) (hc : isD c = true) : (numP z d (c :: r) l).good (c :: r).length := by
 have hd : (c :: r).dropWhile isD = r.dropWhile isD := by rw [List.dropWhile_cons_of_pos hc]
 have hl := (dropW_sfx isD r).length_le
 unfold numP
 rw [hd]
 split
 ·exact finN_good hz _ _ _ _ (by simp)
 ·rename_i c' q e
  rw [e] at hl
  split
  ·split
   ·trivial
   ·have := (dropW_sfx isD q).length_le
    simp only [List.length_cons] at hl
    exact finN_good hz _ _ _ _ (by simp only [List.length_cons]; omega)
  ·exact finN_good hz _ _ _ _ (by simp only [List.length_cons] at hl ⊢; omega)
theorem lexW_len (p : UInt8 → Bool) : ∀ (n : Nat) (r : Str), (lexW p n r).1.length ≤ n
 | 0, _ => by unfold lexW; simp
 | _ + 1, [] => by unfold lexW; simp
 | n + 1, c :: r => by
  have := lexW_len p n r
  unfold lexW
  split
  ·simp only [List.length_cons]; omega
  ·simp
theorem isL_in {c : UInt8} (h : isL c = true) : isIn c = true := by unfold isIn; rw [h]; rfl
theorem namP_good (c : UInt8) (r : Str) (l : Bool) (hc : isL c = true) : (namP (c :: r) l).good (c :: r).length := by
 have h1 := lexW_len isIn 24 (c :: r)
 have h2 := congrArg List.length (lexW_cat isIn 24 (c :: r))
 have h3 : (lexW isIn 24 (c :: r)).1 = c :: (lexW isIn 23 r).1 := by
  show (if isIn c = true then (c :: (lexW isIn 23 r).1, (lexW isIn 23 r).2) else ([], c :: r)).1 = _
  rw [if_pos (isL_in hc)]
 rw [List.length_append, h3] at h2
 refine ⟨leaf_good 2 zeroR _ zeroR_nok h1, ?_⟩
 show 1 + 0 + (lexW isIn 24 (c :: r)).2.length ≤ _
 simp only [List.length_cons] at h2 ⊢
 omega
theorem takeS_len {m r q : Str} {c : UInt8} (h : takeS m r = some (c, q)) : q.length + 1 ≤ r.length := by
 have := (takeS_sfx h).1.length_le
 simpa using this
theorem rowL_good {K : Bool → Str → PR} (hK : ∀ l q, (K l q).good q.length) (m1 m2 : UInt8) (k1 k2 : Int) : ∀ (n : Nat) (e : Expr) (r : Str) (l : Bool) (N : Nat), exGood e → ndE e + r.length ≤ N → (rowL K m1 m2 k1 k2 n e r l).good N
 | 0, _, _, _, _, _, _ => trivial
 | n + 1, e, r, l, N, he, hN => by
  unfold rowL
  split
  ·exact ⟨he, by have := skS_len r; omega⟩
  ·rename_i c q ht
   have hq := takeS_len ht
   refine PR.good_bind (hK l q) fun e2 q2 l2 h1 h2 => ?_
   refine rowL_good hK m1 m2 k1 k2 n _ q2 l2 N (node2_good _ he h1) ?_
   rw [nd2]
   omega
theorem rowP_good {K : Bool → Str → PR} (hK : ∀ l q, (K l q).good q.length) (m1 m2 : UInt8) (k1 k2 : Int) (n : Nat) (l : Bool) (r : Str) : (rowP K m1 m2 k1 k2 n l r).good r.length :=
 PR.good_bind (hK l r) fun e q l' h1 h2 => rowL_good hK m1 m2 k1 k2 n e q l' _ h1 h2
theorem facP_good {z : Rat} (hz : numOk z) {F S : Nat → Bool → Str → PR} (hF : ∀ d l q, (F d l q).good q.length) (hS : ∀ d l q, (S d l q).good q.length) (d : Nat) (l : Bool) (r : Str) : (facP z F S d l r).good r.length := by
 have hk := skS_len r
 unfold facP
 split
 ·trivial
 ·rename_i c q e
  rw [e] at hk
  simp only [List.length_cons] at hk
  split
  ·split
   ·trivial
   ·refine PR.good_bind (hF _ _ _) fun e2 r2 l2 h1 h2 => ⟨node1_good 7 h1, ?_⟩
    rw [nd1]; omega
  ·split
   ·split
    ·trivial
    ·refine PR.good_bind (hS _ _ _) fun e2 r2 l2 h1 h2 => ?_
     split
     ·rename_i ht
      have := takeS_len ht
      exact ⟨h1, by omega⟩
     ·trivial
   ·split
    ·rename_i hc
     have := numP_good hz d c q l hc
     cases w : numP z d (c :: q) l with
     | no => trivial
     | er => trivial
     | ok e2 r2 l2 => rw [w] at this; exact ⟨this.1, by have := this.2; simp only [List.length_cons] at this; omega⟩
    ·split
     ·rename_i hc
      have := namP_good c q l hc
      exact ⟨this.1, by have := this.2; simp only [List.length_cons] at this; omega⟩
     ·trivial
theorem pX_good {z : Rat} (hz : numOk z) : ∀ (n : Nat), (∀ d l r, (pF z n d l r).good r.length) ∧ (∀ d l r, (pP z n d l r).good r.length) ∧ (∀ d l r, (pS z n d l r).good r.length)
 | 0 => ⟨fun _ _ _ => by unfold pF; trivial, fun _ _ _ => by unfold pP; trivial, fun _ _ _ => by unfold pS; trivial⟩
 | n + 1 => by
  obtain ⟨h1, h2, h3⟩ := pX_good hz n
  refine ⟨fun d l r => ?_, fun d l r => ?_, fun d l r => ?_⟩
  ·unfold pF; exact facP_good hz h1 h3 d l r
  ·unfold pP; exact rowP_good (h1 d) _ _ _ _ n l r
  ·unfold pS; exact rowP_good (h2 d) _ _ _ _ n l r
theorem PR.bind_no {R : PR} {f : Expr → Str → Bool → PR} {M : Nat} (h : R ≠ .no) (hg : R.good M) (hf : ∀ e r l, exGood e → ndE e + r.length ≤ M → f e r l ≠ .no) : R.bind f ≠ .no := by
 cases R with
 | no => exact absurd rfl h
 | er => intro h; cases h
 | ok e r l => exact hf e r l hg.1 hg.2
theorem rowL_tot {K : Bool → Str → PR} (hK : ∀ l q, (K l q).good q.length) (m1 m2 : UInt8) (k1 k2 : Int) : ∀ (n : Nat) (e : Expr) (r : Str) (l : Bool), (∀ l q, q.length ≤ r.length → K l q ≠ .no) → r.length + 1 ≤ n → rowL K m1 m2 k1 k2 n e r l ≠ .no
 | 0, _, _, _, _, h => by omega
 | n + 1, e, r, l, hT, h => by
  unfold rowL
  split
  ·intro h; cases h
  ·rename_i c q ht
   have hq := takeS_len ht
   refine PR.bind_no (hT l q (by omega)) (hK l q) fun e2 q2 l2 h1 h2 => ?_
   have := ndE_pos e2
   exact rowL_tot hK m1 m2 k1 k2 n _ q2 l2 (fun l q3 h3 => hT l q3 (by omega)) (by omega)
theorem rowP_tot {K : Bool → Str → PR} (hK : ∀ l q, (K l q).good q.length) (m1 m2 : UInt8) (k1 k2 : Int) (n : Nat) (l : Bool) (r : Str) (hT : ∀ l q, q.length ≤ r.length → K l q ≠ .no) (h : r.length ≤ n) : rowP K m1 m2 k1 k2 n l r ≠ .no := by
 refine PR.bind_no (hT l r (Nat.le_refl _)) (hK l r) fun e q l' h1 h2 => ?_
 have := ndE_pos e
 exact rowL_tot hK m1 m2 k1 k2 n e q l' (fun l q3 h3 => hT l q3 (by omega)) (by omega)
theorem numP_tot (z : Rat) (d : Nat) (r : Str) (l : Bool) : numP z d r l ≠ .no := by
 have fin : ∀ t q, finN z t q l ≠ .no := fun t q => by unfold finN; split <;> (intro h; cases h)
 unfold numP
 split
 ·exact fin _ _
 ·split
  ·split
   ·intro h; cases h
   ·exact fin _ _
  ·exact fin _ _
theorem pX_tot {z : Rat} (hz : numOk z) : ∀ (n : Nat), (∀ d l r, 3 * r.length + 1 ≤ n → pF z n d l r ≠ .no) ∧ (∀ d l r, 3 * r.length + 2 ≤ n → pP z n d l r ≠ .no) ∧ (∀ d l r, 3 * r.length + 3 ≤ n → pS z n d l r ≠ .no)
 | 0 => ⟨fun _ _ _ h => by omega, fun _ _ _ h => by omega, fun _ _ _ h => by omega⟩
 | n + 1 => by
  obtain ⟨h1, h2, h3⟩ := pX_tot hz n
  obtain ⟨g1, g2, g3⟩ := pX_good hz n
  refine ⟨fun d l r h => ?_, fun d l r h => ?_, fun d l r h => ?_⟩
  ·unfold pF
   have hk := skS_len r
   unfold facP
   split
   ·intro h; cases h
   ·rename_i c q e
    rw [e] at hk
    simp only [List.length_cons] at hk
    split
    ·split
     ·intro h; cases h
     ·exact PR.bind_no (h1 _ _ _ (by omega)) (g1 _ _ _) fun _ _ _ _ _ => by intro h; cases h
    ·split
     ·split
      ·intro h; cases h
      ·refine PR.bind_no (h3 _ _ _ (by omega)) (g3 _ _ _) fun _ _ _ _ _ => ?_
       split <;> (intro h; cases h)
     ·split
      ·exact numP_tot z d _ l
      ·split <;> (intro h; cases h)
  ·unfold pP
   exact rowP_tot (g1 d) _ _ _ _ n l r (fun l q hq => h1 d l q (by omega)) (by omega)
  ·unfold pS
   exact rowP_tot (g2 d) _ _ _ _ n l r (fun l q hq => h2 d l q (by omega)) (by omega)
end Go.AM.Lf
namespace Go.AM.Lf
open PL
theorem factor_run (s : Str) (hs : s.length ≤ 1000000) (ST : KT) (N : Nat) (hS : ∀ m, m ≤ N → ∀ d l r, d ≤ 31 → r <:+ s → pS zeroR m d l r ≠ .no → (ST (stP s r d l)).run = encR s d (pS zeroR m d l r))
  (n : Nat) (hn : n ≤ N + 1) (d : Nat) (l : Bool) (r : Str) (hd : d ≤ 31) (h : r <:+ s) (hno : pF zeroR n d l r ≠ .no) : (expr_parser_factor_S ST (stP s r d l)).run = encR s d (pF zeroR n d l r) := by
 unfold expr_parser_factor_S
 obtain ⟨y, hy⟩ : ∃ y, encR s d (pF zeroR n d l r) = some y := by
  cases q : pF zeroR n d l r with
  | no => exact absurd q hno
  | er => exact ⟨_, rfl⟩
  | ok => exact ⟨_, rfl⟩
 rw [hy]
 refine T.fix_rel (fun n x y => n ≤ N + 1 ∧ ∃ d l r, d ≤ 31 ∧ r <:+ s ∧ x = stP s r d l ∧ pF zeroR n d l r ≠ .no ∧ encR s d (pF zeroR n d l r) = some y) (fun x y => ?_) (fun n x y hx g hg => ?_) (n := n) ⟨hn, d, l, r, hd, h, rfl, hno, hy⟩
 ·rintro ⟨_, d, l, r, _, _, _, h, _⟩
  exact h (by unfold pF; rfl)
 ·obtain ⟨hn, d, l, r, hd, h, rfl, hno, hy⟩ := hx
  rw [← hy]
  unfold pF at hno ⊢
  have hgF : ∀ d l r, d ≤ 31 → r <:+ s → pF zeroR n d l r ≠ .no → (g (stP s r d l)).run = encR s d (pF zeroR n d l r) := by
   intro d l r hd h hno
   obtain ⟨y, hy⟩ : ∃ y, encR s d (pF zeroR n d l r) = some y := by
    cases q : pF zeroR n d l r with
    | no => exact absurd q hno
    | er => exact ⟨_, rfl⟩
    | ok => exact ⟨_, rfl⟩
   rw [hy]
   exact hg _ _ ⟨by omega, d, l, r, hd, h, rfl, hno, hy⟩
  exact factorB_run s hs (fun y0 => g y0) ST (pF zeroR n) (pS zeroR n) hgF (hS n (by omega)) ((pX_sfx zeroR s n).2.2) d l r hd h hno
theorem factorRow_eq (ST : KT) (m : Str) (k : expr_stop) (p : expr_parser) : expr_parser_row_expr_parser_factor_S ST () m k p = rowT (expr_parser_factor_S ST) m k p := rfl
theorem productRow_eq (ST : KT) (m : Str) (k : expr_stop) (p : expr_parser) : expr_parser_row_expr_parser_product_S ST () m k p = rowT (expr_parser_product_S ST) m k p := rfl
theorem wrap_run {t : T ((AM.Expr × expr_parser) ⊕ (expr_stop × expr_parser))} {o : Option ((AM.Expr × expr_parser) ⊕ (expr_stop × expr_parser))} (h : t.run = o) (ho : o ≠ none) : (T.bind t <| Sum.elim (fun (r, p1) => .ret (.inl (r, p1))) (fun (pv, p2) => .ret (.inr (pv, p2))) : T ((AM.Expr × expr_parser) ⊕ (expr_stop × expr_parser))).run = o := by
 cases o with
 | none => exact absurd rfl ho
 | some x => rw [T.run_bind_of h]; cases x <;> rfl
theorem enc_some {s : Str} {d : Nat} {R : PR} (h : R ≠ .no) : encR s d R ≠ none := by
 cases R with
 | no => exact absurd rfl h
 | er => intro h; cases h
 | ok => intro h; cases h
theorem product_run (s : Str) (hs : s.length ≤ 1000000) (ST : KT) (N : Nat) (hS : ∀ m, m ≤ N → ∀ d l r, d ≤ 31 → r <:+ s → pS zeroR m d l r ≠ .no → (ST (stP s r d l)).run = encR s d (pS zeroR m d l r))
  (n : Nat) (hn : n ≤ N + 1) (d : Nat) (l : Bool) (r : Str) (hd : d ≤ 31) (h : r <:+ s) (hno : pP zeroR n d l r ≠ .no) : (expr_parser_product_S ST (stP s r d l)).run = encR s d (pP zeroR n d l r) := by
 cases n with
 | zero => exact absurd (by unfold pP; rfl) hno
 | succ n =>
  unfold pP at hno ⊢
  unfold expr_parser_product_S
  refine wrap_run ?_ (enc_some hno)
  rw [factorRow_eq]
  exact rowT_run s hs d (expr_parser_factor_S ST) (pF zeroR n d) (fun l r h hno => factor_run s hs ST N hS n (by omega) d l r hd h hno) ((pX_sfx zeroR s n).1 d) 42 47 (by decide) (by decide) 5 6 n l r h hno
theorem sum_run (s : Str) (hs : s.length ≤ 1000000) (n : Nat) (d : Nat) (l : Bool) (r : Str) (hd : d ≤ 31) (h : r <:+ s) (hno : pS zeroR n d l r ≠ .no) : (expr_parser_sum_S (stP s r d l)).run = encR s d (pS zeroR n d l r) := by
 have hsome : ∀ (n d : Nat) (l : Bool) (r : Str), pS zeroR n d l r ≠ .no → ∃ y, encR s d (pS zeroR n d l r) = some y := by
  intro n d l r hno
  cases q : pS zeroR n d l r with
  | no => exact absurd q hno
  | er => exact ⟨_, rfl⟩
  | ok => exact ⟨_, rfl⟩
 unfold expr_parser_sum_S
 obtain ⟨y, hy⟩ := hsome n d l r hno
 rw [hy]
 refine T.fix_rel (fun n x y => ∃ m, m ≤ n ∧ ∃ d l r, d ≤ 31 ∧ r <:+ s ∧ x = stP s r d l ∧ pS zeroR m d l r ≠ .no ∧ encR s d (pS zeroR m d l r) = some y) (fun x y => ?_) (fun n x y hx g hg => ?_) (n := n) ⟨n, Nat.le_refl _, d, l, r, hd, h, rfl, hno, hy⟩
 ·rintro ⟨m, hm, d, l, r, _, _, _, h, _⟩
  have : m = 0 := by omega
  subst this
  exact h (by unfold pS; rfl)
 ·obtain ⟨m, hm, d, l, r, hd, h, rfl, hno, hy⟩ := hx
  rw [← hy]
  cases m with
  | zero => exact absurd (by unfold pS; rfl) hno
  | succ m =>
   have hg2 : ∀ k, k ≤ m → ∀ d l r, d ≤ 31 → r <:+ s → pS zeroR k d l r ≠ .no → (g (stP s r d l)).run = encR s d (pS zeroR k d l r) := by
    intro k hk d l r hd h hno
    obtain ⟨y, hy⟩ := hsome k d l r hno
    rw [hy]
    exact hg _ _ ⟨k, by omega, d, l, r, hd, h, rfl, hno, hy⟩
   unfold pS at hno ⊢
   unfold expr_parser_sum_S_B
   refine wrap_run ?_ (enc_some hno)
   rw [productRow_eq]
   exact rowT_run s hs d (expr_parser_product_S fun y0 => g y0) (pP zeroR m d) (fun l r h hno => product_run s hs (fun y0 => g y0) m hg2 m (by omega) d l r hd h hno) ((pX_sfx zeroR s m).2.1 d) 43 45 (by decide) (by decide) 3 4 m l r h hno
def topP (s : Str) : PR → Expr × Int × Int × Bool
 | .no => (zE, 0, 0, false)
 | .er k b _ _ l => (zE, ((posS s b : Nat) : Int), k, l)
 | .ok e [] l => (e, 0, 0, l)
 | .ok _ (c :: r) l => (zE, ((posS s (c :: r) : Nat) : Int), 2, l)
def sumZ (z : Rat) (s : Str) : PR := pS z (3 * s.length + 3) 0 false s
theorem sumZ_no {z : Rat} (hz : numOk z) (s : Str) : sumZ z s ≠ .no := (pX_tot hz _).2.2 0 false s (Nat.le_refl _)
theorem sumZ_sfx (z : Rat) (s : Str) : (sumZ z s).sfx s := (pX_sfx z s _).2.2 0 false s (List.suffix_refl s)
theorem sumZ_good {z : Rat} (hz : numOk z) (s : Str) : (sumZ z s).good s.length := (pX_good hz _).2.2 0 false s
theorem parAll_run (s : Str) (hs : s.length ≤ 1000000) : ∃ p, (expr_parser_all_S (s, ((0 : Int), ((0 : Int), (false, ()))))).run = some ((topP s (sumZ zeroR s)).1, ((topP s (sumZ zeroR s)).2.1, ((topP s (sumZ zeroR s)).2.2.1, p))) ∧ p.2.2.2.1 = (topP s (sumZ zeroR s)).2.2.2 := by
 have hno := sumZ_no zeroR_nok s
 have hsf := sumZ_sfx zeroR s
 have hr := sum_run s hs (3 * s.length + 3) 0 false s (by omega) (List.suffix_refl s) hno
 have e0 : stP s s 0 false = (s, ((0 : Int), ((0 : Int), (false, ())))) := by unfold stP; rw [posS_self]; rfl
 rw [e0] at hr
 have hr : (expr_parser_sum_S (s, ((0 : Int), ((0 : Int), (false, ()))))).run = encR s 0 (sumZ zeroR s) := hr
 unfold expr_parser_all_S
 cases q : sumZ zeroR s with
 | no => exact absurd q hno
 | er k b r d l =>
  rw [q] at hr
  refine ⟨stP s r d l, ?_, rfl⟩
  rw [T.run_bind_of hr, Sum.elim_inr]
  rfl
 | ok e r l =>
  rw [q] at hr hsf
  cases r with
  | nil =>
   refine ⟨stP s [] 0 l, ?_, rfl⟩
   rw [T.run_bind_of hr, Sum.elim_inl]
   dsimp only
   rw [stP_at, stP_fst, pos_f, T.run_ite_false]
   rfl
  | cons c r =>
   refine ⟨stP s (c :: r) 0 l, ?_, rfl⟩
   rw [T.run_bind_of hr, Sum.elim_inl]
   dsimp only
   rw [stP_at, stP_fst, pos_t hsf, T.run_ite_true]
   rfl
def parA (s : Str) (R : PR) : Expr × Int × Int :=
 if (topP s R).2.2.1 ≠ 0 then (zE, ((topP s R).2.1, (topP s R).2.2.1))
 else if (topP s R).2.2.2 = true ∨ isE (topP s R).1 = false then (zE, ((0 : Int), (3 : Int)))
 else ((topP s R).1, ((0 : Int), (0 : Int)))
def parseE (s : Str) : Expr × Int × Int := parA s (sumZ zeroR s)
theorem zE_good : exGood zE := leaf_good 0 zeroR [] zeroR_nok (by simp)
theorem topP_good {s : Str} {R : PR} {N : Nat} (h : R.good N) (h1 : 1 ≤ N) : exGood (topP s R).1 ∧ ndE (topP s R).1 ≤ N := by
 have hz : exGood zE ∧ ndE zE ≤ N := ⟨zE_good, h1⟩
 cases R with
 | no => exact hz
 | er => exact hz
 | ok e r l =>
  cases r with
  | nil => exact ⟨h.1, by have := h.2; show ndE e ≤ N; omega⟩
  | cons => exact hz
theorem Parse_run (s : Str) (hs : s.length ≤ 900000) : (expr_Parse s).run = some (parseE s) := by
 obtain ⟨p, h1, h2⟩ := parAll_run s (by omega)
 have hg := topP_good (s := s) (R := sumZ zeroR s) (N := s.length + 1) (by
  have := sumZ_good zeroR_nok s
  cases q : sumZ zeroR s with
  | no => trivial
  | er => trivial
  | ok e r l => rw [q] at this; exact ⟨this.1, by have := this.2; omega⟩) (by omega)
 unfold parseE parA
 generalize topP s (sumZ zeroR s) = w at h1 h2 hg ⊢
 obtain ⟨e, at_, x, l⟩ := w
 dsimp only at h1 h2 hg ⊢
 unfold expr_Parse
 rw [T.run_bind_of h1]
 dsimp only
 by_cases c : x ≠ 0
 ·rw [T.run_ite_t (by simpa using c), T.run_ret, if_pos c]
 ·rw [T.run_ite_f (by simpa using c), if_neg c, h2]
  have hI := IsAll_run e hg.1.1 (by omega)
  rw [T.run_bind_of (a := (decide (l = true ∨ isE e = false), (zE, (p, e))))]
  ·dsimp only
   by_cases c2 : l = true ∨ isE e = false
   ·rw [T.run_ite_t (decide_eq_true c2), T.run_ret, if_pos c2]
   ·rw [T.run_ite_f (decide_eq_false c2), T.run_ret, if_neg c2]
  ·cases l with
   | true => rw [T.run_ite_true, T.run_ret]; simp
   | false =>
    rw [T.run_ite_false, T.run_bind_of hI, T.run_ret]
    cases isE e <;> simp
end Go.AM.Lf
namespace Go.AM.Lf
open PL
inductive QR where
 | no
 | er (k : Int) (bad : Str) (x : Expr) (r : Str) (d : Nat) (l : Bool)
 | ok (e : Expr) (r : Str) (l : Bool)
end Go.AM.Lf
namespace Go.AM.Lf
open PL
def QR.sfx (s : Str) (d : Nat) : QR → Prop
 | .no => True
 | .er k b _ r d' _ => k ≠ 0 ∧ b <:+ s ∧ r <:+ s ∧ d ≤ d' ∧ d' ≤ 1000
 | .ok _ r _ => r <:+ s
end Go.AM.Lf
namespace Go.AM.Lf
open PL
def sameR (a b : Rat) : Bool := ((norm a).1 == (norm b).1) && (((norm a).2.1 == (norm b).2.1) && ((norm a).2.2.1 == (norm b).2.2.1))
theorem sameR_iff {a b : Rat} : sameR a b = true ↔ norm a = norm b := by
 unfold sameR
 rw [Bool.and_eq_true, Bool.and_eq_true, beq_iff_eq, beq_iff_eq, beq_iff_eq]
 constructor
 ·rintro ⟨h1, h2, h3⟩
  exact Prod.ext h1 (Prod.ext h2 (Prod.ext h3 rfl))
 ·intro h; rw [h]; exact ⟨rfl, rfl, rfl⟩
mutual
def sameE : Expr → Expr → Bool
 | .mk k n s l, .mk k' n' s' l' => (k == k') && (strEq s s' && (sameR n n' && sameEs l l'))
def sameEs : List Expr → List Expr → Bool
 | [], [] => true
 | a :: r, b :: r' => sameE a b && sameEs r r'
 | [], _ :: _ => false
 | _ :: _, [] => false
end
theorem sameEs_len : ∀ (a b : List Expr), a.length ≠ b.length → sameEs a b = false
 | [], [], h => absurd rfl h
 | _ :: r, _ :: r', h => by
  show (sameE _ _ && sameEs r r') = false
  rw [sameEs_len r r' (fun e => h (by simp [e])), Bool.and_false]
 | [], _ :: _, _ => rfl
 | _ :: _, [], _ => rfl
theorem strEq_same (s : Str) : strEq s s = true := by rw [strEq_iff]; simp
mutual
theorem sameE_refl : ∀ (e : Expr), sameE e e = true
 | .mk k n s l => by
  show ((k == k) && (strEq s s && (sameR n n && sameEs l l))) = true
  rw [strEq_same, sameR_iff.2 rfl, sameEs_refl l]; simp
theorem sameEs_refl : ∀ (l : List Expr), sameEs l l = true
 | [] => rfl
 | a :: r => by
  show (sameE a a && sameEs r r) = true
  rw [sameE_refl a, sameEs_refl r]; rfl
end
theorem zip_loop (R : Int → T (Int ⊕ (Unit ⊕ Bool))) (a b : List Expr) (hl : a.length = b.length)
  (step : ∀ k (h : k < a.length) (h' : k < b.length), (R (k : Int)).run = some (if sameE a[k] b[k] = true then .inl ((k + 1 : Nat) : Int) else .inr (.inr false)))
  (done : (R (a.length : Int)).run = some (.inr (.inl ()))) : (T.loop R 0).run = some (if sameEs a b = true then .inl () else .inr false) := by
 have key : ∀ (m k : Nat), k + m = a.length → (T.loop R (k : Int)).run = some (if sameEs (a.drop k) (b.drop k) = true then .inl () else .inr false) := by
  intro m
  induction m with
  | zero =>
   intro k hk
   have : k = a.length := by omega
   subst this
   rw [List.drop_length, hl, List.drop_length]
   rw [hl] at done
   exact T.loop_done done
  | succ m ih =>
   intro k hk
   have h1 : k < a.length := by omega
   have h2 : k < b.length := by omega
   rw [List.drop_eq_getElem_cons h1, List.drop_eq_getElem_cons h2]
   show _ = some (if (sameE a[k] b[k] && sameEs (a.drop (k + 1)) (b.drop (k + 1))) = true then _ else _)
   have st := step k h1 h2
   cases q : sameE a[k] b[k] with
   | true =>
    rw [q, if_pos rfl] at st
    rw [T.loop_step st, Bool.true_and]
    exact ih (k + 1) (by omega)
   | false =>
    rw [q, if_neg (by simp)] at st
    exact T.loop_done st
 have := key a.length 0 (by omega)
 simpa using this
theorem ref2_Same_all (a b : Rat) (ha : numOk a) (hb : numOk b) : (ref2_Same a b).run = some (sameR a b) := by
 have na := norm_ok (k := 100) (by omega) ha
 have nb := norm_ok (k := 100) (by omega) hb
 unfold ref2_Same sameR
 rw [T.run_bind_of (ref2_norm a (ok_up ha (by omega))), T.run_bind_of (ref2_norm b (ok_up hb (by omega)))]
 cases ((norm a).1 == (norm b).1) with
 | false => rfl
 | true =>
  rw [T.run_ite_true, T.run_bind_of (limbsB_run _ _ (by have := na.2.2.1; omega)), Bool.true_and]
  cases ((norm a).2.1 == (norm b).2.1) with
  | false => rfl
  | true => rw [T.run_ite_true, T.run_bind_of (limbsB_run _ _ (by have := na.2.2.2; omega)), T.run_ret, Bool.true_and]
theorem kids_small (e : Expr) : (Expr.kids e).length ≤ ndE e := by
 cases e with | mk k n s l =>
 have := ndEs_len l
 show l.length ≤ 1 + ndEs l
 omega
theorem ref5_Same_run (a b : Expr) (ha : allOk a) (hb : allOk b) (la : ndE a ≤ 1000000) : (ref5_Same a b).run = some (sameE a b) := by
 unfold ref5_Same
 refine T.fix_run (fun x : Expr × Expr => allOk x.1 ∧ allOk x.2 ∧ ndE x.1 ≤ 1000000) (fun x => ndE x.1) (fun x => sameE x.1 x.2) (fun x hx g hg => ?_) (x := (a, b)) ⟨ha, hb, la⟩
 obtain ⟨a, b⟩ := x
 obtain ⟨ha, hb, la⟩ := hx
 dsimp only at ha hb la ⊢
 cases a with | mk k n s l =>
 cases b with | mk k' n' s' l' =>
 have hk := kids_small (.mk k n s l)
 have hk : l.length ≤ ndE (.mk k n s l) := hk
 unfold ref5_Same_B
 show _ = some ((k == k') && (strEq s s' && (sameR n n' && sameEs l l')))
 have head : ((.ite (k != k') (.ret true) (.ite (!(strEq s s')) (.ret true) (T.bind (ref2_Same n n') fun r => .ite (!r) (.ret true) (.ret ((Nat.cast (List.length l) : Int) != (Nat.cast (List.length l') : Int)))))) : T Bool).run = some (!((k == k') && (strEq s s' && (sameR n n' && ((l.length : Int) == (l'.length : Int)))))) := by
  rw [bne]
  cases (k == k') with
  | false => rfl
  | true =>
   rw [T.run_ite_f (by rfl)]
   cases strEq s s' with
   | false => rfl
   | true =>
    rw [T.run_ite_f (by rfl), T.run_bind_of (ref2_Same_all n n' ha.1 hb.1)]
    cases sameR n n' with
    | false => rfl
    | true => rw [T.run_ite_f (by rfl), T.run_ret]; rfl
 show (T.bind (.ite (k != k') (.ret true) (.ite (!(strEq s s')) (.ret true) (T.bind (ref2_Same n n') fun r => .ite (!r) (.ret true) (.ret ((Nat.cast (List.length l) : Int) != (Nat.cast (List.length l') : Int)))))) _).run = _
 rw [T.run_bind_of head]
 cases q : ((k == k') && (strEq s s' && (sameR n n' && ((l.length : Int) == (l'.length : Int))))) with
 | false =>
  rw [T.run_ite_t (by rfl), T.run_ret]
  congr 1
  revert q
  by_cases hl : l.length = l'.length
  ·rw [show ((l.length : Int) == (l'.length : Int)) = true by simp [hl]]
   cases (k == k') <;> cases strEq s s' <;> cases sameR n n' <;> simp
  ·rw [sameEs_len l l' hl]
   simp
 | true =>
  simp only [Bool.and_eq_true, beq_iff_eq] at q
  obtain ⟨q1, q2, q3, q4⟩ := q
  have hl : l.length = l'.length := by omega
  rw [T.run_ite_f (by rfl), q2, q3, show (k == k') = true by simpa using q1, Bool.true_and, Bool.true_and, Bool.true_and]
  have key : (ref5_Same_L0 (fun y0 y1 => g (y0, y1)) (.mk k n s l) (.mk k' n' s' l') 0).run = some (if sameEs l l' = true then .inl () else .inr false) := by
   refine zip_loop (ref5_Same_R0 (fun y0 y1 => g (y0, y1)) (.mk k n s l) (.mk k' n' s' l')) l l' hl (fun j h h' => ?_) ?_
   ·have hr := hg (l[j], l'[j]) ⟨allOks_mem ha.2 _ (List.getElem_mem h), allOks_mem hb.2 _ (List.getElem_mem h'), by have := ndEs_mem (List.getElem_mem h); have e : ndE (.mk k n s l) = 1 + ndEs l := rfl; show ndE l[j] ≤ 1000000; omega⟩ (by have := ndEs_mem (List.getElem_mem h); have e : ndE (.mk k n s l) = 1 + ndEs l := rfl; show ndE l[j] < ndE (.mk k n s l); omega)
    unfold ref5_Same_R0
    dsimp only
    rw [show Expr.kids (.mk k n s l) = l from rfl, show Expr.kids (.mk k' n' s' l') = l' from rfl, T.run_ite_t (lt_t h), T.run_obl (idx_ok h), T.run_obl (idx_ok h'), nth_at h, nth_at h', T.run_bind_of hr]
    cases sameE l[j] l'[j] with
    | false => rfl
    | true => rw [T.run_ite_f (by rfl), T.run_ret, ix1 j _ h (by omega), if_pos rfl]
   ·unfold ref5_Same_R0
    dsimp only
    rw [show Expr.kids (.mk k n s l) = l from rfl, T.run_ite_f (lt_f _), T.run_ret]
  rw [T.run_bind_of key]
  cases sameEs l l' <;> rfl
end Go.AM.Lf
namespace Go.AM.Lf
open PL
theorem ofN_2 : ofN 2 = [2] := by rw [ofN_pos (by omega), show 2 / 4294967296 = 0 from rfl, ofN_zero]; rfl
theorem num_2 : numT [50] = (false, [2], [1], ()) := by
 have e : decP [50] = some (2, 1) := by decide +kernel
 unfold numT
 rw [e]
 show ratN _ 2 1 = _
 unfold ratN
 rw [if_neg (by decide), show 2 / Nat.gcd 2 1 = 2 from rfl, show 1 / Nat.gcd 2 1 = 1 from rfl, ofN_2, ofN_1]
 rfl
def nmE1 (s : Str) : Expr := .mk 2 zeroR s []
def knownE : Expr := nodeE 4 [nmE1 [97], nodeE 5 [nodeE 4 [nmE1 [98], nmE1 [99]], .mk 1 (numT [50]) [] []]]
theorem known_parse : sumZ zeroR [97, 45, 40, 98, 45, 99, 41, 42, 50] = .ok knownE [] false := by kernel_rfl
theorem norm_2 : norm (false, [2], [1], ()) = (false, [2], [1], ()) := by
 rw [← num_2]
 have e : decP [50] = some (2, 1) := by decide +kernel
 have : numT [50] = ratN (List.isPrefixOf [45] [50]) 2 1 := by
  unfold numT
  rw [e]
  rfl
 rw [this]
 exact ratN_idem _ _ _
theorem num2_ok : isNumB (numT [50]) = true := by
 rw [num_2]
 unfold isNumB isRb largeB trimB
 rw [norm_2]
 show (((ofN 2 == [2]) && ((ofN 1 == [1]) && _)) && _) = true
 rw [ofN_2, ofN_1]
 rfl
theorem known_is : isE knownE = true := by
 have h : nodeB (.mk 1 (numT [50]) [] []) = true := by
  unfold nodeB
  show ((((0 : Nat) : Int) == kidsN 1) && (if (1 : Int) = 1 then isNumB (numT [50]) && strEq [] [] else _)) = true
  rw [if_pos rfl, num2_ok]
  rfl
 have h2 : okE 2 (.mk 1 (numT [50]) [] []) = true := by
  show (decide (2 < 32) && (nodeB (.mk 1 (numT [50]) [] []) && okEs 3 [])) = true
  rw [h]; rfl
 unfold isE knownE
 show ((true && (true && (true && (okE 1 (nodeE 5 [nodeE 4 [nmE1 [98], nmE1 [99]], .mk 1 (numT [50]) [] []]) && true)))) && _) = true
 have h3 : okE 1 (nodeE 5 [nodeE 4 [nmE1 [98], nmE1 [99]], .mk 1 (numT [50]) [] []]) = true := by
  show (true && (true && (true && (okE 2 (.mk 1 (numT [50]) [] []) && true)))) = true
  rw [h2]; rfl
 rw [h3]
 rfl
theorem known_pr : prE knownE = [97, 32, 45, 32, 40, 98, 32, 45, 32, 99, 41, 32, 42, 32, 50] := by
 have h : prE (.mk 1 (numT [50]) [] []) = [50] := by
  show (exactS (norm (numT [50])).1 (nv (norm (numT [50])).2.1) (nv (norm (numT [50])).2.2.1) 0 61).1 = [50]
  rw [num_2, norm_2]
  show (exactS false 2 1 0 61).1 = [50]
  unfold exactS
  rw [if_pos (by decide)]
  show sgS false ++ ptd (pr 2) 0 = [50]
  unfold ptd pr
  rw [if_pos rfl, if_neg (by decide), dgz_pos (by decide), show 2 / 10 = 0 from rfl, dgz_zero]
  rfl
 show parS _ (prE (nmE1 [97])) ++ markK 4 ++ parS _ (parS _ (parS _ (prE (nmE1 [98])) ++ markK 4 ++ parS _ (prE (nmE1 [99]))) ++ markK 5 ++ parS _ (prE (.mk 1 (numT [50]) [] []))) = _
 rw [h]
 rfl
theorem knownE_good : exGood knownE := node2_good 4 (leaf_good 2 zeroR _ zeroR_nok (by simp)) (node2_good 5 (node2_good 4 (leaf_good 2 zeroR _ zeroR_nok (by simp)) (leaf_good 2 zeroR _ zeroR_nok (by simp))) (leaf_good 1 _ [] (numT_ok _ (by simp)) (by simp)))
theorem Print_all (e : Expr) (ha : allOk e) (hs : szE e ≤ 1000000) : (expr_Print e).run = some (if isE e = true then prE e else []) := by
 have hn := ndE_sz e
 unfold expr_Print
 rw [T.run_bind_of (IsAll_run e ha (by omega))]
 cases h : isE e with
 | false => rfl
 | true =>
  have ho : okE 0 e = true := by unfold isE at h; rw [Bool.and_eq_true] at h; exact h.1
  rw [T.run_ite_f (by rfl), T.run_bind_of (print_run e 0 ho ha (by omega)), T.run_ret, if_pos rfl]
theorem known5_run : law5_known.run = some true := by
 have hp : parseE [97, 45, 40, 98, 45, 99, 41, 42, 50] = (knownE, ((0 : Int), (0 : Int))) := by
  unfold parseE
  rw [known_parse]
  unfold parA topP
  dsimp only
  rw [if_neg (by decide), known_is, if_neg (by simp)]
 have h1 := Parse_run [97, 45, 40, 98, 45, 99, 41, 42, 50] (by decide)
 rw [hp] at h1
 have hsz : szE knownE ≤ 1000000 := by
  have e : szE (.mk 1 (numT [50]) [] []) = 3 + 0 + 8 * 1 + 8 * 1 + 0 := by rw [num_2]; rfl
  have e2 : szE knownE = 3 + 0 + 0 + 0 + (szE (nmE1 [97]) + ((3 + 0 + 0 + 0 + (szE (nodeE 4 [nmE1 [98], nmE1 [99]]) + (szE (.mk 1 (numT [50]) [] []) + 0))) + 0)) := rfl
  rw [e2, e]
  decide
 have h2 := Print_all knownE knownE_good.1 hsz
 rw [known_is, if_pos rfl, known_pr] at h2
 unfold law5_known
 rw [T.run_bind_of h1]
 dsimp only
 rw [T.run_ite_t (by rfl), T.run_ite_t (by rfl), T.run_bind_of h2, T.run_ret]
 rfl
end Go.AM.Lf
namespace Go.AM.Lf
open PL
theorem isE_parts {e : Expr} (h : isE e = true) : okE 0 e = true ∧ ndE e ≤ 256 := by
 unfold isE at h
 rw [Bool.and_eq_true, decide_eq_true_eq] at h
 exact h
mutual
theorem bk_sz : ∀ (e : Expr), bkE e ≤ 3 * szE e
 | .mk k n s l => by
  have := bks_szs l
  show 1 + ((1 + ((List.length n.2.1 + 1) + ((List.length n.2.2.1 + 1) + 1))) + ((List.length s + 1) + ((bkEs l + 1) + 1))) ≤ 3 * (3 + s.length + 8 * n.2.1.length + 8 * n.2.2.1.length + szEs l)
  omega
theorem bks_szs : ∀ (l : List Expr), bkEs l ≤ 3 * szEs l
 | [] => Nat.le_refl _
 | e :: r => by
  have := bk_sz e
  have := bks_szs r
  show bkE e + bkEs r ≤ 3 * (szE e + szEs r)
  omega
end
theorem weight5_run (e : Expr) (left : Int) (h0 : -100000000000 ≤ left) (h1 : left ≤ 600) (hb : bkE e ≤ 1000000000) : (law5_weight e left).run = some (wtE e left) := by
 unfold law5_weight
 refine T.fix_run (fun x : Expr × Int => -100000000000 ≤ x.2 ∧ x.2 ≤ 600 ∧ bkE x.1 ≤ 1000000000) (fun x => bkE x.1) (fun x => wtE x.1 x.2) (fun x hx g hg => ?_) (x := (e, left)) ⟨h0, h1, hb⟩
 obtain ⟨e, left⟩ := x
 obtain ⟨h0, h1, hx⟩ := hx
 simp only at hx hg h0 h1
 have hk := bkEs_kids e
 have hkl := bkEs_len e.kids
 have loop : ∀ acc : Int, -1000000000000 ≤ acc → acc ≤ 600 → (law5_weight_L0 (fun y0 y1 => g (y0, y1)) e (acc, 0)).run = some (wtEs e.kids acc) := by
  intro acc a1 a2
  refine T.loop_list e.kids (dflt .expr) (fun b i => (b, i)) (fun b r => b ≤ 600 ∧ ∀ x ∈ r, x ∈ e.kids) (fun r b => wtEs r b) ?_ ?_ ⟨a2, fun x hx => hx⟩
  ·rintro b x xs i hi0 hi hx ⟨b1, b2⟩
   by_cases hb0 : 0 ≤ b
   ·have hm := bkEs_mem (b2 x List.mem_cons_self)
    have hr := hg (x, b) ⟨by simp only; omega, b1, by simp only; omega⟩ (by simp only; omega)
    simp only at hr
    have := (wtE_le x b).1
    refine .inl ⟨wtE x b, ?_, ⟨by omega, fun y hy => b2 y (List.mem_cons_of_mem _ hy)⟩, ?_⟩
    ·simp (disch := omega) [law5_weight_R0, hi, hx, hb0, hr]
    ·simp [wtEs, hb0]
   ·right
    have hw : wtEs (x :: xs) b = b := wtEs_neg _ _ hb0
    simp [law5_weight_R0, hi, hb0, hw]
  ·rintro b _
   simp [law5_weight_R0, wtEs]
 unfold law5_weight_B
 cases e with | mk k n s kids =>
 simp only [Expr.kids, Expr.name, Expr.num, bkE] at *
 have hL := loop (left - 3 - s.length - 8 * n.2.1.length - 8 * n.2.2.1.length) (by omega) (by omega)
 rw [w64_in (x := left - 3) (by omega) (by omega), w64_in (x := left - 3 - s.length) (by omega) (by omega), w64_in (x := 8 * (n.2.1.length : Int)) (by omega) (by omega), w64_in (x := left - 3 - s.length - 8 * n.2.1.length) (by omega) (by omega),
  w64_in (x := 8 * (n.2.2.1.length : Int)) (by omega) (by omega), w64_in (by omega) (by omega), T.run_bind_of hL, T.run_ret]
 rfl
end Go.AM.Lf
namespace Go.AM.Lf
open PL
theorem weigh_run (e : Expr) (m : Int) (hm : 0 ≤ m) (hm2 : m ≤ 600) (hw : wfE e) (hb : bkE e ≤ 1048576) : ∃ w, (law5_weight e m).run = some w ∧ (0 ≤ w → (szE e : Int) ≤ m ∧ allOk e) := by
 refine ⟨wtE e m, weight5_run e m (by omega) hm2 (by omega), fun h => ?_⟩
 have := wtE_sz e m h
 have hs : (szE e : Int) ≤ m := by omega
 exact ⟨hs, allOk_of e hw (by omega)⟩
end Go.AM.Lf
namespace Go.AM.Lf
open PL
mutual
def dpE : Expr → Nat
 | .mk _ _ _ l => dpEs l + 1
def dpEs : List Expr → Nat
 | [] => 0
 | e :: r => max (dpE e) (dpEs r)
end
mutual
theorem dp_nd : ∀ e : Expr, dpE e ≤ ndE e
 | .mk k n s l => by
  have := dps_nds l
  show dpEs l + 1 ≤ 1 + ndEs l
  omega
theorem dps_nds : ∀ l : List Expr, dpEs l ≤ ndEs l
 | [] => Nat.le_refl _
 | e :: r => by
  have := dp_nd e
  have := dps_nds r
  show max (dpE e) (dpEs r) ≤ ndE e + ndEs r
  omega
end
theorem maxI_nat (a b : Nat) : maxI (a : Int) (b : Int) = ((max a b : Nat) : Int) := by
 unfold maxI
 split <;> omega
theorem dep_loop (R : Int × Int → T ((Int × Int) ⊕ Int)) (l : List Expr) (hl : ndEs l ≤ 1000000)
  (step : ∀ (b k : Nat) (h : k < l.length), b ≤ 1000000 → (R ((b : Int), (k : Int))).run = some (.inl (((max b (dpE l[k]) : Nat) : Int), ((k + 1 : Nat) : Int))))
  (done : ∀ b : Nat, (R ((b : Int), (l.length : Int))).run = some (.inr (b : Int))) : (T.loop R ((0 : Int), (0 : Int))).run = some ((dpEs l : Nat) : Int) := by
 have key : ∀ (m k b : Nat), k + m = l.length → b ≤ 1000000 → (T.loop R ((b : Int), (k : Int))).run = some ((max b (dpEs (l.drop k)) : Nat) : Int) := by
  intro m
  induction m with
  | zero =>
   intro k b hk hb
   have : k = l.length := by omega
   subst this
   rw [List.drop_length, T.loop_done (done b)]
   show some (b : Int) = some ((max b 0 : Nat) : Int)
   rw [Nat.max_zero]
  | succ m ih =>
   intro k b hk hb
   have h1 : k < l.length := by omega
   have hn := dp_nd l[k]
   have hm := ndEs_mem (List.getElem_mem h1)
   rw [T.loop_step (step b k h1 hb), ih (k + 1) _ (by omega) (by omega), List.drop_eq_getElem_cons h1]
   show _ = some ((max b (max (dpE l[k]) (dpEs (l.drop (k + 1)))) : Nat) : Int)
   rw [Nat.max_assoc]
 have := key l.length 0 0 (by omega) (by omega)
 rw [List.drop_zero, Nat.zero_max] at this
 exact this
theorem Depth_run (e : Expr) (hn : ndE e ≤ 1000000) : (expr_Depth e).run = some ((dpE e : Nat) : Int) := by
 unfold expr_Depth
 refine T.fix_run (fun x : Expr => ndE x ≤ 1000000) (fun x => ndE x) (fun x => ((dpE x : Nat) : Int)) (fun x hx g hg => ?_) (x := e) hn
 cases x with | mk k n s l =>
 have e0 : ndE (.mk k n s l) = 1 + ndEs l := rfl
 have hd := dps_nds l
 have hlen := ndEs_len l
 unfold expr_Depth_B
 have key : (expr_Depth_L0 (fun y0 => g y0) l (l.length : Int) ((0 : Int), (0 : Int))).run = some ((dpEs l : Nat) : Int) := by
  refine dep_loop (expr_Depth_R0 (fun y0 => g y0) l (l.length : Int)) l (by omega) (fun b k h hb => ?_) (fun b => ?_)
  ·have hm := ndEs_mem (List.getElem_mem h)
   have hr := hg l[k] (by omega) (by omega)
   unfold expr_Depth_R0
   dsimp only
   rw [T.run_ite_t (lt_t h), T.run_obl (idx_ok h), nth_at h, T.run_bind_of hr, T.run_ret, maxI_nat, ix1 k _ h (by omega)]
  ·unfold expr_Depth_R0
   dsimp only
   rw [T.run_ite_f (lt_f _), T.run_ret]
 rw [show Expr.kids (.mk k n s l) = l from rfl, T.run_bind_of key, T.run_ret, w64_in (by omega) (by omega)]
 rfl
theorem ref5_Depth_run (e : Expr) (hn : ndE e ≤ 1000000) : (ref5_Depth e).run = some ((dpE e : Nat) : Int) := by
 unfold ref5_Depth
 refine T.fix_run (fun x : Expr => ndE x ≤ 1000000) (fun x => ndE x) (fun x => ((dpE x : Nat) : Int)) (fun x hx g hg => ?_) (x := e) hn
 cases x with | mk k n s l =>
 have e0 : ndE (.mk k n s l) = 1 + ndEs l := rfl
 have hd := dps_nds l
 have hlen := ndEs_len l
 unfold ref5_Depth_B
 have key : (ref5_Depth_L0 (fun y0 => g y0) (.mk k n s l) ((0 : Int), (0 : Int))).run = some ((dpEs l : Nat) : Int) := by
  refine dep_loop (ref5_Depth_R0 (fun y0 => g y0) (.mk k n s l)) l (by omega) (fun b j h hb => ?_) (fun b => ?_)
  ·have hm := ndEs_mem (List.getElem_mem h)
   have hr := hg l[j] (by omega) (by omega)
   unfold ref5_Depth_R0
   dsimp only
   rw [show Expr.kids (.mk k n s l) = l from rfl, T.run_ite_t (lt_t h), T.run_obl (idx_ok h), nth_at h, T.run_bind_of hr, T.run_ret, maxI_nat, ix1 j _ h (by omega)]
  ·unfold ref5_Depth_R0
   dsimp only
   rw [show Expr.kids (.mk k n s l) = l from rfl, T.run_ite_f (lt_f _), T.run_ret]
 rw [T.run_bind_of key, T.run_ret, w64_in (by omega) (by omega)]
 rfl
end Go.AM.Lf
namespace Go.AM.Lf
open PL
mutual
theorem nm_dd : ∀ (e : Expr) (acc : List Str), nmE e acc = dd acc (allE e)
 | .mk k n s l, acc => by
  show nmEs l (if k = 2 ∧ acc.any (strEq s) = false then acc ++ [s] else acc) = dd acc ((if k = 2 then [s] else []) ++ allEs l)
  rw [nms_dd l, dd_append]
  congr 1
  by_cases hk : k = 2
  ·rw [if_pos hk, dd_cons, dd_nil]
   have : (acc.any (strEq s) = false) ↔ ¬ s ∈ acc := by
    rw [List.any_eq_false]
    constructor
    ·intro h hm
     have := h s hm
     rw [strEq_iff] at this
     simp at this
    ·intro h x hx
     rw [strEq_iff, decide_eq_true_eq]
     rintro rfl
     exact h hx
   by_cases hs : s ∈ acc
   ·rw [if_neg (by rintro ⟨_, h⟩; exact (this.1 h) hs), if_pos hs]
   ·rw [if_pos ⟨hk, this.2 hs⟩, if_neg hs]
  ·rw [if_neg hk, if_neg (fun h => hk h.1), dd_nil]
theorem nms_dd : ∀ (l : List Expr) (acc : List Str), nmEs l acc = dd acc (allEs l)
 | [], _ => rfl
 | e :: r, acc => by
  show nmEs r (nmE e acc) = dd acc (allE e ++ allEs r)
  rw [nms_dd r, nm_dd e, dd_append]
end
theorem zipG {α : Type} (eqb : α → α → Bool) (heq : ∀ x y, eqb x y = true ↔ x = y) (d : α) (R : Int → T (Int ⊕ (Unit ⊕ Bool))) (a b : List α) (hl : a.length = b.length)
  (step : ∀ k (h : k < a.length) (h' : k < b.length), (R (k : Int)).run = some (if eqb a[k] b[k] = true then .inl ((k + 1 : Nat) : Int) else .inr (.inr false)))
  (done : (R (a.length : Int)).run = some (.inr (.inl ()))) : ∃ z, (T.loop R 0).run = some z ∧ ((a = b ∧ z = .inl ()) ∨ (a ≠ b ∧ z = .inr false)) := by
 have key : ∀ (m k : Nat), k + m = a.length → ∃ z, (T.loop R (k : Int)).run = some z ∧ ((a.drop k = b.drop k ∧ z = .inl ()) ∨ (a.drop k ≠ b.drop k ∧ z = .inr false)) := by
  intro m
  induction m with
  | zero =>
   intro k hk
   have : k = a.length := by omega
   subst this
   refine ⟨_, T.loop_done done, .inl ⟨?_, rfl⟩⟩
   rw [List.drop_length, hl, List.drop_length]
  | succ m ih =>
   intro k hk
   have h1 : k < a.length := by omega
   have h2 : k < b.length := by omega
   have st := step k h1 h2
   rw [List.drop_eq_getElem_cons h1, List.drop_eq_getElem_cons h2]
   by_cases q : eqb a[k] b[k] = true
   ·rw [if_pos q] at st
    obtain ⟨z, hz, hc⟩ := ih (k + 1) (by omega)
    refine ⟨z, by rw [T.loop_step st]; exact hz, ?_⟩
    have := (heq _ _).1 q
    rcases hc with ⟨h3, h4⟩ | ⟨h3, h4⟩
    ·exact .inl ⟨by rw [this, h3], h4⟩
    ·exact .inr ⟨fun h => h3 (List.cons.inj h).2, h4⟩
   ·rw [if_neg q] at st
    exact ⟨_, T.loop_done st, .inr ⟨fun h => q ((heq _ _).2 (List.cons.inj h).1), rfl⟩⟩
 have := key a.length 0 (by omega)
 simpa using this
theorem eq32_run (a b : List Int) (la : a.length ≤ 1000000000) : (slices_Equal_sl_uint32 a b).run = some (a == b) := by
 unfold slices_Equal_sl_uint32
 by_cases hl : a.length = b.length
 ·obtain ⟨z, hz, hc⟩ := zipG (fun x y : Int => x == y) (fun x y => by simp) (dflt (.int .u32)) (slices_Equal_sl_uint32_R0 a b (a.length : Int)) a b hl (fun k h h' => by
   unfold slices_Equal_sl_uint32_R0
   dsimp only
   rw [T.run_ite_t (lt_t h), T.run_obl (idx_ok h), T.run_obl (idx_ok h'), nth_at h, nth_at h']
   by_cases q : a[k] = b[k]
   ·rw [T.run_ite_f (by simp [q]), T.run_ret, ix1 k _ h (by omega), if_pos (by simp [q])]
   ·rw [T.run_ite_t (by simp [q]), T.run_ret, if_neg (by simp [q])]) (by
   unfold slices_Equal_sl_uint32_R0
   dsimp only
   rw [T.run_ite_f (lt_f _), T.run_ret])
  have hz : (slices_Equal_sl_uint32_L0 a b (a.length : Int) 0).run = some z := hz
  rw [T.run_ite_f (by rw [hl]; simp), T.run_bind_of hz]
  rcases hc with ⟨h, rfl⟩ | ⟨h, rfl⟩
  ·rw [h]; simp
  ·rw [show (a == b) = false by simpa using h]; rfl
 ·rw [T.run_ite_t (by simp; omega), T.run_ret]
  have : (a == b) = false := by rw [beq_eq_false_iff_ne]; intro e; exact hl (by rw [e])
  rw [this]
theorem texts_refl (a : List Str) (la : a.length ≤ 1000000000) : (law5_texts a a).run = some true := by
 unfold law5_texts
 obtain ⟨z, hz, hc⟩ := zipG (fun x y : Str => strEq x y) (fun x y => by rw [strEq_iff]; simp) [] (law5_texts_R0 a a) a a rfl (fun k h h' => by
   unfold law5_texts_R0
   dsimp only
   rw [T.run_ite_t (lt_t h), T.run_obl (idx_ok h), T.run_obl (idx_ok h), nth_at h]
   rw [strEq_same, T.run_ite_f (by rfl), T.run_ret, ix1 k _ h (by omega), if_pos rfl]) (by
   unfold law5_texts_R0
   dsimp only
   rw [T.run_ite_f (lt_f _), T.run_ret])
 have hz : (law5_texts_L0 a a 0).run = some z := hz
 rw [T.run_ite_f (by simp), T.run_bind_of hz]
 rcases hc with ⟨_, rfl⟩ | ⟨h, _⟩
 ·rfl
 ·exact absurd rfl h
theorem rat_Same_all (a b : Rat) (ha : numOk a) (hb : numOk b) : (rat_Same a b).run = some (sameR a b) := by
 have na := norm_ok (k := 100) (by omega) ha
 unfold rat_Same sameR
 rw [T.run_bind_of (rat_norm a (ok_up ha (by omega))), T.run_bind_of (rat_norm b (ok_up hb (by omega)))]
 cases ((norm a).1 == (norm b).1) with
 | false => rfl
 | true =>
  rw [T.run_ite_true, T.run_bind_of (eq32_run _ _ (by have := na.2.2.1; omega)), Bool.true_and]
  cases ((norm a).2.1 == (norm b).2.1) with
  | false => rfl
  | true => rw [T.run_ite_true, T.run_bind_of (eq32_run _ _ (by have := na.2.2.2; omega)), T.run_ret, Bool.true_and]
theorem expr_Same_run (a b : Expr) (ha : allOk a) (hb : allOk b) (la : ndE a ≤ 1000000) : (expr_Same a b).run = some (sameE a b) := by
 unfold expr_Same
 refine T.fix_run (fun x : Expr × Expr => allOk x.1 ∧ allOk x.2 ∧ ndE x.1 ≤ 1000000) (fun x => ndE x.1) (fun x => sameE x.1 x.2) (fun x hx g hg => ?_) (x := (a, b)) ⟨ha, hb, la⟩
 obtain ⟨a, b⟩ := x
 obtain ⟨ha, hb, la⟩ := hx
 dsimp only at ha hb la ⊢
 cases a with | mk k n s l =>
 cases b with | mk k' n' s' l' =>
 have hk := kids_small (.mk k n s l)
 have hk : l.length ≤ ndE (.mk k n s l) := hk
 have hE : (slices_EqualFunc_sl_Expr_sl_Expr (fun y0 y1 => g (y0, y1)) l l' (fun z0 z1 => g (z0, z1))).run = some (sameEs l l') := by
  unfold slices_EqualFunc_sl_Expr_sl_Expr
  by_cases hl : l.length = l'.length
  ·have key : (slices_EqualFunc_sl_Expr_sl_Expr_L0 (fun y0 y1 => g (y0, y1)) l' (fun z0 z1 => g (z0, z1)) l (l.length : Int) 0).run = some (if sameEs l l' = true then .inl () else .inr false) := by
    refine zip_loop (slices_EqualFunc_sl_Expr_sl_Expr_R0 (fun y0 y1 => g (y0, y1)) l' (fun z0 z1 => g (z0, z1)) l (l.length : Int)) l l' hl (fun j h h' => ?_) ?_
    ·have hr := hg (l[j], l'[j]) ⟨allOks_mem ha.2 _ (List.getElem_mem h), allOks_mem hb.2 _ (List.getElem_mem h'), by have := ndEs_mem (List.getElem_mem h); have e : ndE (.mk k n s l) = 1 + ndEs l := rfl; show ndE l[j] ≤ 1000000; omega⟩ (by have := ndEs_mem (List.getElem_mem h); have e : ndE (.mk k n s l) = 1 + ndEs l := rfl; show ndE l[j] < ndE (.mk k n s l); omega)
     unfold slices_EqualFunc_sl_Expr_sl_Expr_R0
     dsimp only
     rw [T.run_ite_t (lt_t h), T.run_obl (idx_ok h), T.run_obl (idx_ok h'), nth_at h, nth_at h', T.run_bind_of hr]
     cases sameE l[j] l'[j] with
     | false => rfl
     | true => rw [T.run_ite_f (by rfl), T.run_ret, ix1 j _ h (by omega), if_pos rfl]
    ·unfold slices_EqualFunc_sl_Expr_sl_Expr_R0
     dsimp only
     rw [T.run_ite_f (lt_f _), T.run_ret]
   rw [T.run_ite_f (by rw [hl]; simp), T.run_bind_of key]
   cases sameEs l l' <;> rfl
  ·rw [T.run_ite_t (by simp; omega), T.run_ret, sameEs_len l l' hl]
 unfold expr_Same_B
 show (T.ite (k == k') (.ite (strEq s s') (T.bind (rat_Same n n') fun r => .ite r (T.bind (slices_EqualFunc_sl_Expr_sl_Expr (fun y0 y1 => g (y0, y1)) l l' (fun z0 z1 => g (z0, z1))) fun r1 => .ret r1) (.ret false)) (.ret false)) (.ret false)).run = some ((k == k') && (strEq s s' && (sameR n n' && sameEs l l')))
 cases (k == k') with
 | false => rfl
 | true =>
  rw [T.run_ite_true]
  cases strEq s s' with
  | false => rfl
  | true =>
   rw [T.run_ite_true, T.run_bind_of (rat_Same_all n n' ha.1 hb.1)]
   cases sameR n n' with
   | false => rfl
   | true => rw [T.run_ite_true, T.run_bind_of hE, T.run_ret]; rfl
theorem expr_Nodes_run (e : Expr) (hn : ndE e ≤ 1000000) : (expr_Nodes e).run = some ((ndE e : Nat) : Int) := by
 unfold expr_Nodes
 refine T.fix_run (fun x : Expr => ndE x ≤ 1000000) (fun x => ndE x) (fun x => ((ndE x : Nat) : Int)) (fun x hx g hg => ?_) (x := e) hn
 cases x with | mk k n s l =>
 have e0 : ndE (.mk k n s l) = 1 + ndEs l := rfl
 have hlen := ndEs_len l
 unfold expr_Nodes_B
 have key : ∀ (m j b : Nat), j + m = l.length → b + ndEs (l.drop j) = 1 + ndEs l → (expr_Nodes_L0 (fun y0 => g y0) l (l.length : Int) ((b : Int), (j : Int))).run = some ((1 + ndEs l : Nat) : Int) := by
  intro m
  induction m with
  | zero =>
   intro j b hj hb
   have : j = l.length := by omega
   subst this
   rw [List.drop_length] at hb
   have hb : b + 0 = 1 + ndEs l := hb
   refine T.loop_done ?_
   unfold expr_Nodes_R0
   dsimp only
   rw [T.run_ite_f (lt_f _), T.run_ret]
   congr 2
   omega
  | succ m ih =>
   intro j b hj hb
   have h1 : j < l.length := by omega
   rw [List.drop_eq_getElem_cons h1] at hb
   have hb : b + (ndE l[j] + ndEs (l.drop (j + 1))) = 1 + ndEs l := hb
   have hm := ndEs_mem (List.getElem_mem h1)
   have hr := hg l[j] (by omega) (by omega)
   refine (T.loop_step ?_).trans (ih (j + 1) (b + ndE l[j]) (by omega) (by omega))
   unfold expr_Nodes_R0
   dsimp only
   rw [T.run_ite_t (lt_t h1), T.run_obl (idx_ok h1), nth_at h1, T.run_bind_of hr, T.run_ret, ix1 j _ h1 (by omega), w64_in (by omega) (by omega)]
   rfl
 have hk := key l.length 0 1 (by omega) (by rw [List.drop_zero])
 have hk : (expr_Nodes_L0 (fun y0 => g y0) l (l.length : Int) ((1 : Int), (0 : Int))).run = _ := hk
 rw [show Expr.kids (.mk k n s l) = l from rfl, T.run_bind_of hk, T.run_ret, e0]
theorem ref5_Print_all (e : Expr) (ha : allOk e) (hs : szE e ≤ 600) : (ref5_Print e).run = some (if isE e = true then prE e else []) := by
 have hn := ndE_sz e
 have hb := bk_sz e
 cases h : isE e with
 | true => rw [if_pos rfl]; exact ref5_Print_run e (isE_parts h).1 ha (by omega) (by omega)
 | false =>
  unfold ref5_Print
  rw [T.run_bind_of (ref5_IsAll_run e ha (by omega) (by omega)), h]
  rfl
theorem law5_ExprLooks_run (a b : Expr) (hwa : wfE a) (hwb : wfE b) (hba : bkE a ≤ 1048576) (hbb : bkE b ≤ 1048576) : (law5_ExprLooks a b).run = some true := by
 obtain ⟨w, h1, h2⟩ := weigh_run a 600 (by omega) (by omega) hwa hba
 obtain ⟨v, g1, g2⟩ := weigh_run b 600 (by omega) (by omega) hwb hbb
 unfold law5_ExprLooks
 by_cases c : w < 0
 ·rw [T.run_bind_of (a := true) (by rw [T.run_bind_of h1, T.run_ite_t (decide_eq_true c), T.run_ret]), T.run_ite_true, T.run_ret]
 rw [T.run_bind_of (a := decide (v < 0)) (by rw [T.run_bind_of h1, T.run_ite_f (decide_eq_false c), T.run_bind_of g1, T.run_ret])]
 by_cases c2 : v < 0
 ·rw [T.run_ite_t (decide_eq_true c2), T.run_ret]
 obtain ⟨hsa, ha⟩ := h2 (by omega)
 obtain ⟨hsb, hb⟩ := g2 (by omega)
 have na := ndE_sz a
 have sa := bk_sz a
 have hN := Names_run a (by omega)
 rw [nm_dd] at hN
 have hlen := nmE_len a []
 rw [nm_dd] at hlen
 have hlen : (dd [] (allE a)).length ≤ 0 + bkE a := hlen
 have hS := expr_Same_run a b ha hb (by omega)
 have hS2 := expr_Same_run a a ha ha (by omega)
 rw [sameE_refl] at hS2
 rw [T.run_ite_f (decide_eq_false c2), T.run_bind_of (Print_all a ha (by omega)), T.run_bind_of (ref5_Print_all a ha (by omega)), T.run_ite_t (strEq_same _), T.run_bind_of (IsAll_run a ha (by omega)), T.run_bind_of (ref5_IsAll_run a ha (by omega) (by omega)), T.run_ite_t (by simp),
  T.run_bind_of (Depth_run a (by omega)), T.run_bind_of (ref5_Depth_run a (by omega)), T.run_ite_t (by simp), T.run_bind_of (expr_Nodes_run a (by omega)), T.run_bind_of (ref5_Nodes_run a (by omega)), T.run_ite_t (by simp), T.run_bind_of hN, T.run_bind_of (ref5_Names_run a (by omega)), T.run_bind_of (texts_refl _ (by omega)), T.run_ite_true,
  T.run_bind_of hS, T.run_bind_of (ref5_Same_run a b ha hb (by omega)), T.run_ite_t (by simp), T.run_bind_of hS2, T.run_ite_true, T.run_bind_of known5_run, T.run_ret]
theorem law5_ExprLooks_law (x : denL [.expr, .expr]) (hw : wfL [.expr, .expr] x) (hb : bkL [.expr, .expr] x ≤ 1048576) : (law5_ExprLooks (toPs [.expr, .expr] x).1 (toPs [.expr, .expr] x).2).run = some true := by
 obtain ⟨a, b, ⟨⟩⟩ := x
 have h3 : bkE a + (bkE b + 0) ≤ 1048576 := hb
 exact law5_ExprLooks_run a b hw.1 hw.2.1 (by omega) (by omega)
end Go.AM.Lf
