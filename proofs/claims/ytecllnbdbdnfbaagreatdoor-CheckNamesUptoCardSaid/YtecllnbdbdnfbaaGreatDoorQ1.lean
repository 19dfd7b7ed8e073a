/-
  Plain laws of the lifted program, part 1.
-/
import Derived.Test.YtecllnbdbdnfbaaGreatDoorLf1
import Derived.Test.YtecllnbdbdnfbaaGreatDoorAmA
import Derived.Test.YtecllnbdbdnfbaaGreatDoorAmD
import Derived.Test.YtecllnbdbdnfbaaGreatDoorQ0
set_option linter.unusedVariables false
namespace Go.AM.Lf
open PL
def exactS (neg : Bool) (N D : Nat) : Nat → Nat → Str × Bool
 | _, 0 => ([], false)
 | k, f + 1 => if N * 10 ^ k % D = 0 then (sgS neg ++ ptd (pr (N * 10 ^ k / D)) k, true) else exactS neg N D (k + 1) f
theorem len_zero (n : Nat) : (((ofN n).length : Int) == 0) = decide (n = 0) := by
 by_cases c : n = 0
 ·subst c; rw [ofN_zero]; rfl
 ·have : (ofN n).length ≠ 0 := fun h => c (ofN_eq_nil.1 (List.eq_nil_of_length_eq_zero h))
  rw [decide_eq_false c]; simpa using this
theorem dec_Exact_run (a : Rat) (h : ratOk 1000 a) : (dec_Exact a).run = some (exactS (norm a).1 (nv (norm a).2.1) (nv (norm a).2.2.1) 0 61) := by
 have hno := norm_ok (by omega) h
 have hD := ratN_den a.1 (nv a.2.1) (nv a.2.2.1)
 have hrn := rat_norm a (ok_up h (by omega))
 unfold dec_Exact
 rw [T.run_bind_of hrn]
 change nv (norm a).2.2.1 ≠ 0 at hD
 clear hrn
 generalize norm a = v at *
 obtain ⟨hn, hd, ln, ld⟩ := hno
 have loop := T.loop_run (r := dec_Exact_R0) (fun s : Int × Rat => ∃ k : Nat, s = ((k : Int), v) ∧ k ≤ 61) (fun s => 61 - s.1.toNat)
  (fun s => if (exactS v.1 (nv v.2.1) (nv v.2.2.1) s.1.toNat (61 - s.1.toNat)).2 = true then .inr ((exactS v.1 (nv v.2.1) (nv v.2.2.1) s.1.toNat (61 - s.1.toNat)).1, true, v) else .inl v) ?_ (s := (0, v)) ⟨0, rfl, by omega⟩
 ·have loop' : (dec_Exact_L0 (0, v)).run = _ := loop
  rw [T.run_bind_of loop']
  have hex : ∀ f k, (exactS v.1 (nv v.2.1) (nv v.2.2.1) k f).2 = false → (exactS v.1 (nv v.2.1) (nv v.2.2.1) k f).1 = [] := by
   intro f
   induction f with
   | zero => intro k _; rfl
   | succ f ih =>
    intro k hk
    unfold exactS at hk ⊢
    split at hk
    ·cases hk
    ·rename_i c; rw [if_neg c]; exact ih _ hk
  have h2 := hex 61 0
  simp only [Int.toNat_zero, Nat.sub_zero]
  generalize exactS v.1 (nv v.2.1) (nv v.2.2.1) 0 61 = z at *
  obtain ⟨z1, z2⟩ := z
  cases z2 with
  | true => simp
  | false => simp at h2 ⊢; exact h2
 ·rintro _ ⟨k, rfl, hk⟩
  simp only [Int.toNat_natCast]
  by_cases hlt : k < 61
  ·have hl10 := ten_len k
   have hm := nat_Mul_run v.2.1 (ofN (10 ^ k)) hn (limbs_ofN _) (by omega) (by omega)
   rw [nv_ofN] at hm
   have hml := Nat.le_trans (mul_len (nv v.2.1) (10 ^ k)) (Nat.add_le_add (ofN_nv_len hn) hl10)
   have hdm := nat_DivMod_run (ofN (nv v.2.1 * 10 ^ k)) v.2.2.1 (limbs_ofN _) hd (by omega) (by omega)
   rw [nv_ofN, if_neg hD] at hdm
   have hq := ofN_len_mono (Nat.div_le_self (nv v.2.1 * 10 ^ k) (nv v.2.2.1))
   have hpr := nat_Print_run (ofN (nv v.2.1 * 10 ^ k / nv v.2.2.1)) (limbs_ofN _) (by omega)
   rw [nv_ofN] at hpr
   have hpl := pr_len (nv v.2.1 * 10 ^ k / nv v.2.2.1) 2000 (by omega)
   have hfl := ptd_len (pr (nv v.2.1 * 10 ^ k / nv v.2.2.1)) k
   have hsl := sgS_len v.1
   have ef : 61 - k = (61 - (k + 1)) + 1 := by omega
   rw [ef, exactS]
   by_cases c : nv v.2.1 * 10 ^ k % nv v.2.2.1 = 0
   ·right
    rw [if_pos c, if_pos rfl]
    unfold dec_Exact_R0
    rw [T.run_ite_t (decide_eq_true (by omega)), T.run_bind_of (dec_ten_run k (by omega)), T.run_bind_of hm, T.run_bind_of hdm]
    simp only
    rw [T.run_ite_t (by rw [len_zero]; exact decide_eq_true c), T.run_bind_of (sign_run v), T.run_bind_of hpr, T.run_bind_of (pointed_run _ k (by omega) (by omega)), T.run_leN _ (by omega), T.run_ret]; rfl
   ·left
    rw [if_neg c]
    refine ⟨(((k + 1 : Nat) : Int), v), ?_, ⟨k + 1, rfl, by omega⟩, by simp only [Int.toNat_natCast]; omega, by first | trivial | simp only [Int.toNat_natCast]⟩
    unfold dec_Exact_R0
    rw [T.run_ite_t (decide_eq_true (by omega)), T.run_bind_of (dec_ten_run k (by omega)), T.run_bind_of hm, T.run_bind_of hdm]
    simp only
    rw [T.run_ite_f (by rw [len_zero]; exact decide_eq_false c), T.run_ret, i1 k (by omega)]
  ·right
   have : k = 61 := by omega
   subst this
   unfold dec_Exact_R0
   rw [T.run_ite_f (decide_eq_false (by omega)), T.run_ret]; rfl
theorem ref3_Exact_run (a : Rat) (h : ratOk 1000 a) : (ref3_Exact a).run = some (exactS (norm a).1 (nv (norm a).2.1) (nv (norm a).2.2.1) 0 61) := by
 have hno := norm_ok (by omega) h
 have hD := ratN_den a.1 (nv a.2.1) (nv a.2.2.1)
 have hN := ratN_neg a.1 (nv a.2.1) (nv a.2.2.1)
 have hrn := ref2_norm a (ok_up h (by omega))
 unfold ref3_Exact
 rw [T.run_bind_of hrn]
 change nv (norm a).2.2.1 ≠ 0 at hD
 change (norm a).1 = true → nv (norm a).2.1 ≠ 0 at hN
 clear hrn
 generalize norm a = v at *
 obtain ⟨hn, hd, ln, ld⟩ := hno
 have loop := T.loop_run (r := ref3_Exact_R0) (fun s : List Int × Int × Rat => ∃ k : Nat, s = (ofN (10 ^ k), (k : Int), v) ∧ k ≤ 61) (fun s => 61 - s.2.1.toNat)
  (fun s => if (exactS v.1 (nv v.2.1) (nv v.2.2.1) s.2.1.toNat (61 - s.2.1.toNat)).2 = true then .inr ((exactS v.1 (nv v.2.1) (nv v.2.2.1) s.2.1.toNat (61 - s.2.1.toNat)).1, true, v) else .inl v) ?_ (s := ([1], 0, v)) ⟨0, by rw [Nat.pow_zero, ofN_one]; rfl, by omega⟩
 ·have loop' : (ref3_Exact_L0 ([1], 0, v)).run = _ := loop
  rw [T.run_bind_of loop']
  have hex : ∀ f k, (exactS v.1 (nv v.2.1) (nv v.2.2.1) k f).2 = false → (exactS v.1 (nv v.2.1) (nv v.2.2.1) k f).1 = [] := by
   intro f
   induction f with
   | zero => intro k _; rfl
   | succ f ih =>
    intro k hk
    unfold exactS at hk ⊢
    split at hk
    ·cases hk
    ·rename_i c; rw [if_neg c]; exact ih _ hk
  have h2 := hex 61 0
  simp only [Int.toNat_zero, Nat.sub_zero]
  generalize exactS v.1 (nv v.2.1) (nv v.2.2.1) 0 61 = z at *
  obtain ⟨z1, z2⟩ := z
  cases z2 with
  | true => simp
  | false => simp at h2 ⊢; exact h2
 ·rintro _ ⟨k, rfl, hk⟩
  simp only [Int.toNat_natCast]
  by_cases hlt : k < 61
  ·have hl10 := ten_len k
   have hm := ref1_Mul_run v.2.1 (ofN (10 ^ k)) hn (limbs_ofN _) (by omega) (by omega)
   rw [nv_ofN] at hm
   have hml := Nat.le_trans (mul_len (nv v.2.1) (10 ^ k)) (Nat.add_le_add (ofN_nv_len hn) hl10)
   have hdm := ref1_DivMod_run (ofN (nv v.2.1 * 10 ^ k)) v.2.2.1 (limbs_ofN _) hd (by omega) (by omega)
   rw [nv_ofN, if_neg hD] at hdm
   have hq := ofN_len_mono (Nat.div_le_self (nv v.2.1 * 10 ^ k) (nv v.2.2.1))
   have hpt := point_run v.1 (nv v.2.1 * 10 ^ k / nv v.2.2.1) k (by omega) (by omega)
   have h10 := ref1_Mul_run (ofN (10 ^ k)) [10] (limbs_ofN _) (by intro x hx; simp at hx; omega) (by omega) (by simp)
   rw [nv_ofN, show nv [10] = 10 from rfl, ← Nat.pow_succ] at h10
   have ef : 61 - k = (61 - (k + 1)) + 1 := by omega
   rw [ef, exactS]
   by_cases c : nv v.2.1 * 10 ^ k % nv v.2.2.1 = 0
   ·right
    have hsg : (v.1 && decide (nv v.2.1 * 10 ^ k / nv v.2.2.1 ≠ 0)) = v.1 := by
     cases hv : v.1 with
     | false => rfl
     | true =>
      have h1 := hN hv
      have h2 : nv v.2.1 * 10 ^ k ≠ 0 := Nat.mul_ne_zero h1 (Nat.pos_iff_ne_zero.1 (Nat.pow_pos (by omega)))
      have h3 : nv v.2.1 * 10 ^ k / nv v.2.2.1 ≠ 0 := by
       intro z
       have := Nat.div_add_mod (nv v.2.1 * 10 ^ k) (nv v.2.2.1)
       rw [z, c] at this
       exact h2 this.symm
      rw [decide_eq_true h3]; rfl
    rw [hsg] at hpt
    rw [if_pos c, if_pos rfl]
    unfold ref3_Exact_R0
    rw [T.run_ite_t (decide_eq_true (by omega)), T.run_bind_of hm, T.run_bind_of hdm]
    simp only
    rw [T.run_ite_t (by rw [len_zero]; exact decide_eq_true c), T.run_bind_of hpt, T.run_ret]
   ·left
    rw [if_neg c]
    refine ⟨(ofN (10 ^ (k + 1)), ((k + 1 : Nat) : Int), v), ?_, ⟨k + 1, rfl, by omega⟩, by simp only [Int.toNat_natCast]; omega, by first | trivial | simp only [Int.toNat_natCast]⟩
    unfold ref3_Exact_R0
    rw [T.run_ite_t (decide_eq_true (by omega)), T.run_bind_of hm, T.run_bind_of hdm]
    simp only
    rw [T.run_ite_f (by rw [len_zero]; exact decide_eq_false c), T.run_bind_of h10, T.run_ret, i1 k (by omega)]
  ·right
   have : k = 61 := by omega
   subst this
   unfold ref3_Exact_R0
   rw [T.run_ite_f (decide_eq_false (by omega)), T.run_ret]; rfl
def printS (a : Rat) : Str := if nv a.2.2.1 = 1 then sgS a.1 ++ pr (nv a.2.1) else sgS a.1 ++ pr (nv a.2.1) ++ ([47] ++ pr (nv a.2.2.1))
theorem dec_Print_run (a : Rat) (h : ratOk 1000 a) : (dec_Print a).run = some (printS (norm a)) := by
 have hno := norm_ok (by omega) h
 have hrn := rat_norm a (ok_up h (by omega))
 unfold dec_Print
 rw [T.run_bind_of hrn]
 clear hrn
 generalize norm a = v at *
 obtain ⟨hn, hd, ln, ld⟩ := hno
 have hpn := nat_Print_run v.2.1 hn (by omega)
 have hpd := nat_Print_run v.2.2.1 hd (by omega)
 have hl1 := pr_len (nv v.2.1) 1000 (Nat.le_trans (ofN_nv_len hn) ln)
 have hl2 := pr_len (nv v.2.2.1) 1000 (Nat.le_trans (ofN_nv_len hd) ld)
 have hsl := sgS_len v.1
 have h1 : (nat_Of 1).run = some (ofN 1) := nat_Of_run 1 (by omega)
 have hc := nat_Cmp_run v.2.2.1 (ofN 1) hd (limbs_ofN _) (by omega) (by rw [ofN_one]; simp)
 rw [nv_ofN] at hc
 rw [T.run_bind_of (sign_run v), T.run_bind_of hpn, T.run_leN _ (by omega), T.run_bind_of h1, T.run_bind_of hc]
 unfold printS cmpI
 by_cases c : nv v.2.2.1 = 1
 ·rw [c, if_pos rfl, if_neg (by omega), if_neg (by omega), T.run_ite_f (by rfl), T.run_ret]; rfl
 ·rw [if_neg c, T.run_ite_t (by
   split
   ·rfl
   ·split
    ·rfl
    ·omega), T.run_bind_of hpd]
  simp only [cat]
  rw [T.run_leN _ (by simp; omega), T.run_leN _ (by simp; omega), T.run_ret]
theorem ref3_Print_run (a : Rat) (h : ratOk 1000 a) : (ref3_Print a).run = some (printS (norm a)) := by
 have hno := norm_ok (by omega) h
 have hrn := ref2_norm a (ok_up h (by omega))
 have hcan : ∃ D, (norm a).2.2.1 = ofN D := by
  unfold norm ratN
  split
  ·exact ⟨1, ofN_one.symm⟩
  ·exact ⟨_, rfl⟩
 unfold ref3_Print
 rw [T.run_bind_of hrn]
 clear hrn
 generalize norm a = v at *
 obtain ⟨hn, hd, ln, ld⟩ := hno
 obtain ⟨D, hD⟩ := hcan
 have hpn := ref1_Print_run v.2.1 hn (by omega)
 have hpd := ref1_Print_run v.2.2.1 hd (by omega)
 have hl1 := pr_len (nv v.2.1) 1000 (Nat.le_trans (ofN_nv_len hn) ln)
 have hl2 := pr_len (nv v.2.2.1) 1000 (Nat.le_trans (ofN_nv_len hd) ld)
 have hsl := sgS_len v.1
 rw [T.run_bind_of (ref3_sign_run v.1), T.run_bind_of hpn, T.run_leN _ (by omega)]
 rw [T.run_obl (fun hz => ⟨by omega, by simp at hz; omega⟩)]
 have htest : (((v.2.2.1.length : Int) != 1) || (nth v.2.2.1 0 (dflt (.int .u32)) != 1)) = !decide (nv v.2.2.1 = 1) := by
  rw [hD, nv_ofN]
  by_cases c : D = 1
  ·subst c; rw [ofN_one]; rfl
  ·rw [decide_eq_false c]
   by_cases z : D = 0
   ·subst z; rw [ofN_zero]; rfl
   ·rw [ofN_pos z]
    by_cases y : D / 4294967296 = 0
    ·rw [y, ofN_zero]
     have hne : ¬ (((D % 4294967296 : Nat) : Int) = 1) := by omega
     have e9 : nth [((D % 4294967296 : Nat) : Int)] 0 (dflt (.int .u32)) = ((D % 4294967296 : Nat) : Int) := rfl
     rw [e9]
     generalize ((D % 4294967296 : Nat) : Int) = w at *
     simp [hne]
    ·rw [ofN_pos y]; simp; left; omega
 rw [htest]
 unfold printS
 by_cases c : nv v.2.2.1 = 1
 ·rw [if_pos c, decide_eq_true c, T.run_ite_f (by rfl), T.run_ret]; rfl
 ·rw [if_neg c, decide_eq_false c, T.run_ite_t (by rfl)]
  simp only [cat]
  rw [T.run_leN _ (by simp; omega), T.run_bind_of hpd, T.run_leN _ (by simp; omega), T.run_ret]
  simp
end Go.AM.Lf
namespace Go.AM.T
variable {σ ρ α β : Type}
theorem loop_fold {r : σ → T (σ ⊕ ρ)} (l : List α) (d : α) (e : β → Int → σ) (I : Nat → β → Prop) (g : β → α → β) (fin : β → ρ)
  (step : ∀ (k : Nat) (b : β) (x : α), k < l.length → nth l (k : Int) d = x → x ∈ l → I k b → (r (e b (k : Int))).run = some (.inl (e (g b x) ((k + 1 : Nat) : Int))) ∧ I (k + 1) (g b x))
  (done : ∀ b, I l.length b → (r (e b (l.length : Int))).run = some (.inr (fin b))) {b : β} (h0 : I 0 b) : (loop r (e b 0)).run = some (fin (l.foldl g b)) ∧ I l.length (l.foldl g b) := by
 have key : ∀ (n k : Nat) (b : β), n + k = l.length → I k b → (loop r (e b (k : Int))).run = some (fin ((l.drop k).foldl g b)) ∧ I l.length ((l.drop k).foldl g b) := by
  intro n
  induction n with
  | zero =>
   intro k b hk hb
   have : k = l.length := by omega
   subst this
   rw [List.drop_length]
   exact ⟨loop_done (done b hb), hb⟩
  | succ n ih =>
   intro k b hk hb
   have hlt : k < l.length := by omega
   have hd : l.drop k = l[k] :: l.drop (k + 1) := List.drop_eq_getElem_cons hlt
   have hn : nth l (k : Int) d = l[k] := by simp [nth, hlt]
   obtain ⟨h1, h2⟩ := step k b l[k] hlt hn (List.getElem_mem hlt) hb
   rw [hd, List.foldl_cons, loop_step h1]
   exact ih (k + 1) _ (by omega) h2
 have := key l.length 0 b (by omega) h0
 simpa using this
theorem loop_fold' {r : σ → T (σ ⊕ ρ)} (l : List α) (d : α) (e : β → Int → σ) (I : Nat → β → Prop) (g : β → α → β) (fin : β → ρ)
  (step : ∀ (k : Nat) (b : β) (x : α), k < l.length → nth l (k : Int) d = x → x ∈ l → I k b → (r (e b (k : Int))).run = some (.inl (e (g b x) ((k + 1 : Nat) : Int))) ∧ I (k + 1) (g b x))
  (done : ∀ b, I l.length b → (r (e b (l.length : Int))).run = some (.inr (fin b))) {b : β} (h0 : I 0 b) : (loop r (e b 0)).run = some (fin (l.foldl g b)) :=
 (loop_fold l d e I g fin step done h0).1
theorem loop_scan {r : σ → T (σ ⊕ ρ)} (l : List α) (d : α) (e : β → Int → σ) (I : Nat → β → Prop) (f : List α → β → ρ)
  (step : ∀ (k : Nat) (b : β) (x : α) (xs : List α), k < l.length → nth l (k : Int) d = x → x ∈ l → l.drop k = x :: xs → I k b →
   (∃ b', (r (e b (k : Int))).run = some (.inl (e b' ((k + 1 : Nat) : Int))) ∧ I (k + 1) b' ∧ f xs b' = f (x :: xs) b) ∨ (r (e b (k : Int))).run = some (.inr (f (x :: xs) b)))
  (done : ∀ b, I l.length b → (r (e b (l.length : Int))).run = some (.inr (f [] b))) {b : β} (h0 : I 0 b) : (loop r (e b 0)).run = some (f l b) := by
 have key : ∀ (n k : Nat) (b : β), n + k = l.length → I k b → (loop r (e b (k : Int))).run = some (f (l.drop k) b) := by
  intro n
  induction n with
  | zero =>
   intro k b hk hb
   have : k = l.length := by omega
   subst this
   rw [List.drop_length]
   exact loop_done (done b hb)
  | succ n ih =>
   intro k b hk hb
   have hlt : k < l.length := by omega
   have hd : l.drop k = l[k] :: l.drop (k + 1) := List.drop_eq_getElem_cons hlt
   have hn : nth l (k : Int) d = l[k] := by simp [nth, hlt]
   rcases step k b l[k] _ hlt hn (List.getElem_mem hlt) hd hb with ⟨b', h1, h2, h3⟩ | h1
   ·rw [hd, loop_step h1, ← h3]
    exact ih (k + 1) _ (by omega) h2
   ·rw [hd]; exact loop_done h1
 have := key l.length 0 b (by omega) h0
 simpa using this
end Go.AM.T
namespace Go.AM.PL
theorem ix1 (k n : Nat) (h : k < n) (hn : n ≤ 4000000000000) : w64 ((k : Int) + 1) = ((k + 1 : Nat) : Int) := by rw [w64_in (by omega) (by omega)]; omega
theorem lt_t {k n : Nat} (h : k < n) : decide ((k : Int) < (n : Int)) = true := decide_eq_true (by omega)
theorem lt_f (n : Nat) : decide ((n : Int) < (n : Int)) = false := decide_eq_false (by omega)
theorem idx_ok {k n : Nat} (h : k < n) : idxOk (k : Int) n := ⟨by omega, by omega⟩
theorem foldl_cat {α : Type} (f : α → Str) (l : List α) (s : Str) : l.foldl (fun s x => s ++ f x) s = s ++ l.flatMap f := by
 induction l generalizing s with
 | nil => simp
 | cons x l ih => rw [List.foldl_cons, ih, List.flatMap_cons, List.append_assoc]
theorem flatMap_len {α : Type} (f : α → Str) (l : List α) (c : Nat) (h : ∀ x ∈ l, (f x).length ≤ c) : (l.flatMap f).length ≤ l.length * c := by
 induction l with
 | nil => simp
 | cons x l ih =>
  have h1 := h x List.mem_cons_self
  have h2 := ih fun y hy => h y (List.mem_cons_of_mem _ hy)
  rw [List.flatMap_cons, List.length_append, List.length_cons, Nat.add_mul]; omega
theorem mul_mono {k n c : Nat} (h : k ≤ n) : k * c ≤ n * c := Nat.mul_le_mul_right c h
theorem cat_eq (a b : Str) : cat a b = a ++ b := rfl
theorem len_cat (a b : Str) : (cat a b).length = a.length + b.length := by rw [cat_eq, List.length_append]
end Go.AM.PL
namespace Go.AM.PL
theorem decS_dgz (n : Nat) (h : n ≠ 0) : decS n = dgz n := by
 induction n using Nat.strongRecOn with
 | _ n ih =>
  rw [decS, dgz_pos h]
  split
  ·rename_i c
   rw [show n / 10 = 0 by omega, dgz_zero]
   unfold dgt
   rw [show n % 10 = n by omega]; rfl
  ·rename_i c
   rw [ih (n / 10) (by omega) (by omega)]; rfl
theorem decS_pr (n : Nat) : decS n = pr n := by
 unfold pr
 by_cases h : n = 0
 ·subst h; rw [decS]; rfl
 ·rw [if_neg h, decS_dgz n h]
theorem row_loop {α : Type} (text : α → T Str) (l : List α) (d : α) (f : α → Str) (c : Nat) (word : Str) {r : Str × Int → T ((Str × Int) ⊕ Str)}
  (hr : ∀ w i, r (w, i) = .ite (decide (i < (l.length : Int))) (.obl (idxOk i l.length) <| T.bind (text (nth l i d)) fun r =>
    .obl (((List.length ([32] : Str)) + (List.length r)) ≤ (4611686018427387904 : Nat)) <|
    .obl (((List.length w) + (List.length (cat ([32] : Str) r))) ≤ (4611686018427387904 : Nat)) <|
    .ret (.inl ((cat w (cat ([32] : Str) r)), (w64 (i + (1 : Int))))))
   (.ret (.inr w)))
  (ht : ∀ x ∈ l, (text x).run = some (f x)) (hb : ∀ x ∈ l, (f x).length ≤ c) (hl : l.length ≤ 4000000000000) (hc : word.length + l.length * (c + 1) ≤ 1000000000000000000) :
  (T.loop r (word, 0)).run = some (word ++ l.flatMap (fun x => 32 :: f x)) := by
 rw [← foldl_cat]
 refine T.loop_fold' l d (fun b i => (b, i)) (fun k b => b.length ≤ word.length + k * (c + 1)) (fun s x => s ++ (32 :: f x)) id (fun k b x hk hx hm hI => ?_) (fun b _ => ?_) (b := word) (by simp)
 ·have h1 := hb x hm
  have h2 := mul_mono (c := c + 1) (show k + 1 ≤ l.length from hk)
  rw [Nat.add_mul, Nat.one_mul] at h2
  refine ⟨?_, by simp only [List.length_append, List.length_cons]; rw [Nat.add_mul, Nat.one_mul]; omega⟩
  rw [hr, T.run_ite_t (lt_t hk), T.run_obl (idx_ok hk), hx, T.run_bind_of (ht x hm), T.run_leN _ (by simp; omega), T.run_leN _ (by simp [cat_eq]; omega), T.run_ret, ix1 k _ hk hl]; rfl
 ·rw [hr, T.run_ite_f (lt_f _), T.run_ret]; rfl
end Go.AM.PL
namespace Go.AM.Lf
open PL
def i64r (n : Int) : Prop := -9223372036854775808 ≤ n ∧ n ≤ 9223372036854775807
theorem itoa_run (n : Int) (h : i64r n) : (strconv_Itoa n).run = some (itoaS n) := by
 unfold strconv_Itoa
 unfold i64r at h
 rw [T.run_obl h, T.run_ret]
theorem len64 {n : Nat} (h : n < 18446744073709551616) : (ofN n).length ≤ 2 := ofN_len_le.2 (by show n < 4294967296 ^ 2; omega)
theorem pr_len64 {n : Nat} (h : n < 18446744073709551616) : (pr n).length ≤ 37 := pr_len n 2 (len64 h)
theorem itoa_len (n : Int) (h : i64r n) : (itoaS n).length ≤ 38 := by
 obtain ⟨h1, h2⟩ := h
 unfold itoaS
 split
 ·rw [decS_pr]
  have := pr_len64 (n := n.natAbs) (by omega)
  simp; omega
 ·rw [decS_pr]
  have := pr_len64 (n := n.toNat) (by omega)
  omega
theorem printS_len (a : Rat) (h : ratOk 1000 a) : (printS (norm a)).length ≤ 40000 := by
 have hno := norm_ok (by omega) h
 generalize norm a = v at *
 have h1 := pr_len (nv v.2.1) 1000 (Nat.le_trans (ofN_nv_len hno.1) hno.2.2.1)
 have h2 := pr_len (nv v.2.2.1) 1000 (Nat.le_trans (ofN_nv_len hno.2.1) hno.2.2.2)
 have h3 := sgS_len v.1
 unfold printS
 split <;> simp <;> omega
end Go.AM.Lf
namespace Go.AM.Lf
open PL
theorem limbs_wf {l : List Int} (h : wf (.sl u32) l) : limbs l := fun x hx => by
 obtain ⟨p, q⟩ := h x hx
 have p' : (0 : Int) ≤ x := p
 have q' : x ≤ 4294967295 := q
 exact ⟨p', by omega⟩
theorem rat_wf {a : Rat} (h : wf tyRat a) : limbs a.2.1 ∧ limbs a.2.2.1 := ⟨limbs_wf h.2.1, limbs_wf h.2.2.1⟩
end Go.AM.Lf
namespace Go.AM.PL
def isD (b : UInt8) : Bool := decide (48 ≤ b.toNat ∧ b.toNat ≤ 57)
def digs (s : Str) : Bool := s.all isD
def dval (s : Str) : Nat := s.foldl (fun n b => n * 10 + (b.toNat - 48)) 0
theorem dval_from (s : Str) (n : Nat) : s.foldl (fun n b => n * 10 + (b.toNat - 48)) n = n * 10 ^ s.length + dval s := by
 unfold dval
 induction s generalizing n with
 | nil => simp
 | cons b s ih =>
  rw [List.foldl_cons, List.foldl_cons, ih, ih (0 * 10 + (b.toNat - 48)), List.length_cons, Nat.pow_succ]
  grind
theorem dval_app (s t : Str) : dval (s ++ t) = dval s * 10 ^ t.length + dval t := by
 have := dval_from t (dval s)
 unfold dval at this ⊢
 rw [List.foldl_append, this]
theorem dval_snoc (s : Str) (b : UInt8) : dval (s ++ [b]) = dval s * 10 + (b.toNat - 48) := by
 unfold dval; rw [List.foldl_append]; rfl
theorem isD_iff {b : UInt8} : isD b = true ↔ 48 ≤ b.toNat ∧ b.toNat ≤ 57 := by unfold isD; simp
theorem digs_app (s t : Str) : digs (s ++ t) = (digs s && digs t) := by unfold digs; rw [List.all_append]
theorem digs_cons (b : UInt8) (t : Str) : digs (b :: t) = (isD b && digs t) := rfl
theorem byteAt_get {s : Str} {k : Nat} (h : k < s.length) : byteAt s (k : Int) = ((s[k]).toNat : Int) := by
 unfold byteAt; simp [h]
end Go.AM.PL

namespace Go.AM.PL
def decT (t : Str) : Option (Nat × Nat) :=
 if t.takeWhile isD = [] then none else match t.dropWhile isD with
 | [] => some (dval (t.takeWhile isD), 1)
 | c :: q => if q = [] ∨ digs q = false then none else if c = 46 then some (dval (t.takeWhile isD) * 10 ^ q.length + dval q, 10 ^ q.length)
  else if c = 47 then (if dval q = 0 then none else some (dval (t.takeWhile isD), dval q)) else none
end Go.AM.PL
namespace Go.AM.Lf
open PL
def decP (s : Str) : Option (Nat × Nat) := decT (trimPre s [45])
end Go.AM.Lf
namespace Go.AM.PL
theorem isD_dgt (n : Nat) : isD (dgt n) = true ∧ (dgt n).toNat - 48 = n % 10 := by
 have h : (dgt n).toNat = 48 + n % 10 := by unfold dgt; rw [UInt8.toNat_ofNat']; omega
 exact ⟨isD_iff.2 (by omega), by omega⟩
theorem dgz_digs (n : Nat) : digs (dgz n) = true ∧ dval (dgz n) = n := by
 induction n using Nat.strongRecOn with
 | _ n ih =>
  by_cases h : n = 0
  ·subst h; rw [dgz_zero]; exact ⟨rfl, rfl⟩
  ·obtain ⟨h1, h2⟩ := ih (n / 10) (by omega)
   obtain ⟨h3, h4⟩ := isD_dgt n
   rw [dgz_pos h]
   refine ⟨by rw [digs_app, h1, digs_cons, h3]; rfl, ?_⟩
   rw [dval_snoc, h2, h4]; omega
theorem pr_digs (n : Nat) : digs (pr n) = true ∧ dval (pr n) = n := by
 unfold pr
 split
 ·rename_i h; subst h; exact ⟨by decide, by decide⟩
 ·exact dgz_digs n
theorem rep_digs (k : Nat) : digs (repS [48] k) = true ∧ dval (repS [48] k) = 0 := by
 induction k with
 | zero => exact ⟨rfl, rfl⟩
 | succ k ih =>
  show digs ([48] ++ repS [48] k) = true ∧ dval ([48] ++ repS [48] k) = 0
  rw [digs_app, dval_app, ih.1, ih.2]
  exact ⟨by decide, by show 0 * _ + 0 = 0; omega⟩
end Go.AM.PL
namespace Go.AM.Lf
open PL
theorem ptd_parts (s : Str) (k : Nat) (hk : k ≠ 0) (hs : digs s = true) : ∃ w p, ptd s k = w ++ 46 :: p ∧ digs w = true ∧ w ≠ [] ∧ digs p = true ∧ p.length = k ∧ dval w * 10 ^ k + dval p = dval s ∧ w.length + k = max s.length (k + 1) := by
 unfold ptd
 rw [if_neg hk]
 have hr := rep_digs (k + 1 - s.length)
 have hl := repS_len (k + 1 - s.length)
 have hd : digs (repS [48] (k + 1 - s.length) ++ s) = true := by rw [digs_app, hr.1, hs]; rfl
 have hv : dval (repS [48] (k + 1 - s.length) ++ s) = dval s := by rw [dval_app, hr.2]; omega
 have hlen : (repS [48] (k + 1 - s.length) ++ s).length = (k + 1 - s.length) + s.length := by rw [List.length_append, hl]
 generalize repS [48] (k + 1 - s.length) ++ s = t at *
 refine ⟨t.take (t.length - k), t.drop (t.length - k), by simp, ?_, ?_, ?_, by simp; omega, ?_, by simp; omega⟩
 ·exact List.all_eq_true.2 fun x hx => List.all_eq_true.1 hd x (List.mem_of_mem_take hx)
 ·intro z
  have := congrArg List.length z
  simp at this; omega
 ·exact List.all_eq_true.2 fun x hx => List.all_eq_true.1 hd x (List.mem_of_mem_drop hx)
 ·have := dval_app (t.take (t.length - k)) (t.drop (t.length - k))
  rw [List.take_append_drop, hv, List.length_drop, show t.length - (t.length - k) = k by omega] at this
  exact this.symm
theorem exactS_ok (b : Bool) (N D : Nat) (hD : D ≠ 0) : ∀ (f k : Nat) (s : Str), exactS b N D k f = (s, true) → ∃ j, k ≤ j ∧ j < k + f ∧ N * 10 ^ j % D = 0 ∧ s = sgS b ++ ptd (pr (N * 10 ^ j / D)) j
 | 0, k, s, h => by unfold exactS at h; cases h
 | f + 1, k, s, h => by
  unfold exactS at h
  split at h
  ·rename_i c; cases h; exact ⟨k, Nat.le_refl _, by omega, c, rfl⟩
  ·obtain ⟨j, h1, h2, h3, h4⟩ := exactS_ok b N D hD f (k + 1) s h
   exact ⟨j, by omega, by omega, h3, h4⟩
end Go.AM.Lf
namespace Go.AM.Lf
def ixF {α : Type} (p : α → Bool) (i : Int) : List α → Int
 | [] => -1
 | x :: r => if p x = true then i else ixF p (i + 1) r
end Go.AM.Lf
namespace Go.AM.T
theorem run_same {α β : Type} (a : β) (t : T α) : (obl (a = a) t).run = t.run := run_obl rfl t
end Go.AM.T
namespace Go.AM.Lf
open PL
abbrev tyIt : Ty := .cons .str (.cons tyRat .nil)
abbrev ItT := den tyIt
theorem all_at {α : Type} {l : List α} {P : α → Prop} (h : ∀ k (hk : k < l.length), P l[k]) : ∀ x ∈ l, P x := by
 intro x hx
 obtain ⟨k, hk, rfl⟩ := List.getElem_of_mem hx
 exact h k hk
theorem nth_at {α : Type} {l : List α} {k : Nat} (h : k < l.length) (d : α) : nth l (k : Int) d = l[k] := by simp [nth, h]
theorem bytesOf_len (s : Str) : (bytesOf s).length = s.length := by unfold bytesOf; simp
theorem bytesOf_app (s t : Str) : bytesOf (s ++ t) = bytesOf s ++ bytesOf t := by unfold bytesOf; simp
theorem bytesStr_of (s : Str) : bytesStr (bytesOf s) = s := by
 unfold bytesStr bytesOf
 rw [List.map_map]
 conv => rhs; rw [← List.map_id s]
 refine List.map_congr_left fun b _ => ?_
 simp [byteOf]
theorem bytesOf_range (s : Str) : ∀ n ∈ bytesOf s, (0 : Int) ≤ n ∧ n < 256 := by
 intro n hn
 unfold bytesOf at hn
 obtain ⟨b, _, rfl⟩ := List.mem_map.1 hn
 have := b.toNat_lt
 omega
theorem writeString_run (s b : Str) (h : b.length + s.length ≤ 140737488355328) : (strings_Builder_WriteString_S s () (bytesOf b)).run = some ((s.length : Int), (), bytesOf (b ++ s)) := by
 unfold strings_Builder_WriteString_S bld_copyCheck
 simp only [T.bind]
 rw [T.run_cur _ rfl rfl rfl, T.run_true, T.run_app _ rfl rfl rfl (by simp only [bytesOf_len]; omega), T.run_cur _ (by simp) rfl (by simp), T.run_obl (by simp), T.run_ret, bytesOf_app]
theorem bldString_run (b : Str) (h : b.length ≤ 140737488355328) : (bld_String () (bytesOf b)).run = some (b, ()) := by
 unfold bld_String strT
 rw [T.run_obl ⟨bytesOf_range b, by rw [bytesOf_len]; exact h⟩, T.run_ret, bytesStr_of]
def itemS (x : ItT) : Str := x.1 ++ [32] ++ printS (norm x.2.1) ++ [10]
end Go.AM.Lf
namespace Go.AM.Lf
open PL
def isL (b : UInt8) : Bool := decide (97 ≤ (b.toNat : Int)) && decide ((b.toNat : Int) ≤ 122)
def isIn (b : UInt8) : Bool := isL b || ((decide (48 ≤ (b.toNat : Int)) && decide ((b.toNat : Int) ≤ 57)) || ((b.toNat : Int) == 95))
def nameOk (s : Str) : Bool := match s with | [] => false | b :: _ => decide (s.length ≤ 24) && (isL b && s.all isIn)
theorem isInner_run (b : UInt8) : (expr_isInner (b.toNat : Int)).run = some (isIn b) := by
 have h1 : (expr_isLetter (b.toNat : Int)).run = some (isL b) := rfl
 have h2 : (expr_isDigit (b.toNat : Int)).run = some (decide (48 ≤ (b.toNat : Int)) && decide ((b.toNat : Int) ≤ 57)) := rfl
 unfold expr_isInner isIn
 rw [T.run_bind_of h1]
 cases isL b with
 | true => rw [T.run_ite_true, T.run_ret]; rfl
 | false =>
  rw [T.run_ite_false, T.run_bind_of h2]
  cases (decide (48 ≤ (b.toNat : Int)) && decide ((b.toNat : Int) ≤ 57)) with
  | true => rw [T.run_ite_true, T.run_ret]; rfl
  | false => rw [T.run_ite_false, T.run_ret]; rfl
theorem Name_run (s : Str) : (expr_Name s).run = some (nameOk s) := by
 unfold expr_Name
 cases s with
 | nil => rfl
 | cons b r =>
  have e0 : strEq (b :: r) [] = false := by rw [strEq_iff]; simp
  rw [e0]
  by_cases c : 24 < (b :: r).length
  ·have : (T.ite false (.ret true) (.ite (decide ((24 : Int) < ((b :: r).length : Int))) (.ret true) (.obl (idxOk (0 : Int) (List.length (b :: r))) <| T.bind (expr_isLetter (byteAt (b :: r) (0 : Int))) fun r => .ret (!r))) : T Bool).run = some true := by
    rw [T.run_ite_false, T.run_ite_t (decide_eq_true (by omega)), T.run_ret]
   rw [T.run_bind_of this, T.run_ite_true, T.run_ret]
   unfold nameOk
   rw [decide_eq_false (by omega)]; rfl
  ·have hb : byteAt (b :: r) (0 : Int) = (b.toNat : Int) := byteAt_get (s := b :: r) (k := 0) (by simp)
   have h1 : (expr_isLetter (b.toNat : Int)).run = some (isL b) := rfl
   have : (T.ite false (.ret true) (.ite (decide ((24 : Int) < ((b :: r).length : Int))) (.ret true) (.obl (idxOk (0 : Int) (List.length (b :: r))) <| T.bind (expr_isLetter (byteAt (b :: r) (0 : Int))) fun r => .ret (!r))) : T Bool).run = some (!isL b) := by
    rw [T.run_ite_false, T.run_ite_f (decide_eq_false (by omega)), T.run_obl (by refine ⟨by omega, ?_⟩; simp only [List.length_cons]; omega), hb, T.run_bind_of h1, T.run_ret]
   rw [T.run_bind_of this]
   unfold nameOk
   dsimp only
   rw [decide_eq_true (by omega), Bool.true_and]
   cases isL b with
   | false => rw [T.run_ite_t (by rfl), T.run_ret]; rfl
   | true =>
    rw [T.run_ite_f (by rfl), Bool.true_and]
    have key : (expr_Name_L0 (b :: r) ((b :: r).length : Int) 0).run = some (if (b :: r).all isIn = true then .inl () else .inr false) := by
     refine T.loop_scan (r := expr_Name_R0 (b :: r) ((b :: r).length : Int)) (b :: r) (0 : UInt8) (fun (_ : Unit) i => i) (fun _ _ => True) (fun l _ => (if l.all isIn = true then .inl () else .inr false : Unit ⊕ Bool)) (fun k _ x xs hk hx hm hd hI => ?_) (fun _ _ => ?_) (b := ()) trivial
     ·have hxk : (b :: r)[k] = x := by rw [← hx]; unfold nth; rw [Int.toNat_natCast, List.getD_eq_getElem?_getD, List.getElem?_eq_getElem hk]; rfl
      have hbk : byteAt (b :: r) (k : Int) = (x.toNat : Int) := by rw [byteAt_get hk, hxk]
      cases hin : isIn x with
      | true =>
       left
       refine ⟨(), ?_, trivial, ?_⟩
       ·unfold expr_Name_R0
        rw [T.run_ite_t (lt_t hk), T.run_obl (idx_ok hk), hbk, T.run_bind_of (isInner_run x), hin, T.run_ite_f (by rfl), T.run_ret, ix1 k _ hk (by omega)]
       ·rw [List.all_cons, hin, Bool.true_and]
      | false =>
       right
       unfold expr_Name_R0
       rw [T.run_ite_t (lt_t hk), T.run_obl (idx_ok hk), hbk, T.run_bind_of (isInner_run x), hin, T.run_ite_t (by rfl), T.run_ret, List.all_cons, hin]
       rfl
     ·unfold expr_Name_R0
      rw [T.run_ite_f (lt_f _), T.run_ret]; rfl
    rw [T.run_bind_of key]
    cases h : (b :: r).all isIn with
    | true => rfl
    | false => rfl
end Go.AM.Lf
namespace Go.AM.Lf
open PL
theorem sumB_mem {α : Type} (f : α → Nat) (l : List α) : ∀ x ∈ l, f x ≤ sumB f l := by
 induction l with
 | nil => intro x hx; cases hx
 | cons y l ih =>
  intro x hx
  show _ ≤ f y + sumB f l
  rcases List.mem_cons.1 hx with rfl | hx
  ·omega
  ·have := ih x hx; omega
theorem sumB_len {α : Type} (f : α → Nat) (l : List α) (h : ∀ x, 1 ≤ f x) : l.length ≤ sumB f l := by
 induction l with
 | nil => simp
 | cons y l ih =>
  show _ ≤ f y + sumB f l
  have := h y
  simp; omega
end Go.AM.Lf
namespace Go.AM.Lf
open PL
mutual
/-- What an expression weighs. -/
def szE : Expr → Nat
 | .mk _ n s l => 3 + s.length + 8 * n.2.1.length + 8 * n.2.2.1.length + szEs l
def szEs : List Expr → Nat
 | [] => 0
 | e :: r => szE e + szEs r
end
mutual
theorem wtE_sz : ∀ (e : Expr) (left : Int), 0 ≤ wtE e left → wtE e left = left - szE e
 | .mk _ n s l, left, h => by
  have := wtEs_sz l (left - 3 - s.length - 8 * n.2.1.length - 8 * n.2.2.1.length)
  simp only [wtE, szE] at h ⊢
  rw [this h]; omega
theorem wtEs_sz : ∀ (l : List Expr) (left : Int), 0 ≤ wtEs l left → wtEs l left = left - szEs l
 | [], left, h => by simp [wtEs, szEs]
 | e :: r, left, h => by
  have h1 := wtE_sz e left
  have h2 := wtEs_sz r (wtE e left)
  have h3 := (wtEs_le r (wtE e left)).1
  by_cases c : 0 ≤ left
  ·simp only [wtEs, szEs, if_pos c] at h ⊢
   rw [h2 h, h1 (by omega)]; omega
  ·simp only [wtEs, if_neg c] at h; omega
end
structure FB (f : Form) : Prop where
 l1 : f.1.length ≤ 1048576
 l2 : f.2.1.length ≤ 1048576
 l3 : f.2.2.1.length ≤ 1048576
 l4 : f.2.2.2.1.length ≤ 1048576
 l5 : f.2.2.2.2.1.length ≤ 1048576
 l6 : f.2.2.2.2.2.1.length ≤ 1048576
 s : ∀ x ∈ f.1, x.1.length ≤ 1048576
 p : ∀ x ∈ f.2.1, x.1.length ≤ 1048576 ∧ x.2.1.2.1.length ≤ 1048576 ∧ x.2.1.2.2.1.length ≤ 1048576 ∧ limbs x.2.1.2.1 ∧ limbs x.2.1.2.2.1
 g : ∀ x ∈ f.2.2.1, x.1.length ≤ 1048576 ∧ x.2.1.length ≤ 1048576
 d : ∀ x ∈ f.2.2.2.1, x.1.length ≤ 1048576
 r : ∀ x ∈ f.2.2.2.2.1, x.1.length ≤ 1048576 ∧ x.2.2.1.length ≤ 1048576 ∧ bkE x.2.2.2.1 ≤ 1048576 ∧ bkE x.2.2.2.2.1 ≤ 1048576
 c : ∀ x ∈ f.2.2.2.2.2.1, x.1.length ≤ 1048576 ∧ bkE x.2.2.2.1 ≤ 1048576 ∧ bkE x.2.2.2.2.1 ≤ 1048576
theorem fb_of {f : Form} (hw : wf tyForm f) (hb : bk tyForm f ≤ 1048576) : FB f := by
 have e1 : bk tyForm f = (sumB (bk tySwitch) f.1 + 1) + ((sumB (bk tyParam) f.2.1 + 1) + ((sumB (bk tyPage) f.2.2.1 + 1) + ((sumB (bk tyField) f.2.2.2.1 + 1) + ((sumB (bk tyRule) f.2.2.2.2.1 + 1) + ((sumB (bk tyCheck) f.2.2.2.2.2.1 + 1) + 1))))) := rfl
 have b1 : ∀ x, bk tySwitch x = (x.1.length + 1) + (1 + 1) := fun _ => rfl
 have b2 : ∀ x, bk tyParam x = (x.1.length + 1) + ((1 + ((sumB (bk u32) x.2.1.2.1 + 1) + ((sumB (bk u32) x.2.1.2.2.1 + 1) + 1))) + 1) := fun _ => rfl
 have b3 : ∀ x, bk tyPage x = (x.1.length + 1) + ((x.2.1.length + 1) + 1) := fun _ => rfl
 have b4 : ∀ x, bk tyField x = (x.1.length + 1) + (1 + (1 + (1 + 1))) := fun _ => rfl
 have b5 : ∀ x, bk tyRule x = (x.1.length + 1) + (1 + ((x.2.2.1.length + 1) + (bkE x.2.2.2.1 + (bkE x.2.2.2.2.1 + 1)))) := fun _ => rfl
 have b6 : ∀ x, bk tyCheck x = (x.1.length + 1) + (1 + (1 + (bkE x.2.2.2.1 + (bkE x.2.2.2.2.1 + 1)))) := fun _ => rfl
 have u1 : ∀ l : List Int, sumB (bk u32) l = l.length := fun l => sumB_one l
 have k1 := sumB_len (bk tySwitch) f.1 (fun x => by rw [b1]; omega)
 have k2 := sumB_len (bk tyParam) f.2.1 (fun x => by rw [b2]; omega)
 have k3 := sumB_len (bk tyPage) f.2.2.1 (fun x => by rw [b3]; omega)
 have k4 := sumB_len (bk tyField) f.2.2.2.1 (fun x => by rw [b4]; omega)
 have k5 := sumB_len (bk tyRule) f.2.2.2.2.1 (fun x => by rw [b5]; omega)
 have k6 := sumB_len (bk tyCheck) f.2.2.2.2.2.1 (fun x => by rw [b6]; omega)
 rw [e1] at hb
 refine ⟨by omega, by omega, by omega, by omega, by omega, by omega, fun x hx => ?_, fun x hx => ?_, fun x hx => ?_, fun x hx => ?_, fun x hx => ?_, fun x hx => ?_⟩
 ·have := sumB_mem (bk tySwitch) f.1 x hx; rw [b1] at this; omega
 ·have := sumB_mem (bk tyParam) f.2.1 x hx
  rw [b2, u1, u1] at this
  have hwx : wf tyParam x := hw.2.1 x hx
  obtain ⟨r1, r2⟩ := rat_wf hwx.2.1
  exact ⟨by omega, by omega, by omega, r1, r2⟩
 ·have := sumB_mem (bk tyPage) f.2.2.1 x hx; rw [b3] at this; exact ⟨by omega, by omega⟩
 ·have := sumB_mem (bk tyField) f.2.2.2.1 x hx; rw [b4] at this; omega
 ·have := sumB_mem (bk tyRule) f.2.2.2.2.1 x hx; rw [b5] at this; exact ⟨by omega, by omega, by omega, by omega⟩
 ·have := sumB_mem (bk tyCheck) f.2.2.2.2.2.1 x hx; rw [b6] at this; exact ⟨by omega, by omega, by omega⟩
theorem heavy_loop {r : Int × Int → T ((Int × Int) ⊕ Int)} (len : Nat) (hlen : len ≤ 1048576) (P : Nat → Prop)
  (h1 : ∀ (n : Int) (k : Nat), k < len → 0 ≤ n → n ≤ 600 → ∃ n', (r (n, (k : Int))).run = some (.inl (n', ((k + 1 : Nat) : Int))) ∧ -10000000000 ≤ n' ∧ n' ≤ n ∧ (0 ≤ n' → P k))
  (h2 : ∀ (n : Int) (k : Nat), ¬ (k < len ∧ 0 ≤ n) → (r (n, (k : Int))).run = some (.inr n)) (n : Int) (hn : -10000000000 ≤ n) (hn2 : n ≤ 600) :
  ∃ n', (T.loop r (n, 0)).run = some n' ∧ -10000000000 ≤ n' ∧ n' ≤ n ∧ (0 ≤ n' → ∀ k < len, P k) := by
 refine T.loop_post (fun s : Int × Int => ∃ k : Nat, s.2 = (k : Int) ∧ k ≤ len ∧ -10000000000 ≤ s.1 ∧ s.1 ≤ n ∧ (0 ≤ s.1 → ∀ j < k, P j)) (fun s => len - s.2.toNat) _ (fun s hs => ?_) ⟨0, rfl, by omega, hn, by omega, fun _ j hj => by omega⟩
 obtain ⟨m, i⟩ := s
 obtain ⟨k, rfl, hk, hm, hm2, hP⟩ := hs
 by_cases c : k < len ∧ 0 ≤ m
 ·left
  obtain ⟨n', g1, g2, g3, g4⟩ := h1 m k c.1 c.2 (by dsimp only at hm2; omega)
  refine ⟨_, g1, ⟨k + 1, rfl, c.1, g2, by dsimp only at hm2 ⊢; omega, fun h0 j hj => ?_⟩, by dsimp only; omega⟩
  rcases Nat.lt_succ_iff_lt_or_eq.1 hj with hj | rfl
  ·exact hP c.2 j hj
  ·exact g4 h0
 ·right
  refine ⟨m, h2 m k c, hm, hm2, fun h0 j hj => hP h0 j ?_⟩
  have : k = len := by
   by_cases q : k < len
   ·exact absurd ⟨q, h0⟩ c
   ·omega
  omega
theorem and_f {k len : Nat} {n : Int} (h : ¬ (k < len ∧ 0 ≤ n)) : (decide ((k : Int) < (len : Int)) && decide (0 ≤ n)) = false := by
 by_cases q : k < len
 ·have : ¬ 0 ≤ n := fun z => h ⟨q, z⟩
  rw [decide_eq_false this, Bool.and_false]
 ·rw [decide_eq_false (by omega), Bool.false_and]
theorem and_t {k len : Nat} {n : Int} (h : k < len) (h0 : 0 ≤ n) : (decide ((k : Int) < (len : Int)) && decide (0 ≤ n)) = true := by
 rw [decide_eq_true (by omega), decide_eq_true h0]; rfl
end Go.AM.Lf
namespace Go.AM.Lf
open PL
def trimB (l : List Int) : Bool := ofN (nv l) == l
def isRb (a : Rat) : Bool := trimB a.2.1 && (trimB a.2.2.1 && (!(nv a.2.2.1 == 0) && (!(a.1 && (nv a.2.1 == 0)) && (Nat.gcd (nv a.2.1) (nv a.2.2.1) == 1))))
theorem trimB_iff {l : List Int} (h : limbs l) : trimB l = true ↔ trimd l := by
 unfold trimB
 constructor
 ·intro e
  have e : ofN (nv l) = l := by simpa using e
  rw [← e]; exact trimd_ofN _
 ·intro ht
  rw [ofN_nv h ht]; simp
theorem nat_Is_run (l : List Int) (h : limbs l) (hl : l.length ≤ 1000000000) : (nat_Is l).run = some (trimB l) := by
 unfold nat_Is
 cases l with
 | nil =>
  rw [T.run_obl (fun h => by simp at h), T.run_ret]
  have e : trimB [] = true := by unfold trimB; rw [show nv [] = 0 from rfl, ofN_zero]; rfl
  rw [e]; rfl
 | cons x r =>
  obtain ⟨n, hn⟩ : ∃ n, (x :: r).length = n + 1 := ⟨r.length, rfl⟩
  have ew : w64 (((x :: r).length : Int) - 1) = (n : Int) := by rw [hn, w64_in (by omega) (by omega)]; omega
  have hnl : n < (x :: r).length := by omega
  have e0 : (((x :: r).length : Int) == 0) = false := by rw [hn]; simp; omega
  have hg : (x :: r).getLast? = some ((x :: r)[n]) := by
   rw [List.getLast?_eq_getElem?, hn, Nat.add_sub_cancel, List.getElem?_eq_getElem hnl]
  rw [T.run_obl (fun _ => by rw [ew]; exact idx_ok hnl), T.run_ret, ew, nth_at hnl, e0, Bool.false_or]
  congr 1
  cases hq : ((x :: r)[n] != 0) with
  | true =>
   symm
   rw [trimB_iff h]
   intro y hy
   rw [hg] at hy
   cases hy
   simpa using hq
  | false =>
   symm
   rw [Bool.eq_false_iff]
   intro ht
   have := (trimB_iff h).1 ht _ hg
   simp at hq
   exact this hq
theorem rat_Is_run (a : Rat) (h : ratOk 100000000 a) : (rat_Is a).run = some (isRb a) := by
 obtain ⟨h1, h2, h3, h4⟩ := h
 unfold rat_Is isRb
 have n1 := nat_Is_run a.2.1 h1 (by omega)
 have n2 := nat_Is_run a.2.2.1 h2 (by omega)
 have hzD : trimB a.2.2.1 = true → (((a.2.2.1.length : Int)) == 0) = (nv a.2.2.1 == 0) := fun ht => by
  have e : ofN (nv a.2.2.1) = a.2.2.1 := ofN_nv h2 ((trimB_iff h2).1 ht)
  conv => lhs; rw [← e]
  rw [len_zero]
  cases q : decide (nv a.2.2.1 = 0) <;> simp_all
 have hzN : trimB a.2.1 = true → (((a.2.1.length : Int)) == 0) = (nv a.2.1 == 0) := fun ht => by
  have e : ofN (nv a.2.1) = a.2.1 := ofN_nv h1 ((trimB_iff h1).1 ht)
  conv => lhs; rw [← e]
  rw [len_zero]
  cases q : decide (nv a.2.1 = 0) <;> simp_all
 have hg := nat_Gcd_run a.2.1 a.2.2.1 h1 h2 (by omega) (by omega)
 have h1' : (nat_Of 1).run = some (ofN 1) := nat_Of_run 1 (by omega)
 have hc : ∀ g : Nat, (ofN g).length ≤ 100000001 → (nat_Cmp (ofN g) (ofN 1)).run = some (cmpI g 1) := fun g hl => by
  have := nat_Cmp_run (ofN g) (ofN 1) (limbs_ofN _) (limbs_ofN _) (by omega) (by rw [ofN_one]; simp)
  rwa [nv_ofN, nv_ofN] at this
 have head : ∀ b : Bool, ((T.bind (nat_Is a.2.1) fun r => .ite (!r) (.ret true) (T.bind (nat_Is a.2.2.1) fun r1 => .ite (!r1) (.ret true) (.ite ((a.2.2.1.length : Int) == (0 : Int)) (.ret true) (.ite a.1 (.ret ((a.2.1.length : Int) == (0 : Int))) (.ret false))))) : T Bool).run =
   some (!(trimB a.2.1 && (trimB a.2.2.1 && (!(nv a.2.2.1 == 0) && !(a.1 && (nv a.2.1 == 0)))))) := fun _ => by
  rw [T.run_bind_of n1]
  cases t1 : trimB a.2.1 with
  | false => rfl
  | true =>
   rw [T.run_ite_f (by rfl), T.run_bind_of n2]
   cases t2 : trimB a.2.2.1 with
   | false => rfl
   | true =>
    rw [T.run_ite_f (by rfl), hzD t2]
    cases nv a.2.2.1 == 0 with
    | true => rfl
    | false =>
     rw [T.run_ite_false, hzN t1]
     cases a.1 with
     | true => rw [T.run_ite_true, T.run_ret]; cases nv a.2.1 == 0 <;> rfl
     | false => rfl
 rw [T.run_bind_of (head true)]
 cases hb : (trimB a.2.1 && (trimB a.2.2.1 && (!(nv a.2.2.1 == 0) && !(a.1 && (nv a.2.1 == 0))))) with
 | false =>
  rw [T.run_ite_t (by rfl), T.run_ret]
  congr 1
  generalize (Nat.gcd (nv a.2.1) (nv a.2.2.1) == 1) = g
  revert hb
  cases trimB a.2.1 <;> cases trimB a.2.2.1 <;> cases (nv a.2.2.1 == 0) <;> cases a.1 <;> cases (nv a.2.1 == 0) <;> simp
 | true =>
  rw [T.run_ite_f (by rfl), T.run_bind_of hg, T.run_bind_of h1']
  have hle : (ofN (Nat.gcd (nv a.2.1) (nv a.2.2.1))).length ≤ 100000001 := by
   simp only [Bool.and_eq_true, Bool.not_eq_true', beq_eq_false_iff_ne] at hb
   have hd : 0 < nv a.2.2.1 := Nat.pos_of_ne_zero hb.2.2.1
   have m1 := ofN_mono (Nat.gcd_le_right (nv a.2.1) hd)
   have m2 := ofN_nv_len h2
   omega
  rw [T.run_bind_of (hc _ hle), T.run_ret]
  congr 1
  have hgc : (cmpI (Nat.gcd (nv a.2.1) (nv a.2.2.1)) 1 == 0) = (Nat.gcd (nv a.2.1) (nv a.2.2.1) == 1) := by
   generalize Nat.gcd (nv a.2.1) (nv a.2.2.1) = g
   unfold cmpI
   by_cases q1 : g < 1
   ·rw [if_pos q1]; simp; omega
   ·by_cases q2 : 1 < g
    ·rw [if_neg q1, if_pos q2]; simp; omega
    ·have : g = 1 := by omega
     subst this; rfl
  rw [hgc]
  revert hb
  generalize (Nat.gcd (nv a.2.1) (nv a.2.2.1) == 1) = g
  cases trimB a.2.1 <;> cases trimB a.2.2.1 <;> cases (nv a.2.2.1 == 0) <;> cases a.1 <;> cases (nv a.2.1 == 0) <;> simp
def largeB (a : Rat) : Bool := decide (16 < (norm a).2.1.length) || decide (16 < (norm a).2.2.1.length)
theorem rat_Large_run (a : Rat) (h : ratOk 100000000 a) : (rat_Large a).run = some (largeB a) := by
 unfold rat_Large largeB
 rw [T.run_bind_of (rat_norm a h), T.run_ret]
 congr 2
 ·exact decide_eq_decide.2 (by omega)
 ·exact decide_eq_decide.2 (by omega)
end Go.AM.Lf
namespace Go.AM.Lf
open PL
def isNumB (a : Rat) : Bool := isRb a && (!a.1 && (!largeB a && (exactS (norm a).1 (nv (norm a).2.1) (nv (norm a).2.2.1) 0 61).2))
def isNoneB (a : Rat) : Bool := !a.1 && (a.2.1.isEmpty && (a.2.2.1.isEmpty || isRb a))
def kidsN (k : Int) : Int := if k = 1 ∨ k = 2 then 0 else if k = 7 then 1 else if k = 3 ∨ k = 4 ∨ k = 5 ∨ k = 6 then 2 else -1
def nodeB (e : Expr) : Bool := ((e.kids.length : Int) == kidsN e.kind) && (if e.kind = 1 then isNumB e.num && strEq e.name [] else if e.kind = 2 then isNoneB e.num && nameOk e.name else isNoneB e.num && strEq e.name [])
mutual
def ndE : Expr → Nat
 | .mk _ _ _ l => 1 + ndEs l
def ndEs : List Expr → Nat
 | [] => 0
 | e :: r => ndE e + ndEs r
end
mutual
def okE (deep : Nat) : Expr → Bool
 | .mk k n s l => decide (deep < 32) && (nodeB (.mk k n s l) && okEs (deep + 1) l)
def okEs (deep : Nat) : List Expr → Bool
 | [] => true
 | e :: r => okE deep e && okEs deep r
end
theorem ndEs_len : ∀ (l : List Expr), l.length ≤ ndEs l
 | [] => Nat.le_refl _
 | .mk _ _ _ k :: r => by
  have := ndEs_len r
  unfold ndEs ndE
  simp only [List.length_cons]; omega
theorem ndEs_mem {e : Expr} : ∀ {l : List Expr}, e ∈ l → ndE e ≤ ndEs l
 | [], h => by cases h
 | x :: r, h => by
  unfold ndEs
  rcases List.mem_cons.1 h with rfl | h
  ·omega
  ·have := ndEs_mem h; omega
mutual
/-- How many nodes are looked at. -/
def visE (deep : Nat) : Expr → Nat
 | .mk k n s l => 1 + if (decide (deep < 32) && nodeB (.mk k n s l)) = true then visEs (deep + 1) l else 0
def visEs (deep : Nat) : List Expr → Nat
 | [] => 0
 | e :: r => visE deep e + if okE deep e = true then visEs deep r else 0
end
mutual
theorem visE_le : ∀ (e : Expr) (deep : Nat), visE deep e ≤ ndE e
 | .mk k n s l, deep => by
  have := visEs_le l (deep + 1)
  unfold visE ndE
  split <;> omega
theorem visEs_le : ∀ (l : List Expr) (deep : Nat), visEs deep l ≤ ndEs l
 | [], _ => Nat.le_refl _
 | e :: r, deep => by
  have h1 := visE_le e deep
  have h2 := visEs_le r deep
  unfold visEs ndEs
  split <;> omega
end
mutual
theorem ndE_sz : ∀ (e : Expr), 3 * ndE e ≤ szE e
 | .mk k n s l => by
  have := ndEs_sz l
  unfold ndE szE
  omega
theorem ndEs_sz : ∀ (l : List Expr), 3 * ndEs l ≤ szEs l
 | [] => Nat.le_refl _
 | e :: r => by
  have h1 := ndE_sz e
  have h2 := ndEs_sz r
  unfold ndEs szEs
  omega
end
def numOk (a : Rat) : Prop := ratOk 100 a
mutual
def allOk : Expr → Prop
 | .mk _ n _ l => numOk n ∧ allOks l
def allOks : List Expr → Prop
 | [] => True
 | e :: r => allOk e ∧ allOks r
end
theorem allOks_mem {l : List Expr} (h : allOks l) : ∀ e ∈ l, allOk e := by
 induction l with
 | nil => intro e he; cases he
 | cons x r ih =>
  intro e he
  rcases List.mem_cons.1 he with rfl | he
  ·exact h.1
  ·exact ih h.2 e he
mutual
theorem allOk_of : ∀ (e : Expr), wfE e → szE e ≤ 800 → allOk e
 | .mk k n s l, hw, hs => by
  unfold szE at hs
  have hw' : wf exprF (Expr.mk k n s l).flds := (wf_flds _).2 hw
  obtain ⟨_, hn, _, hl, _⟩ := hw'
  obtain ⟨r1, r2⟩ := rat_wf hn
  have r1 : limbs n.2.1 := r1
  have r2 : limbs n.2.2.1 := r2
  refine ⟨⟨r1, r2, by omega, by omega⟩, allOks_of l (fun e he => hl e he) (by omega)⟩
theorem allOks_of : ∀ (l : List Expr), (∀ e ∈ l, wfE e) → szEs l ≤ 800 → allOks l
 | [], _, _ => trivial
 | e :: r, hw, hs => by
  unfold szEs at hs
  exact ⟨allOk_of e (hw e List.mem_cons_self) (by omega), allOks_of r (fun x hx => hw x (List.mem_cons_of_mem _ hx)) (by omega)⟩
end
theorem isNone_run (a : Rat) (h : numOk a) : (expr_isNone a).run = some (isNoneB a) := by
 unfold expr_isNone isNoneB
 have hr := rat_Is_run a (ok_up h (by omega))
 have e : ∀ l : List Int, (((l.length : Int)) == 0) = l.isEmpty := fun l => by cases l <;> simp; omega
 rw [e, e]
 cases a.1 with
 | true => rfl
 | false =>
  rw [T.run_ite_t (by rfl)]
  cases a.2.1.isEmpty with
  | false => rfl
  | true =>
   rw [T.run_ite_true]
   cases a.2.2.1.isEmpty with
   | true => rfl
   | false => rw [T.run_ite_false, T.run_bind_of hr, T.run_ret]; rfl
theorem isNum_run (a : Rat) (h : numOk a) : (expr_isNum a).run = some (isNumB a) := by
 unfold expr_isNum isNumB
 have hr := rat_Is_run a (ok_up h (by omega))
 have hl := rat_Large_run a (ok_up h (by omega))
 have he := dec_Exact_run a (ok_up h (by omega))
 have head : ((T.bind (rat_Is a) fun r => .ite (!r) (.ret true) (.ite a.1 (.ret true) (T.bind (rat_Large a) fun r1 => .ret r1))) : T Bool).run = some (!(isRb a && (!a.1 && !largeB a))) := by
  rw [T.run_bind_of hr]
  cases isRb a with
  | false => rfl
  | true =>
   rw [T.run_ite_f (by rfl)]
   cases a.1 with
   | true => rfl
   | false => rw [T.run_ite_false, T.run_bind_of hl, T.run_ret]; simp
 rw [T.run_bind_of head]
 cases q : (isRb a && (!a.1 && !largeB a)) with
 | false =>
  rw [T.run_ite_t (by rfl), T.run_ret]
  congr 1
  revert q
  cases isRb a <;> cases a.1 <;> cases largeB a <;> simp
 | true =>
  rw [T.run_ite_f (by rfl), T.run_bind_of he]
  generalize exactS (norm a).1 (nv (norm a).2.1) (nv (norm a).2.2.1) 0 61 = x
  obtain ⟨x1, x2⟩ := x
  dsimp only
  rw [T.run_ret]
  congr 1
  revert q
  cases isRb a <;> cases a.1 <;> cases largeB a <;> simp
theorem kids_run (k : Int) : (expr_kids k).run = some (kidsN k) := by
 unfold expr_kids kidsN
 by_cases h1 : k = 1
 ·subst h1; rfl
 by_cases h2 : k = 2
 ·subst h2; rfl
 by_cases h7 : k = 7
 ·subst h7; rfl
 by_cases h3 : k = 3
 ·subst h3; rfl
 by_cases h4 : k = 4
 ·subst h4; rfl
 by_cases h5 : k = 5
 ·subst h5; rfl
 by_cases h6 : k = 6
 ·subst h6; rfl
 ·simp [h1, h2, h3, h4, h5, h6, h7]
theorem isNode_run (e : Expr) (h : numOk e.num) : (expr_isNode e).run = some (nodeB e) := by
 unfold expr_isNode nodeB
 rw [T.run_bind_of (kids_run _)]
 have hN := isNum_run e.num h
 have h0 := isNone_run e.num h
 have hn := Name_run e.name
 cases q : ((e.kids.length : Int) == kidsN e.kind) with
 | false => rw [T.run_ite_t (by rw [bne, q]; rfl), T.run_ret]; rfl
 | true =>
  rw [T.run_ite_f (by rw [bne, q]; rfl), Bool.true_and]
  by_cases h1 : e.kind = 1
  ·rw [if_pos h1, T.run_ite_t (by rw [h1]; rfl), T.run_bind_of hN]
   cases isNumB e.num with
   | true => rw [T.run_ite_true, T.run_ret]; rfl
   | false => rw [T.run_ite_false, T.run_ret]; rfl
  ·rw [if_neg h1, T.run_ite_f (by simpa using h1)]
   by_cases h2 : e.kind = 2
   ·rw [if_pos h2, T.run_ite_t (by rw [h2]; rfl), T.run_bind_of h0]
    cases isNoneB e.num with
    | true => rw [T.run_ite_true, T.run_bind_of hn, T.run_ret]; rfl
    | false => rw [T.run_ite_false, T.run_ret]; rfl
   ·rw [if_neg h2, T.run_ite_f (by simpa using h2), T.run_bind_of h0]
    cases isNoneB e.num with
    | true => rw [T.run_ite_true, T.run_ret]; rfl
    | false => rw [T.run_ite_false, T.run_ret]; rfl
theorem may_run (e : Expr) (deep left : Nat) (h : allOk e) (hl : ndE e ≤ left) (hl2 : left ≤ 100000) (hd : deep ≤ 32) : (expr_may_S e (deep : Int) (left : Int)).run = some (okE deep e, ((left - visE deep e : Nat) : Int)) := by
 unfold expr_may_S
 refine T.fix_run (fun x : Expr × Int × Int => allOk x.1 ∧ 0 ≤ x.2.1 ∧ x.2.1 ≤ 32 ∧ (ndE x.1 : Int) ≤ x.2.2 ∧ x.2.2 ≤ 100000) (fun x => ndE x.1) (fun x => (okE x.2.1.toNat x.1, ((x.2.2.toNat - visE x.2.1.toNat x.1 : Nat) : Int))) (fun x hx g hg => ?_) (x := (e, (deep : Int), (left : Int))) ⟨h, by dsimp only; omega, by dsimp only; omega, by dsimp only; omega, by dsimp only; omega⟩
 obtain ⟨e, d, lf⟩ := x
 obtain ⟨ha, hd0, hd1, hn, hlf⟩ := hx
 dsimp only at ha hd0 hd1 hn hlf
 obtain ⟨D, rfl⟩ : ∃ D : Nat, d = (D : Int) := ⟨d.toNat, by omega⟩
 obtain ⟨L, rfl⟩ : ∃ L : Nat, lf = (L : Int) := ⟨lf.toNat, by omega⟩
 cases e with | mk k n s kids =>
 obtain ⟨hnum, hkids⟩ := ha
 have hnd : ndE (.mk k n s kids) = 1 + ndEs kids := by unfold ndE; rfl
 rw [hnd] at hn
 have hv := visEs_le kids (D + 1)
 have ew : w64 ((L : Int) - 1) = ((L - 1 : Nat) : Int) := by rw [w64_in (by omega) (by omega)]; omega
 have hnode := isNode_run (.mk k n s kids) hnum
 simp only [Int.toNat_natCast]
 unfold expr_may_S_B
 rw [ew]
 have head : ((.ite (decide (((L - 1 : Nat) : Int) < (0 : Int))) (.ret (true, ((L - 1 : Nat) : Int))) (.ite (decide ((32 : Int) ≤ (D : Int))) (.ret (true, ((L - 1 : Nat) : Int))) (T.bind (expr_isNode (.mk k n s kids)) fun r => .ret ((!r), ((L - 1 : Nat) : Int))))) : T (Bool × Int)).run =
   some (!(decide (D < 32) && nodeB (.mk k n s kids)), ((L - 1 : Nat) : Int)) := by
  rw [T.run_ite_f (decide_eq_false (by omega))]
  by_cases c : D < 32
  ·rw [T.run_ite_f (decide_eq_false (by omega)), T.run_bind_of hnode, T.run_ret, decide_eq_true c, Bool.true_and]
  ·rw [T.run_ite_t (decide_eq_true (by omega)), T.run_ret, decide_eq_false c]; rfl
 rw [T.run_bind_of head]
 dsimp only
 unfold okE visE
 cases q : (decide (D < 32) && nodeB (.mk k n s kids)) with
 | false =>
  rw [T.run_ite_t (by rfl), T.run_ret, if_neg (by simp), ← Bool.and_assoc, q, Bool.false_and]
 | true =>
  rw [T.run_ite_f (by rfl), if_pos rfl, ← Bool.and_assoc, q, Bool.true_and]
  have hD : D < 32 := by
   simp only [Bool.and_eq_true, decide_eq_true_eq] at q
   exact q.1
  have ed : w64 ((D : Int) + 1) = ((D + 1 : Nat) : Int) := by rw [w64_in (by omega) (by omega)]; omega
  have loop : ∃ z, (slices_IndexFunc_sl_Expr_expr_may_f1_S_L0 (fun y0 y1 y2 => g (y0, y1, y2)) kids (kids.length : Int) (((D : Int), ()), ((0 : Int), ((L - 1 : Nat) : Int)))).run = some z ∧
    ((okEs (D + 1) kids = true ∧ z = .inl ((L - 1 - visEs (D + 1) kids : Nat) : Int)) ∨ (okEs (D + 1) kids = false ∧ ∃ i : Int, 0 ≤ i ∧ z = .inr (i, ((L - 1 - visEs (D + 1) kids : Nat) : Int)))) := by
   refine T.loop_post (r := slices_IndexFunc_sl_Expr_expr_may_f1_S_R0 (fun y0 y1 y2 => g (y0, y1, y2)) kids (kids.length : Int)) (fun st : (Int × Unit) × Int × Int => ∃ (j B : Nat), st = (((D : Int), ()), (j : Int), (B : Int)) ∧ j ≤ kids.length ∧ B ≤ 100000 ∧ ndEs (kids.drop j) ≤ B ∧
    B - visEs (D + 1) (kids.drop j) = L - 1 - visEs (D + 1) kids ∧ okEs (D + 1) (kids.drop j) = okEs (D + 1) kids) (fun st => kids.length - st.2.1.toNat) _ (fun st hst => ?_) ⟨0, L - 1, rfl, by omega, by omega, by rw [List.drop_zero]; omega, by rw [List.drop_zero], by rw [List.drop_zero]⟩
   obtain ⟨j, B, rfl, hj, hB, hnB, hvB, hoB⟩ := hst
   by_cases c : j < kids.length
   ·have hdr : kids.drop j = kids[j] :: kids.drop (j + 1) := List.drop_eq_getElem_cons c
    rw [hdr] at hnB hvB hoB
    rw [show ndEs (kids[j] :: kids.drop (j + 1)) = ndE kids[j] + ndEs (kids.drop (j + 1)) from rfl] at hnB
    rw [show visEs (D + 1) (kids[j] :: kids.drop (j + 1)) = visE (D + 1) kids[j] + if okE (D + 1) kids[j] = true then visEs (D + 1) (kids.drop (j + 1)) else 0 from rfl] at hvB
    rw [show okEs (D + 1) (kids[j] :: kids.drop (j + 1)) = (okE (D + 1) kids[j] && okEs (D + 1) (kids.drop (j + 1))) from rfl] at hoB
    have hmem := allOks_mem hkids _ (List.getElem_mem c)
    have hle1 := visE_le kids[j] (D + 1)
    have hsub : ndE kids[j] < 1 + ndEs kids := by have := ndEs_mem (List.getElem_mem c); omega
    have hrec := hg (kids[j], ((D + 1 : Nat) : Int), (B : Int)) ⟨hmem, by dsimp only; omega, by dsimp only; omega, by dsimp only; omega, by dsimp only; omega⟩ (by dsimp only; rw [hnd]; exact hsub)
    dsimp only at hrec
    simp only [Int.toNat_natCast] at hrec
    have hf : (expr_may_f1_S (fun y0 y1 y2 => g (y0, y1, y2)) kids[j] (D : Int) (B : Int)).run = some (!okE (D + 1) kids[j], ((B - visE (D + 1) kids[j] : Nat) : Int)) := by
     unfold expr_may_f1_S
     rw [ed, T.run_bind_of hrec]; rfl
    unfold slices_IndexFunc_sl_Expr_expr_may_f1_S_R0
    dsimp only
    rw [T.run_ite_t (lt_t c), T.run_obl (idx_ok c), nth_at c, T.run_bind_of hf]
    dsimp only
    cases hk : okE (D + 1) kids[j] with
    | true =>
     left
     rw [hk, if_pos rfl] at hvB
     rw [hk, Bool.true_and] at hoB
     rw [T.run_ite_f (by rfl), T.run_ret]
     have hlen := ndEs_len kids
     rw [ix1 j _ c (by omega)]
     refine ⟨_, rfl, ⟨j + 1, B - visE (D + 1) kids[j], rfl, c, by omega, by omega, by omega, hoB⟩, ?_⟩
     simp only [Int.toNat_natCast]
     omega
    | false =>
     right
     rw [hk, if_neg (by simp), Nat.add_zero] at hvB
     rw [hk, Bool.false_and] at hoB
     rw [T.run_ite_t (by rfl), T.run_ret]
     exact ⟨_, rfl, .inr ⟨hoB.symm, (j : Int), by omega, by rw [hvB]⟩⟩
   ·right
    have hj2 : j = kids.length := by omega
    subst hj2
    rw [List.drop_length] at hvB hoB
    unfold slices_IndexFunc_sl_Expr_expr_may_f1_S_R0
    dsimp only
    rw [T.run_ite_f (lt_f _), T.run_ret]
    exact ⟨_, rfl, .inl ⟨hoB.symm, by rw [← hvB]; rfl⟩⟩
  obtain ⟨z, hz, hc⟩ := loop
  have hcf : (slices_ContainsFunc_sl_Expr_expr_may_f1_S (fun y0 y1 y2 => g (y0, y1, y2)) kids ((D : Int), ()) ((L - 1 : Nat) : Int)).run = some (!okEs (D + 1) kids, ((L - 1 - visEs (D + 1) kids : Nat) : Int)) := by
   unfold slices_ContainsFunc_sl_Expr_expr_may_f1_S slices_IndexFunc_sl_Expr_expr_may_f1_S
   rcases hc with ⟨ho, rfl⟩ | ⟨ho, i, hi, rfl⟩
   ·have : ((T.bind (slices_IndexFunc_sl_Expr_expr_may_f1_S_L0 (fun y0 y1 y2 => g (y0, y1, y2)) kids (kids.length : Int) (((D : Int), ()), ((0 : Int), ((L - 1 : Nat) : Int)))) <| Sum.elim (fun v2 => .ret ((-1 : Int), v2)) (fun (x2, v3) => .ret (x2, v3))) : T (Int × Int)).run = some (-1, ((L - 1 - visEs (D + 1) kids : Nat) : Int)) := by
     rw [T.run_bind_of hz]; rfl
    rw [T.run_bind_of this, ho]; rfl
   ·have : ((T.bind (slices_IndexFunc_sl_Expr_expr_may_f1_S_L0 (fun y0 y1 y2 => g (y0, y1, y2)) kids (kids.length : Int) (((D : Int), ()), ((0 : Int), ((L - 1 : Nat) : Int)))) <| Sum.elim (fun v2 => .ret ((-1 : Int), v2)) (fun (x2, v3) => .ret (x2, v3))) : T (Int × Int)).run = some (i, ((L - 1 - visEs (D + 1) kids : Nat) : Int)) := by
     rw [T.run_bind_of hz]; rfl
    rw [T.run_bind_of this, ho, T.run_ret, decide_eq_true hi]; rfl
  rw [show Expr.kids (.mk k n s kids) = kids from rfl, T.run_bind_of hcf]
  dsimp only
  rw [T.run_ret, Bool.not_not]
  congr 3
  omega
theorem Is_run (e : Expr) (h : allOk e) (hn : ndE e ≤ 256) : (expr_Is e).run = some (okE 0 e) := by
 unfold expr_Is
 have := may_run e 0 256 h hn (by omega) (by omega)
 have this : (expr_may_S e 0 256).run = some (okE 0 e, ((256 - visE 0 e : Nat) : Int)) := this
 rw [T.run_bind_of this]; rfl
end Go.AM.Lf
namespace Go.AM.Lf
open PL
def dd (acc : List Str) (xs : List Str) : List Str := xs.foldl (fun b x => if x ∈ b then b else b ++ [x]) acc
theorem dd_nil (acc : List Str) : dd acc [] = acc := rfl
theorem dd_cons (acc : List Str) (x : Str) (r : List Str) : dd acc (x :: r) = dd (if x ∈ acc then acc else acc ++ [x]) r := rfl
theorem dd_append (acc a b : List Str) : dd acc (a ++ b) = dd (dd acc a) b := by unfold dd; rw [List.foldl_append]
theorem dd_mem (acc xs : List Str) (x : Str) : x ∈ dd acc xs ↔ x ∈ acc ∨ x ∈ xs := by
 induction xs generalizing acc with
 | nil => simp [dd_nil]
 | cons y r ih =>
  rw [dd_cons, ih, List.mem_cons]
  by_cases h : y ∈ acc
  ·rw [if_pos h]
   constructor
   ·rintro (a | b); exact .inl a; exact .inr (.inr b)
   ·rintro (a | b | c); exact .inl a; exact .inl (b ▸ h); exact .inr c
  ·rw [if_neg h, List.mem_append, List.mem_singleton, or_assoc]
theorem dd_once_gen (b s xs : List Str) : dd b (dd s xs) = dd (dd b s) xs := by
 induction xs generalizing s with
 | nil => rfl
 | cons y r ih =>
  rw [dd_cons, ih, dd_cons]
  by_cases h : y ∈ s
  ·rw [if_pos h, if_pos ((dd_mem b s y).2 (.inr h))]
  ·rw [if_neg h, dd_append, dd_cons, dd_nil]
theorem dd_once (b xs : List Str) : dd b (dd [] xs) = dd b xs := by rw [dd_once_gen, dd_nil]
end Go.AM.Lf
namespace Go.AM.PL
def splitL : Str → List Str × Str
 | [] => ([], [])
 | b :: r => if b = 10 then ([] :: (splitL r).1, (splitL r).2) else match (splitL r).1 with
  | [] => ([], b :: (splitL r).2)
  | l :: ls => ((b :: l) :: ls, (splitL r).2)
end Go.AM.PL
namespace Go.AM.Lf
open PL
def numO (u : Str) : Option Rat := if 400 < u.length then none else (decP u).map fun p => ratN (List.isPrefixOf [45] u) p.1 p.2
def itemO (t : Str) : Option ItT := match numO (cutSt t [32]).2.1 with
 | some r => if nameOk (cutSt t [32]).1 = true then some ((cutSt t [32]).1, r, ()) else none
 | none => none
def itemsO : List Str → Option (List ItT)
 | [] => some []
 | t :: r => match itemO t with
  | some x => (itemsO r).map (x :: ·)
  | none => none
theorem ref5_Name_run (s : Str) : (ref5_Name s).run = some (nameOk s) := by
 have hL : ∀ b : UInt8, (ref5_letter (b.toNat : Int)).run = some (isL b) := fun _ => rfl
 have hD : ∀ b : UInt8, (ref5_digit (b.toNat : Int)).run = some (decide (48 ≤ (b.toNat : Int)) && decide ((b.toNat : Int) ≤ 57)) := fun _ => rfl
 unfold ref5_Name
 cases s with
 | nil => rfl
 | cons b r =>
  by_cases c : 24 < (b :: r).length
  ·have : (T.ite (decide (((b :: r).length : Int) < (1 : Int))) (.ret true) (.ite (decide ((24 : Int) < ((b :: r).length : Int))) (.ret true) (.obl (idxOk (0 : Int) (List.length (b :: r))) <| T.bind (ref5_letter (byteAt (b :: r) (0 : Int))) fun r => .ret (!r))) : T Bool).run = some true := by
    rw [T.run_ite_f (decide_eq_false (by omega)), T.run_ite_t (decide_eq_true (by omega)), T.run_ret]
   rw [T.run_bind_of this, T.run_ite_true, T.run_ret]
   unfold nameOk
   rw [decide_eq_false (by omega)]; rfl
  ·have hb : byteAt (b :: r) (0 : Int) = (b.toNat : Int) := byteAt_get (s := b :: r) (k := 0) (by simp)
   have : (T.ite (decide (((b :: r).length : Int) < (1 : Int))) (.ret true) (.ite (decide ((24 : Int) < ((b :: r).length : Int))) (.ret true) (.obl (idxOk (0 : Int) (List.length (b :: r))) <| T.bind (ref5_letter (byteAt (b :: r) (0 : Int))) fun r => .ret (!r))) : T Bool).run = some (!isL b) := by
    rw [T.run_ite_f (decide_eq_false (by simp only [List.length_cons]; omega)), T.run_ite_f (decide_eq_false (by omega)), T.run_obl (by refine ⟨by omega, ?_⟩; simp only [List.length_cons]; omega), hb, T.run_bind_of (hL b), T.run_ret]
   rw [T.run_bind_of this]
   unfold nameOk
   dsimp only
   rw [decide_eq_true (by omega), Bool.true_and]
   cases hbl : isL b with
   | false => rw [T.run_ite_t (by rfl), T.run_ret]; rfl
   | true =>
    rw [T.run_ite_f (by rfl), Bool.true_and]
    have hbi : isIn b = true := by unfold isIn; rw [hbl]; rfl
    have key : (ref5_Name_L0 (b :: r) 1).run = some (if r.all isIn = true then .inl () else .inr false) := by
     have hloop := T.loop_run (r := ref5_Name_R0 (b :: r)) (fun i => ∃ k : Nat, i = ((k + 1 : Nat) : Int) ∧ k ≤ r.length) (fun i => ((b :: r).length : Int).toNat - i.toNat) (fun i => if (r.drop (i.toNat - 1)).all isIn = true then .inl () else .inr false) (fun i hi => ?_) (s := 1) ⟨0, rfl, by omega⟩
     ·exact hloop
     ·obtain ⟨k, rfl, hk⟩ := hi
      have ek : ((k + 1 : Nat) : Int).toNat - 1 = k := by omega
      by_cases q : k < r.length
      ·have hq : k + 1 < (b :: r).length := by simp only [List.length_cons]; omega
       have hbk : byteAt (b :: r) ((k + 1 : Nat) : Int) = (r[k].toNat : Int) := by rw [byteAt_get hq]; rfl
       have hdrop : r.drop k = r[k] :: r.drop (k + 1) := List.drop_eq_getElem_cons q
       have hin : ((.obl (idxOk ((k + 1 : Nat) : Int) (List.length (b :: r))) <| T.bind (ref5_letter (byteAt (b :: r) ((k + 1 : Nat) : Int))) fun r1 =>
         .ite (!r1) (.obl (idxOk ((k + 1 : Nat) : Int) (List.length (b :: r))) <| T.bind (ref5_digit (byteAt (b :: r) ((k + 1 : Nat) : Int))) fun r2 =>
           .ite (!r2) (.obl (idxOk ((k + 1 : Nat) : Int) (List.length (b :: r))) <| .ret ((byteAt (b :: r) ((k + 1 : Nat) : Int)) != (95 : Int))) (.ret false)) (.ret false)) : T Bool).run = some (!isIn r[k]) := by
        rw [T.run_obl (idx_ok hq), hbk, T.run_bind_of (hL _)]
        unfold isIn
        cases isL r[k] with
        | true => rfl
        | false =>
         rw [T.run_ite_t (by rfl), T.run_obl (idx_ok hq), T.run_bind_of (hD _)]
         cases (decide (48 ≤ (r[k].toNat : Int)) && decide ((r[k].toNat : Int) ≤ 57)) with
         | true => rfl
         | false => rw [T.run_ite_t (by rfl), T.run_obl (idx_ok hq), T.run_ret]; rfl
       cases hik : isIn r[k] with
       | true =>
        left
        refine ⟨((k + 1 + 1 : Nat) : Int), ?_, ⟨k + 1, rfl, q⟩, by simp only [List.length_cons]; omega, ?_⟩
        ·unfold ref5_Name_R0
         rw [T.run_ite_t (lt_t hq), T.run_bind_of hin, hik, T.run_ite_f (by rfl), T.run_ret, ix1 (k + 1) _ hq (by omega)]
        ·rw [ek, hdrop, List.all_cons, hik, Bool.true_and, show ((k + 1 + 1 : Nat) : Int).toNat - 1 = k + 1 by omega]
       | false =>
        right
        unfold ref5_Name_R0
        rw [T.run_ite_t (lt_t hq), T.run_bind_of hin, hik, T.run_ite_t (by rfl), T.run_ret, ek, hdrop, List.all_cons, hik]
        rfl
      ·right
       have hk2 : k = r.length := by omega
       unfold ref5_Name_R0
       rw [T.run_ite_f (decide_eq_false (by simp only [List.length_cons]; omega)), T.run_ret, ek, hk2, List.drop_length]; rfl
    rw [T.run_bind_of key, List.all_cons, hbi, Bool.true_and]
    cases h : r.all isIn with
    | true => rfl
    | false => rfl
def encE (l : List ItT) : Str := l.flatMap itemS
def decS (s : Str) : List ItT × Int := match itemsO (splitL s).1 with
 | some ys => if encE ys = s then (ys, 0) else ([], 2)
 | none => ([], 2)
end Go.AM.Lf
namespace Go.AM.Lf
open PL
theorem ratB (a b : Rat) : ((a.1 == b.1) && ((a.2.1 == b.2.1) && (a.2.2.1 == b.2.2.1))) = true ↔ a = b := by
 obtain ⟨a1, a2, a3, ⟨⟩⟩ := a
 obtain ⟨b1, b2, b3, ⟨⟩⟩ := b
 simp only [Bool.and_eq_true, beq_iff_eq, Prod.mk.injEq, and_true]
theorem isRb_iff (a : Rat) (h1 : limbs a.2.1) (h2 : limbs a.2.2.1) : isRb a = true ↔ norm a = a := by
 unfold isRb norm
 obtain ⟨b, N, D, ⟨⟩⟩ := a
 dsimp only at h1 h2 ⊢
 simp only [Bool.and_eq_true, Bool.not_eq_true', beq_eq_false_iff_ne, beq_iff_eq, Bool.and_eq_false_imp]
 constructor
 ·rintro ⟨t1, t2, hd, hn, hg⟩
  have eN : ofN (nv N) = N := ofN_nv h1 ((trimB_iff h1).1 t1)
  have eD : ofN (nv D) = D := ofN_nv h2 ((trimB_iff h2).1 t2)
  unfold ratN
  by_cases c : nv N = 0
  ·rw [if_pos (.inl c)]
   rw [c, Nat.gcd_zero_left] at hg
   rw [c, ofN_zero] at eN
   rw [hg, ofN_one] at eD
   cases b with
   | true => exact absurd c (hn rfl)
   | false => rw [← eN, ← eD]
  ·rw [if_neg (by rintro (h | h); exact c h; exact hd h), hg, Nat.div_one, Nat.div_one, eN, eD]
 ·intro e
  unfold ratN at e
  by_cases c : nv N = 0 ∨ nv D = 0
  ·rw [if_pos c] at e
   simp only [Prod.mk.injEq, and_true] at e
   obtain ⟨rfl, rfl, rfl⟩ := e
   refine ⟨by rw [trimB_iff h1]; exact trimd_nil, ?_, by decide, by simp, by decide⟩
   rw [trimB_iff h2, ← ofN_one]; exact trimd_ofN _
  ·rw [if_neg c] at e
   simp only [Prod.mk.injEq, and_true, true_and] at e
   obtain ⟨e1, e2⟩ := e
   simp only [not_or] at c
   have v1 : nv N = nv N / Nat.gcd (nv N) (nv D) := by conv => lhs; rw [← e1, nv_ofN]
   refine ⟨by rw [trimB_iff h1, ← e1]; exact trimd_ofN _, by rw [trimB_iff h2, ← e2]; exact trimd_ofN _, c.2, fun _ => c.1, ?_⟩
   have hp : 0 < nv N := Nat.pos_of_ne_zero c.1
   by_cases g : Nat.gcd (nv N) (nv D) = 1
   ·exact g
   ·have hg0 : 0 < Nat.gcd (nv N) (nv D) := Nat.gcd_pos_of_pos_left _ hp
    have := Nat.div_lt_self hp (by omega : 1 < Nat.gcd (nv N) (nv D))
    omega
theorem limbsB_run (a b : List Int) (la : a.length ≤ 1000000000) : (ref2_limbs a b).run = some (a == b) := by
 unfold ref2_limbs
 by_cases hlen : a.length = b.length
 ·have key : (ref2_limbs_L0 a b 0).run = some (if a = b then .inl () else .inr false) := by
   have h := T.loop_run (r := ref2_limbs_R0 a b) (fun i => ∃ k : Nat, i = (k : Int) ∧ k ≤ a.length) (fun i => a.length - i.toNat) (fun i => if a.drop i.toNat = b.drop i.toNat then .inl () else .inr false) (fun i hi => ?_) (s := 0) ⟨0, rfl, by omega⟩
   ·unfold ref2_limbs_L0; simpa using h
   ·obtain ⟨k, rfl, hk⟩ := hi
    by_cases c : k < a.length
    ·have cb : k < b.length := by omega
     have ea : a.drop k = a[k] :: a.drop (k + 1) := List.drop_eq_getElem_cons c
     have eb : b.drop k = b[k] :: b.drop (k + 1) := List.drop_eq_getElem_cons cb
     have ek : ((k : Nat) : Int).toNat = k := rfl
     have hiff : (a.drop k = b.drop k) ↔ (a[k] = b[k] ∧ a.drop (k + 1) = b.drop (k + 1)) := by rw [ea, eb, List.cons.injEq]
     have ek1 : ((k + 1 : Nat) : Int).toNat = k + 1 := rfl
     by_cases q : a[k] = b[k]
     ·left
      refine ⟨((k + 1 : Nat) : Int), ?_, ⟨k + 1, rfl, c⟩, by omega, ?_⟩
      ·unfold ref2_limbs_R0
       rw [T.run_ite_t (lt_t c), T.run_obl (idx_ok c), T.run_obl (idx_ok cb), nth_at c, nth_at cb, T.run_ite_f (by simp [q]), T.run_ret, ix1 k _ c (by omega)]
      ·simp only [ek, ek1, hiff, q, true_and]
     ·right
      unfold ref2_limbs_R0
      rw [T.run_ite_t (lt_t c), T.run_obl (idx_ok c), T.run_obl (idx_ok cb), nth_at c, nth_at cb, T.run_ite_t (by simp [q]), T.run_ret, ek, if_neg (by rw [hiff]; exact fun h => q h.1)]
    ·right
     have hk2 : k = a.length := by omega
     unfold ref2_limbs_R0
     rw [T.run_ite_f (decide_eq_false (by omega)), T.run_ret, hk2]
     simp [hlen]
  rw [T.run_ite_f (by rw [hlen]; simp), T.run_bind_of key]
  by_cases e : a = b
  ·rw [if_pos e, e]; simp
  ·rw [if_neg e]
   have : (a == b) = false := by simpa using e
   rw [this]; rfl
 ·have e : (a == b) = false := by
   rw [beq_eq_false_iff_ne]
   intro e; exact hlen (by rw [e])
  rw [T.run_ite_t (by simp; omega), T.run_ret, e]
theorem ref2_Is_run (a : Rat) (h : ratOk 100000000 a) : (ref2_Is a).run = some (isRb a) := by
 unfold ref2_Is
 have hb : isRb a = ((a.1 == (norm a).1) && ((a.2.1 == (norm a).2.1) && (a.2.2.1 == (norm a).2.2.1))) := by
  rw [Bool.eq_iff_iff, isRb_iff a h.1 h.2.1, ratB]
  exact ⟨fun e => e.symm, fun e => e.symm⟩
 rw [T.run_bind_of (ref2_norm a h), hb]
 cases a.1 == (norm a).1 with
 | false => rfl
 | true =>
  rw [T.run_ite_true, T.run_bind_of (limbsB_run _ _ (by have := h.2.2.1; omega))]
  cases a.2.1 == (norm a).2.1 with
  | false => rfl
  | true => rw [T.run_ite_true, T.run_bind_of (limbsB_run _ _ (by have := h.2.2.2; omega)), T.run_ret]; rfl
theorem ref2_Large_run (a : Rat) (h : ratOk 100000000 a) : (ref2_Large a).run = some (largeB a) := by
 unfold ref2_Large largeB
 rw [T.run_bind_of (ref2_norm a h), T.run_ret]
 congr 2
 ·exact decide_eq_decide.2 (by omega)
 ·exact decide_eq_decide.2 (by omega)
theorem ref2_Good_run (a : Rat) (h : ratOk 100000000 a) : (ref2_Good a).run = some (isRb a && !largeB a) := by
 unfold ref2_Good
 rw [T.run_bind_of (ref2_Is_run a h)]
 cases isRb a with
 | false => rfl
 | true => rw [T.run_ite_true, T.run_bind_of (ref2_Large_run a h), T.run_ret]; rfl
theorem blank_run (a : Rat) (h : numOk a) : (ref5_blank a).run = some (isNoneB a) := by
 unfold ref5_blank isNoneB
 have hr := ref2_Is_run a (ok_up h (by omega))
 have e : ∀ l : List Int, (((l.length : Int)) == 0) = l.isEmpty := fun l => by cases l <;> simp; omega
 rw [e, e]
 cases a.1 with
 | true => rfl
 | false =>
  rw [T.run_ite_t (by rfl)]
  cases a.2.1.isEmpty with
  | false => rfl
  | true =>
   rw [T.run_ite_true]
   cases a.2.2.1.isEmpty with
   | true => rfl
   | false => rw [T.run_ite_false, T.run_bind_of hr, T.run_ret]; rfl
theorem one_loop (g : Expr × Int → T Bool) (kids : List Expr) (k0 : Int) (n0 : Rat) (s0 : Str) (D : Nat) (hl : kids.length ≤ 100000)
  (hg : ∀ e ∈ kids, (g (e, w64 (((D + 1 : Nat) : Int) + 1))).run = some (okE (D + 1) e)) :
  (ref5_one_L0 (fun y0 y1 => g (y0, y1)) ((D + 1 : Nat) : Int) (.mk k0 n0 s0 kids) (kids.length : Int) 0).run = some (if okEs (D + 1) kids = true then .inl () else .inr false) := by
 refine T.loop_scan (r := ref5_one_R0 (fun y0 y1 => g (y0, y1)) ((D + 1 : Nat) : Int) (.mk k0 n0 s0 kids) (kids.length : Int)) kids (dflt .expr) (fun (_ : Unit) i => i) (fun _ _ => True) (fun l _ => (if okEs (D + 1) l = true then .inl () else .inr false : Unit ⊕ Bool)) (fun k _ x xs hk hx hm hd hI => ?_) (fun _ _ => ?_) (b := ()) trivial
 ·have hx' := hg x hm
  have ek : Expr.kids (.mk k0 n0 s0 kids) = kids := rfl
  unfold ref5_one_R0
  rw [T.run_ite_t (lt_t hk), ek, T.run_obl (idx_ok hk), hx, T.run_bind_of hx']
  cases q : okE (D + 1) x with
  | true =>
   left
   refine ⟨(), ?_, trivial, ?_⟩
   ·rw [T.run_ite_f (by rfl), T.run_ret, ix1 k _ hk (by omega)]
   ·show _ = (if (okE (D + 1) x && okEs (D + 1) xs) = true then _ else _)
    rw [q, Bool.true_and]
  | false =>
   right
   rw [T.run_ite_t (by rfl), T.run_ret]
   show _ = some (Sum.inr (if (okE (D + 1) x && okEs (D + 1) xs) = true then _ else _))
   rw [q, Bool.false_and]; rfl
 ·unfold ref5_one_R0
  rw [T.run_ite_f (lt_f _), T.run_ret]; rfl
theorem one_run (e : Expr) (deep : Nat) (h : allOk e) (hn : ndE e ≤ 100000) (hd : deep ≤ 32) : (ref5_one e ((deep + 1 : Nat) : Int)).run = some (okE deep e) := by
 unfold ref5_one
 refine T.fix_run (fun x : Expr × Int => allOk x.1 ∧ ndE x.1 ≤ 100000 ∧ 1 ≤ x.2 ∧ x.2 ≤ 33) (fun x => ndE x.1) (fun x => okE (x.2.toNat - 1) x.1) (fun x hx g hg => ?_) (x := (e, ((deep + 1 : Nat) : Int))) ⟨h, hn, by dsimp only; omega, by dsimp only; omega⟩
 obtain ⟨e, d⟩ := x
 obtain ⟨ha, hn, hd0, hd1⟩ := hx
 dsimp only at ha hn hd0 hd1
 obtain ⟨D, rfl⟩ : ∃ D : Nat, d = ((D + 1 : Nat) : Int) := ⟨d.toNat - 1, by omega⟩
 cases e with | mk k n s kids =>
 obtain ⟨hnum, hkids⟩ := ha
 have hnd : ndE (.mk k n s kids) = 1 + ndEs kids := rfl
 have hlen := ndEs_len kids
 have hdd : (((D + 1 : Nat) : Int)).toNat - 1 = D := by omega
 dsimp only
 rw [hdd]
 unfold ref5_one_B
 show _ = some (decide (D < 32) && (nodeB (.mk k n s kids) && okEs (D + 1) kids))
 by_cases c : D < 32
 ·rw [T.run_ite_f (decide_eq_false (by omega)), decide_eq_true c, Bool.true_and]
  have hN := ref3_Exact_run n (ok_up hnum (by omega))
  have hG := ref2_Good_run n (ok_up hnum (by omega))
  have hB := blank_run n hnum
  have hNm := ref5_Name_run s
  have e0 : ∀ m : Nat, (((m : Int)) == 0) = (((m : Int)) == (0 : Int)) := fun _ => rfl
  have hrec : ∀ e ∈ kids, (g (e, w64 (((D + 1 : Nat) : Int) + 1))).run = some (okE (D + 1) e) := fun e he => by
   have hm := ndEs_mem he
   have ew : w64 (((D + 1 : Nat) : Int) + 1) = ((D + 1 + 1 : Nat) : Int) := by rw [w64_in (by omega) (by omega)]; omega
   have := hg (e, ((D + 1 + 1 : Nat) : Int)) ⟨allOks_mem hkids e he, by dsimp only; omega, by dsimp only; omega, by dsimp only; omega⟩ (by dsimp only; rw [hnd]; omega)
   rw [ew, this]
   dsimp only
   rw [show (((D + 1 + 1 : Nat) : Int)).toNat - 1 = D + 1 by omega]
  have hloop := one_loop g kids k n s D (by omega) hrec
  have ekids : Expr.kids (.mk k n s kids) = kids := rfl
  have ekind : Expr.kind (.mk k n s kids) = k := rfl
  have ename : Expr.name (.mk k n s kids) = s := rfl
  have enum_ : Expr.num (.mk k n s kids) = n := rfl
  have tail : ∀ kd : Int, (T.bind (.ite ((Nat.cast (List.length kids) : Int) != kd) (.ret true) (.ite (!(strEq s ([] : Str))) (.ret true) (T.bind (ref5_blank n) fun r4 => .ret (!r4))) : T Bool) fun x1 =>
     .ite x1 (.ret false) (T.bind (ref5_one_L0 (fun y0 y1 => g (y0, y1)) ((D + 1 : Nat) : Int) (.mk k n s kids) kd (0 : Int)) <| Sum.elim (fun _ => .ret true) (fun x2 => .ret x2)) : T Bool).run =
     some (((kids.length : Int) == kd) && ((isNoneB n && strEq s []) && okEs (D + 1) kids)) := by
   intro kd
   have head : (.ite ((Nat.cast (List.length kids) : Int) != kd) (.ret true) (.ite (!(strEq s ([] : Str))) (.ret true) (T.bind (ref5_blank n) fun r4 => .ret (!r4))) : T Bool).run = some (!(((kids.length : Int) == kd) && (isNoneB n && strEq s []))) := by
    cases q : ((kids.length : Int) == kd) with
    | false => rw [T.run_ite_t (by rw [bne, q]; rfl)]; rfl
    | true =>
     rw [T.run_ite_f (by rw [bne, q]; rfl)]
     cases strEq s [] with
     | false => rw [T.run_ite_t (by rfl), T.run_ret, Bool.and_false]; rfl
     | true => rw [T.run_ite_f (by rfl), T.run_bind_of hB, T.run_ret, Bool.and_true, Bool.true_and]
   rw [T.run_bind_of head]
   cases q : ((kids.length : Int) == kd) with
   | false => rfl
   | true =>
    have hkd : kd = (kids.length : Int) := by
     have : (kids.length : Int) = kd := by simpa using q
     exact this.symm
    subst hkd
    rw [Bool.true_and, Bool.true_and]
    cases (isNoneB n && strEq s []) with
    | false => rfl
    | true =>
     rw [T.run_ite_f (by rfl), T.run_bind_of hloop, Bool.true_and]
     cases okEs (D + 1) kids <;> rfl
  unfold nodeB kidsN
  rw [ekids, ekind, ename, enum_]
  by_cases h1 : k = 1
  ·subst h1
   have head : (T.bind (ref3_Exact n) fun (r, ok) => .ite ((Nat.cast (List.length kids) : Int) == (0 : Int)) (.ite (strEq s ([] : Str)) (T.bind (ref2_Good n) fun r1 => .ite r1 (.ite (!n.1) (.ret (.inr ok)) (.ret (.inr false))) (.ret (.inr false))) (.ret (.inr false))) (.ret (.inr false)) : T (Int ⊕ Bool)).run = some (.inr (((kids.length : Int) == 0) && (isNumB n && strEq s []))) := by
    rw [T.run_bind_of hN]
    unfold isNumB
    generalize exactS (norm n).1 (nv (norm n).2.1) (nv (norm n).2.2.1) 0 61 = x
    obtain ⟨x1, x2⟩ := x
    dsimp only
    cases (Nat.cast (List.length kids) : Int) == (0 : Int) with
    | false => rfl
    | true =>
     rw [T.run_ite_true]
     cases strEq s [] with
     | false => rw [T.run_ite_false, T.run_ret, Bool.and_false]; rfl
     | true =>
      rw [T.run_ite_true, T.run_bind_of hG]
      cases isRb n <;> cases largeB n <;> cases n.1 <;> cases x2 <;> rfl
   refine (T.run_bind_of (a := .inr (((kids.length : Int) == 0) && (isNumB n && strEq s []))) ?_ _).trans ?_
   ·rw [T.run_ite_t (by rfl)]; exact head
   ·rw [Sum.elim_inr, T.run_ret, if_pos (.inl rfl), if_pos rfl]
    cases q : ((kids.length : Int) == 0) with
    | false => rfl
    | true =>
     have : kids = [] := List.eq_nil_of_length_eq_zero (by have : (kids.length : Int) = 0 := (by simpa using q); omega)
     subst this
     show _ = some (true && (isNumB n && strEq s []) && true)
     rw [Bool.and_true]
  ·by_cases h2 : k = 2
   ·subst h2
    have head : (.ite ((Nat.cast (List.length kids) : Int) == (0 : Int)) (T.bind (ref5_Name s) fun r2 => .ite r2 (T.bind (ref5_blank n) fun r3 => .ret (.inr r3)) (.ret (.inr false))) (.ret (.inr false)) : T (Int ⊕ Bool)).run = some (.inr (((kids.length : Int) == 0) && (isNoneB n && nameOk s))) := by
     cases (Nat.cast (List.length kids) : Int) == (0 : Int) with
     | false => rfl
     | true =>
      rw [T.run_ite_true, T.run_bind_of hNm]
      cases nameOk s with
      | false => rw [T.run_ite_false, T.run_ret, Bool.and_false]; rfl
      | true => rw [T.run_ite_true, T.run_bind_of hB, T.run_ret, Bool.and_true, Bool.true_and]
    refine (T.run_bind_of (a := .inr (((kids.length : Int) == 0) && (isNoneB n && nameOk s))) ?_ _).trans ?_
    ·rw [T.run_ite_f (by rfl), T.run_ite_t (by rfl)]; exact head
    ·rw [Sum.elim_inr, T.run_ret, if_pos (.inr rfl), if_neg (by decide), if_pos rfl]
     cases q : ((kids.length : Int) == 0) with
     | false => rfl
     | true =>
      have : kids = [] := List.eq_nil_of_length_eq_zero (by have : (kids.length : Int) = 0 := (by simpa using q); omega)
      subst this
      show _ = some (true && (isNoneB n && nameOk s) && true)
      rw [Bool.and_true]
   ·have k1 : (k == 1) = false := by simpa using h1
    have k2 : (k == 2) = false := by simpa using h2
    have fin : ∀ kd : Int, (if k = 7 then (1 : Int) else if k = 3 ∨ k = 4 ∨ k = 5 ∨ k = 6 then 2 else -1) = kd → ((((kids.length : Int) == kd) && ((isNoneB n && strEq s []) && okEs (D + 1) kids))) =
      ((((kids.length : Int) == (if k = 1 ∨ k = 2 then (0 : Int) else if k = 7 then 1 else if k = 3 ∨ k = 4 ∨ k = 5 ∨ k = 6 then 2 else -1)) && (if k = 1 then isNumB n && strEq s [] else if k = 2 then isNoneB n && nameOk s else isNoneB n && strEq s [])) && okEs (D + 1) kids) := by
     intro kd hkd
     rw [if_neg (by rintro (h | h); exact h1 h; exact h2 h), hkd, if_neg h1, if_neg h2]
     simp only [Bool.and_assoc]
    by_cases h7 : k = 7
    ·refine (T.run_bind_of (a := .inl 1) ?_ _).trans ?_
     ·rw [T.run_ite_f k1, T.run_ite_f k2, T.run_ite_t (by simpa using h7), T.run_ret]
     ·rw [Sum.elim_inl, ← fin 1 (by rw [if_pos h7])]; exact tail 1
    ·have k7 : (k == 7) = false := by simpa using h7
     by_cases h3 : k = 3
     ·refine (T.run_bind_of (a := .inl 2) ?_ _).trans ?_
      ·rw [T.run_ite_f k1, T.run_ite_f k2, T.run_ite_f k7, T.run_ite_t (by simpa using h3), T.run_ret]
      ·rw [Sum.elim_inl, ← fin 2 (by rw [if_neg h7, if_pos (.inl h3)])]; exact tail 2
     ·have k3 : (k == 3) = false := by simpa using h3
      by_cases h4 : k = 4
      ·refine (T.run_bind_of (a := .inl 2) ?_ _).trans ?_
       ·rw [T.run_ite_f k1, T.run_ite_f k2, T.run_ite_f k7, T.run_ite_f k3, T.run_ite_t (by simpa using h4), T.run_ret]
       ·rw [Sum.elim_inl, ← fin 2 (by rw [if_neg h7, if_pos (.inr (.inl h4))])]; exact tail 2
      ·have k4 : (k == 4) = false := by simpa using h4
       by_cases h5 : k = 5
       ·refine (T.run_bind_of (a := .inl 2) ?_ _).trans ?_
        ·rw [T.run_ite_f k1, T.run_ite_f k2, T.run_ite_f k7, T.run_ite_f k3, T.run_ite_f k4, T.run_ite_t (by simpa using h5), T.run_ret]
        ·rw [Sum.elim_inl, ← fin 2 (by rw [if_neg h7, if_pos (.inr (.inr (.inl h5)))])]; exact tail 2
       ·have k5 : (k == 5) = false := by simpa using h5
        by_cases h6 : k = 6
        ·refine (T.run_bind_of (a := .inl 2) ?_ _).trans ?_
         ·rw [T.run_ite_f k1, T.run_ite_f k2, T.run_ite_f k7, T.run_ite_f k3, T.run_ite_f k4, T.run_ite_f k5, T.run_ite_t (by simpa using h6), T.run_ret]
         ·rw [Sum.elim_inl, ← fin 2 (by rw [if_neg h7, if_pos (.inr (.inr (.inr h6)))])]; exact tail 2
        ·have k6 : (k == 6) = false := by simpa using h6
         refine (T.run_bind_of (a := .inr false) ?_ _).trans ?_
         ·rw [T.run_ite_f k1, T.run_ite_f k2, T.run_ite_f k7, T.run_ite_f k3, T.run_ite_f k4, T.run_ite_f k5, T.run_ite_f k6, T.run_ret]
         ·rw [Sum.elim_inr, T.run_ret, ← fin (-1) (by rw [if_neg h7, if_neg (by rintro (h | h | h | h) <;> contradiction)])]
          have : ((kids.length : Int) == -1) = false := by simp
          rw [this]; rfl
 ·rw [T.run_ite_t (decide_eq_true (by omega)), T.run_ret, decide_eq_false c]; rfl
end Go.AM.Lf
namespace Go.AM.Lf
open PL
theorem ref5_Has_run (l : List Str) (s : Str) (hl : l.length ≤ 1000000000) : (ref5_Has l s).run = some (decide (s ∈ l)) := by
 have key : (ref5_Has_L0 l s 0).run = some (if s ∈ l then .inr true else .inl ()) := by
  refine T.loop_scan (r := ref5_Has_R0 l s) l (dflt .str) (fun (_ : Unit) i => i) (fun _ _ => True) (fun l _ => (if s ∈ l then .inr true else .inl () : Unit ⊕ Bool)) (fun k _ x xs hk hx hm hd hI => ?_) (fun _ _ => ?_) (b := ()) trivial
  ·unfold ref5_Has_R0
   rw [T.run_ite_t (lt_t hk), T.run_obl (idx_ok hk), hx, strEq_iff]
   by_cases q : x = s
   ·right
    rw [T.run_ite_t (decide_eq_true q), T.run_ret, if_pos (by simp [q])]
   ·left
    refine ⟨(), ?_, trivial, ?_⟩
    ·rw [T.run_ite_f (decide_eq_false q), T.run_ret, ix1 k _ hk (by omega)]
    ·have : (s ∈ x :: xs) ↔ s ∈ xs := by rw [List.mem_cons]; exact ⟨fun h => h.resolve_left fun e => q e.symm, .inr⟩
     simp only [this]
  ·unfold ref5_Has_R0
   rw [T.run_ite_f (lt_f _), T.run_ret, if_neg (by simp)]
 unfold ref5_Has
 rw [T.run_bind_of key]
 by_cases h : s ∈ l
 ·rw [if_pos h, decide_eq_true h]; rfl
 ·rw [if_neg h, decide_eq_false h]; rfl
theorem dd_len (xs acc : List Str) : (dd acc xs).length ≤ acc.length + xs.length := by
 induction xs generalizing acc with
 | nil => simp [dd_nil]
 | cons x r ih =>
  rw [dd_cons]
  have := ih (if x ∈ acc then acc else acc ++ [x])
  have h2 : (if x ∈ acc then acc else acc ++ [x]).length ≤ acc.length + 1 := by split <;> simp
  simp only [List.length_cons]; omega
mutual
theorem allE_len : ∀ e : Expr, (allE e).length ≤ bkE e
 | .mk k n s l => by
  have := allEs_len l
  unfold allE bkE
  rw [List.length_append]
  split <;> simp <;> omega
theorem allEs_len : ∀ l : List Expr, (allEs l).length ≤ bkEs l
 | [] => by simp [allEs]
 | e :: r => by
  have h1 := allE_len e
  have h2 := allEs_len r
  unfold allEs bkEs
  rw [List.length_append]; omega
end
theorem names_inner (g : Expr → T (List Str)) (e : Expr) (i : Int) (m acc : List Str) (hm : m.length ≤ 10000000) (ha : acc.length ≤ 10000000) :
  (ref5_Names_L1 (fun y0 => g y0) e i m (0, acc)).run = some (dd acc m) := by
 have key := T.loop_fold (r := ref5_Names_R1 (fun y0 => g y0) e i m) m (dflt .str) (fun (b : List Str) i => (i, b)) (fun k b => b.length ≤ acc.length + k) (fun b x => if x ∈ b then b else b ++ [x]) id (fun k b x hk hx hm' hI => ?_) (fun b hI => ?_) (b := acc) (by simp)
 ·exact key.1
 ·have hH := ref5_Has_run b x (by omega)
  unfold ref5_Names_R1
  dsimp only
  rw [T.run_ite_t (lt_t hk), T.run_obl (idx_ok hk), hx, T.run_same, Nat.zero_add, List.take_length, List.drop_zero, T.run_bind_of hH]
  by_cases q : x ∈ b
  ·rw [decide_eq_true q, if_pos q, T.run_ite_f (by rfl), T.run_cur _ rfl rfl rfl, T.run_same, T.run_ret, ix1 k _ hk (by omega)]
   exact ⟨rfl, by omega⟩
  ·rw [decide_eq_false q, if_neg q, T.run_ite_t (by rfl), T.run_obl (idx_ok hk), T.run_app _ rfl rfl rfl (by omega), T.run_cur _ (by simp) rfl (by simp), T.run_obl (by simp), T.run_ret, ix1 k _ hk (by omega)]
   exact ⟨rfl, by simp; omega⟩
 ·unfold ref5_Names_R1
  dsimp only
  rw [T.run_ite_f (lt_f _), T.run_cur _ rfl rfl rfl, T.run_same, T.run_ret]; rfl
theorem ref5_Names_run (e : Expr) (hb : bkE e ≤ 1000000) : (ref5_Names e).run = some (dd [] (allE e)) := by
 unfold ref5_Names
 refine T.fix_run (fun x : Expr => bkE x ≤ 1000000) (fun x => bkE x) (fun x => dd [] (allE x)) (fun x hx g hg => ?_) (x := e) hb
 have hk := bkEs_kids x
 have hkl := bkEs_len x.kids
 have loop : ∀ acc : List Str, acc.length ≤ 1 → (ref5_Names_L0 (fun y0 => g y0) x (0, acc)).run = some (dd acc (allEs x.kids)) := by
  intro acc hacc
  have key := T.loop_list (r := ref5_Names_R0 (fun y0 => g y0) x) x.kids (dflt .expr) (fun (b : List Str) i => (i, b)) (fun b r => b.length + bkEs r ≤ 1 + bkEs x.kids ∧ ∀ y ∈ r, y ∈ x.kids) (fun r b => dd b (allEs r)) ?_ ?_ ⟨(by omega : acc.length + bkEs x.kids ≤ 1 + bkEs x.kids), fun y hy => hy⟩
  ·exact key
  ·rintro b y ys i h0 hi hy ⟨h1, h2⟩
   obtain ⟨j, rfl⟩ : ∃ j : Nat, i = (j : Int) := ⟨i.toNat, by omega⟩
   have hj : j < x.kids.length := by omega
   simp only [bkEs] at h1
   have hm := bkEs_mem (h2 y List.mem_cons_self)
   have hr := hg y (by omega) (by omega)
   have hl := allE_len y
   have hd := dd_len (allE y) []
   simp only [List.length_nil] at hd
   have hin := names_inner g x (j : Int) (dd [] (allE y)) b (by omega) (by omega)
   rw [dd_once] at hin
   have hbl := dd_len (allE y) b
   refine .inl ⟨dd b (allE y), ?_, ⟨by omega, fun z hz => h2 z (List.mem_cons_of_mem _ hz)⟩, ?_⟩
   ·unfold ref5_Names_R0
    dsimp only
    rw [T.run_ite_t (decide_eq_true hi), T.run_obl ⟨h0, hi⟩, hy, T.run_bind_of hr, T.run_cur _ rfl rfl rfl, T.run_same, T.run_bind_of hin, T.run_cur _ rfl rfl rfl, T.run_same, T.run_ret, w64_in (by omega) (by omega)]
   ·show dd (dd b (allE y)) (allEs ys) = dd b (allE y ++ allEs ys)
    rw [dd_append]
  ·rintro b _
   unfold ref5_Names_R0
   dsimp only
   rw [T.run_ite_f (lt_f _), T.run_cur _ rfl rfl rfl, T.run_same, T.run_ret]; rfl
 unfold ref5_Names_B
 cases x with | mk k n s kids =>
 by_cases h2 : k = 2
 ·subst h2
  have hL := loop [s] (by simp)
  have hL : (ref5_Names_L0 (fun y0 => g y0) (.mk 2 n s kids) ((0 : Int), ([Expr.name (.mk 2 n s kids)] : List Str))).run = some (dd [s] (allEs kids)) := hL
  rw [T.run_ite_t (by rfl), T.run_leN _ (by omega), T.run_cur _ rfl rfl rfl, T.run_same, T.run_bind_of hL, T.run_same, T.run_ret, Nat.zero_add, List.take_length, List.drop_zero]
  rfl
 ·have hL := loop [] (by simp)
  have hL : (ref5_Names_L0 (fun y0 => g y0) (.mk k n s kids) ((0 : Int), ([] : List Str))).run = some (dd [] (allEs kids)) := hL
  rw [T.run_ite_f (by show (k == 2) = false; simpa using h2), T.run_cur _ rfl rfl rfl, T.run_same, T.run_bind_of hL, T.run_same, T.run_ret, Nat.zero_add, List.take_length, List.drop_zero]
  show some (dd [] (allEs kids)) = some (dd [] ((if k = 2 then [s] else []) ++ allEs kids))
  rw [if_neg h2]; rfl
theorem ref7_Has_run (e : Expr) (F : List Str) (hb : bkE e ≤ 1000000) (hF : F.length ≤ 1000000000) : (ref7_Has e F).run = some (hasP e F) := by
 have hN := ref5_Names_run e hb
 have hl := dd_len (allE e) []
 have hl2 := allE_len e
 simp only [List.length_nil] at hl
 have key : ∀ l : List Str, l.length ≤ 1000000000 → (ref7_Has_L0 F l 0).run = some (if ∃ x ∈ l, x ∈ F then .inr true else .inl ()) := by
  intro l hl
  refine T.loop_scan (r := ref7_Has_R0 F l) l (dflt .str) (fun (_ : Unit) i => i) (fun _ _ => True) (fun l _ => (if ∃ x ∈ l, x ∈ F then .inr true else .inl () : Unit ⊕ Bool)) (fun k _ x xs hk hx hm hd hI => ?_) (fun _ _ => ?_) (b := ()) trivial
  ·unfold ref7_Has_R0
   rw [T.run_ite_t (lt_t hk), T.run_obl (idx_ok hk), hx, T.run_bind_of (ref5_Has_run F x hF)]
   by_cases q : x ∈ F
   ·right
    rw [decide_eq_true q, T.run_ite_t (by rfl), T.run_ret, if_pos ⟨x, List.mem_cons_self, q⟩]
   ·left
    refine ⟨(), ?_, trivial, ?_⟩
    ·rw [decide_eq_false q, T.run_ite_f (by rfl), T.run_ret, ix1 k _ hk (by omega)]
    ·have : (∃ y ∈ x :: xs, y ∈ F) ↔ ∃ y ∈ xs, y ∈ F := by
      constructor
      ·rintro ⟨y, hy, hf⟩
       rcases List.mem_cons.1 hy with rfl | hy
       ·exact absurd hf q
       ·exact ⟨y, hy, hf⟩
      ·rintro ⟨y, hy, hf⟩; exact ⟨y, List.mem_cons_of_mem _ hy, hf⟩
     simp only [this]
  ·unfold ref7_Has_R0
   rw [T.run_ite_f (lt_f _), T.run_ret, if_neg (by simp)]
 unfold ref7_Has
 rw [T.run_bind_of hN, T.run_bind_of (key _ (by omega))]
 have hiff : (∃ x ∈ dd [] (allE e), x ∈ F) ↔ hasP e F = true := by
  rw [hasP_iff]
  constructor
  ·rintro ⟨x, hx, hf⟩
   rcases (dd_mem _ _ _).1 hx with h | h
   ·cases h
   ·exact ⟨x, h, hf⟩
  ·rintro ⟨x, hx, hf⟩; exact ⟨x, (dd_mem _ _ _).2 (.inr hx), hf⟩
 by_cases h : hasP e F = true
 ·rw [if_pos (hiff.2 h), h]; rfl
 ·rw [if_neg (fun z => h (hiff.1 z)), Bool.not_eq_true _ |>.mp h]; rfl
theorem ref7_Linear_run (e : Expr) (F : List Str) (hb : bkE e ≤ 1000000) (hF : F.length ≤ 1000000000) : (ref7_Linear e F).run = some (linE F e) := by
 unfold ref7_Linear
 refine T.fix_run (fun x : Expr × List Str => bkE x.1 ≤ 1000000 ∧ x.2 = F) (fun x => bkE x.1) (fun x => linE F x.1) (fun x hx g hg => ?_) (x := (e, F)) ⟨hb, rfl⟩
 obtain ⟨x, F'⟩ := x
 obtain ⟨hx, rfl⟩ := hx
 dsimp only at hx
 have hk := bkEs_kids x
 have hkl := bkEs_len x.kids
 have loop : (ref7_Linear_L0 (fun y0 y1 => g (y0, y1)) F' x 0).run = some (if linEs F' x.kids = true then .inl () else .inr false) := by
  refine T.loop_scan (r := ref7_Linear_R0 (fun y0 y1 => g (y0, y1)) F' x) x.kids (dflt .expr) (fun (_ : Unit) i => i) (fun _ _ => True) (fun l _ => (if linEs F' l = true then .inl () else .inr false : Unit ⊕ Bool)) (fun k _ y ys hkk hy hm hd hI => ?_) (fun _ _ => ?_) (b := ()) trivial
  ·have hm := bkEs_mem hm
   have hr := hg (y, F') ⟨by dsimp only; omega, rfl⟩ (by dsimp only; omega)
   dsimp only at hr
   unfold ref7_Linear_R0
   rw [T.run_ite_t (lt_t hkk), T.run_obl (idx_ok hkk), hy, T.run_bind_of hr]
   cases q : linE F' y with
   | true =>
    left
    refine ⟨(), ?_, trivial, ?_⟩
    ·rw [T.run_ite_f (by rfl), T.run_ret, ix1 k _ hkk (by omega)]
    ·show _ = (if (linE F' y && linEs F' ys) = true then _ else _)
     rw [q, Bool.true_and]
   | false =>
    right
    rw [T.run_ite_t (by rfl), T.run_ret]
    show _ = some (Sum.inr (if (linE F' y && linEs F' ys) = true then _ else _))
    rw [q, Bool.false_and]; rfl
  ·unfold ref7_Linear_R0
   rw [T.run_ite_f (lt_f _), T.run_ret]; rfl
 unfold ref7_Linear_B
 rw [T.run_bind_of loop]
 cases x with | mk k n s kids =>
 show _ = some (linE F' (.mk k n s kids))
 rw [show Expr.kids (.mk k n s kids) = kids from rfl, show Expr.kind (.mk k n s kids) = k from rfl] at *
 cases hl : linEs F' kids with
 | false =>
  rw [if_neg (by simp)]
  show (T.ret false : T Bool).run = some (!badP F' k kids && linEs F' kids)
  rw [hl, Bool.and_false]; rfl
 | true =>
  rw [if_pos rfl]
  have hgoal : linE F' (.mk k n s kids) = !badP F' k kids := by
   show (!badP F' k kids && linEs F' kids) = _
   rw [hl, Bool.and_true]
  rw [hgoal, Sum.elim_inl]
  have other : (((kids.length : Int)) == 2) = false → badP F' k kids = false := fun h => by
   unfold badP
   split
   ·simp at h
   ·rfl
  cases h2 : (((kids.length : Int)) == 2) with
  | false =>
   rw [other h2, Bool.and_false, Bool.and_false]; rfl
  | true =>
   match kids, h2, hk, hx with
   | [a, b], _, hk, hx =>
    have ha : bkE a ≤ 1000000 := by simp only [bkE, bkEs] at hx; omega
    have hb' : bkE b ≤ 1000000 := by simp only [bkE, bkEs] at hx; omega
    have ra := ref7_Has_run a F' ha hF
    have rb := ref7_Has_run b F' hb' hF
    show (.ite ((k == 5) && true) (.obl (idxOk 0 2) <| T.bind (ref7_Has a F') fun r1 => .ite (!r1) (.ret true) (.obl (idxOk 1 2) <| T.bind (ref7_Has b F') fun r2 => .ret (!r2)))
     (.ite ((k == 6) && true) (.obl (idxOk 1 2) <| T.bind (ref7_Has b F') fun r3 => .ret (!r3)) (.ret true)) : T Bool).run = some (!((k == 5 && (hasP a F' && hasP b F')) || (k == 6 && hasP b F')))
    rw [Bool.and_true, Bool.and_true]
    by_cases h5 : k = 5
    ·subst h5
     rw [T.run_ite_t (by rfl), T.run_obl ⟨by omega, by omega⟩, T.run_bind_of ra]
     cases hasP a F' with
     | false => rfl
     | true =>
      rw [T.run_ite_f (by rfl), T.run_obl ⟨by omega, by omega⟩, T.run_bind_of rb, T.run_ret]
      cases hasP b F' <;> rfl
    ·have k5 : (k == 5) = false := by simpa using h5
     rw [k5, T.run_ite_false]
     by_cases h6 : k = 6
     ·subst h6
      rw [T.run_ite_t (by rfl), T.run_obl ⟨by omega, by omega⟩, T.run_bind_of rb, T.run_ret]
      cases hasP b F' <;> rfl
     ·have k6 : (k == 6) = false := by simpa using h6
      rw [k6]; rfl
theorem ref5_Nodes_run (e : Expr) (hb : bkE e ≤ 1000000) : (ref5_Nodes e).run = some ((ndE e : Nat) : Int) := by
 unfold ref5_Nodes
 refine T.fix_run (fun x : Expr => bkE x ≤ 1000000) (fun x => bkE x) (fun x => ((ndE x : Nat) : Int)) (fun x hx g hg => ?_) (x := e) hb
 have hk := bkEs_kids x
 have hkl := bkEs_len x.kids
 have ndb : ∀ (l : List Expr), ndEs l ≤ bkEs l := by
  have both : ∀ n, (∀ e : Expr, bkE e ≤ n → ndE e ≤ bkE e) := by
   intro n
   induction n using Nat.strongRecOn with
   | _ n ih =>
    intro e he
    cases e with | mk k m s l =>
    have hl : ∀ l' : List Expr, bkEs l' < n → ndEs l' ≤ bkEs l' := by
     intro l'
     induction l' with
     | nil => intro _; exact Nat.le_refl _
     | cons y r ihr =>
      intro h
      unfold bkEs at h ⊢
      unfold ndEs
      have h1 := ih (bkE y) (by omega) y (Nat.le_refl _)
      have h2 := ihr (by omega)
      omega
    have h3 : bkEs l < bkE (.mk k m s l) := bkEs_kids (.mk k m s l)
    have := hl l (by omega)
    unfold ndE
    omega
  intro l
  induction l with
  | nil => exact Nat.le_refl _
  | cons y r ihr =>
   unfold ndEs bkEs
   have := both (bkE y) y (Nat.le_refl _)
   omega
 have loop : (ref5_Nodes_L0 (fun y0 => g y0) x (1, 0)).run = some ((1 + ndEs x.kids : Nat) : Int) := by
  have key := T.loop_list (r := ref5_Nodes_R0 (fun y0 => g y0) x) x.kids (dflt .expr) (fun (b : Nat) i => (((b : Nat) : Int), i)) (fun b r => b + ndEs r ≤ 1 + ndEs x.kids ∧ ∀ y ∈ r, y ∈ x.kids) (fun r b => ((b + ndEs r : Nat) : Int)) ?_ ?_ (b := 1) ⟨Nat.le_refl _, fun y hy => hy⟩
  ·exact key
  ·rintro b y ys i h0 hi hy ⟨h1, h2⟩
   have hm := bkEs_mem (h2 y List.mem_cons_self)
   have hr := hg y (by omega) (by omega)
   have hnd := ndb x.kids
   have e1 : ndEs (y :: ys) = ndE y + ndEs ys := rfl
   rw [e1] at h1
   refine .inl ⟨b + ndE y, ?_, ⟨by omega, fun z hz => h2 z (List.mem_cons_of_mem _ hz)⟩, by rw [e1, Nat.add_assoc]⟩
   unfold ref5_Nodes_R0
   dsimp only
   rw [T.run_ite_t (decide_eq_true hi), T.run_obl ⟨h0, hi⟩, hy, T.run_bind_of hr, T.run_ret, w64_in (x := i + 1) (by omega) (by omega), w64_in (by omega) (by omega)]
   rfl
  ·rintro b _
   unfold ref5_Nodes_R0
   dsimp only
   rw [T.run_ite_f (lt_f _), T.run_ret]; rfl
 unfold ref5_Nodes_B
 rw [T.run_bind_of loop, T.run_ret]
 cases x with | mk k n s kids => rfl
theorem ref5_Is_run (e : Expr) (h : allOk e) (hb : bkE e ≤ 1000000) (hn : ndE e ≤ 256) : (ref5_Is e).run = some (okE 0 e) := by
 unfold ref5_Is
 have h1 : (ref5_one e 1).run = some (okE 0 e) := one_run e 0 h (by omega) (by omega)
 rw [T.run_bind_of h1]
 cases okE 0 e with
 | false => rfl
 | true => rw [T.run_ite_true, T.run_bind_of (ref5_Nodes_run e hb), T.run_ret, decide_eq_true (by omega)]
end Go.AM.Lf
namespace Go.AM.Lf
open PL
def bindsK (k : Int) : Int := if k = 3 ∨ k = 4 then 1 else if k = 5 ∨ k = 6 then 2 else if k = 7 then 3 else 4
def markK (k : Int) : Str := if k = 3 then [32, 43, 32] else if k = 4 then [32, 45, 32] else if k = 5 then [32, 42, 32] else if k = 6 then [32, 47, 32] else []
def parS (b : Bool) (s : Str) : Str := if b = true then [40] ++ s ++ [41] else s
def joinK (k : Int) : List (Int × Str) → Str
 | [a] => [45] ++ parS (decide (a.1 < 3)) a.2
 | [a, b] => parS (decide (a.1 < bindsK k)) a.2 ++ markK k ++ parS (decide (b.1 < bindsK k + 1)) b.2
 | _ => []
mutual
def prE : Expr → Str
 | .mk k n s l => if k = 1 then (exactS (norm n).1 (nv (norm n).2.1) (nv (norm n).2.2.1) 0 61).1 else if k = 2 then s else joinK k (prL l)
def prL : List Expr → List (Int × Str)
 | [] => []
 | e :: r => (bindsK e.kind, prE e) :: prL r
end
theorem parS_len (b : Bool) (s : Str) : (parS b s).length ≤ s.length + 2 := by unfold parS; split <;> simp <;> omega
theorem markK_len (k : Int) : (markK k).length ≤ 3 := by unfold markK; (repeat' split) <;> simp
theorem exact_len (n : Rat) (h : numOk n) : (exactS (norm n).1 (nv (norm n).2.1) (nv (norm n).2.2.1) 0 61).1.length ≤ 6000 := by
 have hn := norm_ok (k := 100) (by omega) h
 have hd := ratN_den n.1 (nv n.2.1) (nv n.2.2.1)
 have hd : nv (norm n).2.2.1 ≠ 0 := hd
 rcases hx : exactS (norm n).1 (nv (norm n).2.1) (nv (norm n).2.2.1) 0 61 with ⟨s, b⟩
 cases b with
 | true =>
  obtain ⟨j, h1, h2, h3, rfl⟩ := exactS_ok _ _ _ hd 61 0 s hx
  have l1 := ofN_nv_len hn.1
  have l2 := hn.2.2.1
  have l3 := ten_len j
  have l4 := ofN_mul_len (nv (norm n).2.1) (10 ^ j)
  have l5 := ofN_mono (Nat.div_le_self (nv (norm n).2.1 * 10 ^ j) (nv (norm n).2.2.1))
  have l6 := pr_len (nv (norm n).2.1 * 10 ^ j / nv (norm n).2.2.1) 162 (by omega)
  have l7 : (sgS (norm n).1).length ≤ 1 := by unfold sgS; split <;> simp
  dsimp only
  rw [List.length_append]
  by_cases hj : j = 0
  ·subst hj
   unfold ptd
   rw [if_pos rfl]
   omega
  ·obtain ⟨w, p, e, _, _, _, hp, _, hw⟩ := ptd_parts (pr (nv (norm n).2.1 * 10 ^ j / nv (norm n).2.2.1)) j hj (pr_digs _).1
   rw [e, List.length_append, List.length_cons]
   omega
 | false =>
  have : ∀ (f k : Nat) (s : Str), exactS (norm n).1 (nv (norm n).2.1) (nv (norm n).2.2.1) k f = (s, false) → s = [] := by
   intro f
   induction f with
   | zero => intro k s h; unfold exactS at h; cases h; rfl
   | succ f ih =>
    intro k s h
    unfold exactS at h
    split at h
    ·cases h
    ·exact ih _ _ h
  rw [this 61 0 s hx]; simp
theorem okE_kids {d : Nat} {k : Int} {n : Rat} {s : Str} {l : List Expr} (h : okE d (.mk k n s l) = true) : ((l.length : Int) = kidsN k) ∧ okEs (d + 1) l = true := by
 have h : (decide (d < 32) && (nodeB (.mk k n s l) && okEs (d + 1) l)) = true := h
 simp only [Bool.and_eq_true] at h
 obtain ⟨_, h1, h2⟩ := h
 unfold nodeB at h1
 simp only [Bool.and_eq_true] at h1
 exact ⟨eq_of_beq h1.1, h2⟩
theorem prE_len : ∀ (m : Nat) (e : Expr) (d : Nat), ndE e ≤ m → okE d e = true → allOk e → (prE e).length ≤ 2000 * szE e := by
 intro m
 induction m with
 | zero => intro e d hm; cases e; unfold ndE at hm; omega
 | succ m ih =>
  intro e d hm ho ha
  cases e with | mk k n s l =>
  obtain ⟨hk, hl⟩ := okE_kids ho
  obtain ⟨hn, hal⟩ := ha
  have hnd : ndE (.mk k n s l) = 1 + ndEs l := rfl
  have hsz : szE (.mk k n s l) = 3 + s.length + 8 * n.2.1.length + 8 * n.2.2.1.length + szEs l := rfl
  rw [hnd] at hm
  rw [hsz]
  show (if k = 1 then (exactS (norm n).1 (nv (norm n).2.1) (nv (norm n).2.2.1) 0 61).1 else if k = 2 then s else joinK k (prL l)).length ≤ _
  by_cases h1 : k = 1
  ·rw [if_pos h1]; have := exact_len n hn; omega
  ·rw [if_neg h1]
   by_cases h2 : k = 2
   ·rw [if_pos h2]; omega
   ·rw [if_neg h2]
    match l, hl, hal, hm with
    | [], _, _, _ => show (joinK k []).length ≤ _; unfold joinK; simp
    | [a], hl, hal, hm =>
     have ha' : okE (d + 1) a = true := by
      have : (okE (d + 1) a && okEs (d + 1) []) = true := hl
      simp only [Bool.and_eq_true] at this; exact this.1
     have := ih a (d + 1) (by have : ndEs [a] = ndE a + 0 := rfl; omega) ha' hal.1
     have e1 : szEs [a] = szE a + 0 := rfl
     have hp := parS_len (decide (bindsK a.kind < 3)) (prE a)
     show ([45] ++ parS (decide (bindsK a.kind < 3)) (prE a)).length ≤ _
     rw [List.length_append, List.length_singleton, e1]; omega
    | [a, b], hl, hal, hm =>
     have hab : okE (d + 1) a = true ∧ okE (d + 1) b = true := by
      have : (okE (d + 1) a && (okE (d + 1) b && okEs (d + 1) [])) = true := hl
      simp only [Bool.and_eq_true] at this; exact ⟨this.1, this.2.1⟩
     have e0 : ndEs [a, b] = ndE a + (ndE b + 0) := rfl
     have h3 := ih a (d + 1) (by omega) hab.1 hal.1
     have h4 := ih b (d + 1) (by omega) hab.2 hal.2.1
     have e1 : szEs [a, b] = szE a + (szE b + 0) := rfl
     have hp := parS_len (decide (bindsK a.kind < bindsK k)) (prE a)
     have hq := parS_len (decide (bindsK b.kind < bindsK k + 1)) (prE b)
     have hm' := markK_len k
     show (parS (decide (bindsK a.kind < bindsK k)) (prE a) ++ markK k ++ parS (decide (bindsK b.kind < bindsK k + 1)) (prE b)).length ≤ _
     rw [List.length_append, List.length_append, e1]; omega
    | a :: b :: c :: r, _, _, _ => show (joinK k _).length ≤ _; unfold prL prL prL joinK; simp
theorem binds_run (e : Expr) : (expr_binds e).run = some (bindsK e.kind) := by
 unfold expr_binds bindsK
 generalize e.kind = k
 by_cases h3 : k = 3
 ·subst h3; rfl
 by_cases h4 : k = 4
 ·subst h4; rfl
 by_cases h5 : k = 5
 ·subst h5; rfl
 by_cases h6 : k = 6
 ·subst h6; rfl
 by_cases h7 : k = 7
 ·subst h7; rfl
 ·simp [h3, h4, h5, h6, h7]
theorem row_run (k : Int) : (ref5_row k).run = some (bindsK k) := by
 unfold ref5_row bindsK
 by_cases h3 : k = 3
 ·subst h3; rfl
 by_cases h4 : k = 4
 ·subst h4; rfl
 by_cases h5 : k = 5
 ·subst h5; rfl
 by_cases h6 : k = 6
 ·subst h6; rfl
 by_cases h7 : k = 7
 ·subst h7; rfl
 ·simp [h3, h4, h5, h6, h7]
theorem placed_run (g : Expr → T Str) (e : Expr) (least : Int) (t : Str) (hg : (g e).run = some t) (hl : t.length ≤ 1000000000000) : (expr_placed (fun y0 => g y0) e least).run = some (parS (decide (bindsK e.kind < least)) t) := by
 unfold expr_placed parS
 rw [T.run_bind_of (binds_run e)]
 cases decide (bindsK e.kind < least) with
 | true => rw [T.run_ite_true, T.run_bind_of hg, T.run_leN _ (by simp; omega), T.run_leN _ (by simp [cat_eq]; omega), T.run_ret, if_pos rfl]; rfl
 | false => rw [T.run_ite_false, T.run_bind_of hg, T.run_ret, if_neg (by simp)]
theorem kids_of {k : Int} {l : List Expr} (hk : (l.length : Int) = kidsN k) (h1 : k ≠ 1) (h2 : k ≠ 2) : (k = 7 ∧ ∃ a, l = [a]) ∨ ((k = 3 ∨ k = 4 ∨ k = 5 ∨ k = 6) ∧ ∃ a b, l = [a, b]) := by
 unfold kidsN at hk
 rw [if_neg (by rintro (h | h); exact h1 h; exact h2 h)] at hk
 by_cases h7 : k = 7
 ·rw [if_pos h7] at hk
  match l, hk with
  | [a], _ => exact .inl ⟨h7, a, rfl⟩
  | [], hk => simp at hk
  | _ :: _ :: _, hk => simp at hk; omega
 ·rw [if_neg h7] at hk
  by_cases h : k = 3 ∨ k = 4 ∨ k = 5 ∨ k = 6
  ·rw [if_pos h] at hk
   match l, hk with
   | [a, b], _ => exact .inr ⟨h, a, b, rfl⟩
   | [], hk => simp at hk
   | [_], hk => simp at hk
   | _ :: _ :: _ :: _, hk => simp at hk; omega
  ·rw [if_neg h] at hk; omega
theorem print_run (e : Expr) (d : Nat) (ho : okE d e = true) (ha : allOk e) (hs : szE e ≤ 100000) : (expr_print e).run = some (prE e) := by
 unfold expr_print
 refine T.fix_run (fun x : Expr => (∃ d, okE d x = true) ∧ allOk x ∧ szE x ≤ 100000) (fun x => ndE x) (fun x => prE x) (fun x hx g hg => ?_) (x := e) ⟨⟨d, ho⟩, ha, hs⟩
 obtain ⟨⟨d, ho⟩, ha, hs⟩ := hx
 cases x with | mk k n s l =>
 obtain ⟨hk, hl⟩ := okE_kids ho
 obtain ⟨hn, hal⟩ := ha
 have hnd : ndE (.mk k n s l) = 1 + ndEs l := rfl
 have hsz : szE (.mk k n s l) = 3 + s.length + 8 * n.2.1.length + 8 * n.2.2.1.length + szEs l := rfl
 have hE := dec_Exact_run n (ok_up hn (by omega))
 have hprE : prE (.mk k n s l) = if k = 1 then (exactS (norm n).1 (nv (norm n).2.1) (nv (norm n).2.2.1) 0 61).1 else if k = 2 then s else joinK k (prL l) := rfl
 rw [hprE]
 unfold expr_print_B
 rw [show Expr.kind (.mk k n s l) = k from rfl, show Expr.kids (.mk k n s l) = l from rfl, show Expr.num (.mk k n s l) = n from rfl, show Expr.name (.mk k n s l) = s from rfl]
 have hbind := binds_run (.mk k n s l)
 rw [show Expr.kind (.mk k n s l) = k from rfl] at hbind
 by_cases h1 : k = 1
 ·rw [if_pos h1]
  refine (T.run_bind_of (a := .inr (exactS (norm n).1 (nv (norm n).2.1) (nv (norm n).2.2.1) 0 61).1) ?_ _).trans rfl
  rw [T.run_ite_t (by simpa using h1), T.run_bind_of hE, T.run_ret]
 have k1 : (k == 1) = false := by simpa using h1
 by_cases h2 : k = 2
 ·rw [if_neg h1, if_pos h2]
  refine (T.run_bind_of (a := .inr s) ?_ _).trans rfl
  rw [T.run_ite_f k1, T.run_ite_t (by simpa using h2), T.run_ret]
 have k2 : (k == 2) = false := by simpa using h2
 rw [if_neg h1, if_neg h2]
 rcases kids_of hk h1 h2 with ⟨h7, a, rfl⟩ | ⟨h36, a, b, rfl⟩
 ·have ha' : okE (d + 1) a = true := by
   have : (okE (d + 1) a && okEs (d + 1) []) = true := hl
   simp only [Bool.and_eq_true] at this; exact this.1
  have e0 : ndEs [a] = ndE a + 0 := rfl
  have e1 : szEs [a] = szE a + 0 := rfl
  have hr := hg a ⟨⟨_, ha'⟩, hal.1, by omega⟩ (by omega)
  have hlen := prE_len (ndE a) a (d + 1) (Nat.le_refl _) ha' hal.1
  have hp := placed_run g a 3 (prE a) hr (by omega)
  have hpl := parS_len (decide (bindsK a.kind < 3)) (prE a)
  refine (T.run_bind_of (a := .inr (joinK k (prL [a]))) ?_ _).trans rfl
  rw [T.run_ite_f k1, T.run_ite_f k2, T.run_ite_t (by simpa using h7), T.run_obl ⟨by omega, by simp⟩, show nth [a] (0 : Int) (dflt .expr) = a from rfl, T.run_bind_of hp, T.run_leN _ (by simp; omega), T.run_ret]
  rfl
 ·have hab : okE (d + 1) a = true ∧ okE (d + 1) b = true := by
   have : (okE (d + 1) a && (okE (d + 1) b && okEs (d + 1) [])) = true := hl
   simp only [Bool.and_eq_true] at this; exact ⟨this.1, this.2.1⟩
  have e0 : ndEs [a, b] = ndE a + (ndE b + 0) := rfl
  have e1 : szEs [a, b] = szE a + (szE b + 0) := rfl
  have ra := hg a ⟨⟨_, hab.1⟩, hal.1, by omega⟩ (by omega)
  have rb := hg b ⟨⟨_, hab.2⟩, hal.2.1, by omega⟩ (by omega)
  have la := prE_len (ndE a) a (d + 1) (Nat.le_refl _) hab.1 hal.1
  have lb := prE_len (ndE b) b (d + 1) (Nat.le_refl _) hab.2 hal.2.1
  have hbk : w64 (bindsK k + 1) = bindsK k + 1 := by
   have : bindsK k = 1 ∨ bindsK k = 2 ∨ bindsK k = 3 ∨ bindsK k = 4 := by unfold bindsK; (repeat' split) <;> simp
   rw [w64_in (by omega) (by omega)]
  have pa := placed_run g a (bindsK k) (prE a) ra (by omega)
  have pb := placed_run g b (bindsK k + 1) (prE b) rb (by omega)
  have qa := parS_len (decide (bindsK a.kind < bindsK k)) (prE a)
  have qb := parS_len (decide (bindsK b.kind < bindsK k + 1)) (prE b)
  have hm := markK_len k
  have k7 : (k == 7) = false := by rw [beq_eq_false_iff_ne]; omega
  refine (T.run_bind_of (a := .inl (markK k)) ?_ _).trans ?_
  ·rw [T.run_ite_f k1, T.run_ite_f k2, T.run_ite_f k7]
   rcases h36 with rfl | rfl | rfl | rfl <;> rfl
  ·rw [Sum.elim_inl, T.run_obl ⟨by omega, by simp⟩, T.run_bind_of hbind, show nth [a, b] (0 : Int) (dflt .expr) = a from rfl, T.run_bind_of pa, T.run_leN _ (by omega), T.run_obl ⟨by omega, by simp⟩, T.run_bind_of hbind, hbk, show nth [a, b] (1 : Int) (dflt .expr) = b from rfl, T.run_bind_of pb, T.run_leN _ (by simp [cat_eq]; omega), T.run_ret]
   rfl
theorem text_run (e : Expr) (asks : Int) (d : Nat) (ho : okE d e = true) (ha : allOk e) (hs : szE e ≤ 100000) : (ref5_text e asks).run = some (parS (decide (bindsK e.kind < asks)) (prE e)) := by
 unfold ref5_text
 refine T.fix_run (fun x : Expr × Int => (∃ d, okE d x.1 = true) ∧ allOk x.1 ∧ szE x.1 ≤ 100000) (fun x => ndE x.1) (fun x => parS (decide (bindsK x.1.kind < x.2)) (prE x.1)) (fun x hx g hg => ?_) (x := (e, asks)) ⟨⟨d, ho⟩, ha, hs⟩
 obtain ⟨x, q⟩ := x
 obtain ⟨⟨d, ho⟩, ha, hs⟩ := hx
 dsimp only at ho ha hs
 have hlenx := prE_len (ndE x) x d (Nat.le_refl _) ho ha
 cases x with | mk k n s l =>
 obtain ⟨hk, hl⟩ := okE_kids ho
 obtain ⟨hn, hal⟩ := ha
 have hnd : ndE (.mk k n s l) = 1 + ndEs l := rfl
 have hsz : szE (.mk k n s l) = 3 + s.length + 8 * n.2.1.length + 8 * n.2.2.1.length + szEs l := rfl
 have hE := ref3_Exact_run n (ok_up hn (by omega))
 have hprE : prE (.mk k n s l) = if k = 1 then (exactS (norm n).1 (nv (norm n).2.1) (nv (norm n).2.2.1) 0 61).1 else if k = 2 then s else joinK k (prL l) := rfl
 unfold ref5_text_B
 rw [show Expr.kind (.mk k n s l) = k from rfl, show Expr.kids (.mk k n s l) = l from rfl, show Expr.num (.mk k n s l) = n from rfl, show Expr.name (.mk k n s l) = s from rfl]
 have fin : ∀ t : T Str, t.run = some (prE (.mk k n s l)) → (T.bind t fun s1 => T.bind (ref5_row k) fun r10 => .ite (decide (r10 < q))
   (.obl (((List.length ([40] : Str)) + (List.length s1)) ≤ (4611686018427387904 : Nat)) <| .obl (((List.length (cat ([40] : Str) s1)) + (List.length ([41] : Str))) ≤ (4611686018427387904 : Nat)) <| .ret (cat (cat ([40] : Str) s1) ([41] : Str))) (.ret s1) : T Str).run = some (parS (decide (bindsK k < q)) (prE (.mk k n s l))) := by
  intro t ht
  rw [T.run_bind_of ht, T.run_bind_of (row_run k)]
  cases decide (bindsK k < q) with
  | true => rw [T.run_ite_true, T.run_leN _ (by simp; omega), T.run_leN _ (by simp [cat_eq]; omega), T.run_ret]; rfl
  | false => rw [T.run_ite_false, T.run_ret]; rfl
 refine fin _ ?_
 rw [hprE]
 by_cases h1 : k = 1
 ·rw [if_pos h1, T.run_ite_t (by simpa using h1), T.run_bind_of hE, T.run_ret]
 have k1 : (k == 1) = false := by simpa using h1
 by_cases h2 : k = 2
 ·rw [if_neg h1, if_pos h2, T.run_ite_f k1, T.run_ite_t (by simpa using h2), T.run_ret]
 have k2 : (k == 2) = false := by simpa using h2
 rw [if_neg h1, if_neg h2]
 rcases kids_of hk h1 h2 with ⟨h7, a, rfl⟩ | ⟨h36, a, b, rfl⟩
 ·have ha' : okE (d + 1) a = true := by
   have : (okE (d + 1) a && okEs (d + 1) []) = true := hl
   simp only [Bool.and_eq_true] at this; exact this.1
  have e0 : ndEs [a] = ndE a + 0 := rfl
  have e1 : szEs [a] = szE a + 0 := rfl
  have hr := hg (a, 3) ⟨⟨_, ha'⟩, hal.1, by dsimp only; omega⟩ (by dsimp only; omega)
  have hlen := prE_len (ndE a) a (d + 1) (Nat.le_refl _) ha' hal.1
  have hpl := parS_len (decide (bindsK a.kind < 3)) (prE a)
  dsimp only at hr
  rw [T.run_ite_f k1, T.run_ite_f k2, T.run_ite_t (by simpa using h7), T.run_obl ⟨by omega, by simp⟩, show nth [a] (0 : Int) (dflt .expr) = a from rfl, T.run_bind_of hr, T.run_leN _ (by simp; omega), T.run_ret]
  rfl
 ·have hab : okE (d + 1) a = true ∧ okE (d + 1) b = true := by
   have : (okE (d + 1) a && (okE (d + 1) b && okEs (d + 1) [])) = true := hl
   simp only [Bool.and_eq_true] at this; exact ⟨this.1, this.2.1⟩
  have e0 : ndEs [a, b] = ndE a + (ndE b + 0) := rfl
  have e1 : szEs [a, b] = szE a + (szE b + 0) := rfl
  have ra : ∀ q : Int, (g (a, q)).run = some (parS (decide (bindsK a.kind < q)) (prE a)) := fun q => hg (a, q) ⟨⟨_, hab.1⟩, hal.1, by dsimp only; omega⟩ (by dsimp only; omega)
  have rb : ∀ q : Int, (g (b, q)).run = some (parS (decide (bindsK b.kind < q)) (prE b)) := fun q => hg (b, q) ⟨⟨_, hab.2⟩, hal.2.1, by dsimp only; omega⟩ (by dsimp only; omega)
  have la := prE_len (ndE a) a (d + 1) (Nat.le_refl _) hab.1 hal.1
  have lb := prE_len (ndE b) b (d + 1) (Nat.le_refl _) hab.2 hal.2.1
  have qa : ∀ q : Int, (parS (decide (bindsK a.kind < q)) (prE a)).length ≤ 1000000000 := fun q => by have := parS_len (decide (bindsK a.kind < q)) (prE a); omega
  have qb : ∀ q : Int, (parS (decide (bindsK b.kind < q)) (prE b)).length ≤ 1000000000 := fun q => by have := parS_len (decide (bindsK b.kind < q)) (prE b); omega
  have k7 : (k == 7) = false := by rw [beq_eq_false_iff_ne]; omega
  have two : ∀ (m : Str) (p q : Int), m.length ≤ 3 → (.obl (idxOk (0 : Int) (List.length [a, b])) <| T.bind (g (nth [a, b] (0 : Int) (dflt .expr), p)) fun r2 => .obl (((List.length r2) + (List.length m)) ≤ (4611686018427387904 : Nat)) <| .obl (idxOk (1 : Int) (List.length [a, b])) <|
    T.bind (g (nth [a, b] (1 : Int) (dflt .expr), q)) fun r3 => .obl (((List.length (cat r2 m)) + (List.length r3)) ≤ (4611686018427387904 : Nat)) <| .ret (cat (cat r2 m) r3) : T Str).run = some (parS (decide (bindsK a.kind < p)) (prE a) ++ m ++ parS (decide (bindsK b.kind < q)) (prE b)) := by
   intro m p q hm
   have h3 := qa p
   have h4 := qb q
   rw [T.run_obl ⟨by omega, by simp⟩, show nth [a, b] (0 : Int) (dflt .expr) = a from rfl, T.run_bind_of (ra p), T.run_leN _ (by omega), T.run_obl ⟨by omega, by simp⟩, show nth [a, b] (1 : Int) (dflt .expr) = b from rfl, T.run_bind_of (rb q), T.run_leN _ (by simp [cat_eq]; omega), T.run_ret]
   rfl
  rw [T.run_ite_f k1, T.run_ite_f k2, T.run_ite_f k7]
  rcases h36 with rfl | rfl | rfl | rfl
  ·rw [T.run_ite_t (by rfl)]; exact two [32, 43, 32] 1 2 (by simp)
  ·rw [T.run_ite_f (by rfl), T.run_ite_t (by rfl)]; exact two [32, 45, 32] 1 2 (by simp)
  ·rw [T.run_ite_f (by rfl), T.run_ite_f (by rfl), T.run_ite_t (by rfl)]; exact two [32, 42, 32] 2 3 (by simp)
  ·rw [T.run_ite_f (by rfl), T.run_ite_f (by rfl), T.run_ite_f (by rfl), T.run_ite_t (by rfl)]; exact two [32, 47, 32] 2 3 (by simp)
theorem Print_run (e : Expr) (ho : okE 0 e = true) (ha : allOk e) (hs : szE e ≤ 700) : (expr_Print e).run = some (prE e) := by
 have hn := ndE_sz e
 unfold expr_Print
 rw [T.run_bind_of (Is_run e ha (by omega)), ho, T.run_ite_f (by rfl), T.run_bind_of (print_run e 0 ho ha (by omega)), T.run_ret]
theorem ref5_Print_run (e : Expr) (ho : okE 0 e = true) (ha : allOk e) (hs : szE e ≤ 700) (hb : bkE e ≤ 1000000) : (ref5_Print e).run = some (prE e) := by
 have hn := ndE_sz e
 unfold ref5_Print
 rw [T.run_bind_of (ref5_Is_run e ha hb (by omega)), ho, T.run_ite_f (by rfl), T.run_bind_of (text_run e 1 0 ho ha (by omega)), T.run_ret]
 have : decide (bindsK e.kind < 1) = false := by
  refine decide_eq_false ?_
  unfold bindsK
  (repeat' split) <;> omega
 rw [this]; rfl
end Go.AM.Lf
namespace Go.AM.Lf
open PL
structure FL (f : Form) : Prop where
 n : f.1.length + f.2.1.length + f.2.2.1.length + f.2.2.2.1.length + f.2.2.2.2.1.length + f.2.2.2.2.2.1.length ≤ 30
 s : ∀ x ∈ f.1, x.1.length ≤ 600
 p : ∀ x ∈ f.2.1, x.1.length ≤ 600 ∧ x.2.1.2.1.length ≤ 75 ∧ x.2.1.2.2.1.length ≤ 75
 g : ∀ x ∈ f.2.2.1, x.1.length ≤ 600 ∧ x.2.1.length ≤ 600
 d : ∀ x ∈ f.2.2.2.1, x.1.length ≤ 600
 r : ∀ x ∈ f.2.2.2.2.1, x.1.length ≤ 600 ∧ x.2.2.1.length ≤ 600 ∧ szE x.2.2.2.1 ≤ 600 ∧ szE x.2.2.2.2.1 ≤ 600
 c : ∀ x ∈ f.2.2.2.2.2.1, x.1.length ≤ 600 ∧ szE x.2.2.2.1 ≤ 600 ∧ szE x.2.2.2.2.1 ≤ 600
end Go.AM.Lf
namespace Go.AM.Lf
open PL
theorem ex_eta (e : Expr) : Expr.mk (Expr.kind e) ((Expr.num e).1, ((Expr.num e).2.1, ((Expr.num e).2.2.1, ()))) (Expr.name e) (Expr.kids e) = e := by
 cases e; rfl
mutual
theorem bkE_sz : ∀ e : Expr, bkE e ≤ 4 * szE e
 | .mk k n s l => by
  have := bkEs_sz l
  unfold bkE szE
  omega
theorem bkEs_sz : ∀ l : List Expr, bkEs l ≤ 4 * szEs l
 | [] => Nat.le_refl _
 | e :: r => by
  have h1 := bkE_sz e
  have h2 := bkEs_sz r
  unfold bkEs szEs
  omega
end
def exOk (e : Expr) : Prop := szE e ≤ 600 ∧ allOk e
theorem exOk_bk {e : Expr} (h : exOk e) : bkE e ≤ 2400 := by have := bkE_sz e; have := h.1; omega
theorem exOk_nd {e : Expr} (h : exOk e) : ndE e ≤ 256 := by have := ndE_sz e; have := h.1; omega
theorem exOk_is {e : Expr} (h : exOk e) : (expr_Is e).run = some (okE 0 e) := Is_run e h.2 (exOk_nd h)
theorem exOk_is5 {e : Expr} (h : exOk e) : (ref5_Is e).run = some (okE 0 e) := ref5_Is_run e h.2 (by have := exOk_bk h; omega) (exOk_nd h)
theorem exOk_pr {e : Expr} (h : exOk e) (ho : okE 0 e = true) : (expr_Print e).run = some (prE e) := Print_run e ho h.2 (by have := h.1; omega)
theorem exOk_pr5 {e : Expr} (h : exOk e) (ho : okE 0 e = true) : (ref5_Print e).run = some (prE e) := ref5_Print_run e ho h.2 (by have := h.1; omega) (by have := exOk_bk h; omega)
theorem exOk_len {e : Expr} (h : exOk e) (ho : okE 0 e = true) : (prE e).length ≤ 1200000 := by
 have := prE_len (ndE e) e 0 (Nat.le_refl _) ho h.2
 have := h.1
 omega
structure FS (f : Form) : Prop where
 n : f.1.length + f.2.1.length + f.2.2.1.length + f.2.2.2.1.length + f.2.2.2.2.1.length + f.2.2.2.2.2.1.length ≤ 30
 s : ∀ x ∈ f.1, x.1.length ≤ 600
 p : ∀ x ∈ f.2.1, x.1.length ≤ 600 ∧ ratOk 100 x.2.1
 g : ∀ x ∈ f.2.2.1, x.1.length ≤ 600 ∧ x.2.1.length ≤ 600
 d : ∀ x ∈ f.2.2.2.1, x.1.length ≤ 600
 r : ∀ x ∈ f.2.2.2.2.1, x.1.length ≤ 600 ∧ x.2.2.1.length ≤ 600 ∧ exOk x.2.2.2.1 ∧ exOk x.2.2.2.2.1
 c : ∀ x ∈ f.2.2.2.2.2.1, x.1.length ≤ 600 ∧ exOk x.2.2.2.1 ∧ exOk x.2.2.2.2.1
theorem fs_of {f : Form} (hw : wf tyForm f) (hb : FB f) (hl : FL f) : FS f := by
 refine ⟨hl.n, hl.s, fun x hx => ?_, hl.g, hl.d, fun x hx => ?_, fun x hx => ?_⟩
 ·obtain ⟨a, b, c⟩ := hl.p x hx
  obtain ⟨_, _, _, d, e⟩ := hb.p x hx
  exact ⟨a, d, e, by omega, by omega⟩
 ·obtain ⟨a, b, c, d⟩ := hl.r x hx
  have hwx : wf tyRule x := hw.2.2.2.2.1 x hx
  exact ⟨a, b, ⟨c, allOk_of _ hwx.2.2.2.1 (by omega)⟩, d, allOk_of _ hwx.2.2.2.2.1 (by omega)⟩
 ·obtain ⟨a, b, c⟩ := hl.c x hx
  have hwx : wf tyCheck x := hw.2.2.2.2.2.1 x hx
  exact ⟨a, ⟨b, allOk_of _ hwx.2.2.2.1 (by omega)⟩, c, allOk_of _ hwx.2.2.2.2.1 (by omega)⟩
def badS (x : Switch) : Bool := !nameOk x.1
def badPa (x : Param) : Bool := !nameOk x.1 || (!isRb x.2.1 || largeB x.2.1)
def guardB (s : Str) : Bool := strEq s [] || nameOk s
def badG (x : Page) : Bool := !nameOk x.1 || !guardB x.2.1
def badF (n at_ : Int) (x : Field) : Bool := decide (x.2.1 < at_) || (decide (n ≤ x.2.1) || (!nameOk x.1 || (decide (x.2.2.2.1 < (0 : Int)) || decide ((9 : Int) < x.2.2.2.1))))
def badC (n at_ : Int) (x : Check) : Bool := decide (x.2.1 < at_) || (decide (n ≤ x.2.1) || (!nameOk x.1 || (decide (x.2.2.1 < (0 : Int)) || (decide ((2 : Int) < x.2.2.1) || (!okE 0 x.2.2.2.1 || !okE 0 x.2.2.2.2.1)))))
def badR (x : Rule) : Bool := !nameOk x.1 || (!guardB x.2.2.1 || (decide (x.2.1 < (0 : Int)) || (decide ((3 : Int) < x.2.1) || (!okE 0 x.2.2.2.1 || !okE 0 x.2.2.2.2.1))))
def scanB {α : Type} (bad : Int → α → Bool) (nx : α → Int) : Int → List α → Bool
 | _, [] => true
 | at_, x :: r => !bad at_ x && scanB bad nx (nx x) r
theorem scanB_cons {α : Type} (bad : Int → α → Bool) (nx : α → Int) (at_ : Int) (x : α) (r : List α) : scanB bad nx at_ (x :: r) = (!bad at_ x && scanB bad nx (nx x) r) := rfl
def a1 (f : Form) : Bool := !f.1.any badS
def a2 (f : Form) : Bool := !f.2.1.any badPa
def a3 (f : Form) : Bool := !f.2.2.1.any badG
def a4 (f : Form) : Bool := scanB (badF (f.2.2.1.length : Int)) (fun x => x.2.1) 0 f.2.2.2.1
def a5 (f : Form) : Bool := scanB (badC (f.2.2.1.length : Int)) (fun x => x.2.1) 0 f.2.2.2.2.2.1
def a6 (f : Form) : Bool := !f.2.2.2.2.1.any badR
theorem all_loop {α : Type} (l : List α) (d : α) (bad : α → Bool) {r : Int → T (Int ⊕ (Unit ⊕ Bool))}
  (step : ∀ (k : Nat) (x : α), k < l.length → nth l (k : Int) d = x → x ∈ l → (r (k : Int)).run = some (if bad x = true then .inr (.inr false) else .inl ((k + 1 : Nat) : Int)))
  (done : (r (l.length : Int)).run = some (.inr (.inl ()))) : (T.loop r 0).run = some (if l.any bad = true then .inr false else .inl ()) := by
 refine T.loop_scan (r := r) l d (fun (_ : Unit) i => i) (fun _ _ => True) (fun xs _ => if xs.any bad = true then .inr false else .inl ()) (fun k b x xs hk hx hm _ _ => ?_) (fun b _ => ?_) (b := ()) trivial
 ·rw [step k x hk hx hm, List.any_cons]
  cases bad x with
  | true => exact .inr rfl
  | false => exact .inl ⟨(), rfl, trivial, rfl⟩
 ·exact done
theorem scan_loop {α : Type} (l : List α) (d : α) (bad : Int → α → Bool) (nx : α → Int) {r : Int × Int → T ((Int × Int) ⊕ (Unit ⊕ Bool))}
  (hn : ∀ at_ x, 0 ≤ at_ → bad at_ x = false → 0 ≤ nx x)
  (step : ∀ (k : Nat) (at_ : Int) (x : α), k < l.length → nth l (k : Int) d = x → x ∈ l → 0 ≤ at_ → (r (at_, (k : Int))).run = some (if bad at_ x = true then .inr (.inr false) else .inl (nx x, ((k + 1 : Nat) : Int))))
  (done : ∀ at_, (r (at_, (l.length : Int))).run = some (.inr (.inl ()))) : (T.loop r (0, 0)).run = some (if scanB bad nx 0 l = true then .inl () else .inr false) := by
 refine T.loop_scan (r := r) l d (fun (b : Int) i => (b, i)) (fun _ b => 0 ≤ b) (fun xs b => if scanB bad nx b xs = true then .inl () else .inr false) (fun k b x xs hk hx hm _ h0 => ?_) (fun b _ => ?_) (b := 0) (Int.le_refl 0)
 ·rw [step k b x hk hx hm h0]
  rw [scanB_cons]
  cases h : bad b x with
  | true => exact .inr rfl
  | false => exact .inl ⟨nx x, rfl, hn b x h0 h, rfl⟩
 ·exact done b
theorem scanB_mem {α : Type} {bad : Int → α → Bool} {nx : α → Int} : ∀ {l : List α} {at_ : Int}, scanB bad nx at_ l = true → ∀ x ∈ l, ∃ b, bad b x = false
 | [], _, _, x, hx => by cases hx
 | y :: r, at_, h, x, hx => by
  unfold scanB at h
  rw [Bool.and_eq_true, Bool.not_eq_true'] at h
  rcases List.mem_cons.1 hx with rfl | hx
  ·exact ⟨at_, h.1⟩
  ·exact scanB_mem h.2 x hx
theorem orP {α : Type} {x : α} {b c : Bool} {t : T (Bool × α)} (h : t.run = some (c, x)) : (T.ite b (.ret (true, x)) t).run = some (b || c, x) := by cases b; exact h; rfl
theorem orB {b c : Bool} {t : T Bool} (h : t.run = some c) : (T.ite b (.ret true) t).run = some (b || c) := by cases b; exact h; rfl
theorem callP {α : Type} {x : α} {m : T Bool} {b c : Bool} {t : T (Bool × α)} (hm : m.run = some b) (h : t.run = some (c, x)) : (T.bind m fun r => T.ite (!r) (.ret (true, x)) t).run = some (!b || c, x) := by
 rw [T.run_bind_of hm]; exact orP h
theorem callB {m : T Bool} {b c : Bool} {t : T Bool} (hm : m.run = some b) (h : t.run = some c) : (T.bind m fun r => T.ite (!r) (.ret true) t).run = some (!b || c) := by
 rw [T.run_bind_of hm]; exact orB h
theorem endP {α : Type} {x : α} {m : T Bool} {b : Bool} (hm : m.run = some b) : (T.bind m fun r => .ret ((!r), x)).run = some (!b, x) := by
 rw [T.run_bind_of hm]; rfl
theorem endB {m : T Bool} {b : Bool} (hm : m.run = some b) : (T.bind m fun r => .ret (!r)).run = some (!b) := by
 rw [T.run_bind_of hm]; rfl
end Go.AM.Lf
namespace Go.AM.Lf
open PL
abbrev ile (a b : Int) : Prop := a ≤ b
abbrev ilt (a b : Int) : Prop := a < b
end Go.AM.Lf
namespace Go.AM.Lf
open PL
def swS (x : Switch) : Str := [115, 119, 105, 116, 99, 104, 32] ++ x.1 ++ (bif x.2.1 then [32, 111, 110, 10] else [32, 111, 102, 102, 10])
def paS (x : Param) : Str := [112, 97, 114, 97, 109, 32] ++ x.1 ++ [32] ++ printS (norm x.2.1) ++ [10]
def whS (s : Str) : Str := if s = [] then [] else [32, 119, 104, 101, 110, 32] ++ s
def phS (x : Page) : Str := [112, 97, 103, 101, 32] ++ x.1 ++ whS x.2.1 ++ [10]
def fhS (x : Field) : Str := bif x.2.2.1 then [102, 105, 101, 108, 100, 32] ++ x.1 ++ [32, 109, 117, 115, 116] else [102, 105, 101, 108, 100, 32] ++ x.1
def fdS (x : Field) : Str := if (0 : Int) < x.2.2.2.1 then fhS x ++ ([32, 115, 99, 97, 108, 101, 32] ++ itoaS x.2.2.2.1) ++ [10] else fhS x ++ [10]
def siS (l : Expr) (sign : Str) (r : Expr) : Str := [32, 58, 32] ++ prE l ++ [32] ++ sign ++ [32] ++ prE r ++ [10]
def cmpS (n : Int) : Str := if n = 1 then [60] else if n = 2 then [60, 61] else [61]
def strS (n : Int) : Str := if n = 0 then [114, 101, 113, 117, 105, 114, 101, 100] else if n = 1 then [115, 116, 114, 111, 110, 103] else if n = 2 then [109, 101, 100, 105, 117, 109] else [119, 101, 97, 107]
def ckS (x : Check) : Str := [99, 104, 101, 99, 107, 32] ++ x.1 ++ siS x.2.2.2.1 (cmpS x.2.2.1) x.2.2.2.2.1
def ruS (x : Rule) : Str := [114, 117, 108, 101, 32] ++ strS x.2.1 ++ [32] ++ x.1 ++ whS x.2.2.1 ++ siS x.2.2.2.1 [61] x.2.2.2.2.1
def fdI (i : Int) (x : Field) : Str := if (x.2.1 == i) = true then fdS x else []
def ckI (i : Int) (x : Check) : Str := if (x.2.1 == i) = true then ckS x else []
def pgS (f : Form) (i : Nat) : Str := phS (nth f.2.2.1 (i : Int) (dflt tyPage)) ++ f.2.2.2.1.flatMap (fdI i) ++ f.2.2.2.2.2.1.flatMap (ckI i)
def frS (f : Form) : Str := f.1.flatMap swS ++ f.2.1.flatMap paS ++ (List.range f.2.2.1.length).flatMap (pgS f) ++ f.2.2.2.2.1.flatMap ruS
structure FT2 (f : Form) : Prop extends FS f where
 d2 : ∀ x ∈ f.2.2.2.1, ile 0 x.2.2.2.1 ∧ ile x.2.2.2.1 9
 c2 : ∀ x ∈ f.2.2.2.2.2.1, ile 0 x.2.2.1 ∧ ile x.2.2.1 2 ∧ okE 0 x.2.2.2.1 = true ∧ okE 0 x.2.2.2.2.1 = true
 r2 : ∀ x ∈ f.2.2.2.2.1, ile 0 x.2.1 ∧ ile x.2.1 3 ∧ okE 0 x.2.2.2.1 = true ∧ okE 0 x.2.2.2.2.1 = true
theorem ft_of {f : Form} (h : FS f) (h4 : a4 f = true) (h5 : a5 f = true) (h6 : a6 f = true) : FT2 f := by
 refine { toFS := h, d2 := fun x hx => ?_, c2 := fun x hx => ?_, r2 := fun x hx => ?_ }
 ·obtain ⟨b, hb⟩ := scanB_mem h4 x hx
  unfold badF at hb
  simp only [Bool.or_eq_false_iff, decide_eq_false_iff_not, Bool.not_eq_false'] at hb
  obtain ⟨_, _, _, q1, q2⟩ := hb
  exact ⟨Int.not_lt.1 q1, Int.not_lt.1 q2⟩
 ·obtain ⟨b, hb⟩ := scanB_mem h5 x hx
  unfold badC at hb
  simp only [Bool.or_eq_false_iff, decide_eq_false_iff_not, Bool.not_eq_false'] at hb
  obtain ⟨_, _, _, q1, q2, q3, q4⟩ := hb
  exact ⟨Int.not_lt.1 q1, Int.not_lt.1 q2, q3, q4⟩
 ·unfold a6 at h6
  rw [Bool.not_eq_true', List.any_eq_false] at h6
  have hb : badR x = false := by simpa using h6 x hx
  unfold badR at hb
  simp only [Bool.or_eq_false_iff, decide_eq_false_iff_not, Bool.not_eq_false'] at hb
  obtain ⟨_, _, q1, q2, q3, q4⟩ := hb
  exact ⟨Int.not_lt.1 q1, Int.not_lt.1 q2, q3, q4⟩
theorem cmpS_len (n : Int) : (cmpS n).length ≤ 2 := by unfold cmpS; split; decide; split <;> decide
theorem strS_len (n : Int) : (strS n).length ≤ 8 := by unfold strS; split; decide; split; decide; split <;> decide
theorem whS_len (s : Str) : (whS s).length ≤ s.length + 6 := by unfold whS; split <;> simp
theorem swS_len (x : Switch) (h : x.1.length ≤ 600) : (swS x).length ≤ 4000000 := by
 unfold swS
 cases x.2.1 <;> simp <;> omega
theorem paS_len (x : Param) (h : x.1.length ≤ 600) (hr : ratOk 100 x.2.1) : (paS x).length ≤ 4000000 := by
 have := printS_len x.2.1 ⟨hr.1, hr.2.1, by have := hr.2.2.1; omega, by have := hr.2.2.2; omega⟩
 unfold paS
 simp only [List.length_append, List.length_cons, List.length_nil]
 omega
theorem phS_len (x : Page) (h : x.1.length ≤ 600) (h2 : x.2.1.length ≤ 600) : (phS x).length ≤ 4000000 := by
 have := whS_len x.2.1
 unfold phS
 simp only [List.length_append, List.length_cons, List.length_nil]
 omega
theorem fhS_len (x : Field) : (fhS x).length ≤ x.1.length + 11 := by
 unfold fhS
 cases x.2.2.1 <;> simp
theorem fdS_len (x : Field) (h : x.1.length ≤ 600) (h1 : ile 0 x.2.2.2.1) (h2 : ile x.2.2.2.1 9) : (fdS x).length ≤ 4000000 := by
 have := itoa_len x.2.2.2.1 ⟨by unfold ile at *; omega, by unfold ile at *; omega⟩
 have := fhS_len x
 unfold fdS
 split <;> simp only [List.length_append, List.length_cons, List.length_nil] <;> omega
theorem siS_len {l r : Expr} (s : Str) (hs : s.length ≤ 8) (h1 : exOk l) (h2 : exOk r) (o1 : okE 0 l = true) (o2 : okE 0 r = true) : (siS l s r).length ≤ 2500000 := by
 have := exOk_len h1 o1
 have := exOk_len h2 o2
 unfold siS
 simp only [List.length_append, List.length_cons, List.length_nil]
 omega
theorem ckS_len (x : Check) (h : x.1.length ≤ 600) (h1 : exOk x.2.2.2.1) (h2 : exOk x.2.2.2.2.1) (o1 : okE 0 x.2.2.2.1 = true) (o2 : okE 0 x.2.2.2.2.1 = true) : (ckS x).length ≤ 4000000 := by
 have := siS_len (cmpS x.2.2.1) (by have := cmpS_len x.2.2.1; omega) h1 h2 o1 o2
 unfold ckS
 simp only [List.length_append, List.length_cons, List.length_nil]
 omega
theorem ruS_len (x : Rule) (h : x.1.length ≤ 600) (h' : x.2.2.1.length ≤ 600) (h1 : exOk x.2.2.2.1) (h2 : exOk x.2.2.2.2.1) (o1 : okE 0 x.2.2.2.1 = true) (o2 : okE 0 x.2.2.2.2.1 = true) : (ruS x).length ≤ 4000000 := by
 have := siS_len [61] (by decide) h1 h2 o1 o2
 have := strS_len x.2.1
 have := whS_len x.2.2.1
 unfold ruS
 simp only [List.length_append, List.length_cons, List.length_nil]
 omega
theorem fdI_len {f : Form} (h : FT2 f) (i : Int) : ∀ x ∈ f.2.2.2.1, (fdI i x).length ≤ 4000000 := fun x hx => by
 unfold fdI
 split
 ·exact fdS_len x (h.d x hx) (h.d2 x hx).1 (h.d2 x hx).2
 ·exact Nat.zero_le _
theorem ckI_len {f : Form} (h : FT2 f) (i : Int) : ∀ x ∈ f.2.2.2.2.2.1, (ckI i x).length ≤ 4000000 := fun x hx => by
 unfold ckI
 obtain ⟨q1, q2, q3⟩ := h.c x hx
 obtain ⟨_, _, o1, o2⟩ := h.c2 x hx
 split
 ·exact ckS_len x q1 q2 q3 o1 o2
 ·exact Nat.zero_le _
theorem ph_of {f : Form} (h : FT2 f) {i : Nat} (hi : i < f.2.2.1.length) : (nth f.2.2.1 (i : Int) (dflt tyPage)).1.length ≤ 600 ∧ (nth f.2.2.1 (i : Int) (dflt tyPage)).2.1.length ≤ 600 :=
 h.g _ (nth_mem (by omega) (by omega))
theorem pgS_len {f : Form} (h : FT2 f) {i : Nat} (hi : i < f.2.2.1.length) : (pgS f i).length ≤ 300000000 := by
 obtain ⟨g1, g2⟩ := ph_of h hi
 have h1 := phS_len _ g1 g2
 have h2 := flatMap_len (fdI i) f.2.2.2.1 4000000 (fdI_len h i)
 have h3 := flatMap_len (ckI i) f.2.2.2.2.2.1 4000000 (ckI_len h i)
 have := h.n
 have : f.2.2.2.1.length * 4000000 ≤ 30 * 4000000 := Nat.mul_le_mul_right _ (by omega)
 have : f.2.2.2.2.2.1.length * 4000000 ≤ 30 * 4000000 := Nat.mul_le_mul_right _ (by omega)
 unfold pgS
 simp only [List.length_append]
 omega
theorem txt_loop {α : Type} (l : List α) (d : α) (C B : Nat) (f : α → Str) (s : Str) {r : Str × Int → T ((Str × Int) ⊕ Str)}
  (step : ∀ (k : Nat) (b : Str) (x : α), k < l.length → nth l (k : Int) d = x → x ∈ l → b.length + C ≤ B → (r (b, (k : Int))).run = some (.inl (b ++ f x, ((k + 1 : Nat) : Int))))
  (done : ∀ b, (r (b, (l.length : Int))).run = some (.inr b)) (hf : ∀ x ∈ l, (f x).length ≤ C) (hB : s.length + l.length * C ≤ B) : (T.loop r (s, 0)).run = some (s ++ l.flatMap f) := by
 rw [← foldl_cat]
 refine T.loop_fold' (r := r) l d (fun (b : Str) i => (b, i)) (fun k b => b.length ≤ s.length + k * C) (fun b x => b ++ f x) (fun b => b) (fun k b x hk hx hm hI => ?_) (fun b hI => done b) (b := s) (by omega)
 have h4 := mul_mono (c := C) (show k + 1 ≤ l.length from hk)
 rw [Nat.add_mul, Nat.one_mul] at h4
 refine ⟨step k b x hk hx hm (by omega), ?_⟩
 have := hf x hm
 rw [List.length_append, Nat.add_mul, Nat.one_mul]
 omega
theorem bld_loop {α : Type} (l : List α) (d : α) (C B : Nat) (f : α → Str) (s : Str) {r : Int × Unit × List Int → T ((Int × Unit × List Int) ⊕ (Unit × List Int))}
  (step : ∀ (k : Nat) (b : Str) (x : α), k < l.length → nth l (k : Int) d = x → x ∈ l → b.length + C ≤ B → (r ((k : Int), (), bytesOf b)).run = some (.inl (((k + 1 : Nat) : Int), (), bytesOf (b ++ f x))))
  (done : ∀ b, (r ((l.length : Int), (), bytesOf b)).run = some (.inr ((), bytesOf b))) (hf : ∀ x ∈ l, (f x).length ≤ C) (hB : s.length + l.length * C ≤ B) : (T.loop r (0, (), bytesOf s)).run = some ((), bytesOf (s ++ l.flatMap f)) := by
 rw [← foldl_cat]
 refine T.loop_fold' (r := r) l d (fun (b : Str) i => (i, (), bytesOf b)) (fun k b => b.length ≤ s.length + k * C) (fun b x => b ++ f x) (fun b => ((), bytesOf b)) (fun k b x hk hx hm hI => ?_) (fun b hI => done b) (b := s) (by omega)
 have h4 := mul_mono (c := C) (show k + 1 ≤ l.length from hk)
 rw [Nat.add_mul, Nat.one_mul] at h4
 refine ⟨step k b x hk hx hm (by omega), ?_⟩
 have := hf x hm
 rw [List.length_append, Nat.add_mul, Nat.one_mul]
 omega
end Go.AM.Lf
namespace Go.AM.Lf
open PL
theorem anySwitch_run (l : List Switch) (g : Switch → T Bool) (p : Switch → Bool) (hg : ∀ x ∈ l, (g x).run = some (p x)) (hl : l.length ≤ 1000000000) : (slices_ContainsFunc_sl_Switch l g).run = some (l.any p) := by
 have key : (slices_IndexFunc_sl_Switch_L0 l g (l.length : Int) 0).run = some (if PL.ixF p 0 l = -1 then .inl () else .inr (PL.ixF p 0 l)) := by
  refine PL.ix_loop l (dflt tySwitch) p (fun i h hi hp => ?_) (fun i h hi hp => ?_) (fun i hi => ?_)
  ·have hm := nth_mem (d := dflt tySwitch) h hi
   simp (disch := omega) [slices_IndexFunc_sl_Switch_R0, hi, hg _ hm, hp]
  ·have hm := nth_mem (d := dflt tySwitch) h hi
   simp (disch := omega) [slices_IndexFunc_sl_Switch_R0, hi, hg _ hm, hp]
  ·simp [slices_IndexFunc_sl_Switch_R0, hi]
 have hx : (slices_IndexFunc_sl_Switch l g).run = some (PL.ixF p 0 l) := by
  unfold slices_IndexFunc_sl_Switch
  rw [T.run_bind_of key]
  split <;> rename_i h <;> simp [h]
 unfold slices_ContainsFunc_sl_Switch
 rw [T.run_bind_of hx, T.run_ret, PL.ixF_any _ _ _ (Int.le_refl 0)]
theorem anyParam_run (l : List Param) (g : Param → T Bool) (p : Param → Bool) (hg : ∀ x ∈ l, (g x).run = some (p x)) (hl : l.length ≤ 1000000000) : (slices_ContainsFunc_sl_Param l g).run = some (l.any p) := by
 have key : (slices_IndexFunc_sl_Param_L0 l g (l.length : Int) 0).run = some (if PL.ixF p 0 l = -1 then .inl () else .inr (PL.ixF p 0 l)) := by
  refine PL.ix_loop l (dflt tyParam) p (fun i h hi hp => ?_) (fun i h hi hp => ?_) (fun i hi => ?_)
  ·have hm := nth_mem (d := dflt tyParam) h hi
   simp (disch := omega) [slices_IndexFunc_sl_Param_R0, hi, hg _ hm, hp]
  ·have hm := nth_mem (d := dflt tyParam) h hi
   simp (disch := omega) [slices_IndexFunc_sl_Param_R0, hi, hg _ hm, hp]
  ·simp [slices_IndexFunc_sl_Param_R0, hi]
 have hx : (slices_IndexFunc_sl_Param l g).run = some (PL.ixF p 0 l) := by
  unfold slices_IndexFunc_sl_Param
  rw [T.run_bind_of key]
  split <;> rename_i h <;> simp [h]
 unfold slices_ContainsFunc_sl_Param
 rw [T.run_bind_of hx, T.run_ret, PL.ixF_any _ _ _ (Int.le_refl 0)]
theorem anyPage_run (l : List Page) (g : Page → T Bool) (p : Page → Bool) (hg : ∀ x ∈ l, (g x).run = some (p x)) (hl : l.length ≤ 1000000000) : (slices_ContainsFunc_sl_Page l g).run = some (l.any p) := by
 have key : (slices_IndexFunc_sl_Page_L0 l g (l.length : Int) 0).run = some (if PL.ixF p 0 l = -1 then .inl () else .inr (PL.ixF p 0 l)) := by
  refine PL.ix_loop l (dflt tyPage) p (fun i h hi hp => ?_) (fun i h hi hp => ?_) (fun i hi => ?_)
  ·have hm := nth_mem (d := dflt tyPage) h hi
   simp (disch := omega) [slices_IndexFunc_sl_Page_R0, hi, hg _ hm, hp]
  ·have hm := nth_mem (d := dflt tyPage) h hi
   simp (disch := omega) [slices_IndexFunc_sl_Page_R0, hi, hg _ hm, hp]
  ·simp [slices_IndexFunc_sl_Page_R0, hi]
 have hx : (slices_IndexFunc_sl_Page l g).run = some (PL.ixF p 0 l) := by
  unfold slices_IndexFunc_sl_Page
  rw [T.run_bind_of key]
  split <;> rename_i h <;> simp [h]
 unfold slices_ContainsFunc_sl_Page
 rw [T.run_bind_of hx, T.run_ret, PL.ixF_any _ _ _ (Int.le_refl 0)]
theorem anyRule_run (l : List Rule) (g : Rule → T Bool) (p : Rule → Bool) (hg : ∀ x ∈ l, (g x).run = some (p x)) (hl : l.length ≤ 1000000000) : (slices_ContainsFunc_sl_Rule l g).run = some (l.any p) := by
 have key : (slices_IndexFunc_sl_Rule_L0 l g (l.length : Int) 0).run = some (if PL.ixF p 0 l = -1 then .inl () else .inr (PL.ixF p 0 l)) := by
  refine PL.ix_loop l (dflt tyRule) p (fun i h hi hp => ?_) (fun i h hi hp => ?_) (fun i hi => ?_)
  ·have hm := nth_mem (d := dflt tyRule) h hi
   simp (disch := omega) [slices_IndexFunc_sl_Rule_R0, hi, hg _ hm, hp]
  ·have hm := nth_mem (d := dflt tyRule) h hi
   simp (disch := omega) [slices_IndexFunc_sl_Rule_R0, hi, hg _ hm, hp]
  ·simp [slices_IndexFunc_sl_Rule_R0, hi]
 have hx : (slices_IndexFunc_sl_Rule l g).run = some (PL.ixF p 0 l) := by
  unfold slices_IndexFunc_sl_Rule
  rw [T.run_bind_of key]
  split <;> rename_i h <;> simp [h]
 unfold slices_ContainsFunc_sl_Rule
 rw [T.run_bind_of hx, T.run_ret, PL.ixF_any _ _ _ (Int.le_refl 0)]
theorem isWhen_run (s : Str) : (sheet_isWhen s).run = some (guardB s) := by
 unfold sheet_isWhen guardB
 cases strEq s [] with
 | true => rfl
 | false => rw [T.run_ite_false, T.run_bind_of (Name_run s)]; rfl
theorem heads_run (f : Form) (h : FS f) : (sheet_heads f).run = some (a1 f && (a2 f && a3 f)) := by
 have hn := h.n
 have h1 : (slices_ContainsFunc_sl_Switch f.1 (fun z0 => sheet_heads_f1 z0)).run = some (f.1.any badS) := anySwitch_run f.1 _ badS (fun x _ => by
  unfold sheet_heads_f1 badS
  exact endB (Name_run x.1)) (by omega)
 have h2 : (slices_ContainsFunc_sl_Param f.2.1 (fun z0 => sheet_heads_f2 z0)).run = some (f.2.1.any badPa) := anyParam_run f.2.1 _ badPa (fun x hx => by
  have hr := (h.p x hx).2
  have hr : ratOk 100000000 x.2.1 := ⟨hr.1, hr.2.1, by have := hr.2.2.1; omega, by have := hr.2.2.2; omega⟩
  unfold sheet_heads_f2 badPa
  exact callB (Name_run x.1) (callB (rat_Is_run _ hr) (by rw [T.run_bind_of (rat_Large_run _ hr)]; rfl))) (by omega)
 have h3 : (slices_ContainsFunc_sl_Page f.2.2.1 (fun z0 => sheet_heads_f3 z0)).run = some (f.2.2.1.any badG) := anyPage_run f.2.2.1 _ badG (fun x hx => by
  unfold sheet_heads_f3 badG
  exact callB (Name_run x.1) (endB (isWhen_run _))) (by omega)
 unfold sheet_heads a1 a2 a3
 rw [T.run_bind_of h1]
 cases f.1.any badS with
 | true => rfl
 | false =>
  rw [T.run_ite_t (by rfl), T.run_bind_of h2]
  cases f.2.1.any badPa with
  | true => rfl
  | false => rw [T.run_ite_t (by rfl), T.run_bind_of h3, T.run_ret]; rfl
theorem isPage_run (pg at_ n : Int) (h : 0 ≤ at_) : (sheet_isPage pg at_ n).run = some (!(decide (pg < at_) || decide (n ≤ pg))) := by
 unfold sheet_isPage
 have e1 : maxI at_ 0 = at_ := by unfold maxI; split <;> omega
 rw [e1, T.run_ret]
 by_cases q1 : pg < at_ <;> by_cases q2 : n ≤ pg
 ·rw [decide_eq_true q1, decide_eq_false (by omega : ¬ at_ ≤ pg)]; rfl
 ·rw [decide_eq_true q1, decide_eq_false (by omega : ¬ at_ ≤ pg)]; rfl
 ·rw [decide_eq_true q2, decide_eq_false (by omega : ¬ pg < n), Bool.and_false, Bool.or_true]; rfl
 ·rw [decide_eq_false q1, decide_eq_false q2, decide_eq_true (by omega : at_ ≤ pg), decide_eq_true (by omega : pg < n)]; rfl
theorem sheet_fields_run (f : Form) (h : FS f) : (sheet_fields f).run = some (a4 f) := by
 have hn := h.n
 have key : (sheet_fields_L0 f f.2.2.2.1 (f.2.2.2.1.length : Int) (0, 0)).run = some (if a4 f = true then .inl () else .inr false) := by
  refine scan_loop (r := sheet_fields_R0 f f.2.2.2.1 (f.2.2.2.1.length : Int)) f.2.2.2.1 (dflt tyField) (badF (f.2.2.1.length : Int)) (fun x => x.2.1) (fun at_ x h0 hb => ?_) (fun k at_ x hk hx hm h0 => ?_) (fun at_ => ?_)
  ·unfold badF at hb
   rw [Bool.or_eq_false_iff, decide_eq_false_iff_not] at hb
   exact Int.le_trans h0 (Int.not_lt.1 hb.1)
  ·unfold sheet_fields_R0
   dsimp only
   rw [T.run_ite_t (lt_t hk), T.run_obl (idx_ok hk), hx]
   refine (T.run_bind_of (a := (badF (f.2.2.1.length : Int) at_ x, x)) ?_ _).trans ?_
   ·refine (callP (Name_run x.1) (callP (isPage_run x.2.1 at_ _ h0) (orP (T.run_ret _)))).trans ?_
    unfold badF
    cases nameOk x.1 <;> cases decide (x.2.1 < at_) <;> cases decide ((f.2.2.1.length : Int) ≤ x.2.1) <;> cases decide (x.2.2.2.1 < (0 : Int)) <;> cases decide ((9 : Int) < x.2.2.2.1) <;> rfl
   ·dsimp only
    cases badF (f.2.2.1.length : Int) at_ x with
    | true => rfl
    | false => rw [T.run_ite_false, T.run_ret, ix1 k _ hk (by omega)]; rfl
  ·unfold sheet_fields_R0
   dsimp only
   rw [T.run_ite_f (lt_f _), T.run_ret]
 unfold sheet_fields
 rw [T.run_bind_of key]
 cases a4 f <;> rfl
theorem badR_len (x : Rule) (h1 : exOk x.2.2.2.1) (h2 : exOk x.2.2.2.2.1) : (sheet_checks_f1 x).run = some (badR x) := by
 unfold sheet_checks_f1
 have e : (T.bind (sheet_strengths) fun r2 => T.ite (decide ((Nat.cast (List.length r2) : Int) ≤ x.2.1)) (.ret true) (T.bind (sheet_isWhen x.2.2.1) fun r3 => T.ite (!r3) (.ret true) (T.bind (expr_Is x.2.2.2.1) fun r4 => T.ite (!r4) (.ret true) (T.bind (expr_Is x.2.2.2.2.1) fun r5 => .ret (!r5))))).run
   = some (decide ((4 : Int) ≤ x.2.1) || (!guardB x.2.2.1 || (!okE 0 x.2.2.2.1 || !okE 0 x.2.2.2.2.1))) := by
  unfold sheet_strengths
  exact orB (callB (isWhen_run _) (callB (exOk_is h1) (endB (exOk_is h2))))
 refine (callB (Name_run x.1) (orB e)).trans ?_
 unfold badR
 rw [show decide ((4 : Int) ≤ x.2.1) = decide ((3 : Int) < x.2.1) from rfl]
 cases nameOk x.1 <;> cases guardB x.2.2.1 <;> cases decide ((3 : Int) < x.2.1) <;> cases decide (x.2.1 < (0 : Int)) <;> rfl
theorem sheet_checks_run (f : Form) (h : FS f) : (sheet_checks f).run = some (a5 f && a6 f) := by
 have hn := h.n
 have key : (sheet_checks_L0 f f.2.2.2.2.2.1 (f.2.2.2.2.2.1.length : Int) (0, 0)).run = some (if a5 f = true then .inl () else .inr false) := by
  refine scan_loop (r := sheet_checks_R0 f f.2.2.2.2.2.1 (f.2.2.2.2.2.1.length : Int)) f.2.2.2.2.2.1 (dflt tyCheck) (badC (f.2.2.1.length : Int)) (fun x => x.2.1) (fun at_ x h0 hb => ?_) (fun k at_ x hk hx hm h0 => ?_) (fun at_ => ?_)
  ·unfold badC at hb
   rw [Bool.or_eq_false_iff, decide_eq_false_iff_not] at hb
   exact Int.le_trans h0 (Int.not_lt.1 hb.1)
  ·obtain ⟨_, x1, x2⟩ := h.c x hm
   unfold sheet_checks_R0
   dsimp only
   rw [T.run_ite_t (lt_t hk), T.run_obl (idx_ok hk), hx]
   simp only [ex_eta]
   refine (T.run_bind_of (a := (badC (f.2.2.1.length : Int) at_ x, x)) ?_ _).trans ?_
   ·have e : (T.bind (sheet_compares) fun r2 => T.ite (decide ((Nat.cast (List.length r2) : Int) ≤ x.2.2.1)) (.ret (true, x)) (T.bind (expr_Is x.2.2.2.1) fun r3 => T.ite (!r3) (.ret (true, x)) (T.bind (expr_Is x.2.2.2.2.1) fun r4 => .ret ((!r4), x)))).run
      = some (decide ((3 : Int) ≤ x.2.2.1) || (!okE 0 x.2.2.2.1 || !okE 0 x.2.2.2.2.1), x) := by
     unfold sheet_compares
     exact orP (callP (exOk_is x1) (endP (exOk_is x2)))
    refine (callP (Name_run x.1) (callP (isPage_run x.2.1 at_ _ h0) (orP e))).trans ?_
    unfold badC
    rw [show decide ((3 : Int) ≤ x.2.2.1) = decide ((2 : Int) < x.2.2.1) from rfl]
    cases nameOk x.1 <;> cases decide (x.2.1 < at_) <;> cases decide ((f.2.2.1.length : Int) ≤ x.2.1) <;> cases decide (x.2.2.1 < (0 : Int)) <;> cases decide ((2 : Int) < x.2.2.1) <;> rfl
   ·dsimp only
    cases badC (f.2.2.1.length : Int) at_ x with
    | true => rfl
    | false => rw [T.run_ite_false, T.run_ret, ix1 k _ hk (by omega)]; rfl
  ·unfold sheet_checks_R0
   dsimp only
   rw [T.run_ite_f (lt_f _), T.run_ret]
 have h3 : (slices_ContainsFunc_sl_Rule f.2.2.2.2.1 (fun z0 => sheet_checks_f1 z0)).run = some (f.2.2.2.2.1.any badR) := anyRule_run f.2.2.2.2.1 _ badR (fun x hx => by
  obtain ⟨_, _, x1, x2⟩ := h.r x hx
  exact badR_len x x1 x2) (by omega)
 unfold sheet_checks
 rw [T.run_bind_of key]
 cases a5 f with
 | false => rfl
 | true =>
  rw [if_pos rfl, Sum.elim_inl, T.run_bind_of h3, T.run_ret]
  rfl
end Go.AM.Lf
namespace Go.AM.Lf
open PL
theorem when_run (s : Str) (h : s.length ≤ 600) : (sheet_when s).run = some (whS s) := by
 unfold sheet_when whS
 cases s with
 | nil => rfl
 | cons b r => rw [T.run_ite_f (by rfl), T.run_leN _ (by simp only [List.length_cons, List.length_nil] at *; omega), T.run_ret, if_neg (by simp)]; rfl
theorem field_run (x : Field) (h : x.1.length ≤ 600) (h1 : ile 0 x.2.2.2.1) (h2 : ile x.2.2.2.1 9) : (sheet_field x).run = some (fdS x) := by
 have hi := itoa_run x.2.2.2.1 ⟨by unfold ile at *; omega, by unfold ile at *; omega⟩
 have hl := itoa_len x.2.2.2.1 ⟨by unfold ile at *; omega, by unfold ile at *; omega⟩
 obtain ⟨nm, pg, mu, sc, u⟩ := x
 have h : nm.length ≤ 600 := h
 dsimp only at hi hl
 unfold sheet_field fdS
 dsimp only
 have e : (bif mu then (cat (cat ([102, 105, 101, 108, 100, 32] : Str) nm) ([32, 109, 117, 115, 116] : Str)) else (cat ([102, 105, 101, 108, 100, 32] : Str) nm)) = fhS (nm, pg, mu, sc, u) := rfl
 have hf : (fhS (nm, pg, mu, sc, u)).length ≤ nm.length + 11 := fhS_len _
 rw [T.run_leN _ (by simp only [List.length_cons, List.length_nil]; omega), T.run_obl (fun _ => by simp only [len_cat, List.length_cons, List.length_nil]; omega), e]
 by_cases hs : ilt 0 sc
 ·rw [T.run_ite_t (decide_eq_true hs), T.run_bind_of hi, T.run_leN _ (by simp only [List.length_cons, List.length_nil]; omega), T.run_leN _ (by simp only [len_cat, List.length_cons, List.length_nil]; omega), T.run_leN _ (by simp only [len_cat, List.length_cons, List.length_nil]; omega), T.run_ret, if_pos hs]
  rfl
 ·rw [T.run_ite_f (decide_eq_false hs), T.run_leN _ (by simp only [List.length_cons, List.length_nil]; omega), T.run_ret, if_neg hs]
  rfl
theorem sides_run (l r : Expr) (s : Str) (hs : s.length ≤ 8) (h1 : exOk l) (h2 : exOk r) (o1 : okE 0 l = true) (o2 : okE 0 r = true) : (sheet_sides l s r).run = some (siS l s r) := by
 have l1 := exOk_len h1 o1
 have l2 := exOk_len h2 o2
 unfold sheet_sides
 rw [T.run_bind_of (exOk_pr h1 o1)]
 rw [T.run_leN _ (by simp only [List.length_cons, List.length_nil]; omega), T.run_leN _ (by simp only [len_cat, List.length_cons, List.length_nil]; omega), T.run_leN _ (by simp only [len_cat, List.length_cons, List.length_nil]; omega), T.run_leN _ (by simp only [len_cat, List.length_cons, List.length_nil]; omega)]
 rw [T.run_bind_of (exOk_pr h2 o2)]
 rw [T.run_leN _ (by simp only [len_cat, List.length_cons, List.length_nil]; omega), T.run_leN _ (by simp only [len_cat, List.length_cons, List.length_nil]; omega), T.run_ret]
 rfl
theorem cmpS_at (n : Int) (h : 0 ≤ n) (h2 : n ≤ 2) : nth ([([61] : Str), ([60] : Str), ([60, 61] : Str)] : List Str) n (dflt .str) = cmpS n := by
 have : n = 0 ∨ n = 1 ∨ n = 2 := by omega
 rcases this with rfl | rfl | rfl <;> rfl
theorem strS_at (n : Int) (h : 0 ≤ n) (h2 : n ≤ 3) : nth ([([114, 101, 113, 117, 105, 114, 101, 100] : Str), ([115, 116, 114, 111, 110, 103] : Str), ([109, 101, 100, 105, 117, 109] : Str), ([119, 101, 97, 107] : Str)] : List Str) n (dflt .str) = strS n := by
 have : n = 0 ∨ n = 1 ∨ n = 2 ∨ n = 3 := by omega
 rcases this with rfl | rfl | rfl | rfl <;> rfl
theorem page_run (f : Form) (h : FT2 f) (i : Nat) (hi : i < f.2.2.1.length) (b : Str) (hb : b.length ≤ 100000000000) : (sheet_page_S f (i : Int) () (bytesOf b)).run = some ((), bytesOf (b ++ pgS f i)) := by
 have hn := h.n
 obtain ⟨g1, g2⟩ := ph_of h hi
 have hp := phS_len _ g1 g2
 have hw := whS_len (nth f.2.2.1 (i : Int) (dflt tyPage)).2.1
 have k1 : ∀ s : Str, s.length ≤ 200000000000 → (sheet_page_S_L0 (i : Int) f f.2.2.2.1 (f.2.2.2.1.length : Int) (0, (), bytesOf s)).run = some ((), bytesOf (s ++ f.2.2.2.1.flatMap (fdI i))) := fun s hs => by
  refine bld_loop (r := sheet_page_S_R0 (i : Int) f f.2.2.2.1 (f.2.2.2.1.length : Int)) f.2.2.2.1 (dflt tyField) 4000000 400000000000 (fdI i) s (fun k b x hk hx hm hb => ?_) (fun b => ?_) (fdI_len h i) (by omega)
  ·unfold sheet_page_S_R0 fdI
   dsimp only
   rw [T.run_ite_t (lt_t hk), T.run_obl (idx_ok hk), hx]
   cases hc : x.2.1 == (i : Int) with
   | true =>
    have fl := fdS_len x (h.d x hm) (h.d2 x hm).1 (h.d2 x hm).2
    rw [T.run_ite_true, T.run_bind_of (field_run x (h.d x hm) (h.d2 x hm).1 (h.d2 x hm).2), T.run_cur _ rfl rfl rfl, T.run_same, T.run_bind_of (writeString_run (fdS x) b (by omega))]
    dsimp only
    rw [T.run_cur _ rfl rfl rfl, T.run_same, T.run_ret, ix1 k _ hk (by omega), if_pos rfl]
   | false =>
    rw [T.run_ite_false, T.run_cur _ rfl rfl rfl, T.run_same, T.run_ret, ix1 k _ hk (by omega), if_neg (by decide), List.append_nil]
  ·unfold sheet_page_S_R0
   dsimp only
   rw [T.run_ite_f (lt_f _), T.run_cur _ rfl rfl rfl, T.run_same, T.run_ret]
 have k2 : ∀ s : Str, s.length ≤ 400000000000 → (sheet_page_S_L1 (i : Int) f.2.2.2.2.2.1 (f.2.2.2.2.2.1.length : Int) (0, (), bytesOf s)).run = some ((), bytesOf (s ++ f.2.2.2.2.2.1.flatMap (ckI i))) := fun s hs => by
  refine bld_loop (r := sheet_page_S_R1 (i : Int) f.2.2.2.2.2.1 (f.2.2.2.2.2.1.length : Int)) f.2.2.2.2.2.1 (dflt tyCheck) 4000000 800000000000 (ckI i) s (fun k b x hk hx hm hb => ?_) (fun b => ?_) (ckI_len h i) (by omega)
  ·unfold sheet_page_S_R1 ckI
   dsimp only
   rw [T.run_ite_t (lt_t hk), T.run_obl (idx_ok hk), hx]
   cases hc : x.2.1 == (i : Int) with
   | true =>
    obtain ⟨q1, q2, q3⟩ := h.c x hm
    obtain ⟨c1, c2, o1, o2⟩ := h.c2 x hm
    have cl := ckS_len x q1 q2 q3 o1 o2
    have hs := sides_run x.2.2.2.1 x.2.2.2.2.1 (cmpS x.2.2.1) (by have := cmpS_len x.2.2.1; omega) q2 q3 o1 o2
    have sl := siS_len (cmpS x.2.2.1) (by have := cmpS_len x.2.2.1; omega) q2 q3 o1 o2
    unfold sheet_compares
    rw [T.run_ite_true, T.run_leN _ (by simp only [List.length_cons, List.length_nil]; omega)]
    simp only [T.bind, ex_eta]
    have c3 : x.2.2.1 < ((3 : Nat) : Int) := Int.lt_of_le_of_lt c2 (by decide)
    rw [T.run_obl ⟨c1, c3⟩, cmpS_at _ c1 c2, T.run_bind_of hs, T.run_leN _ (by simp only [len_cat, List.length_cons, List.length_nil]; omega), T.run_cur _ rfl rfl rfl, T.run_true]
    have e : cat (cat ([99, 104, 101, 99, 107, 32] : Str) x.1) (siS x.2.2.2.1 (cmpS x.2.2.1) x.2.2.2.2.1) = ckS x := rfl
    rw [e, T.run_bind_of (writeString_run (ckS x) b (by omega))]
    dsimp only
    rw [T.run_cur _ rfl rfl rfl, T.run_true, T.run_ret, ix1 k _ hk (by omega), if_pos trivial]
   | false =>
    rw [T.run_ite_false, T.run_cur _ rfl rfl rfl, T.run_same, T.run_ret, ix1 k _ hk (by omega), if_neg (by decide), List.append_nil]
  ·unfold sheet_page_S_R1
   dsimp only
   rw [T.run_ite_f (lt_f _), T.run_cur _ rfl rfl rfl, T.run_same, T.run_ret]
 have l2 := flatMap_len (fdI i) f.2.2.2.1 4000000 (fdI_len h i)
 have : f.2.2.2.1.length * 4000000 ≤ 30 * 4000000 := Nat.mul_le_mul_right _ (by omega)
 unfold sheet_page_S
 rw [T.run_obl (idx_ok hi), T.run_leN _ (by simp only [List.length_cons, List.length_nil]; omega), T.run_obl (idx_ok hi), T.run_bind_of (when_run _ g2), T.run_leN _ (by simp only [len_cat, List.length_cons, List.length_nil]; omega), T.run_leN _ (by simp only [len_cat, List.length_cons, List.length_nil]; omega), T.run_cur _ rfl rfl rfl, T.run_same]
 have e : cat (cat (cat ([112, 97, 103, 101, 32] : Str) (nth f.2.2.1 (i : Int) (dflt tyPage)).1) (whS (nth f.2.2.1 (i : Int) (dflt tyPage)).2.1)) ([10] : Str) = phS (nth f.2.2.1 (i : Int) (dflt tyPage)) := rfl
 rw [e, T.run_bind_of (writeString_run _ b (by omega))]
 dsimp only
 rw [T.run_cur _ rfl rfl rfl, T.run_same, T.run_bind_of (k1 _ (by rw [List.length_append]; omega))]
 dsimp only
 rw [T.run_cur _ rfl rfl rfl, T.run_same, T.run_bind_of (k2 _ (by rw [List.length_append, List.length_append]; omega))]
 dsimp only
 rw [T.run_cur _ rfl rfl rfl, T.run_same, T.run_ret]
 unfold pgS
 simp only [List.append_assoc]
end Go.AM.Lf
namespace Go.AM.Lf
open PL
theorem nth_range (n k : Nat) (h : k < n) : nth (List.range n) (k : Int) 0 = k := by
 rw [nth_at (by rw [List.length_range]; exact h), List.getElem_range]
theorem frS_len1 {f : Form} (h : FT2 f) : (f.1.flatMap swS).length ≤ f.1.length * 4000000 := flatMap_len swS f.1 4000000 fun x hx => swS_len x (h.s x hx)
theorem frS_len2 {f : Form} (h : FT2 f) : (f.2.1.flatMap paS).length ≤ f.2.1.length * 4000000 := flatMap_len paS f.2.1 4000000 fun x hx => paS_len x (h.p x hx).1 (h.p x hx).2
theorem frS_len3 {f : Form} (h : FT2 f) : ((List.range f.2.2.1.length).flatMap (pgS f)).length ≤ f.2.2.1.length * 300000000 := by
 have := flatMap_len (pgS f) (List.range f.2.2.1.length) 300000000 (fun x hx => pgS_len h (List.mem_range.1 hx))
 rwa [List.length_range] at this
theorem frS_len4 {f : Form} (h : FT2 f) : (f.2.2.2.2.1.flatMap ruS).length ≤ f.2.2.2.2.1.length * 4000000 := flatMap_len ruS f.2.2.2.2.1 4000000 fun x hx => by
 obtain ⟨q1, q2, q3, q4⟩ := h.r x hx
 obtain ⟨_, _, o1, o2⟩ := h.r2 x hx
 exact ruS_len x q1 q2 q3 q4 o1 o2
theorem sheet_print_run (f : Form) (h : FT2 f) : (sheet_print f).run = some (frS f) := by
 have hn := h.n
 have m1 := frS_len1 h
 have m2 := frS_len2 h
 have m3 := frS_len3 h
 have m4 := frS_len4 h
 have k1 : (sheet_print_L0 f f.1 (f.1.length : Int) (0, (), bytesOf [])).run = some ((), bytesOf ([] ++ f.1.flatMap swS)) := by
  refine bld_loop (r := sheet_print_R0 f f.1 (f.1.length : Int)) f.1 (dflt tySwitch) 4000000 100000000000 swS [] (fun k b x hk hx hm hb => ?_) (fun b => ?_) (fun x hx => swS_len x (h.s x hx)) (by simp only [List.length_nil]; omega)
  ·have q := h.s x hm
   have sl := swS_len x q
   have bl : (bif x.2.1 then ([32, 111, 110, 10] : Str) else [32, 111, 102, 102, 10]).length ≤ 5 := by cases x.2.1 <;> decide
   unfold sheet_print_R0
   dsimp only
   rw [T.run_ite_t (lt_t hk), T.run_obl (idx_ok hk), hx, T.run_leN _ (by simp only [List.length_cons, List.length_nil]; omega), T.run_leN _ (by simp only [len_cat, List.length_cons, List.length_nil]; omega), T.run_cur _ rfl rfl rfl, T.run_same]
   have e : cat (cat ([115, 119, 105, 116, 99, 104, 32] : Str) x.1) (bif x.2.1 then ([32, 111, 110, 10] : Str) else ([32, 111, 102, 102, 10] : Str)) = swS x := rfl
   rw [e, T.run_bind_of (writeString_run (swS x) b (by omega))]
   dsimp only
   rw [T.run_cur _ rfl rfl rfl, T.run_same, T.run_ret, ix1 k _ hk (by omega)]
  ·unfold sheet_print_R0
   dsimp only
   rw [T.run_ite_f (lt_f _), T.run_cur _ rfl rfl rfl, T.run_same, T.run_ret]
 have k2 : ∀ s : Str, s.length ≤ 1000000000 → (sheet_print_L1 f f.2.1 (f.2.1.length : Int) (0, (), bytesOf s)).run = some ((), bytesOf (s ++ f.2.1.flatMap paS)) := fun s hs => by
  refine bld_loop (r := sheet_print_R1 f f.2.1 (f.2.1.length : Int)) f.2.1 (dflt tyParam) 4000000 100000000000 paS s (fun k b x hk hx hm hb => ?_) (fun b => ?_) (fun x hx => paS_len x (h.p x hx).1 (h.p x hx).2) (by omega)
  ·obtain ⟨q, hr⟩ := h.p x hm
   have hr : ratOk 1000 x.2.1 := ⟨hr.1, hr.2.1, by have := hr.2.2.1; omega, by have := hr.2.2.2; omega⟩
   have sl := paS_len x q (h.p x hm).2
   have hd : (dec_Print (x.2.1.1, (x.2.1.2.1, (x.2.1.2.2.1, ())))).run = some (printS (norm x.2.1)) := dec_Print_run x.2.1 hr
   have pl := printS_len _ hr
   unfold sheet_print_R1
   dsimp only
   rw [T.run_ite_t (lt_t hk), T.run_obl (idx_ok hk), hx, T.run_leN _ (by simp only [List.length_cons, List.length_nil]; omega), T.run_leN _ (by simp only [len_cat, List.length_cons, List.length_nil]; omega), T.run_bind_of hd, T.run_leN _ (by simp only [len_cat, List.length_cons, List.length_nil]; omega), T.run_leN _ (by simp only [len_cat, List.length_cons, List.length_nil]; omega), T.run_cur _ rfl rfl rfl, T.run_same]
   have e : cat (cat (cat (cat ([112, 97, 114, 97, 109, 32] : Str) x.1) ([32] : Str)) (printS (norm x.2.1))) ([10] : Str) = paS x := rfl
   rw [e, T.run_bind_of (writeString_run (paS x) b (by omega))]
   dsimp only
   rw [T.run_cur _ rfl rfl rfl, T.run_same, T.run_ret, ix1 k _ hk (by omega)]
  ·unfold sheet_print_R1
   dsimp only
   rw [T.run_ite_f (lt_f _), T.run_cur _ rfl rfl rfl, T.run_same, T.run_ret]
 have k3 : ∀ s : Str, s.length ≤ 2000000000 → (sheet_print_L2 f (f.2.2.1.length : Int) (0, (), bytesOf s)).run = some ((), bytesOf (s ++ (List.range f.2.2.1.length).flatMap (pgS f))) := fun s hs => by
  refine bld_loop (r := sheet_print_R2 f (f.2.2.1.length : Int)) (List.range f.2.2.1.length) 0 300000000 100000000000 (pgS f) s (fun k b x hk hx hm hb => ?_) (fun b => ?_) (fun x hx => pgS_len h (List.mem_range.1 hx)) (by rw [List.length_range]; omega)
  ·rw [List.length_range] at hk
   rw [nth_range _ _ hk] at hx
   subst hx
   unfold sheet_print_R2
   dsimp only
   rw [T.run_ite_t (lt_t hk), T.run_cur _ rfl rfl rfl, T.run_same, T.run_bind_of (page_run f h k hk b (by omega))]
   dsimp only
   rw [T.run_cur _ rfl rfl rfl, T.run_same, T.run_ret, ix1 k _ hk (by omega)]
  ·unfold sheet_print_R2
   dsimp only
   rw [List.length_range, T.run_ite_f (lt_f _), T.run_cur _ rfl rfl rfl, T.run_same, T.run_ret]
 have k4 : ∀ s : Str, s.length ≤ 20000000000 → (sheet_print_L3 f.2.2.2.2.1 (f.2.2.2.2.1.length : Int) (0, (), bytesOf s)).run = some ((), bytesOf (s ++ f.2.2.2.2.1.flatMap ruS)) := fun s hs => by
  refine bld_loop (r := sheet_print_R3 f.2.2.2.2.1 (f.2.2.2.2.1.length : Int)) f.2.2.2.2.1 (dflt tyRule) 4000000 100000000000 ruS s (fun k b x hk hx hm hb => ?_) (fun b => ?_) (fun x hx => by
   obtain ⟨q1, q2, q3, q4⟩ := h.r x hx
   obtain ⟨_, _, o1, o2⟩ := h.r2 x hx
   exact ruS_len x q1 q2 q3 q4 o1 o2) (by omega)
  ·obtain ⟨q1, q2, q3, q4⟩ := h.r x hm
   obtain ⟨c1, c2, o1, o2⟩ := h.r2 x hm
   have rl := ruS_len x q1 q2 q3 q4 o1 o2
   have hs := sides_run x.2.2.2.1 x.2.2.2.2.1 [61] (by decide) q3 q4 o1 o2
   have sl := siS_len [61] (by decide) q3 q4 o1 o2
   have tl := strS_len x.2.1
   have wl := whS_len x.2.2.1
   have c3 : x.2.1 < ((4 : Nat) : Int) := Int.lt_of_le_of_lt c2 (by decide)
   unfold sheet_print_R3 sheet_strengths
   dsimp only
   rw [T.run_ite_t (lt_t hk), T.run_obl (idx_ok hk), hx]
   simp only [T.bind, ex_eta]
   rw [T.run_obl ⟨c1, c3⟩, strS_at _ c1 c2, T.run_leN _ (by simp only [List.length_cons, List.length_nil]; omega), T.run_leN _ (by simp only [len_cat, List.length_cons, List.length_nil]; omega), T.run_leN _ (by simp only [len_cat, List.length_cons, List.length_nil]; omega), T.run_bind_of (when_run _ q2),
    T.run_leN _ (by simp only [len_cat, List.length_cons, List.length_nil]; omega), T.run_bind_of hs, T.run_leN _ (by simp only [len_cat, List.length_cons, List.length_nil]; omega), T.run_cur _ rfl rfl rfl, T.run_true]
   have e : cat (cat (cat (cat (cat ([114, 117, 108, 101, 32] : Str) (strS x.2.1)) ([32] : Str)) x.1) (whS x.2.2.1)) (siS x.2.2.2.1 [61] x.2.2.2.2.1) = ruS x := rfl
   rw [e, T.run_bind_of (writeString_run (ruS x) b (by omega))]
   dsimp only
   rw [T.run_cur _ rfl rfl rfl, T.run_true, T.run_ret, ix1 k _ hk (by omega)]
  ·unfold sheet_print_R3
   dsimp only
   rw [T.run_ite_f (lt_f _), T.run_cur _ rfl rfl rfl, T.run_same, T.run_ret]
 unfold sheet_print
 rw [T.run_cur _ rfl rfl rfl, T.run_same]
 refine (T.run_bind_of k1 _).trans ?_
 dsimp only
 rw [List.nil_append, T.run_cur _ rfl rfl rfl, T.run_same, T.run_bind_of (k2 _ (by omega))]
 dsimp only
 rw [T.run_cur _ rfl rfl rfl, T.run_same, T.run_bind_of (k3 _ (by rw [List.length_append]; omega))]
 dsimp only
 rw [T.run_cur _ rfl rfl rfl, T.run_same, T.run_bind_of (k4 _ (by simp only [List.length_append]; omega))]
 dsimp only
 rw [T.run_cur _ rfl rfl rfl, T.run_same, T.run_bind_of (bldString_run _ (by simp only [List.length_append]; omega))]
 rfl
def isFm (f : Form) : Bool := a1 f && (a2 f && (a3 f && (a4 f && (a5 f && (a6 f && decide (((frS f).length : Int) ≤ 16384))))))
theorem sheet_Is_run (f : Form) (h : FS f) : (sheet_Is f).run = some (isFm f) := by
 unfold sheet_Is isFm
 rw [T.run_bind_of (heads_run f h)]
 cases a1 f with
 | false => rfl
 | true =>
 cases a2 f with
 | false => rfl
 | true =>
 cases a3 f with
 | false => rfl
 | true =>
 rw [T.run_ite_t (by rfl), T.run_bind_of (sheet_fields_run f h)]
 cases h4 : a4 f with
 | false => rfl
 | true =>
 rw [T.run_ite_t (by rfl), T.run_bind_of (sheet_checks_run f h)]
 cases h5 : a5 f with
 | false => rfl
 | true =>
 cases h6 : a6 f with
 | false => rfl
 | true =>
 rw [T.run_ite_t (by rfl), T.run_bind_of (sheet_print_run f (ft_of h h4 h5 h6)), T.run_ret]
 rfl
end Go.AM.Lf
namespace Go.AM.Lf
open PL
theorem okP100 {r : Rat} (hr : ratOk 100 r) : ratOk 100000000 r := ⟨hr.1, hr.2.1, by have := hr.2.2.1; omega, by have := hr.2.2.2; omega⟩
theorem okP1000 {r : Rat} (hr : ratOk 100 r) : ratOk 1000 r := ⟨hr.1, hr.2.1, by have := hr.2.2.1; omega, by have := hr.2.2.2; omega⟩
theorem guard_run (s : Str) : (ref6_guard s).run = some (guardB s) := by
 unfold ref6_guard guardB
 cases strEq s [] with
 | true => rfl
 | false => rw [T.run_ite_false, T.run_bind_of (ref5_Name_run s)]; rfl
theorem ref6_pages_run (f : Form) (h : FS f) : (ref6_pages f).run = some (a4 f && a5 f) := by
 have hn := h.n
 have k1 : (ref6_pages_L0 f (0, 0)).run = some (if a4 f = true then .inl () else .inr false) := by
  refine scan_loop (r := ref6_pages_R0 f) f.2.2.2.1 (dflt tyField) (badF (f.2.2.1.length : Int)) (fun x => x.2.1) (fun at_ x h0 hb => ?_) (fun k at_ x hk hx hm h0 => ?_) (fun at_ => ?_)
  ·unfold badF at hb
   rw [Bool.or_eq_false_iff, decide_eq_false_iff_not] at hb
   exact Int.le_trans h0 (Int.not_lt.1 hb.1)
  ·unfold ref6_pages_R0
   dsimp only
   rw [T.run_ite_t (lt_t hk), T.run_obl (idx_ok hk), hx]
   refine (T.run_bind_of (a := (badF (f.2.2.1.length : Int) at_ x, x)) ?_ _).trans ?_
   ·exact orP (orP (callP (ref5_Name_run x.1) (orP (T.run_ret _))))
   ·dsimp only
    cases badF (f.2.2.1.length : Int) at_ x with
    | true => rfl
    | false => rw [T.run_ite_false, T.run_ret, ix1 k _ hk (by omega)]; rfl
  ·unfold ref6_pages_R0
   dsimp only
   rw [T.run_ite_f (lt_f _), T.run_ret]
 have k2 : (ref6_pages_L1 f (0, 0)).run = some (if a5 f = true then .inl () else .inr false) := by
  refine scan_loop (r := ref6_pages_R1 f) f.2.2.2.2.2.1 (dflt tyCheck) (badC (f.2.2.1.length : Int)) (fun x => x.2.1) (fun at_ x h0 hb => ?_) (fun k at_ x hk hx hm h0 => ?_) (fun at_ => ?_)
  ·unfold badC at hb
   rw [Bool.or_eq_false_iff, decide_eq_false_iff_not] at hb
   exact Int.le_trans h0 (Int.not_lt.1 hb.1)
  ·obtain ⟨_, x1, x2⟩ := h.c x hm
   unfold ref6_pages_R1
   dsimp only
   rw [T.run_ite_t (lt_t hk), T.run_obl (idx_ok hk), hx]
   simp only [ex_eta]
   refine (T.run_bind_of (a := (badC (f.2.2.1.length : Int) at_ x, x)) ?_ _).trans ?_
   ·exact orP (orP (callP (ref5_Name_run x.1) (orP (orP (callP (exOk_is5 x1) (endP (exOk_is5 x2)))))))
   ·dsimp only
    cases badC (f.2.2.1.length : Int) at_ x with
    | true => rfl
    | false => rw [T.run_ite_false, T.run_ret, ix1 k _ hk (by omega)]; rfl
  ·unfold ref6_pages_R1
   dsimp only
   rw [T.run_ite_f (lt_f _), T.run_ret]
 unfold ref6_pages
 rw [T.run_bind_of k1]
 cases a4 f with
 | false => rfl
 | true =>
  rw [if_pos rfl, Sum.elim_inl, T.run_bind_of k2]
  cases a5 f <;> rfl
theorem ref6_when_run (s : Str) (h : s.length ≤ 600) : (ref6_when s).run = some (whS s) := when_run s h
theorem digit_itoa (n : Int) (h1 : 1 ≤ n) (h2 : n ≤ 9) : bytesStr [wu8 (w64 (48 + n))] = itoaS n := by
 have : n = 1 ∨ n = 2 ∨ n = 3 ∨ n = 4 ∨ n = 5 ∨ n = 6 ∨ n = 7 ∨ n = 8 ∨ n = 9 := by omega
 have e : ∀ k : Nat, k < 10 → itoaS (k : Int) = [UInt8.ofNat (48 + k)] := fun k hk => by
  unfold itoaS
  rw [if_neg (by omega), Int.toNat_natCast, AM.decS, dif_pos hk]
 rcases this with rfl | rfl | rfl | rfl | rfl | rfl | rfl | rfl | rfl
 ·exact (e 1 (by decide)).symm
 ·exact (e 2 (by decide)).symm
 ·exact (e 3 (by decide)).symm
 ·exact (e 4 (by decide)).symm
 ·exact (e 5 (by decide)).symm
 ·exact (e 6 (by decide)).symm
 ·exact (e 7 (by decide)).symm
 ·exact (e 8 (by decide)).symm
 ·exact (e 9 (by decide)).symm
theorem ref6_field_run (x : Field) (h : x.1.length ≤ 600) (h1 : ile 0 x.2.2.2.1) (h2 : ile x.2.2.2.1 9) : (ref6_field x).run = some (fdS x) := by
 have hi := fun h0 : ile 1 x.2.2.2.1 => digit_itoa x.2.2.2.1 h0 h2
 have hb : (bytesStr ([(wu8 (w64 ((48 : Int) + x.2.2.2.1)))] : List Int)).length = 1 := rfl
 have hz : ¬ ilt 0 x.2.2.2.1 → x.2.2.2.1 = (0 : Int) := fun q => Int.le_antisymm (Int.not_lt.1 q) h1
 have ho : ilt 0 x.2.2.2.1 → ile 1 x.2.2.2.1 := fun q => by unfold ile ilt at *; omega
 have hf : (fhS x).length ≤ x.1.length + 11 := fhS_len _
 unfold ref6_field fdS
 have e : (bif x.2.2.1 then (cat (cat ([102, 105, 101, 108, 100, 32] : Str) x.1) ([32, 109, 117, 115, 116] : Str)) else (cat ([102, 105, 101, 108, 100, 32] : Str) x.1)) = fhS x := rfl
 rw [T.run_leN _ (by simp only [List.length_cons, List.length_nil]; omega), T.run_obl (fun _ => by simp only [len_cat, List.length_cons, List.length_nil]; omega), e]
 clear e
 by_cases hs : ilt 0 x.2.2.2.1
 ·have hne : (x.2.2.2.1 != (0 : Int)) = true := by
   rw [bne_iff_ne]; intro q; unfold ilt at hs; rw [q] at hs; exact absurd hs (by decide)
  rw [T.run_ite_t hne, T.run_leN _ (by simp only [List.length_cons, List.length_nil]; omega), T.run_leN _ (by simp only [len_cat, List.length_cons, List.length_nil]; omega), T.run_leN _ (by simp only [len_cat, List.length_cons, List.length_nil]; omega), T.run_ret, if_pos hs, hi (ho hs)]
  simp only [cat_eq, List.append_assoc]
 ·have hne : (x.2.2.2.1 != (0 : Int)) = false := by rw [hz hs]; rfl
  rw [T.run_ite_f hne, T.run_leN _ (by simp only [List.length_cons, List.length_nil]; omega), T.run_ret, if_neg hs]
  rfl
theorem cmp_run (n : Int) : (ref6_Cmp n).run = some (cmpS n) := by
 unfold ref6_Cmp cmpS
 by_cases h1 : n = 1
 ·rw [if_pos h1, T.run_ite_t (by rw [h1]; rfl), T.run_ret]
 ·rw [if_neg h1, T.run_ite_f (by simpa using h1)]
  by_cases h2 : n = 2
  ·rw [if_pos h2, T.run_ite_t (by rw [h2]; rfl), T.run_ret]
  ·rw [if_neg h2, T.run_ite_f (by simpa using h2), T.run_ret]
theorem strength_run (n : Int) : (ref6_Strength n).run = some (strS n) := by
 unfold ref6_Strength strS
 by_cases h0 : n = 0
 ·rw [if_pos h0, T.run_ite_t (by rw [h0]; rfl), T.run_ret]
 ·rw [if_neg h0, T.run_ite_f (by simpa using h0)]
  by_cases h1 : n = 1
  ·rw [if_pos h1, T.run_ite_t (by rw [h1]; rfl), T.run_ret]
  ·rw [if_neg h1, T.run_ite_f (by simpa using h1)]
   by_cases h2 : n = 2
   ·rw [if_pos h2, T.run_ite_t (by rw [h2]; rfl), T.run_ret]
   ·rw [if_neg h2, T.run_ite_f (by simpa using h2), T.run_ret]
theorem ref6_text_run (f : Form) (h : FT2 f) : (ref6_text f).run = some (frS f) := by
 have hn := h.n
 have m1 := frS_len1 h
 have m2 := frS_len2 h
 have m3 := frS_len3 h
 have m4 := frS_len4 h
 have k1 : (ref6_text_L0 f ([], 0)).run = some ([] ++ f.1.flatMap swS) := by
  refine txt_loop (r := ref6_text_R0 f) f.1 (dflt tySwitch) 4000000 100000000000 swS [] (fun k b x hk hx hm hb => ?_) (fun b => ?_) (fun x hx => swS_len x (h.s x hx)) (by simp only [List.length_nil]; omega)
  ·have q := h.s x hm
   have bl : (bif x.2.1 then ([32, 111, 110, 10] : Str) else [32, 111, 102, 102, 10]).length ≤ 5 := by cases x.2.1 <;> decide
   unfold ref6_text_R0
   dsimp only
   rw [hx, T.run_ite_t (lt_t hk), T.run_obl (idx_ok hk), T.run_leN _ (by simp only [len_cat, List.length_cons, List.length_nil]; omega), T.run_obl (idx_ok hk), T.run_leN _ (by simp only [len_cat, List.length_cons, List.length_nil]; omega), T.run_leN _ (by simp only [len_cat, List.length_cons, List.length_nil]; omega), T.run_ret, ix1 k _ hk (by omega)]
   unfold swS
   simp only [cat_eq, List.append_assoc]
  ·unfold ref6_text_R0
   dsimp only
   rw [T.run_ite_f (lt_f _), T.run_ret]
 have k2 : ∀ s : Str, s.length ≤ 1000000000 → (ref6_text_L1 f (s, 0)).run = some (s ++ f.2.1.flatMap paS) := fun s hs => by
  refine txt_loop (r := ref6_text_R1 f) f.2.1 (dflt tyParam) 4000000 100000000000 paS s (fun k b x hk hx hm hb => ?_) (fun b => ?_) (fun x hx => paS_len x (h.p x hx).1 (h.p x hx).2) (by omega)
  ·obtain ⟨q, hr⟩ := h.p x hm
   have hr := okP1000 hr
   have pl := printS_len _ hr
   unfold ref6_text_R1
   dsimp only
   rw [hx, T.run_ite_t (lt_t hk), T.run_leN _ (by simp only [len_cat, List.length_cons, List.length_nil]; omega), T.run_obl (idx_ok hk), T.run_leN _ (by simp only [len_cat, List.length_cons, List.length_nil]; omega), T.run_leN _ (by simp only [len_cat, List.length_cons, List.length_nil]; omega), T.run_obl (idx_ok hk), T.run_bind_of (ref3_Print_run _ hr),
    T.run_leN _ (by simp only [len_cat, List.length_cons, List.length_nil]; omega), T.run_leN _ (by simp only [len_cat, List.length_cons, List.length_nil]; omega), T.run_ret, ix1 k _ hk (by omega)]
   unfold paS
   simp only [cat_eq, List.append_assoc]
  ·unfold ref6_text_R1
   dsimp only
   rw [T.run_ite_f (lt_f _), T.run_ret]
 have j1 : ∀ (i : Nat) (s : Str), s.length ≤ 200000000000 → (ref6_text_L3 f (i : Int) (s, 0)).run = some (s ++ f.2.2.2.1.flatMap (fdI i)) := fun i s hs => by
  refine txt_loop (r := ref6_text_R3 f (i : Int)) f.2.2.2.1 (dflt tyField) 4000000 400000000000 (fdI i) s (fun k b x hk hx hm hb => ?_) (fun b => ?_) (fdI_len h i) (by omega)
  ·unfold ref6_text_R3 fdI
   dsimp only
   rw [hx, T.run_ite_t (lt_t hk), T.run_obl (idx_ok hk)]
   cases hc : x.2.1 == (i : Int) with
   | true =>
    have fl := fdS_len x (h.d x hm) (h.d2 x hm).1 (h.d2 x hm).2
    rw [T.run_ite_true, T.run_obl (idx_ok hk), T.run_bind_of (ref6_field_run x (h.d x hm) (h.d2 x hm).1 (h.d2 x hm).2), T.run_leN _ (by omega), T.run_ret, ix1 k _ hk (by omega), if_pos rfl, cat_eq]
   | false => rw [T.run_ite_false, T.run_ret, ix1 k _ hk (by omega), if_neg (by decide), List.append_nil]
  ·unfold ref6_text_R3
   dsimp only
   rw [T.run_ite_f (lt_f _), T.run_ret]
 have j2 : ∀ (i : Nat) (s : Str), s.length ≤ 400000000000 → (ref6_text_L4 f (i : Int) (s, 0)).run = some (s ++ f.2.2.2.2.2.1.flatMap (ckI i)) := fun i s hs => by
  refine txt_loop (r := ref6_text_R4 f (i : Int)) f.2.2.2.2.2.1 (dflt tyCheck) 4000000 800000000000 (ckI i) s (fun k b x hk hx hm hb => ?_) (fun b => ?_) (ckI_len h i) (by omega)
  ·unfold ref6_text_R4 ckI
   dsimp only
   rw [hx, T.run_ite_t (lt_t hk), T.run_obl (idx_ok hk)]
   simp only [ex_eta]
   cases hc : x.2.1 == (i : Int) with
   | true =>
    obtain ⟨q1, q2, q3⟩ := h.c x hm
    obtain ⟨c1, c2, o1, o2⟩ := h.c2 x hm
    have p1 := exOk_len q2 o1
    have p2 := exOk_len q3 o2
    have cl := cmpS_len x.2.2.1
    rw [T.run_ite_true, T.run_leN _ (by simp only [len_cat, List.length_cons, List.length_nil]; omega), T.run_leN _ (by simp only [len_cat, List.length_cons, List.length_nil]; omega), T.run_leN _ (by simp only [len_cat, List.length_cons, List.length_nil]; omega), T.run_bind_of (exOk_pr5 q2 o1),
     T.run_leN _ (by simp only [len_cat, List.length_cons, List.length_nil]; omega), T.run_leN _ (by simp only [len_cat, List.length_cons, List.length_nil]; omega), T.run_bind_of (cmp_run _), T.run_leN _ (by simp only [len_cat, List.length_cons, List.length_nil]; omega), T.run_leN _ (by simp only [len_cat, List.length_cons, List.length_nil]; omega),
     T.run_bind_of (exOk_pr5 q3 o2), T.run_leN _ (by simp only [len_cat, List.length_cons, List.length_nil]; omega), T.run_leN _ (by simp only [len_cat, List.length_cons, List.length_nil]; omega), T.run_ret, ix1 k _ hk (by omega), if_pos rfl]
    unfold ckS siS
    simp only [cat_eq, List.append_assoc]
   | false => rw [T.run_ite_false, T.run_ret, ix1 k _ hk (by omega), if_neg (by decide), List.append_nil]
  ·unfold ref6_text_R4
   dsimp only
   rw [T.run_ite_f (lt_f _), T.run_ret]
 have k3 : ∀ s : Str, s.length ≤ 2000000000 → (ref6_text_L2 f (s, 0)).run = some (s ++ (List.range f.2.2.1.length).flatMap (pgS f)) := fun s hs => by
  refine txt_loop (r := ref6_text_R2 f) (List.range f.2.2.1.length) 0 300000000 100000000000 (pgS f) s (fun k b x hk hx hm hb => ?_) (fun b => ?_) (fun x hx => pgS_len h (List.mem_range.1 hx)) (by rw [List.length_range]; omega)
  ·rw [List.length_range] at hk
   rw [nth_range _ _ hk] at hx
   subst hx
   obtain ⟨g1, g2⟩ := ph_of h hk
   have hw := whS_len (nth f.2.2.1 (k : Int) (dflt tyPage)).2.1
   have fl := flatMap_len (fdI k) f.2.2.2.1 4000000 (fdI_len h k)
   have : f.2.2.2.1.length * 4000000 ≤ 30 * 4000000 := Nat.mul_le_mul_right _ (by omega)
   unfold ref6_text_R2
   dsimp only
   rw [T.run_ite_t (lt_t hk), T.run_leN _ (by simp only [len_cat, List.length_cons, List.length_nil]; omega), T.run_obl (idx_ok hk), T.run_leN _ (by simp only [len_cat, List.length_cons, List.length_nil]; omega), T.run_obl (idx_ok hk), T.run_bind_of (ref6_when_run _ g2), T.run_leN _ (by simp only [len_cat, List.length_cons, List.length_nil]; omega), T.run_leN _ (by simp only [len_cat, List.length_cons, List.length_nil]; omega),
    T.run_bind_of (j1 k _ (by simp only [len_cat, List.length_cons, List.length_nil]; omega)), T.run_bind_of (j2 k _ (by simp only [List.length_append, len_cat, List.length_cons, List.length_nil]; omega)), T.run_ret, ix1 k _ hk (by omega)]
   unfold pgS phS
   simp only [cat_eq, List.append_assoc]
  ·unfold ref6_text_R2
   dsimp only
   rw [List.length_range, T.run_ite_f (lt_f _), T.run_ret]
 have k4 : ∀ s : Str, s.length ≤ 20000000000 → (ref6_text_L5 f (s, 0)).run = some (s ++ f.2.2.2.2.1.flatMap ruS) := fun s hs => by
  refine txt_loop (r := ref6_text_R5 f) f.2.2.2.2.1 (dflt tyRule) 4000000 100000000000 ruS s (fun k b x hk hx hm hb => ?_) (fun b => ?_) (fun x hx => by
   obtain ⟨q1, q2, q3, q4⟩ := h.r x hx
   obtain ⟨_, _, o1, o2⟩ := h.r2 x hx
   exact ruS_len x q1 q2 q3 q4 o1 o2) (by omega)
  ·obtain ⟨q1, q2, q3, q4⟩ := h.r x hm
   obtain ⟨c1, c2, o1, o2⟩ := h.r2 x hm
   have p1 := exOk_len q3 o1
   have p2 := exOk_len q4 o2
   have tl := strS_len x.2.1
   have wl := whS_len x.2.2.1
   unfold ref6_text_R5
   dsimp only
   rw [hx, T.run_ite_t (lt_t hk), T.run_obl (idx_ok hk)]
   simp only [ex_eta]
   rw [T.run_leN _ (by simp only [len_cat, List.length_cons, List.length_nil]; omega), T.run_bind_of (strength_run _), T.run_leN _ (by simp only [len_cat, List.length_cons, List.length_nil]; omega), T.run_leN _ (by simp only [len_cat, List.length_cons, List.length_nil]; omega), T.run_leN _ (by simp only [len_cat, List.length_cons, List.length_nil]; omega), T.run_bind_of (ref6_when_run _ q2),
    T.run_leN _ (by simp only [len_cat, List.length_cons, List.length_nil]; omega), T.run_leN _ (by simp only [len_cat, List.length_cons, List.length_nil]; omega), T.run_bind_of (exOk_pr5 q3 o1), T.run_leN _ (by simp only [len_cat, List.length_cons, List.length_nil]; omega), T.run_leN _ (by simp only [len_cat, List.length_cons, List.length_nil]; omega), T.run_bind_of (exOk_pr5 q4 o2),
    T.run_leN _ (by simp only [len_cat, List.length_cons, List.length_nil]; omega), T.run_leN _ (by simp only [len_cat, List.length_cons, List.length_nil]; omega), T.run_ret, ix1 k _ hk (by omega)]
   unfold ruS siS
   simp only [cat_eq, List.append_assoc, List.cons_append, List.nil_append]
  ·unfold ref6_text_R5
   dsimp only
   rw [T.run_ite_f (lt_f _), T.run_ret]
 unfold ref6_text
 rw [T.run_bind_of k1, List.nil_append, T.run_bind_of (k2 _ (by omega)), T.run_bind_of (k3 _ (by rw [List.length_append]; omega)), T.run_bind_of (k4 _ (by simp only [List.length_append]; omega)), T.run_ret]
 rfl
theorem ref6_Is_run (f : Form) (h : FS f) : (ref6_Is f).run = some (isFm f) := by
 have hn := h.n
 have k1 : (ref6_Is_L0 f 0).run = some (if f.1.any badS = true then .inr false else .inl ()) := by
  refine all_loop (r := ref6_Is_R0 f) f.1 (dflt tySwitch) badS (fun k x hk hx hm => ?_) ?_
  ·unfold ref6_Is_R0 badS
   dsimp only
   rw [T.run_ite_t (lt_t hk), T.run_obl (idx_ok hk), hx, T.run_bind_of (ref5_Name_run x.1)]
   cases nameOk x.1 with
   | true => rw [T.run_ite_f (by rfl), T.run_ret, ix1 k _ hk (by omega)]; rfl
   | false => rfl
  ·unfold ref6_Is_R0
   rw [T.run_ite_f (lt_f _), T.run_ret]
 have k2 : (ref6_Is_L1 f 0).run = some (if f.2.1.any badPa = true then .inr false else .inl ()) := by
  refine all_loop (r := ref6_Is_R1 f) f.2.1 (dflt tyParam) badPa (fun k x hk hx hm => ?_) ?_
  ·unfold ref6_Is_R1
   dsimp only
   rw [T.run_ite_t (lt_t hk)]
   refine (T.run_bind_of (a := badPa x) ?_ _).trans ?_
   ·rw [T.run_obl (idx_ok hk), hx]
    refine (callB (ref5_Name_run x.1) ((T.run_obl (idx_ok hk) _).trans (endB (ref2_Good_run _ (okP100 (h.p x hm).2))))).trans ?_
    unfold badPa
    cases isRb x.2.1 <;> cases largeB x.2.1 <;> rfl
   ·cases badPa x with
    | true => rfl
    | false => rw [T.run_ite_false, T.run_ret, ix1 k _ hk (by omega)]; rfl
  ·unfold ref6_Is_R1
   rw [T.run_ite_f (lt_f _), T.run_ret]
 have k3 : (ref6_Is_L2 f 0).run = some (if f.2.2.1.any badG = true then .inr false else .inl ()) := by
  refine all_loop (r := ref6_Is_R2 f) f.2.2.1 (dflt tyPage) badG (fun k x hk hx hm => ?_) ?_
  ·unfold ref6_Is_R2
   dsimp only
   rw [T.run_ite_t (lt_t hk)]
   refine (T.run_bind_of (a := badG x) ?_ _).trans ?_
   ·rw [T.run_obl (idx_ok hk), hx]
    exact callB (ref5_Name_run x.1) ((T.run_obl (idx_ok hk) _).trans (endB (guard_run _)))
   ·cases badG x with
    | true => rfl
    | false => rw [T.run_ite_false, T.run_ret, ix1 k _ hk (by omega)]; rfl
  ·unfold ref6_Is_R2
   rw [T.run_ite_f (lt_f _), T.run_ret]
 have k4 : (ref6_Is_L3 f 0).run = some (if f.2.2.2.2.1.any badR = true then .inr false else .inl ()) := by
  refine all_loop (r := ref6_Is_R3 f) f.2.2.2.2.1 (dflt tyRule) badR (fun k x hk hx hm => ?_) ?_
  ·obtain ⟨_, _, x1, x2⟩ := h.r x hm
   unfold ref6_Is_R3
   dsimp only
   rw [T.run_ite_t (lt_t hk), T.run_obl (idx_ok hk), hx]
   simp only [ex_eta]
   refine (T.run_bind_of (a := (badR x, x)) ?_ _).trans ?_
   ·exact callP (ref5_Name_run x.1) (callP (guard_run _) (orP (orP (callP (exOk_is5 x1) (endP (exOk_is5 x2))))))
   ·dsimp only
    cases badR x with
    | true => rfl
    | false => rw [T.run_ite_false, T.run_ret, ix1 k _ hk (by omega)]; rfl
  ·unfold ref6_Is_R3
   rw [T.run_ite_f (lt_f _), T.run_ret]
 unfold ref6_Is isFm
 rw [T.run_bind_of k1]
 have e1 : a1 f = !f.1.any badS := rfl
 have e2 : a2 f = !f.2.1.any badPa := rfl
 have e3 : a3 f = !f.2.2.1.any badG := rfl
 have e6 : a6 f = !f.2.2.2.2.1.any badR := rfl
 rw [e1, e2, e3]
 cases f.1.any badS with
 | true => rfl
 | false =>
 rw [if_neg (by decide), Sum.elim_inl, T.run_bind_of k2]
 cases f.2.1.any badPa with
 | true => rfl
 | false =>
 rw [if_neg (by decide), Sum.elim_inl, T.run_bind_of k3]
 cases f.2.2.1.any badG with
 | true => rfl
 | false =>
 rw [if_neg (by decide), Sum.elim_inl, T.run_bind_of k4]
 cases q6 : f.2.2.2.2.1.any badR with
 | true => rw [e6, q6]; cases a4 f <;> cases a5 f <;> rfl
 | false =>
 rw [if_neg (by decide), Sum.elim_inl, T.run_bind_of (ref6_pages_run f h)]
 cases h4 : a4 f with
 | false => rfl
 | true =>
 cases h5 : a5 f with
 | false => rfl
 | true =>
 have h6 : a6 f = true := by rw [e6, q6]; rfl
 rw [T.run_ite_t (by rfl), T.run_bind_of (ref6_text_run f (ft_of h h4 h5 h6)), T.run_ret, h6]
 rfl
end Go.AM.Lf
namespace Go.AM.Lf
open PL
theorem row_loop {α β σ ρ : Type} (l : List α) (d : α) (C B : Nat) (g : α → List β) (e : List β → Int → σ) (fin : List β → ρ) (s : List β) {r : σ → T (σ ⊕ ρ)}
  (step : ∀ (k : Nat) (b : List β) (x : α), k < l.length → nth l (k : Int) d = x → x ∈ l → b.length + C ≤ B → (r (e b (k : Int))).run = some (.inl (e (b ++ g x) ((k + 1 : Nat) : Int))))
  (done : ∀ b, b.length ≤ B → (r (e b (l.length : Int))).run = some (.inr (fin b))) (hg : ∀ x ∈ l, (g x).length ≤ C) (hB : s.length + l.length * C ≤ B) : (T.loop r (e s 0)).run = some (fin (s ++ l.flatMap g)) := by
 have ef : ∀ (l : List α) (s : List β), l.foldl (fun s x => s ++ g x) s = s ++ l.flatMap g := by
  intro l
  induction l with
  | nil => intro s; simp
  | cons x r ih => intro s; rw [List.foldl_cons, ih, List.flatMap_cons, List.append_assoc]
 rw [← ef]
 refine T.loop_fold' (r := r) l d e (fun k b => b.length ≤ s.length + k * C) (fun b x => b ++ g x) fin (fun k b x hk hx hm hI => ?_) (fun b hI => done b (by omega)) (b := s) (by omega)
 have h4 := mul_mono (c := C) (show k + 1 ≤ l.length from hk)
 rw [Nat.add_mul, Nat.one_mul] at h4
 refine ⟨step k b x hk hx hm (by omega), ?_⟩
 have := hg x hm
 rw [List.length_append, Nat.add_mul, Nat.one_mul]
 omega
theorem fm_one {α β : Type} (h : α → β) (l : List α) : l.flatMap (fun x => [h x]) = l.map h := by
 induction l with
 | nil => rfl
 | cons x r ih => rw [List.flatMap_cons, ih]; rfl
theorem nm_loop {α : Type} (l : List α) (d : α) (h : α → Str) (s : List Str) {r : Int × List Str → T ((Int × List Str) ⊕ List Str)}
  (step : ∀ (k : Nat) (b : List Str) (x : α), k < l.length → nth l (k : Int) d = x → x ∈ l → b.length ≤ 3000000 → (r ((k : Int), b)).run = some (.inl (((k + 1 : Nat) : Int), b ++ [h x])))
  (done : ∀ b, (r ((l.length : Int), b)).run = some (.inr b)) (hB : s.length + l.length ≤ 3000000) : (T.loop r (0, s)).run = some (s ++ l.map h) := by
 have := row_loop (r := r) l d 1 3000000 (fun x => [h x]) (fun b i => (i, b)) (fun b => b) s (fun k b x hk hx hm hb => step k b x hk hx hm (by omega)) (fun b _ => done b) (fun _ _ => Nat.le_refl _) (by omega)
 rwa [fm_one] at this
def optE {β ρ : Type} (h : β → ρ) (y : ρ) : Option β → ρ
 | some z => h z
 | none => y
theorem find_loop {α β σ ρ : Type} (l : List α) (d : α) (q : α → Option β) (e : Int → σ) (h : β → ρ) (y : ρ) {r : σ → T (σ ⊕ ρ)}
  (step : ∀ (k : Nat) (x : α), k < l.length → nth l (k : Int) d = x → x ∈ l → (r (e (k : Int))).run = some (optE (fun z => .inr (h z)) (.inl (e ((k + 1 : Nat) : Int))) (q x)))
  (done : (r (e (l.length : Int))).run = some (.inr y)) : (T.loop r (e 0)).run = some (optE h y (l.findSome? q)) := by
 refine T.loop_scan (r := r) l d (fun (_ : Unit) i => e i) (fun _ _ => True) (fun xs _ => optE h y (xs.findSome? q)) (fun k b x xs hk hx hm _ _ => ?_) (fun b _ => ?_) (b := ()) trivial
 ·rw [step k x hk hx hm, List.findSome?_cons]
  cases q x with
  | some z => exact .inr rfl
  | none => exact .inl ⟨(), rfl, trivial, rfl⟩
 ·exact done
def pick {α : Type} (p : α → Bool) (x : α) : Option α := if p x = true then some x else none
theorem ix_pick {α : Type} (p : α → Bool) (d : α) (l : List α) : (l.findSome? (pick p) = none ∧ PL.ixF p 0 l = -1) ∨ ∃ (x : α) (k : Nat), l.findSome? (pick p) = some x ∧ PL.ixF p 0 l = (k : Int) ∧ k < l.length ∧ nth l (k : Int) d = x := by
 have gen : ∀ (l : List α) (j : Nat), (l.findSome? (pick p) = none ∧ PL.ixF p (j : Int) l = -1) ∨ ∃ (x : α) (k : Nat), l.findSome? (pick p) = some x ∧ PL.ixF p (j : Int) l = ((j + k : Nat) : Int) ∧ k < l.length ∧ nth l (k : Int) d = x := by
  intro l
  induction l with
  | nil => intro j; exact .inl ⟨rfl, rfl⟩
  | cons x r ih =>
   intro j
   rw [List.findSome?_cons]
   unfold PL.ixF pick
   cases hp : p x with
   | true => exact .inr ⟨x, 0, rfl, rfl, Nat.zero_lt_succ _, rfl⟩
   | false =>
    rw [if_neg (by decide), if_neg (by decide)]
    rcases ih (j + 1) with ⟨h1, h2⟩ | ⟨y, k, h1, h2, h3, h4⟩
    ·exact .inl ⟨h1, h2⟩
    ·refine .inr ⟨y, k + 1, h1, h2.trans (by rw [show j + 1 + k = j + (k + 1) by omega]), Nat.succ_lt_succ h3, ?_⟩
     rw [nth_at (Nat.succ_lt_succ h3), List.getElem_cons_succ]
     rwa [nth_at h3] at h4
 rcases gen l 0 with h | ⟨x, k, h1, h2, h3, h4⟩
 ·exact .inl h
 ·exact .inr ⟨x, k, h1, h2.trans (by rw [Nat.zero_add]), h3, h4⟩
theorem indexStr_run (l : List Str) (g : Str → T Bool) (p : Str → Bool) (hg : ∀ x ∈ l, (g x).run = some (p x)) (hl : l.length ≤ 1000000000) : (slices_IndexFunc_sl_string l g).run = some (PL.ixF p 0 l) := by
 have key : (slices_IndexFunc_sl_string_L0 l g (l.length : Int) 0).run = some (if PL.ixF p 0 l = -1 then .inl () else .inr (PL.ixF p 0 l)) := by
  refine PL.ix_loop l (dflt .str) p (fun i h hi hp => ?_) (fun i h hi hp => ?_) (fun i hi => ?_)
  ·have hm := nth_mem (d := dflt .str) h hi
   simp (disch := omega) [slices_IndexFunc_sl_string_R0, hi, hg _ hm, hp]
  ·have hm := nth_mem (d := dflt .str) h hi
   simp (disch := omega) [slices_IndexFunc_sl_string_R0, hi, hg _ hm, hp]
  ·simp [slices_IndexFunc_sl_string_R0, hi]
 unfold slices_IndexFunc_sl_string
 rw [T.run_bind_of key]
 split <;> rename_i h <;> simp [h]
theorem any_map (α : Type) (h : α → Str) (s : Str) (l : List α) : l.any (fun x => strEq (h x) s) = decide (s ∈ l.map h) := by
 induction l with
 | nil => rfl
 | cons x r ih =>
  rw [List.any_cons, ih, List.map_cons, strEq_iff]
  by_cases q : h x = s
  ·rw [decide_eq_true q, decide_eq_true (List.mem_cons.2 (.inl q.symm))]; rfl
  ·rw [decide_eq_false q, Bool.false_or]
   exact decide_eq_decide.2 ⟨fun h => List.mem_cons_of_mem _ h, fun h => (List.mem_cons.1 h).resolve_left fun e => q e.symm⟩
def nmsF (f : Form) : List Str := f.1.map (·.1) ++ f.2.1.map (·.1) ++ f.2.2.1.map (·.1) ++ f.2.2.2.1.map (·.1) ++ f.2.2.2.2.1.map (·.1) ++ f.2.2.2.2.2.1.map (·.1)
theorem Fields_run (f : Form) (h : FS f) : (ref7_Fields f).run = some (f.2.2.2.1.map (·.1)) := by
 have hn := h.n
 have k : (ref7_Fields_L0 f (0, [])).run = some ([] ++ f.2.2.2.1.map (·.1)) := by
  refine nm_loop (r := ref7_Fields_R0 f) f.2.2.2.1 (dflt tyField) (·.1) [] (fun k b x hk hx hm hb => ?_) (fun b => ?_) (by simp only [List.length_nil]; omega)
  ·unfold ref7_Fields_R0
   dsimp only
   rw [hx, T.run_ite_t (lt_t hk), T.run_obl (idx_ok hk), T.run_app _ rfl rfl rfl (by omega), T.run_cur _ (by simp) rfl (by simp), T.run_obl (by simp), T.run_ret, ix1 k _ hk (by omega)]
  ·unfold ref7_Fields_R0
   dsimp only
   rw [T.run_ite_f (lt_f _), T.run_cur _ rfl rfl rfl, T.run_same, T.run_ret]
 unfold ref7_Fields
 rw [T.run_cur _ rfl rfl rfl, T.run_same, T.run_bind_of k, T.run_same, T.run_ret]
 simp only [List.nil_append, Nat.zero_add, List.take_length, List.drop_zero]
theorem check_names_run (f : Form) (h : FS f) : (check_names f).run = some (nmsF f) := by
 have hn := h.n
 have k0 : ∀ s : List Str, s.length ≤ 1000 → (check_names_L0 f f.1 (f.1.length : Int) (0, s)).run = some (s ++ f.1.map (·.1)) := fun s hs => by
  refine nm_loop (r := check_names_R0 f f.1 (f.1.length : Int)) f.1 (dflt tySwitch) (·.1) s (fun k b x hk hx hm hb => ?_) (fun b => ?_) (by omega)
  ·unfold check_names_R0
   dsimp only
   rw [hx, T.run_ite_t (lt_t hk), T.run_obl (idx_ok hk), T.run_app _ rfl rfl rfl (by omega), T.run_cur _ (by simp) rfl (by simp), T.run_obl (by simp), T.run_ret, ix1 k _ hk (by omega)]
  ·unfold check_names_R0
   dsimp only
   rw [T.run_ite_f (lt_f _), T.run_cur _ rfl rfl rfl, T.run_same, T.run_ret]
 have k1 : ∀ s : List Str, s.length ≤ 1000 → (check_names_L1 f f.2.1 (f.2.1.length : Int) (0, s)).run = some (s ++ f.2.1.map (·.1)) := fun s hs => by
  refine nm_loop (r := check_names_R1 f f.2.1 (f.2.1.length : Int)) f.2.1 (dflt tyParam) (·.1) s (fun k b x hk hx hm hb => ?_) (fun b => ?_) (by omega)
  ·unfold check_names_R1
   dsimp only
   rw [hx, T.run_ite_t (lt_t hk), T.run_obl (idx_ok hk), T.run_app _ rfl rfl rfl (by omega), T.run_cur _ (by simp) rfl (by simp), T.run_obl (by simp), T.run_ret, ix1 k _ hk (by omega)]
  ·unfold check_names_R1
   dsimp only
   rw [T.run_ite_f (lt_f _), T.run_cur _ rfl rfl rfl, T.run_same, T.run_ret]
 have k2 : ∀ s : List Str, s.length ≤ 1000 → (check_names_L2 f f.2.2.1 (f.2.2.1.length : Int) (0, s)).run = some (s ++ f.2.2.1.map (·.1)) := fun s hs => by
  refine nm_loop (r := check_names_R2 f f.2.2.1 (f.2.2.1.length : Int)) f.2.2.1 (dflt tyPage) (·.1) s (fun k b x hk hx hm hb => ?_) (fun b => ?_) (by omega)
  ·unfold check_names_R2
   dsimp only
   rw [hx, T.run_ite_t (lt_t hk), T.run_obl (idx_ok hk), T.run_app _ rfl rfl rfl (by omega), T.run_cur _ (by simp) rfl (by simp), T.run_obl (by simp), T.run_ret, ix1 k _ hk (by omega)]
  ·unfold check_names_R2
   dsimp only
   rw [T.run_ite_f (lt_f _), T.run_cur _ rfl rfl rfl, T.run_same, T.run_ret]
 have k3 : ∀ s : List Str, s.length ≤ 1000 → (check_names_L3 f f.2.2.2.1 (f.2.2.2.1.length : Int) (0, s)).run = some (s ++ f.2.2.2.1.map (·.1)) := fun s hs => by
  refine nm_loop (r := check_names_R3 f f.2.2.2.1 (f.2.2.2.1.length : Int)) f.2.2.2.1 (dflt tyField) (·.1) s (fun k b x hk hx hm hb => ?_) (fun b => ?_) (by omega)
  ·unfold check_names_R3
   dsimp only
   rw [hx, T.run_ite_t (lt_t hk), T.run_obl (idx_ok hk), T.run_app _ rfl rfl rfl (by omega), T.run_cur _ (by simp) rfl (by simp), T.run_obl (by simp), T.run_ret, ix1 k _ hk (by omega)]
  ·unfold check_names_R3
   dsimp only
   rw [T.run_ite_f (lt_f _), T.run_cur _ rfl rfl rfl, T.run_same, T.run_ret]
 have k4 : ∀ s : List Str, s.length ≤ 1000 → (check_names_L4 f f.2.2.2.2.1 (f.2.2.2.2.1.length : Int) (0, s)).run = some (s ++ f.2.2.2.2.1.map (·.1)) := fun s hs => by
  refine nm_loop (r := check_names_R4 f f.2.2.2.2.1 (f.2.2.2.2.1.length : Int)) f.2.2.2.2.1 (dflt tyRule) (·.1) s (fun k b x hk hx hm hb => ?_) (fun b => ?_) (by omega)
  ·unfold check_names_R4
   dsimp only
   rw [hx, T.run_ite_t (lt_t hk), T.run_obl (idx_ok hk), T.run_app _ rfl rfl rfl (by omega), T.run_cur _ (by simp) rfl (by simp), T.run_obl (by simp), T.run_ret, ix1 k _ hk (by omega)]
  ·unfold check_names_R4
   dsimp only
   rw [T.run_ite_f (lt_f _), T.run_cur _ rfl rfl rfl, T.run_same, T.run_ret]
 have k5 : ∀ s : List Str, s.length ≤ 1000 → (check_names_L5 f.2.2.2.2.2.1 (f.2.2.2.2.2.1.length : Int) (0, s)).run = some (s ++ f.2.2.2.2.2.1.map (·.1)) := fun s hs => by
  refine nm_loop (r := check_names_R5 f.2.2.2.2.2.1 (f.2.2.2.2.2.1.length : Int)) f.2.2.2.2.2.1 (dflt tyCheck) (·.1) s (fun k b x hk hx hm hb => ?_) (fun b => ?_) (by omega)
  ·unfold check_names_R5
   dsimp only
   rw [hx, T.run_ite_t (lt_t hk), T.run_obl (idx_ok hk), T.run_app _ rfl rfl rfl (by omega), T.run_cur _ (by simp) rfl (by simp), T.run_obl (by simp), T.run_ret, ix1 k _ hk (by omega)]
  ·unfold check_names_R5
   dsimp only
   rw [T.run_ite_f (lt_f _), T.run_cur _ rfl rfl rfl, T.run_same, T.run_ret]
 unfold check_names
 rw [T.run_cur _ rfl rfl rfl, T.run_same, T.run_bind_of (k0 _ (by simp)), List.nil_append, T.run_cur _ rfl rfl rfl, T.run_same, T.run_bind_of (k1 _ (by simp only [List.length_append, List.length_map]; omega)), T.run_cur _ rfl rfl rfl, T.run_same, T.run_bind_of (k2 _ (by simp only [List.length_append, List.length_map]; omega)), T.run_cur _ rfl rfl rfl, T.run_same, T.run_bind_of (k3 _ (by simp only [List.length_append, List.length_map]; omega)), T.run_cur _ rfl rfl rfl, T.run_same, T.run_bind_of (k4 _ (by simp only [List.length_append, List.length_map]; omega)), T.run_cur _ rfl rfl rfl, T.run_same, T.run_bind_of (k5 _ (by simp only [List.length_append, List.length_map]; omega)), T.run_same, T.run_ret]
 simp only [Nat.zero_add, List.take_length, List.drop_zero]
 rfl
theorem ref7_names_run (f : Form) (h : FS f) : (ref7_names f).run = some (nmsF f) := by
 have hn := h.n
 have k0 : ∀ s : List Str, s.length ≤ 1000 → (ref7_names_L0 f (0, s)).run = some (s ++ f.1.map (·.1)) := fun s hs => by
  refine nm_loop (r := ref7_names_R0 f) f.1 (dflt tySwitch) (·.1) s (fun k b x hk hx hm hb => ?_) (fun b => ?_) (by omega)
  ·unfold ref7_names_R0
   dsimp only
   rw [hx, T.run_ite_t (lt_t hk), T.run_obl (idx_ok hk), T.run_app _ rfl rfl rfl (by omega), T.run_cur _ (by simp) rfl (by simp), T.run_obl (by simp), T.run_ret, ix1 k _ hk (by omega)]
  ·unfold ref7_names_R0
   dsimp only
   rw [T.run_ite_f (lt_f _), T.run_cur _ rfl rfl rfl, T.run_same, T.run_ret]
 have k1 : ∀ s : List Str, s.length ≤ 1000 → (ref7_names_L1 f (0, s)).run = some (s ++ f.2.1.map (·.1)) := fun s hs => by
  refine nm_loop (r := ref7_names_R1 f) f.2.1 (dflt tyParam) (·.1) s (fun k b x hk hx hm hb => ?_) (fun b => ?_) (by omega)
  ·unfold ref7_names_R1
   dsimp only
   rw [hx, T.run_ite_t (lt_t hk), T.run_obl (idx_ok hk), T.run_app _ rfl rfl rfl (by omega), T.run_cur _ (by simp) rfl (by simp), T.run_obl (by simp), T.run_ret, ix1 k _ hk (by omega)]
  ·unfold ref7_names_R1
   dsimp only
   rw [T.run_ite_f (lt_f _), T.run_cur _ rfl rfl rfl, T.run_same, T.run_ret]
 have k2 : ∀ s : List Str, s.length ≤ 1000 → (ref7_names_L2 f (0, s)).run = some (s ++ f.2.2.1.map (·.1)) := fun s hs => by
  refine nm_loop (r := ref7_names_R2 f) f.2.2.1 (dflt tyPage) (·.1) s (fun k b x hk hx hm hb => ?_) (fun b => ?_) (by omega)
  ·unfold ref7_names_R2
   dsimp only
   rw [hx, T.run_ite_t (lt_t hk), T.run_obl (idx_ok hk), T.run_app _ rfl rfl rfl (by omega), T.run_cur _ (by simp) rfl (by simp), T.run_obl (by simp), T.run_ret, ix1 k _ hk (by omega)]
  ·unfold ref7_names_R2
   dsimp only
   rw [T.run_ite_f (lt_f _), T.run_cur _ rfl rfl rfl, T.run_same, T.run_ret]
 have k3 : ∀ s : List Str, s.length ≤ 1000 → (ref7_names_L3 f (0, s)).run = some (s ++ f.2.2.2.2.1.map (·.1)) := fun s hs => by
  refine nm_loop (r := ref7_names_R3 f) f.2.2.2.2.1 (dflt tyRule) (·.1) s (fun k b x hk hx hm hb => ?_) (fun b => ?_) (by omega)
  ·unfold ref7_names_R3
   dsimp only
   rw [hx, T.run_ite_t (lt_t hk), T.run_obl (idx_ok hk), T.run_app _ rfl rfl rfl (by omega), T.run_cur _ (by simp) rfl (by simp), T.run_obl (by simp), T.run_ret, ix1 k _ hk (by omega)]
  ·unfold ref7_names_R3
   dsimp only
   rw [T.run_ite_f (lt_f _), T.run_cur _ rfl rfl rfl, T.run_same, T.run_ret]
 have k4 : ∀ s : List Str, s.length ≤ 1000 → (ref7_names_L4 f (0, s)).run = some (s ++ f.2.2.2.2.2.1.map (·.1)) := fun s hs => by
  refine nm_loop (r := ref7_names_R4 f) f.2.2.2.2.2.1 (dflt tyCheck) (·.1) s (fun k b x hk hx hm hb => ?_) (fun b => ?_) (by omega)
  ·unfold ref7_names_R4
   dsimp only
   rw [hx, T.run_ite_t (lt_t hk), T.run_obl (idx_ok hk), T.run_app _ rfl rfl rfl (by omega), T.run_cur _ (by simp) rfl (by simp), T.run_obl (by simp), T.run_ret, ix1 k _ hk (by omega)]
  ·unfold ref7_names_R4
   dsimp only
   rw [T.run_ite_f (lt_f _), T.run_cur _ rfl rfl rfl, T.run_same, T.run_ret]
 unfold ref7_names
 rw [T.run_cur _ rfl rfl rfl, T.run_same, T.run_bind_of (k0 _ (by simp)), List.nil_append, T.run_cur _ rfl rfl rfl, T.run_same, T.run_bind_of (k1 _ (by simp only [List.length_append, List.length_map]; omega)), T.run_cur _ rfl rfl rfl, T.run_same, T.run_bind_of (k2 _ (by simp only [List.length_append, List.length_map]; omega)), T.run_bind_of (Fields_run f h), T.run_app _ rfl rfl rfl (by simp only [List.length_append, List.length_map]; omega), T.run_cur _ List.length_append.symm rfl List.length_append.symm, T.run_obl List.length_append.symm, T.run_bind_of (k3 _ (by simp only [List.length_append, List.length_map]; omega)), T.run_cur _ rfl rfl rfl, T.run_same, T.run_bind_of (k4 _ (by simp only [List.length_append, List.length_map]; omega)), T.run_same, T.run_ret]
 simp only [Nat.zero_add, List.take_length, List.drop_zero]
 rfl
theorem twR_cons (seen : List Str) (x : Str) (r : List Str) : twR seen (x :: r) = if x ∈ seen then (x, true) else twR (seen ++ [x]) r := rfl
theorem twR_mem : ∀ (l seen : List Str), (twR seen l).2 = true → (twR seen l).1 ∈ l
 | [], _, h => by cases h
 | x :: r, seen, h => by
  unfold twR at h ⊢
  split
  ·exact List.mem_cons_self
  ·rename_i q
   rw [if_neg q] at h
   exact List.mem_cons_of_mem _ (twR_mem r _ h)
theorem twR_none : ∀ (l seen : List Str), (twR seen l).2 = false → (twR seen l).1 = []
 | [], _, _ => rfl
 | x :: r, seen, h => by
  unfold twR at h ⊢
  split
  ·rename_i q
   rw [if_pos q] at h; cases h
  ·rename_i q
   rw [if_neg q] at h
   exact twR_none r _ h
theorem check_twice_run (l : List Str) (hl : l.length ≤ 1000000) (hs : ∀ s ∈ l, s.length ≤ 1000000) : (check_twice l).run = some (twR [] l) := by
 unfold check_twice
 rw [T.run_obl ⟨by omega, fun s h => by have := hs s h; omega⟩, T.run_ret]
theorem ref7_twice_run (l : List Str) (hl : l.length ≤ 1000000) : (ref7_twice l).run = some (twR [] l).1 := by
 have key : (ref7_twice_L0 l 0).run = some (if (twR [] l).2 = true then .inr (twR [] l).1 else .inl ()) := by
  refine T.loop_scan (r := ref7_twice_R0 l) l (dflt .str) (fun (_ : List Str) i => i) (fun k b => b = l.take k) (fun xs b => if (twR b xs).2 = true then .inr (twR b xs).1 else .inl ()) (fun k b x xs hk hx hm hd hb => ?_) (fun b _ => ?_) (b := []) rfl
  ·subst hb
   unfold ref7_twice_R0
   dsimp only
   have hc : cutL (e := .str) (0 : Int) (k : Int) l = l.take k := by unfold cutL; simp
   have hh := ref5_Has_run (l.take k) x (by rw [List.length_take]; omega)
   rw [T.run_ite_t (lt_t hk), T.run_obl (slOk_iff.2 ⟨by omega, by omega, by omega⟩), T.run_obl (idx_ok hk), hc, hx, T.run_bind_of hh, twR_cons]
   by_cases q : x ∈ l.take k
   ·right
    rw [decide_eq_true q, T.run_ite_true, T.run_obl (idx_ok hk), T.run_ret, if_pos q]
    rfl
   ·left
    rw [decide_eq_false q, T.run_ite_false, T.run_ret, if_neg q, ix1 k _ hk (by omega)]
    refine ⟨l.take (k + 1), rfl, rfl, ?_⟩
    have e : l.take (k + 1) = l.take k ++ [x] := by
     rw [nth_at hk] at hx
     rw [List.take_add_one, List.getElem?_eq_getElem hk, hx]; rfl
    rw [e]
  ·unfold ref7_twice_R0
   rw [T.run_ite_f (lt_f _), T.run_ret]; rfl
 unfold ref7_twice
 rw [T.run_bind_of key]
 cases q : (twR [] l).2 with
 | true => rfl
 | false => rw [if_neg (by decide), Sum.elim_inl, T.run_ret, twR_none l [] q]
end Go.AM.Lf
namespace Go.AM.Lf
open PL
def gsF (f : Form) : List Str := f.2.2.1.map (·.2.1) ++ f.2.2.2.2.1.map (·.2.2.1)
def badGu (f : Form) (s : Str) : Bool := !strEq s [] && !decide (s ∈ f.1.map (·.1))
def ugF (f : Form) : Option Str := (gsF f).findSome? (pick (badGu f))
theorem pick_some {α : Type} {p : α → Bool} {l : List α} {x : α} (h : l.findSome? (pick p) = some x) : x ∈ l ∧ p x = true := by
 induction l with
 | nil => cases h
 | cons y r ih =>
  rw [List.findSome?_cons] at h
  unfold pick at h
  cases hp : p y with
  | true =>
   rw [hp, if_pos rfl] at h
   have e : y = x := Option.some.inj h
   exact e ▸ ⟨List.mem_cons_self, hp⟩
  | false =>
   rw [hp, if_neg (by decide)] at h
   have := ih h
   exact ⟨List.mem_cons_of_mem _ this.1, this.2⟩
theorem ugF_ne {f : Form} {x : Str} (h : ugF f = some x) : strEq x [] = false := by
 have := (pick_some h).2
 unfold badGu at this
 rw [Bool.and_eq_true, Bool.not_eq_true'] at this
 exact this.1
theorem check_unguarded_run (f : Form) (h : FS f) : (check_unguarded f).run = some (optE (fun x => (x, true)) ([], false) (ugF f)) := by
 have hn := h.n
 have k0 : ∀ s : List Str, s.length ≤ 1000 → (check_unguarded_L0 f f.2.2.1 (f.2.2.1.length : Int) (0, s)).run = some (s ++ f.2.2.1.map (·.2.1)) := fun s hs => by
  refine nm_loop (r := check_unguarded_R0 f f.2.2.1 (f.2.2.1.length : Int)) f.2.2.1 (dflt tyPage) (·.2.1) s (fun k b x hk hx hm hb => ?_) (fun b => ?_) (by omega)
  ·unfold check_unguarded_R0
   dsimp only
   rw [hx, T.run_ite_t (lt_t hk), T.run_obl (idx_ok hk), T.run_app _ rfl rfl rfl (by omega), T.run_cur _ (by simp) rfl (by simp), T.run_obl (by simp), T.run_ret, ix1 k _ hk (by omega)]
  ·unfold check_unguarded_R0
   dsimp only
   rw [T.run_ite_f (lt_f _), T.run_cur _ rfl rfl rfl, T.run_same, T.run_ret]
 have k1 : ∀ s : List Str, s.length ≤ 1000 → (check_unguarded_L1 f f.2.2.2.2.1 (f.2.2.2.2.1.length : Int) (0, s)).run = some (s ++ f.2.2.2.2.1.map (·.2.2.1)) := fun s hs => by
  refine nm_loop (r := check_unguarded_R1 f f.2.2.2.2.1 (f.2.2.2.2.1.length : Int)) f.2.2.2.2.1 (dflt tyRule) (·.2.2.1) s (fun k b x hk hx hm hb => ?_) (fun b => ?_) (by omega)
  ·unfold check_unguarded_R1
   dsimp only
   rw [hx, T.run_ite_t (lt_t hk), T.run_obl (idx_ok hk), T.run_app _ rfl rfl rfl (by omega), T.run_cur _ (by simp) rfl (by simp), T.run_obl (by simp), T.run_ret, ix1 k _ hk (by omega)]
  ·unfold check_unguarded_R1
   dsimp only
   rw [T.run_ite_f (lt_f _), T.run_cur _ rfl rfl rfl, T.run_same, T.run_ret]
 have hix := indexStr_run (gsF f) (fun z0 => check_unguarded_f1 z0 f) (badGu f) (fun s _ => by
  unfold check_unguarded_f1 badGu
  cases strEq s [] with
  | true => rfl
  | false =>
   rw [T.run_ite_t (by rfl), T.run_bind_of (anySwitch_run f.1 (fun z0 => check_unguarded_f1_f1 z0 s) (fun x => strEq x.1 s) (fun x _ => rfl) (by omega)), T.run_ret, any_map Switch (·.1) s f.1]
   rfl) (by unfold gsF; simp only [List.length_append, List.length_map]; omega)
 unfold check_unguarded
 rw [T.run_cur _ rfl rfl rfl, T.run_same, T.run_bind_of (k0 _ (by simp)), List.nil_append, T.run_cur _ rfl rfl rfl, T.run_same, T.run_bind_of (k1 _ (by rw [List.length_map]; omega)), T.run_same]
 simp only [Nat.zero_add, List.take_length, List.drop_zero]
 refine (T.run_bind_of hix _).trans ?_
 unfold ugF
 rcases ix_pick (badGu f) (dflt .str) (gsF f) with ⟨h1, h2⟩ | ⟨x, k, h1, h2, h3, h4⟩
 ·rw [h1, h2]; rfl
 ·rw [h1, h2, T.run_ite_f (decide_eq_false (by omega))]
  have h3' : (k : Int).toNat < (f.2.2.1.map (·.2.1) ++ f.2.2.2.2.1.map (·.2.2.1) : List Str).length := by rw [Int.toNat_natCast]; exact h3
  refine (T.run_obl (idx_ok h3) _).trans ((T.run_obl (eOk_iff.2 ⟨rfl, h3'⟩) _).trans ?_)
  exact congrArg some (congrArg (·, true) h4)
theorem ref7_guards_run (f : Form) (h : FS f) : (ref7_guards f).run = some ((ugF f).getD []) := by
 have hn := h.n
 have k0 : (ref7_guards_L0 f (0, [])).run = some ([] ++ f.1.map (·.1)) := by
  refine nm_loop (r := ref7_guards_R0 f) f.1 (dflt tySwitch) (·.1) [] (fun k b x hk hx hm hb => ?_) (fun b => ?_) (by simp only [List.length_nil]; omega)
  ·unfold ref7_guards_R0
   dsimp only
   rw [hx, T.run_ite_t (lt_t hk), T.run_obl (idx_ok hk), T.run_app _ rfl rfl rfl (by omega), T.run_cur _ (by simp) rfl (by simp), T.run_obl (by simp), T.run_ret, ix1 k _ hk (by omega)]
  ·unfold ref7_guards_R0
   dsimp only
   rw [T.run_ite_f (lt_f _), T.run_cur _ rfl rfl rfl, T.run_same, T.run_ret]
 have hg : ∀ (N : List Str) (g : Str) (i n : Int) (hN : N.length ≤ 1000000) (hN2 : N = f.1.map (·.1)) (P : Prop) (hP : P),
   (.obl P <| .ite (!(strEq g ([] : Str))) (.obl P <| .obl ((List.length N) = (List.length N)) <| T.bind (ref5_Has (List.drop (0 : Nat) (List.take ((0 : Nat) + (List.length N)) N)) g) fun r => .obl (curOk (List.length N) (0 : Nat) (List.length N) (List.length N)) <| .obl ((List.length N) = (List.length N)) <| .ret ((!r), N))
    (.obl (curOk (List.length N) (0 : Nat) (List.length N) (List.length N)) <| .obl ((List.length N) = (List.length N)) <| .ret (false, N)) : T (Bool × List Str)).run = some (badGu f g, N) := by
  intro N g i n hN hN2 P hP
  subst hN2
  unfold badGu
  rw [T.run_obl hP]
  cases strEq g [] with
  | true => rw [T.run_ite_f (by rfl), T.run_cur _ rfl rfl rfl, T.run_same, T.run_ret]; rfl
  | false =>
   rw [T.run_ite_t (by rfl), T.run_obl hP, T.run_same]
   simp only [Nat.zero_add, List.take_length, List.drop_zero]
   rw [T.run_bind_of (ref5_Has_run _ g (by omega)), T.run_cur _ rfl rfl rfl, T.run_true, T.run_ret]
   rfl
 have k1 : (ref7_guards_L1 f (0, f.1.map (·.1))).run = some (optE (fun z => .inr (z, f.1.map (·.1))) (.inl (f.1.map (·.1))) (f.2.2.1.findSome? (fun x => pick (badGu f) x.2.1))) := by
  refine find_loop (r := ref7_guards_R1 f) f.2.2.1 (dflt tyPage) (fun x => pick (badGu f) x.2.1) (fun i => (i, f.1.map (·.1))) (fun z => .inr (z, f.1.map (·.1))) (.inl (f.1.map (·.1))) (fun k x hk hx hm => ?_) ?_
  ·unfold ref7_guards_R1
   dsimp only
   rw [T.run_ite_t (lt_t hk), hx]
   refine (T.run_bind_of (hg (f.1.map (·.1)) x.2.1 0 0 (by rw [List.length_map]; omega) rfl _ (idx_ok hk)) _).trans ?_
   dsimp only
   unfold pick
   cases badGu f x.2.1 with
   | true => rw [T.run_ite_true, T.run_obl (idx_ok hk), T.run_same, T.run_ret]; rfl
   | false => rw [T.run_ite_false, T.run_cur _ rfl rfl rfl, T.run_same, T.run_ret, ix1 k _ hk (by omega)]; rfl
  ·unfold ref7_guards_R1
   dsimp only
   rw [T.run_ite_f (lt_f _), T.run_cur _ rfl rfl rfl, T.run_same, T.run_ret]
 have k2 : (ref7_guards_L2 f (0, f.1.map (·.1))).run = some (optE (fun z => .inr (z, f.1.map (·.1))) (.inl (f.1.map (·.1))) (f.2.2.2.2.1.findSome? (fun x => pick (badGu f) x.2.2.1))) := by
  refine find_loop (r := ref7_guards_R2 f) f.2.2.2.2.1 (dflt tyRule) (fun x => pick (badGu f) x.2.2.1) (fun i => (i, f.1.map (·.1))) (fun z => .inr (z, f.1.map (·.1))) (.inl (f.1.map (·.1))) (fun k x hk hx hm => ?_) ?_
  ·unfold ref7_guards_R2
   dsimp only
   rw [T.run_ite_t (lt_t hk), hx]
   refine (T.run_bind_of (hg (f.1.map (·.1)) x.2.2.1 0 0 (by rw [List.length_map]; omega) rfl _ (idx_ok hk)) _).trans ?_
   dsimp only
   unfold pick
   cases badGu f x.2.2.1 with
   | true => rw [T.run_ite_true, T.run_obl (idx_ok hk), T.run_same, T.run_ret]; rfl
   | false => rw [T.run_ite_false, T.run_cur _ rfl rfl rfl, T.run_same, T.run_ret, ix1 k _ hk (by omega)]; rfl
  ·unfold ref7_guards_R2
   dsimp only
   rw [T.run_ite_f (lt_f _), T.run_same, T.run_ret]
 have e : ugF f = (f.2.2.1.findSome? (fun x => pick (badGu f) x.2.1)).or (f.2.2.2.2.1.findSome? (fun x => pick (badGu f) x.2.2.1)) := by
  unfold ugF gsF
  rw [List.findSome?_append, List.findSome?_map, List.findSome?_map]
  rfl
 unfold ref7_guards
 rw [T.run_cur _ rfl rfl rfl, T.run_same, T.run_bind_of k0, List.nil_append, T.run_cur _ rfl rfl rfl, T.run_same, T.run_bind_of k1, e]
 cases f.2.2.1.findSome? (fun x => pick (badGu f) x.2.1) with
 | some z => rfl
 | none =>
  show T.run (Sum.elim _ _ (.inl _)) = _
  rw [Sum.elim_inl, T.run_cur _ rfl rfl rfl, T.run_same, T.run_bind_of k2]
  cases f.2.2.2.2.1.findSome? (fun x => pick (badGu f) x.2.2.1) <;> rfl
end Go.AM.Lf
namespace Go.AM.Lf
open PL
mutual
theorem nmE_dd : ∀ (e : Expr) (acc : List Str), nmE e acc = dd acc (allE e)
 | .mk k n s l, acc => by
  unfold nmE allE
  rw [nmEs_dd l, dd_append]
  congr 1
  by_cases hk : k = 2
  ·rw [if_pos hk, dd_cons, dd_nil]
   by_cases ha : s ∈ acc
   ·rw [if_pos ha, if_neg]
    rintro ⟨-, h⟩
    rw [List.any_eq_false] at h
    exact h s ha (strEq_iff s s ▸ decide_eq_true rfl)
   ·have hf : acc.any (strEq s) = false := List.any_eq_false.2 fun x hx h => by
     rw [strEq_iff] at h
     exact ha (of_decide_eq_true h ▸ hx)
    rw [if_neg ha, if_pos ⟨hk, hf⟩]
  ·rw [if_neg hk, if_neg (fun h => hk h.1), dd_nil]
theorem nmEs_dd : ∀ (l : List Expr) (acc : List Str), nmEs l acc = dd acc (allEs l)
 | [], acc => rfl
 | e :: r, acc => by
  unfold nmEs allEs
  rw [nmEs_dd r, nmE_dd e, dd_append]
end
def exF (f : Form) : List Expr := f.2.2.2.2.2.1.flatMap (fun x => [x.2.2.2.1, x.2.2.2.2.1]) ++ f.2.2.2.2.1.flatMap (fun x => [x.2.2.2.1, x.2.2.2.2.1])
def knF (f : Form) : List Str := f.2.2.2.1.map (·.1) ++ f.2.1.map (·.1)
def badU (f : Form) (s : Str) : Bool := !decide (s ∈ knF f)
def nmX (l : List Expr) : List Str := l.flatMap fun e => nmE e []
def ukF (f : Form) : Option Str := (nmX (exF f)).findSome? (pick (badU f))
theorem exF_ok {f : Form} (h : FS f) : ∀ e ∈ exF f, exOk e := by
 intro e he
 unfold exF at he
 rcases List.mem_append.1 he with he | he <;> obtain ⟨x, hx, he⟩ := List.mem_flatMap.1 he
 ·have := h.c x hx
  rcases List.mem_cons.1 he with rfl | he
  ·exact this.2.1
  ·rw [List.mem_singleton.1 he]; exact this.2.2
 ·have := h.r x hx
  rcases List.mem_cons.1 he with rfl | he
  ·exact this.2.2.1
  ·rw [List.mem_singleton.1 he]; exact this.2.2.2
theorem flat_len {α β : Type} (g : α → List β) (C : Nat) : ∀ (l : List α), (∀ x ∈ l, (g x).length ≤ C) → (l.flatMap g).length ≤ l.length * C
 | [], _ => Nat.zero_le _
 | x :: r, h => by
  have h1 := h x List.mem_cons_self
  have h2 := flat_len g C r fun y hy => h y (List.mem_cons_of_mem _ hy)
  rw [List.flatMap_cons, List.length_append, List.length_cons, Nat.add_mul, Nat.one_mul]
  omega
theorem exF_len {f : Form} (h : FS f) : (exF f).length ≤ 60 := by
 have hn := h.n
 have h1 := flat_len (fun x : Check => [x.2.2.2.1, x.2.2.2.2.1]) 2 f.2.2.2.2.2.1 fun _ _ => Nat.le_refl _
 have h2 := flat_len (fun x : Rule => [x.2.2.2.1, x.2.2.2.2.1]) 2 f.2.2.2.2.1 fun _ _ => Nat.le_refl _
 unfold exF
 rw [List.length_append]
 exact Nat.le_trans (Nat.add_le_add h1 h2) (by omega)
theorem nm_len {e : Expr} (h : exOk e) : (nmE e []).length ≤ 2400 := by
 have h1 := nmE_len e []
 have h2 := exOk_bk h
 simp only [List.length_nil, Nat.zero_add] at h1
 exact Nat.le_trans h1 h2
theorem flat_find {α β γ : Type} (g : α → List β) (q : β → Option γ) : ∀ l : List α, (l.flatMap g).findSome? q = l.findSome? fun x => (g x).findSome? q
 | [] => rfl
 | x :: r => by
  rw [List.flatMap_cons, List.findSome?_append, List.findSome?_cons, flat_find g q r]
  cases (g x).findSome? q <;> rfl
theorem mul_le (n C : Nat) (m D : Nat) (h : n ≤ m) (e : m * C ≤ D) : n * C ≤ D := Nat.le_trans (Nat.mul_le_mul_right C h) e
theorem check_unknown_run (f : Form) (h : FS f) : (check_unknown f (f.2.2.2.1.map (·.1))).run = some (optE (fun x => (x, true)) ([], false) (ukF f)) := by
 have hn := h.n
 have gl : ∀ (a b : Expr), exOk a → exOk b → (nmE a [] ++ nmE b []).length ≤ 4800 := fun a b ha hb => by
  rw [List.length_append]; exact Nat.add_le_add (nm_len ha) (nm_len hb)
 have cc : ∀ (b p q : List Str), b.length ≤ 300000 → p.length ≤ 2400 → q.length ≤ 2400 → (slices_Concat_sl_string [b, p, q]).run = some (b ++ (p ++ q)) := fun b p q hb hp hq => by
  unfold slices_Concat_sl_string
  have e : List.flatten [b, p, q] = b ++ (p ++ q) := by simp
  rw [e, T.run_obl ⟨by simp only [List.length_cons, List.length_nil]; omega, by rw [List.length_append, List.length_append]; omega, by simp⟩, T.run_ret]
 have k0 : (check_unknown_L0 f (f.2.2.2.1.map (·.1)) f.2.2.2.2.2.1 (f.2.2.2.2.2.1.length : Int) ([], 0)).run = some ([] ++ f.2.2.2.2.2.1.flatMap fun x => nmE x.2.2.2.1 [] ++ nmE x.2.2.2.2.1 []) := by
  refine row_loop (r := check_unknown_R0 f (f.2.2.2.1.map (·.1)) f.2.2.2.2.2.1 (f.2.2.2.2.2.1.length : Int)) f.2.2.2.2.2.1 (dflt tyCheck) 4800 300000 (fun x => nmE x.2.2.2.1 [] ++ nmE x.2.2.2.2.1 []) (fun b i => (b, i)) (fun b => b) [] (fun k b x hk hx hm hb => ?_) (fun b _ => ?_) (fun x hx => gl _ _ (h.c x hx).2.1 (h.c x hx).2.2) (by rw [List.length_nil, Nat.zero_add]; exact mul_le _ 4800 30 300000 (by omega) (by decide))
  ·have hc := h.c x hm
   unfold check_unknown_R0
   dsimp only
   rw [hx, T.run_ite_t (lt_t hk), T.run_obl (idx_ok hk), ex_eta, ex_eta, T.run_bind_of (Names_run _ (Nat.le_trans (exOk_bk hc.2.1) (by decide))), T.run_bind_of (Names_run _ (Nat.le_trans (exOk_bk hc.2.2) (by decide))), T.run_bind_of (cc _ _ _ (by omega) (nm_len hc.2.1) (nm_len hc.2.2)), T.run_ret, ix1 k _ hk (by omega)]
  ·unfold check_unknown_R0
   dsimp only
   rw [T.run_ite_f (lt_f _), T.run_ret]
 have l0 : (f.2.2.2.2.2.1.flatMap fun x => nmE x.2.2.2.1 [] ++ nmE x.2.2.2.2.1 []).length ≤ 144000 :=
  Nat.le_trans (flat_len _ 4800 _ fun x hx => gl _ _ (h.c x hx).2.1 (h.c x hx).2.2) (mul_le _ 4800 30 144000 (by omega) (by decide))
 have k1 : ∀ s : List Str, s.length ≤ 144000 → (check_unknown_L1 f (f.2.2.2.1.map (·.1)) f.2.2.2.2.1 (f.2.2.2.2.1.length : Int) (s, 0)).run = some (s ++ f.2.2.2.2.1.flatMap fun x => nmE x.2.2.2.1 [] ++ nmE x.2.2.2.2.1 []) := fun s hs => by
  refine row_loop (r := check_unknown_R1 f (f.2.2.2.1.map (·.1)) f.2.2.2.2.1 (f.2.2.2.2.1.length : Int)) f.2.2.2.2.1 (dflt tyRule) 4800 300000 (fun x => nmE x.2.2.2.1 [] ++ nmE x.2.2.2.2.1 []) (fun b i => (b, i)) (fun b => b) s (fun k b x hk hx hm hb => ?_) (fun b _ => ?_) (fun x hx => gl _ _ (h.r x hx).2.2.1 (h.r x hx).2.2.2) (Nat.le_trans (Nat.add_le_add hs (mul_le _ 4800 30 144000 (by omega) (by decide))) (by decide))
  ·have hc := (h.r x hm).2.2
   unfold check_unknown_R1
   dsimp only
   rw [hx, T.run_ite_t (lt_t hk), T.run_obl (idx_ok hk), ex_eta, ex_eta, T.run_bind_of (Names_run _ (Nat.le_trans (exOk_bk hc.1) (by decide))), T.run_bind_of (Names_run _ (Nat.le_trans (exOk_bk hc.2) (by decide))), T.run_bind_of (cc _ _ _ (by omega) (nm_len hc.1) (nm_len hc.2)), T.run_ret, ix1 k _ hk (by omega)]
  ·unfold check_unknown_R1
   dsimp only
   rw [T.run_ite_f (lt_f _), T.run_ret]
 have l1 : (f.2.2.2.2.1.flatMap fun x => nmE x.2.2.2.1 [] ++ nmE x.2.2.2.2.1 []).length ≤ 144000 :=
  Nat.le_trans (flat_len _ 4800 _ fun x hx => gl _ _ (h.r x hx).2.2.1 (h.r x hx).2.2.2) (mul_le _ 4800 30 144000 (by omega) (by decide))
 have eN : nmX (exF f) = (f.2.2.2.2.2.1.flatMap fun x => nmE x.2.2.2.1 [] ++ nmE x.2.2.2.2.1 []) ++ f.2.2.2.2.1.flatMap fun x => nmE x.2.2.2.1 [] ++ nmE x.2.2.2.2.1 [] := by
  unfold nmX exF
  rw [List.flatMap_append, List.flatMap_assoc, List.flatMap_assoc]
  simp only [List.flatMap_cons, List.flatMap_nil, List.append_nil]
 have hix := indexStr_run (nmX (exF f)) (fun z0 => check_unknown_f1 z0 (f.2.2.2.1.map (·.1)) f) (badU f) (fun s _ => by
  unfold check_unknown_f1
  rw [T.run_bind_of (contains7_run _ s (by rw [List.length_map]; omega))]
  have e1 : (f.2.2.2.1.map (·.1)).any (strEq s) = decide (s ∈ f.2.2.2.1.map (·.1)) := by
   have : (strEq s) = fun x => strEq x s := by funext x; rw [strEq_iff, strEq_iff]; exact decide_eq_decide.2 ⟨Eq.symm, Eq.symm⟩
   rw [this, ← List.map_id (f.2.2.2.1.map (·.1)), List.any_map, ← any_map Str id s]; simp
  rw [e1]
  unfold badU knF
  by_cases q : s ∈ f.2.2.2.1.map (·.1)
  ·rw [decide_eq_true q, T.run_ite_f (by rfl), T.run_ret, decide_eq_true (List.mem_append.2 (.inl q))]; rfl
  ·rw [decide_eq_false q, T.run_ite_t (by rfl), T.run_bind_of (anyParam_run f.2.1 (fun z0 => check_unknown_f1_f1 z0 s) (fun x => strEq x.1 s) (fun x _ => rfl) (by omega)), T.run_ret, any_map Param (·.1) s f.2.1]
   have : (s ∈ f.2.2.2.1.map (·.1) ++ f.2.1.map (·.1)) ↔ s ∈ f.2.1.map (·.1) := by rw [List.mem_append]; exact ⟨fun z => z.resolve_left q, .inr⟩
   rw [decide_eq_decide.2 this]) (by rw [eN, List.length_append]; omega)
 unfold check_unknown
 rw [T.run_bind_of k0, List.nil_append, T.run_bind_of (k1 _ l0), ← eN]
 refine (T.run_bind_of hix _).trans ?_
 unfold ukF
 rcases ix_pick (badU f) (dflt .str) (nmX (exF f)) with ⟨h1, h2⟩ | ⟨x, k, h1, h2, h3, h4⟩
 ·rw [h1, h2]; rfl
 ·rw [h1, h2, T.run_ite_f (decide_eq_false (by omega)), T.run_obl (idx_ok h3), T.run_ret, h4]; rfl
theorem exprs_run (f : Form) (h : FS f) : (ref7_exprs f).run = some (exF f) := by
 have hn := h.n
 have k0 : (ref7_exprs_L0 f (0, [])).run = some ([] ++ f.2.2.2.2.2.1.flatMap fun x => [x.2.2.2.1, x.2.2.2.2.1]) := by
  refine row_loop (r := ref7_exprs_R0 f) f.2.2.2.2.2.1 (dflt tyCheck) 2 1000 (fun x => [x.2.2.2.1, x.2.2.2.2.1]) (fun b i => (i, b)) (fun b => b) [] (fun k b x hk hx hm hb => ?_) (fun b _ => ?_) (fun _ _ => Nat.le_refl _) (by rw [List.length_nil, Nat.zero_add]; omega)
  ·unfold ref7_exprs_R0
   dsimp only
   rw [hx, T.run_ite_t (lt_t hk), T.run_obl (idx_ok hk), T.run_obl (idx_ok hk), T.run_app _ rfl rfl rfl (by omega), T.run_cur _ (by simp) rfl (by simp), T.run_obl (by simp), T.run_ret, ix1 k _ hk (by omega)]
  ·unfold ref7_exprs_R0
   dsimp only
   rw [T.run_ite_f (lt_f _), T.run_cur _ rfl rfl rfl, T.run_same, T.run_ret]
 have l0 : (f.2.2.2.2.2.1.flatMap fun x => [x.2.2.2.1, x.2.2.2.2.1]).length ≤ 60 :=
  Nat.le_trans (flat_len _ 2 _ fun _ _ => Nat.le_refl _) (mul_le _ 2 30 60 (by omega) (by decide))
 have k1 : ∀ s : List Expr, s.length ≤ 60 → (ref7_exprs_L1 f (0, s)).run = some (s ++ f.2.2.2.2.1.flatMap fun x => [x.2.2.2.1, x.2.2.2.2.1]) := fun s hs => by
  refine row_loop (r := ref7_exprs_R1 f) f.2.2.2.2.1 (dflt tyRule) 2 1000 (fun x => [x.2.2.2.1, x.2.2.2.2.1]) (fun b i => (i, b)) (fun b => b) s (fun k b x hk hx hm hb => ?_) (fun b _ => ?_) (fun _ _ => Nat.le_refl _) (by omega)
  ·unfold ref7_exprs_R1
   dsimp only
   rw [hx, T.run_ite_t (lt_t hk), T.run_obl (idx_ok hk), T.run_obl (idx_ok hk), T.run_app _ rfl rfl rfl (by omega), T.run_cur _ (by simp) rfl (by simp), T.run_obl (by simp), T.run_ret, ix1 k _ hk (by omega)]
  ·unfold ref7_exprs_R1
   dsimp only
   rw [T.run_ite_f (lt_f _), T.run_cur _ rfl rfl rfl, T.run_same, T.run_ret]
 unfold ref7_exprs
 rw [T.run_cur _ rfl rfl rfl, T.run_same, T.run_bind_of k0, List.nil_append, T.run_cur _ rfl rfl rfl, T.run_same, T.run_bind_of (k1 _ l0), T.run_same, T.run_ret]
 simp only [Nat.zero_add, List.take_length, List.drop_zero]
 rfl
theorem ref7_unknown_run (f : Form) (h : FS f) : (ref7_unknown (exF f) (knF f)).run = some ((ukF f).getD []) := by
 have hn := h.n
 have hk : (knF f).length ≤ 1000000000 := by unfold knF; simp only [List.length_append, List.length_map]; omega
 have hl := exF_len h
 have kin : ∀ (i : Int) (n : List Str), n.length ≤ 1000000 → (ref7_unknown_L1 (exF f) (knF f) i n 0).run = some (optE .inr (.inl ()) (n.findSome? (pick (badU f)))) := by
  intro i n hn
  refine find_loop (r := ref7_unknown_R1 (exF f) (knF f) i n) n (dflt .str) (pick (badU f)) (fun i => i) .inr (.inl ()) (fun k x hkk hx hm => ?_) ?_
  ·unfold ref7_unknown_R1
   dsimp only
   rw [T.run_ite_t (lt_t hkk), hx, T.run_obl (idx_ok hkk), T.run_bind_of (ref5_Has_run _ x hk)]
   unfold pick badU
   by_cases q : x ∈ knF f
   ·rw [decide_eq_true q, T.run_ite_f (by rfl), T.run_ret, ix1 k _ hkk (by omega)]; rfl
   ·rw [decide_eq_false q, T.run_ite_t (by rfl), T.run_obl (idx_ok hkk), T.run_ret]; rfl
  ·unfold ref7_unknown_R1
   rw [T.run_ite_f (lt_f _), T.run_ret]
 have k0 : (ref7_unknown_L0 (exF f) (knF f) 0).run = some (optE .inr (.inl ()) ((exF f).findSome? fun e => (nmE e []).findSome? (pick (badU f)))) := by
  refine find_loop (r := ref7_unknown_R0 (exF f) (knF f)) (exF f) (dflt .expr) (fun e => (nmE e []).findSome? (pick (badU f))) (fun i => i) .inr (.inl ()) (fun k x hkk hx hm => ?_) ?_
  ·have hx2 := exF_ok h x hm
   unfold ref7_unknown_R0
   dsimp only
   rw [T.run_ite_t (lt_t hkk), hx, T.run_obl (idx_ok hkk), T.run_bind_of (ref5_Names_run _ (Nat.le_trans (exOk_bk hx2) (by decide))), ← nmE_dd, T.run_bind_of (kin _ _ (Nat.le_trans (nm_len hx2) (by decide)))]
   cases (nmE x []).findSome? (pick (badU f)) with
   | some z => rfl
   | none =>
    show T.run (T.ret (Sum.inl (w64 ((k : Int) + 1))) : T (Int ⊕ (Unit ⊕ Str))) = _
    rw [T.run_ret, ix1 k _ hkk (by omega)]; rfl
  ·unfold ref7_unknown_R0
   rw [T.run_ite_f (lt_f _), T.run_ret]
 unfold ref7_unknown
 rw [T.run_bind_of k0]
 unfold ukF nmX
 rw [flat_find]
 cases (exF f).findSome? fun e => (nmE e []).findSome? (pick (badU f)) <;> rfl
end Go.AM.Lf
