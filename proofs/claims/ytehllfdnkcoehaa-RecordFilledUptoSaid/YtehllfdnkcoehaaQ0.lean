/-
  Plain laws of the lifted program, part 0.
-/
import Derived.Test.YtehllfdnkcoehaaLf0
import Derived.Test.YtehllfdnkcoehaaAmA
import Derived.Test.YtehllfdnkcoehaaAmD
set_option linter.unusedVariables false
namespace Go.AM.PL
def ixF {α : Type} (p : α → Bool) (i : Int) : List α → Int
  | [] => -1
  | x :: r => if p x = true then i else ixF p (i + 1) r
theorem strEq_iff (a b : Str) : strEq a b = decide (a = b) := by
  unfold strEq
  by_cases h : a = b
  · subst h; simp
  · simp [h]
end Go.AM.PL
namespace Go.AM.PL
def nv : List Int → Nat
  | [] => 0
  | x :: l => x.toNat + 4294967296 * nv l
def limbs (l : List Int) : Prop := ∀ x ∈ l, 0 ≤ x ∧ x < 4294967296
def ofN (n : Nat) : List Int := if h : n = 0 then [] else ((n % 4294967296 : Nat) : Int) :: ofN (n / 4294967296)
termination_by n
decreasing_by omega
theorem ofN_zero : ofN 0 = [] := by rw [ofN]; rfl
theorem ofN_pos {n : Nat} (h : n ≠ 0) : ofN n = ((n % 4294967296 : Nat) : Int) :: ofN (n / 4294967296) := by rw [ofN, dif_neg h]
theorem limbs_nil : limbs [] := fun _ h => nomatch h
theorem limbs_cons {x : Int} {l : List Int} : limbs (x :: l) ↔ (0 ≤ x ∧ x < 4294967296) ∧ limbs l := by
  unfold limbs; simp [List.forall_mem_cons]
theorem limbs_append {a b : List Int} : limbs (a ++ b) ↔ limbs a ∧ limbs b := by
  unfold limbs; simp only [List.mem_append]
  exact ⟨fun h => ⟨fun x hx => h x (.inl hx), fun x hx => h x (.inr hx)⟩, fun h x hx => hx.elim (h.1 x) (h.2 x)⟩
theorem limbs_take {a : List Int} (h : limbs a) (n : Nat) : limbs (a.take n) := fun x hx => h x (List.mem_of_mem_take hx)
theorem limbs_drop {a : List Int} (h : limbs a) (n : Nat) : limbs (a.drop n) := fun x hx => h x (List.mem_of_mem_drop hx)
theorem limbs_replicate (n : Nat) : limbs (List.replicate n 0) := fun x hx => by
  have := (List.mem_replicate.1 hx).2; omega
theorem limbs_set {a : List Int} (h : limbs a) (i : Nat) {x : Int} (h0 : 0 ≤ x) (h1 : x < 4294967296) : limbs (a.set i x) := fun y hy => by
  rcases List.mem_or_eq_of_mem_set hy with h' | h'
  · exact h y h'
  · subst h'; exact ⟨h0, h1⟩
theorem limbs_nth {a : List Int} (h : limbs a) (i : Int) : 0 ≤ nth a i 0 ∧ nth a i 0 < 4294967296 := by
  unfold nth
  rw [List.getD_eq_getElem?_getD]
  cases hx : a[i.toNat]? with
  | none => simp
  | some x => exact h x (List.mem_of_getElem? hx)
theorem limbs_ofN (n : Nat) : limbs (ofN n) := by
  induction n using Nat.strongRecOn with
  | _ n ih =>
    by_cases h : n = 0
    · subst h; rw [ofN_zero]; exact limbs_nil
    · rw [ofN_pos h]
      exact limbs_cons.2 ⟨by omega, ih _ (by omega)⟩
@[simp] theorem nv_nil : nv [] = 0 := rfl
@[simp] theorem nv_cons (x : Int) (l : List Int) : nv (x :: l) = x.toNat + 4294967296 * nv l := rfl
@[simp] theorem nv_ofN (n : Nat) : nv (ofN n) = n := by
  induction n using Nat.strongRecOn with
  | _ n ih =>
    by_cases h : n = 0
    · subst h; rw [ofN_zero]; rfl
    · rw [ofN_pos h, nv_cons, ih _ (by omega)]; omega
theorem nv_append (a b : List Int) : nv (a ++ b) = nv a + 4294967296 ^ a.length * nv b := by
  induction a with
  | nil => simp
  | cons x a ih => simp only [List.cons_append, nv_cons, ih, List.length_cons, Nat.pow_succ, Nat.mul_add]; rw [← Nat.mul_assoc, Nat.mul_comm 4294967296 (4294967296 ^ a.length)]; omega
theorem nv_lt {l : List Int} (h : limbs l) : nv l < 4294967296 ^ l.length := by
  induction l with
  | nil => simp
  | cons x l ih =>
    have h' := limbs_cons.1 h
    have := ih h'.2
    simp only [nv_cons, List.length_cons, Nat.pow_succ]
    omega
@[simp] theorem nv_replicate (n : Nat) : nv (List.replicate n 0) = 0 := by
  induction n with
  | zero => rfl
  | succ n ih => simp [List.replicate_succ, ih]
def trimd (l : List Int) : Prop := ∀ x, l.getLast? = some x → x ≠ 0
theorem trimd_nil : trimd [] := fun _ h => nomatch h
theorem trimd_tail {x : Int} {l : List Int} (h : trimd (x :: l)) : trimd l := by
  cases l with
  | nil => exact trimd_nil
  | cons y l => intro z hz; exact h z (by simpa [List.getLast?_cons_cons] using hz)
theorem nv_pos {l : List Int} (h : limbs l) (ht : trimd l) (hn : l ≠ []) : nv l ≠ 0 := by
  induction l with
  | nil => exact absurd rfl hn
  | cons x l ih =>
    have h' := limbs_cons.1 h
    cases l with
    | nil =>
      have := ht x rfl
      simp; omega
    | cons y l =>
      have := ih h'.2 (trimd_tail ht) (by simp)
      rw [nv_cons]; omega
theorem ofN_nv {l : List Int} (h : limbs l) (ht : trimd l) : ofN (nv l) = l := by
  induction l with
  | nil => exact ofN_zero
  | cons x l ih =>
    have h' := limbs_cons.1 h
    have h1 := ih h'.2 (trimd_tail ht)
    rw [ofN_pos (nv_pos h ht (by simp)), nv_cons]
    have e1 : (x.toNat + 4294967296 * nv l) % 4294967296 = x.toNat := by omega
    have e2 : (x.toNat + 4294967296 * nv l) / 4294967296 = nv l := by omega
    rw [e1, e2, h1]
    congr 1; omega
theorem ofN_eq_nil {n : Nat} : ofN n = [] ↔ n = 0 := by
  constructor
  · intro h; rw [← nv_ofN n, h]; rfl
  · rintro rfl; exact ofN_zero
theorem nv_append_zero (l : List Int) : nv (l ++ [0]) = nv l := by simp [nv_append]
theorem ofN_len_le {n k : Nat} : (ofN n).length ≤ k ↔ n < 4294967296 ^ k := by
  induction k generalizing n with
  | zero =>
    simp only [Nat.le_zero_eq, List.length_eq_zero_iff, ofN_eq_nil, Nat.pow_zero]; omega
  | succ k ih =>
    by_cases h : n = 0
    · subst h; rw [ofN_zero]; simp [Nat.pow_pos]
    · rw [ofN_pos h, List.length_cons, Nat.pow_succ, Nat.add_le_add_iff_right, ih]
      rw [Nat.div_lt_iff_lt_mul (by omega)]
theorem ofN_len_lt {n k : Nat} : k < (ofN n).length ↔ 4294967296 ^ k ≤ n := by
  have := ofN_len_le (n := n) (k := k); omega
theorem ofN_nv_len {l : List Int} (h : limbs l) : (ofN (nv l)).length ≤ l.length := ofN_len_le.2 (nv_lt h)
theorem nth_append_r {a b : List Int} (i : Int) (h : (a.length : Int) ≤ i) : nth (a ++ b) i 0 = nth b (i - a.length) 0 := by
  unfold nth
  rw [List.getD_eq_getElem?_getD, List.getD_eq_getElem?_getD, List.getElem?_append_right (by omega)]
  congr 2; omega
theorem take_succ_nth (a : List Int) (i : Nat) (h : i < a.length) : a.take (i + 1) = a.take i ++ [nth a i 0] := by
  rw [List.take_succ_eq_append_getElem h]; simp [nth, h]
theorem nv_take_succ {a : List Int} {i : Nat} (h : i < a.length) : nv (a.take (i + 1)) = nv (a.take i) + 4294967296 ^ i * (nth a i 0).toNat := by
  rw [take_succ_nth a i h, nv_append]
  have : (a.take i).length = i := by simp; omega
  simp [this]
theorem nv_split (a : List Int) (i : Nat) (h : i ≤ a.length) : nv a = nv (a.take i) + 4294967296 ^ i * nv (a.drop i) := by
  have := nv_append (a.take i) (a.drop i)
  rw [List.take_append_drop] at this
  rw [this]; congr 3; simp; omega
theorem nv_drop_nth {a : List Int} {i : Nat} (h : i < a.length) : nv (a.drop i) = (nth a i 0).toNat + 4294967296 * nv (a.drop (i + 1)) := by
  rw [List.drop_eq_getElem_cons h, nv_cons]; simp [nth, h, List.getD_eq_getElem?_getD]
theorem take_set_lt {α : Type} (a : List α) (i j : Nat) (x : α) (h : j ≤ i) : (a.set i x).take j = a.take j := by
  rw [List.take_set_of_le h]
theorem set_take_succ (a : List Int) (i : Nat) (x : Int) (h : i < a.length) : (a.set i x).take (i + 1) = a.take i ++ [x] := by
  rw [take_succ_nth _ _ (by simpa using h), List.take_set_of_le (Nat.le_refl _)]
  simp [nth, h]
theorem set_drop_succ (a : List Int) (i : Nat) (x : Int) : (a.set i x).drop (i + 1) = a.drop (i + 1) := by
  rw [List.drop_set_of_lt (by omega)]
end Go.AM.PL
namespace Go.AM.T
variable {σ ρ : Type}
theorem loop_post {r : σ → T (σ ⊕ ρ)} (I : σ → Prop) (μ : σ → Nat) (Q : ρ → Prop)
    (h : ∀ s, I s → (∃ s', (r s).run = some (.inl s') ∧ I s' ∧ μ s' < μ s) ∨ (∃ x, (r s).run = some (.inr x) ∧ Q x)) {s : σ} (hs : I s) : ∃ x, (loop r s).run = some x ∧ Q x := by
  generalize hm : μ s = m
  induction m using Nat.strongRecOn generalizing s with
  | _ m ih =>
    rcases h s hs with ⟨s', h1, h2, h3⟩ | ⟨x, h1, h2⟩
    · rw [loop_step h1]
      exact ih (μ s') (by omega) h2 rfl
    · exact ⟨x, loop_done h1, h2⟩
end Go.AM.T
namespace Go.AM.PL
def lm (a : List Int) (i : Nat) : Nat := (nth a (i : Int) 0).toNat
theorem lm_lt {a : List Int} (h : limbs a) (i : Nat) : lm a i < 4294967296 := by have := limbs_nth h i; unfold lm; omega
theorem nth_lm {a : List Int} (h : limbs a) (i : Nat) : nth a (i : Int) 0 = (lm a i : Int) := by have := limbs_nth h i; unfold lm; omega
theorem nthN_lm {a : List Int} (h : limbs a) (i : Nat) : nthN a i 0 = (lm a i : Int) := by have := nth_lm h i; unfold nth at this; unfold nthN; simpa using this
theorem lm_ge {a : List Int} {i : Nat} (h : a.length ≤ i) : lm a i = 0 := by
  unfold lm nth; simp [List.getD_eq_getElem?_getD, List.getElem?_eq_none h]
theorem nv_take_lm (a : List Int) (i : Nat) : nv (a.take (i + 1)) = nv (a.take i) + 4294967296 ^ i * lm a i := by
  by_cases h : i < a.length
  · exact nv_take_succ h
  · rw [lm_ge (by omega), List.take_of_length_le (by omega), List.take_of_length_le (by omega)]; simp
theorem nv_take_all {a : List Int} {i : Nat} (h : a.length ≤ i) : nv (a.take i) = nv a := by rw [List.take_of_length_le h]
theorem lm_set {a : List Int} {i j : Nat} {x : Int} (h : i < a.length) : lm (a.set i x) j = if i = j then x.toNat else lm a j := by
  unfold lm nth
  simp only [Int.toNat_natCast, List.getD_eq_getElem?_getD, List.getElem?_set]
  by_cases e : i = j
  · subst e; simp [h]
  · simp [e]
theorem nv_set {a : List Int} {i : Nat} (x : Int) (h : i < a.length) : nv (a.set i x) + 4294967296 ^ i * lm a i = nv a + 4294967296 ^ i * x.toNat := by
  have h1 := nv_split (a.set i x) (i + 1) (by simp; omega)
  have h2 := nv_split a (i + 1) (by omega)
  rw [set_drop_succ, set_take_succ a i x h, nv_append] at h1
  rw [nv_take_lm] at h2
  have h3 : (a.take i).length = i := by simp; omega
  rw [h3] at h1
  simp only [nv_cons, nv_nil, Nat.mul_zero, Nat.add_zero] at h1
  omega
theorem nv_set_take {a : List Int} {i : Nat} (x : Int) (h : i < a.length) : nv ((a.set i x).take (i + 1)) = nv (a.take i) + 4294967296 ^ i * x.toNat := by
  rw [set_take_succ a i x h, nv_append]
  have h3 : (a.take i).length = i := by simp; omega
  rw [h3]; simp
theorem pow_pos' (i : Nat) : 0 < 4294967296 ^ i := Nat.pow_pos (by omega)
theorem nv_take_lt {a : List Int} (h : limbs a) (i : Nat) : nv (a.take i) < 4294967296 ^ i := by
  have := nv_lt (limbs_take h i)
  have h2 : (4294967296 : Nat) ^ (a.take i).length ≤ 4294967296 ^ i := Nat.pow_le_pow_right (by omega) (by simp; omega)
  omega
def cmpI (a b : Nat) : Int := if a < b then -1 else if b < a then 1 else 0
theorem cmp_loop {r : Int → T (Int ⊕ (Unit ⊕ Int))} (x y : List Int) (hx : limbs x) (hy : limbs y) (hl : x.length = y.length)
    (h : ∀ i : Nat, i < x.length → (r (i : Int)).run = some (if nth x i 0 < nth y i 0 then .inr (.inr (-1)) else if nth y i 0 < nth x i 0 then .inr (.inr 1) else .inl ((i : Int) - 1)))
    (h0 : (r (-1)).run = some (.inr (.inl ()))) : (T.loop r ((x.length : Int) - 1)).run = some (if nv x < nv y then .inr (-1) else if nv y < nv x then .inr 1 else .inl ()) := by
  have key : ∀ n : Nat, n ≤ x.length → (T.loop r ((n : Int) - 1)).run = some (if nv (x.take n) < nv (y.take n) then .inr (-1) else if nv (y.take n) < nv (x.take n) then .inr 1 else .inl ()) := by
    intro n
    induction n with
    | zero => intro _; simpa using T.loop_done h0
    | succ n ih =>
      intro hn
      have e1 : ((n + 1 : Nat) : Int) - 1 = (n : Int) := by omega
      rw [e1]
      have hr := h n (by omega)
      rw [nth_lm hx, nth_lm hy] at hr
      have a1 := nv_take_lt hx n
      have a2 := nv_take_lt hy n
      rw [nv_take_lm, nv_take_lm]
      rcases Nat.lt_trichotomy (lm x n) (lm y n) with c | c | c
      · have hm := Nat.mul_le_mul_left (4294967296 ^ n) (show lm x n + 1 ≤ lm y n by omega)
        rw [Nat.mul_add] at hm
        rw [if_pos (by omega)] at hr
        rw [if_pos (by omega)]
        exact T.loop_done hr
      · rw [if_neg (by omega), if_neg (by omega)] at hr
        rw [T.loop_step hr, ih (by omega), c]
        simp only [Nat.add_lt_add_iff_right]
      · have hm := Nat.mul_le_mul_left (4294967296 ^ n) (show lm y n + 1 ≤ lm x n by omega)
        rw [Nat.mul_add] at hm
        rw [if_neg (by omega), if_pos (by omega)] at hr
        rw [if_neg (by omega), if_pos (by omega)]
        exact T.loop_done hr
  have := key x.length (Nat.le_refl _)
  rw [List.take_length] at this
  rw [hl, List.take_length, ← hl] at this
  exact this
theorem len_lt_nv {A B : Nat} (h : (ofN A).length < (ofN B).length) : A < B := by
  have h1 := ofN_len_le.1 (Nat.le_refl (ofN A).length)
  have h2 := ofN_len_lt.1 h
  omega
end Go.AM.PL
namespace Go.AM.PL
theorem distr1 (q a b c : Nat) : q * (a * c + b) = (q * a) * c + q * b := by grind
theorem distr2 (a b : Nat) : (a + 1) * b = a * b + b := by grind
theorem distr3 (a b c : Nat) : (a + b) * c = a * c + b * c := by grind
theorem guess_up {u2 u1 u0 v1 v2 q r : Nat} (hr : q * v1 + r = u2 * 4294967296 + u1) (h : q * v2 ≤ r * 4294967296 + u0) :
    q * (v1 * 4294967296 + v2) ≤ u2 * 18446744073709551616 + u1 * 4294967296 + u0 := by
  rw [distr1]
  generalize q * v1 = x at *
  generalize q * v2 = y at *
  omega
theorem guess_dn {u2 u1 u0 v1 v2 q r : Nat} (hr : q * v1 + r = u2 * 4294967296 + u1) (h : r * 4294967296 + u0 < q * v2) :
    u2 * 18446744073709551616 + u1 * 4294967296 + u0 < q * (v1 * 4294967296 + v2) := by
  rw [distr1]
  generalize q * v1 = x at *
  generalize q * v2 = y at *
  grind
theorem guess_gt {U V q : Nat} (hV : 0 < V) (h : U < q * V) : U / V < q := (Nat.div_lt_iff_lt_mul hV).2 h
theorem guess_init {u2 u1 u0 v1 v2 : Nat} (hv : 0 < v1) (hu0 : u0 < 4294967296) : (u2 * 18446744073709551616 + u1 * 4294967296 + u0) / (v1 * 4294967296 + v2) ≤ (u2 * 4294967296 + u1) / v1 := by
  rw [Nat.le_div_iff_mul_le hv]
  have h := Nat.div_mul_le_self (u2 * 18446744073709551616 + u1 * 4294967296 + u0) (v1 * 4294967296 + v2)
  generalize (u2 * 18446744073709551616 + u1 * 4294967296 + u0) / (v1 * 4294967296 + v2) = q at *
  have e := distr1 q v1 v2 4294967296
  rw [e] at h; omega
theorem guess_top {u2 u1 u0 v1 v2 : Nat} (hv : 2147483648 ≤ v1) (hv2 : v2 < 4294967296) (h : u2 * 18446744073709551616 + u1 * 4294967296 + u0 < (v1 * 4294967296 + v2 + 1) * 4294967296) :
    (u2 * 4294967296 + u1) ≤ v1 * 4294967296 + v2 ∧ (u2 * 4294967296 + u1) / v1 ≤ 4294967297 := by
  have h1 : u2 * 4294967296 + u1 ≤ v1 * 4294967296 + v2 := by omega
  refine ⟨h1, ?_⟩
  rw [Nat.div_le_iff_le_mul (by omega)]
  omega
theorem guess_q {U V D U3 V2 X Y q : Nat} (hU : U = U3 * D + X) (hX : X < D) (hV : V = V2 * D + Y) (hY : Y < D) (hVt : 2147483648 * 4294967296 ≤ V2) (hUV : U < V * 4294967296) (hq : q = min (U3 / V2) 4294967295) :
    U / V ≤ q ∧ q ≤ U / V + 1 := by
  have hD : 0 < D := by omega
  have hV2 : 0 < V2 := by omega
  have hVp : 0 < V := by rw [hV]; have := Nat.mul_pos hV2 hD; omega
  constructor
  · rw [hq, Nat.le_min]
    constructor
    · rw [Nat.le_div_iff_mul_le hV2]
      have h := Nat.div_mul_le_self U V
      generalize U / V = z at *
      rw [hV, hU] at h
      have e := distr1 z V2 Y D
      rw [e] at h
      have h2 : (z * V2) * D < (U3 + 1) * D := by 
        rw [distr2]
        generalize z * V2 * D = m at *
        generalize z * Y = m2 at *
        omega
      exact Nat.lt_succ_iff.1 (Nat.lt_of_mul_lt_mul_right h2)
    · have : U / V < 4294967296 := (Nat.div_lt_iff_lt_mul hVp).2 (by rw [Nat.mul_comm]; exact hUV)
      omega
  · have h3 : q ≤ U3 / V2 := by omega
    have h4 : q ≤ 4294967295 := by omega
    have h5 : q * V2 ≤ U3 := (Nat.le_div_iff_mul_le hV2).1 h3
    cases q with
    | zero => exact Nat.zero_le _
    | succ q =>
      have : q ≤ U / V := by
        rw [Nat.le_div_iff_mul_le hVp, hV, hU]
        have e := distr1 q V2 Y D
        have e2 := distr2 q V2
        have h6 : (q * V2 + V2) * D ≤ U3 * D := Nat.mul_le_mul_right D (by omega)
        have e3 := distr3 (q * V2) V2 D
        have h7 : q * Y ≤ 4294967295 * D := Nat.mul_le_mul (by omega) (by omega)
        have h8 : 4294967295 * D ≤ V2 * D := Nat.mul_le_mul_right D (by omega)
        rw [e]; omega
      omega
end Go.AM.PL
namespace Go.AM.PL
theorem wrap_u64_nat (n : Nat) (h : n < 18446744073709551616) : IntKind.wrap .u64 (n : Int) = n := wu64_in (by omega) (by omega)
theorem wrap_u32_nat (n : Nat) (h : n < 4294967296) : IntKind.wrap .u32 (n : Int) = n := wu32_in (by omega) (by omega)
theorem wu64n {n : Nat} (h : n < 18446744073709551616) : wu64 (n : Int) = n := wu64_in (by omega) (by omega)
theorem wu32n {n : Nat} (h : n < 4294967296) : wu32 (n : Int) = n := wu32_in (by omega) (by omega)
theorem limbs_setN {a : List Int} (h : limbs a) (i : Nat) {n : Nat} (h1 : n < 4294967296) : limbs (a.set i (n : Int)) := limbs_set h i (by omega) (by omega)
theorem andI_u32 {x y : Nat} (hx : x < 4294967296) (hy : y < 4294967296) : andI .u32 (x : Int) (y : Int) = ((x &&& y : Nat) : Int) := by
  show IntKind.wrap .u32 (((BitVec.ofInt 32 (x : Int) &&& BitVec.ofInt 32 (y : Int)).toNat : Nat) : Int) = _
  have e : (BitVec.ofInt 32 (x : Int) &&& BitVec.ofInt 32 (y : Int)).toNat = x &&& y := by
    simp [BitVec.ofInt_natCast, Nat.mod_eq_of_lt hx, Nat.mod_eq_of_lt hy]
  rw [e]
  exact wrap_u32_nat _ (Nat.lt_of_le_of_lt Nat.and_le_left hx)
theorem orI_u32 {x y : Nat} (hx : x < 4294967296) (hy : y < 4294967296) : orI .u32 (x : Int) (y : Int) = ((x ||| y : Nat) : Int) := by
  show IntKind.wrap .u32 (((BitVec.ofInt 32 (x : Int) ||| BitVec.ofInt 32 (y : Int)).toNat : Nat) : Int) = _
  have e : (BitVec.ofInt 32 (x : Int) ||| BitVec.ofInt 32 (y : Int)).toNat = x ||| y := by
    simp [BitVec.ofInt_natCast, Nat.mod_eq_of_lt hx, Nat.mod_eq_of_lt hy]
  rw [e]
  exact wrap_u32_nat _ (Nat.or_lt_two_pow (n := 32) hx hy)
theorem xorI_u32 {x y : Nat} (hx : x < 4294967296) (hy : y < 4294967296) : xorI .u32 (x : Int) (y : Int) = ((x ^^^ y : Nat) : Int) := by
  show IntKind.wrap .u32 (((BitVec.ofInt 32 (x : Int) ^^^ BitVec.ofInt 32 (y : Int)).toNat : Nat) : Int) = _
  have e : (BitVec.ofInt 32 (x : Int) ^^^ BitVec.ofInt 32 (y : Int)).toNat = x ^^^ y := by
    simp [BitVec.ofInt_natCast, Nat.mod_eq_of_lt hx, Nat.mod_eq_of_lt hy]
  rw [e]
  exact wrap_u32_nat _ (Nat.xor_lt_two_pow (n := 32) hx hy)
theorem orI_u64 {x y : Nat} (hx : x < 18446744073709551616) (hy : y < 18446744073709551616) : orI .u64 (x : Int) (y : Int) = ((x ||| y : Nat) : Int) := by
  show IntKind.wrap .u64 (((BitVec.ofInt 64 (x : Int) ||| BitVec.ofInt 64 (y : Int)).toNat : Nat) : Int) = _
  have e : (BitVec.ofInt 64 (x : Int) ||| BitVec.ofInt 64 (y : Int)).toNat = x ||| y := by
    simp [BitVec.ofInt_natCast, Nat.mod_eq_of_lt hx, Nat.mod_eq_of_lt hy]
  rw [e]
  exact wrap_u64_nat _ (Nat.or_lt_two_pow (n := 64) hx hy)
theorem or_add (x y m : Nat) (hy : y < 2 ^ m) : x * 2 ^ m ||| y = x * 2 ^ m + y := by
  have := Nat.shiftLeft_add_eq_or_of_lt hy x
  rw [Nat.shiftLeft_eq] at this
  exact this.symm
theorem shl32 {x : Int} (h0 : 0 ≤ x) (h1 : x < 4294967296) : shlI .u64 x 32 = x * 4294967296 := by
  have e : shlI .u64 x 32 = wu64 (x * 4294967296) := rfl
  rw [e, wu64_in (by omega) (by omega)]
theorem hilo {x y : Int} (h0 : 0 ≤ x) (h1 : x < 4294967296) (h2 : 0 ≤ y) (h3 : y < 4294967296) : orI .u64 (shlI .u64 x 32) (wu64 y) = x * 4294967296 + y := by
  rw [shl32 h0 h1, wu64_in h2 (by omega)]
  obtain ⟨a, rfl⟩ := Int.eq_ofNat_of_zero_le h0
  obtain ⟨b, rfl⟩ := Int.eq_ofNat_of_zero_le h2
  have e := orI_u64 (x := a * 4294967296) (y := b) (by omega) (by omega)
  rw [or_add a b 32 (by simpa using by omega)] at e
  simpa using e
theorem hilo2 {x y : Int} (h0 : 0 ≤ x) (h1 : x < 4294967296) (h2 : 0 ≤ y) (h3 : y < 4294967296) : orI .u64 (shlI .u64 x 32) y = x * 4294967296 + y := by
  have := hilo h0 h1 h2 h3
  rwa [wu64_in h2 (by omega)] at this
theorem shr32 {x : Int} (h0 : 0 ≤ x) : shrI .u64 x 32 = x / 4294967296 := by
  show Int.fdiv x 4294967296 = _
  rw [Int.fdiv_eq_ediv_of_nonneg _ (by omega)]
theorem tdiv_pos {x y : Int} (h : 0 ≤ x) : Int.tdiv x y = x / y := Int.tdiv_eq_ediv_of_nonneg h
theorem tmod_pos {x y : Int} (h : 0 ≤ x) : Int.tmod x y = x % y := Int.tmod_eq_emod_of_nonneg h
theorem bit31 {v : Nat} (h : v < 4294967296) : v / 2147483648 = if v.testBit 31 = true then 1 else 0 := by
  have e : v.testBit 31 = decide (v / 2 ^ 31 % 2 = 1) := by rw [Nat.testBit_eq_decide_div_mod_eq]
  rw [e]
  by_cases h2 : v < 2147483648
  · have : v / 2147483648 = 0 := by omega
    simp [this]
  · have : v / 2147483648 = 1 := by omega
    simp [this]
theorem bit31' {v : Nat} (h : v < 4294967296) : v.testBit 31 = decide (2147483648 ≤ v) := by
  rw [Nat.testBit_eq_decide_div_mod_eq]
  by_cases h2 : v < 2147483648
  · have : v / 2 ^ 31 = 0 := by omega
    simp [this]; omega
  · have : v / 2 ^ 31 = 1 := by omega
    simp [this]; omega
theorem sub32 {x y b : Nat} (hx : x < 4294967296) (hy : y < 4294967296) (hb : b ≤ 1) :
    wu32 (wu32 ((x : Int) - y) - b) = (((x + 4294967296 * (if x < y + b then 1 else 0)) - y - b : Nat) : Int) := by
  rw [wu32_mod, wu32_mod]
  split <;> omega
theorem borrow32 {x y b d : Nat} (hx : x < 4294967296) (hy : y < 4294967296) (hb : b ≤ 1) (hd : d = (x + 4294967296 * (if x < y + b then 1 else 0)) - y - b) :
    shrI .u32 (orI .u32 (andI .u32 (xorI .u32 (4294967295 : Int) x) y) (andI .u32 (xorI .u32 (4294967295 : Int) (xorI .u32 x y)) (d : Int))) 31 = if x < y + b then 1 else 0 := by
  have hdl : d < 4294967296 := by rw [hd]; split <;> omega
  have e1 := xorI_u32 (x := 4294967295) (y := x) (by omega) hx
  have h1 : 4294967295 ^^^ x < 4294967296 := Nat.xor_lt_two_pow (n := 32) (by omega) hx
  have e2 := andI_u32 h1 hy
  have h2 : (4294967295 ^^^ x) &&& y < 4294967296 := Nat.lt_of_le_of_lt Nat.and_le_left h1
  have e3 := xorI_u32 hx hy
  have h3 : x ^^^ y < 4294967296 := Nat.xor_lt_two_pow (n := 32) hx hy
  have e4 := xorI_u32 (x := 4294967295) (y := x ^^^ y) (by omega) h3
  have h4 : 4294967295 ^^^ (x ^^^ y) < 4294967296 := Nat.xor_lt_two_pow (n := 32) (by omega) h3
  have e5 := andI_u32 h4 hdl
  have h5 : (4294967295 ^^^ (x ^^^ y)) &&& d < 4294967296 := Nat.lt_of_le_of_lt Nat.and_le_left h4
  have e6 := orI_u32 h2 h5
  have h6 := Nat.or_lt_two_pow (n := 32) h2 h5
  have ec : (4294967295 : Int) = ((4294967295 : Nat) : Int) := rfl
  rw [ec, e1, e2, e3, e4, e5, e6]
  show Int.fdiv _ 2147483648 = _
  rw [Int.fdiv_eq_ediv_of_nonneg _ (by omega)]
  have e7 := bit31 h6
  have e8 : (((((4294967295 ^^^ x) &&& y) ||| ((4294967295 ^^^ (x ^^^ y)) &&& d) : Nat) : Int)) / 2147483648 = (((((4294967295 ^^^ x) &&& y) ||| ((4294967295 ^^^ (x ^^^ y)) &&& d)) / 2147483648 : Nat) : Int) := by omega
  rw [e8, e7]
  have t1 : (4294967295 : Nat).testBit 31 = true := by decide
  simp only [Nat.testBit_or, Nat.testBit_and, Nat.testBit_xor, t1, bit31' hx, bit31' hy, bit31' hdl]
  by_cases c : x < y + b
  · rw [if_pos c] at hd ⊢
    by_cases p : 2147483648 ≤ x <;> by_cases q : 2147483648 ≤ y <;> by_cases r : 2147483648 ≤ d <;> simp [p, q, r] <;> omega
  · rw [if_neg c] at hd ⊢
    by_cases p : 2147483648 ≤ x <;> by_cases q : 2147483648 ≤ y <;> by_cases r : 2147483648 ≤ d <;> simp [p, q, r] <;> omega
end Go.AM.PL
namespace Go.AM.Lf
open PL
@[simp] theorem dflt_u32 : dflt (.int .u32) = (0 : Int) := rfl
theorem nth_last (l : List Int) (x : Int) : nth (l ++ [x]) ((l ++ [x]).length - 1 : Int) 0 = x := by
  rw [nth_append_r _ (by simp)]; simp [nth]
theorem trim_run (a : List Int) (h : limbs a) (hl : a.length ≤ 4000000000) : (nat_trim a).run = some (ofN (nv a)) := by
  have key : (nat_trim_L0 a).run = some (ofN (nv a)) := by
    unfold nat_trim_L0
    refine T.loop_run (fun a => limbs a ∧ a.length ≤ 4000000000) (fun a => a.length) (fun a => ofN (nv a)) ?_ ⟨h, hl⟩
    rintro s ⟨h1, h2⟩
    rcases List.eq_nil_or_concat s with rfl | ⟨l, x, rfl⟩
    · right; simp [nat_trim_R0, nat_Is, ofN_zero]
    · rw [List.concat_eq_append] at *
      have hx := nth_last l x
      have hlen : (l ++ [x]).length = l.length + 1 := by simp
      have hw : w64 (((l ++ [x]).length : Int) - 1) = ((l ++ [x]).length : Int) - 1 := w64_in (by omega) (by omega)
      have hIs : (nat_Is (l ++ [x])).run = some (x != 0) := by
        unfold nat_Is
        rw [T.run_obl]
        · simp only [hw, dflt_u32, hx, T.run_ret]
          congr 1
          have : (((l ++ [x]).length : Int) == 0) = false := by simp; omega
          rw [this]; rfl
        · intro _; rw [hw]; exact ⟨by omega, by omega⟩
      unfold nat_trim_R0
      rw [T.run_bind_of hIs]
      by_cases hx0 : x = 0
      · left
        subst hx0
        refine ⟨l, ?_, ⟨(limbs_append.1 h1).1, by omega⟩, by omega, by rw [nv_append_zero]⟩
        have hc : cutL (e := .int .u32) 0 (((l ++ [(0 : Int)]).length : Int) - 1) (l ++ [0]) = l := by
          unfold cutL; simp
        rw [hw, hc]
        simp only [bne_self_eq_false, Bool.not_false, T.run_ite_true]
        rw [T.run_sl _ (by omega) (by omega) (by omega), T.run_ret]
      · right
        have hb : (x != 0) = true := by simpa using hx0
        rw [hb]
        simp only [Bool.not_true, T.run_ite_false, T.run_ret]
        rw [ofN_nv h1]
        intro y hy
        simp at hy; omega
  unfold nat_trim
  rw [T.run_bind_of key, T.run_ret]
theorem clone_run (a : List Int) (hl : a.length ≤ 4000000000) : (slices_Clone_sl_uint32 a).run = some a := by
  unfold slices_Clone_sl_uint32
  rw [T.run_obl]
  · cases a with
    | nil => simp
    | cons x a => simp only [List.length_cons] at hl; simp (disch := omega)
  · rintro rfl r hr
    first
    | simpa [T.leads] using hr
    | (obtain ⟨_, _, hr⟩ := hr; simpa [T.leads] using hr)
theorem Trim_run (a : List Int) (h : limbs a) (hl : a.length ≤ 4000000000) : (nat_Trim a).run = some (ofN (nv a)) := by
  unfold nat_Trim
  rw [T.run_bind_of (trim_run a h hl), T.run_bind_of (clone_run _ (Nat.le_trans (ofN_nv_len h) hl)), T.run_ret]
end Go.AM.Lf
namespace Go.AM.Lf
open PL
theorem nat_Of_run (n : Nat) (h : n < 18446744073709551616) : (nat_Of (n : Int)).run = some (ofN n) := by
  have e2 : wu32 (shrI .u64 (n : Int) 32) = ((n / 4294967296 : Nat) : Int) := by rw [shr32 (by omega), wu32_mod]; omega
  have e1 : wu32 (n : Int) = ((n % 4294967296 : Nat) : Int) := by rw [wu32_mod]; omega
  have h1 : limbs [((n % 4294967296 : Nat) : Int), ((n / 4294967296 : Nat) : Int)] := by
    intro x hx; simp only [List.mem_cons, List.not_mem_nil, or_false] at hx; rcases hx with rfl | rfl <;> omega
  have h2 := trim_run _ h1 (by simp)
  have h3 : nv [((n % 4294967296 : Nat) : Int), ((n / 4294967296 : Nat) : Int)] = n := by simp only [nv_cons, nv_nil]; omega
  unfold nat_Of
  rw [T.run_leI _ (by omega), e1, e2, T.run_bind_of h2, h3, T.run_ret]
theorem nat_Cmp_run (a b : List Int) (ha : limbs a) (hb : limbs b) (la : a.length ≤ 1000000000) (lb : b.length ≤ 1000000000) : (nat_Cmp a b).run = some (cmpI (nv a) (nv b)) := by
  unfold nat_Cmp
  rw [T.run_bind_of (trim_run a ha (by omega)), T.run_bind_of (trim_run b hb (by omega))]
  have qa := ofN_nv_len ha
  have qb := ofN_nv_len hb
  generalize nv a = A at *
  generalize nv b = B at *
  by_cases hl : (ofN A).length = (ofN B).length
  · rw [hl, bne_self_eq_false, T.run_ite_false]
    have key := cmp_loop (r := nat_Cmp_R0 (ofN A) (ofN B)) (ofN A) (ofN B) (limbs_ofN A) (limbs_ofN B) hl (fun i hi => ?_) ?_
    · rw [← hl, w64_in (by omega) (by omega)]
      unfold nat_Cmp_L0
      rw [T.run_bind_of key, nv_ofN, nv_ofN]
      unfold cmpI
      by_cases p : A < B
      · simp [p]
      · by_cases q : B < A <;> simp [p, q]
    · have e : w64 ((i : Int) - 1) = (i : Int) - 1 := w64_in (by omega) (by omega)
      unfold nat_Cmp_R0
      have hi' : i < (ofN B).length := by omega
      have x1 := nth_lm (limbs_ofN A) i
      have x2 := nth_lm (limbs_ofN B) i
      rcases Nat.lt_trichotomy (lm (ofN A) i) (lm (ofN B) i) with c | c | c
      · have c2 : ¬ (lm (ofN A) i = lm (ofN B) i) := by omega
        simp (disch := omega) [e, x1, x2, c, c2, hi, hi'] <;> omega
      · simp (disch := omega) [e, x1, x2, c, hi, hi']
      · have c2 : ¬ (lm (ofN A) i = lm (ofN B) i) := by omega
        have c3 : ¬ (lm (ofN A) i < lm (ofN B) i) := by omega
        simp (disch := omega) [e, x1, x2, c, c2, c3, hi, hi'] <;> omega
    · simp [nat_Cmp_R0]
  · rw [T.run_ite_t (by simp; omega)]
    unfold cmpI
    by_cases c : (ofN A).length < (ofN B).length
    · have := len_lt_nv c
      simp [c, this]
    · have h2 := len_lt_nv (show (ofN B).length < (ofN A).length by omega)
      have h3 : ¬ A < B := by omega
      simp [c, h2, h3]
end Go.AM.Lf
namespace Go.AM.Lf
open PL
theorem lo32 (n : Nat) : wu32 (n : Int) = ((n % 4294967296 : Nat) : Int) := by rw [wu32_mod]; omega
theorem hi32 (n : Nat) : shrI .u64 (n : Int) 32 = ((n / 4294967296 : Nat) : Int) := by rw [shr32 (by omega)]; omega
end Go.AM.Lf
namespace Go.AM.Lf
open PL
theorem i1 (i : Nat) (h : i ≤ 4000000000) : w64 ((i : Int) + 1) = ((i + 1 : Nat) : Int) := by rw [w64_in (by omega) (by omega)]; omega
theorem im1 (i : Nat) (h : i ≤ 4000000000) : w64 (((i + 1 : Nat) : Int) - 1) = (i : Int) := by rw [w64_in (by omega) (by omega)]; omega
end Go.AM.Lf
namespace Go.AM.Lf
open PL
theorem mul_le_64 {x y : Nat} (hx : x < 4294967296) (hy : y < 4294967296) : x * y ≤ 18446744065119617025 := Nat.mul_le_mul (show x ≤ 4294967295 by omega) (show y ≤ 4294967295 by omega)
theorem nth_set_ne (xs : List Int) (i : Nat) (x : Int) (j : Nat) (h : i ≠ j) : lm (xs.set i x) j = lm xs j := by
  by_cases hi : i < xs.length
  · rw [lm_set hi, if_neg h]
  · rw [List.set_eq_of_length_le (by omega)]
end Go.AM.Lf
namespace Go.AM.Lf
open PL
theorem lm_drop {a : List Int} {i : Nat} (h : i < a.length) : nv (a.drop i) = lm a i + 4294967296 * nv (a.drop (i + 1)) := nv_drop_nth h
theorem set_drop {a : List Int} {i : Nat} (x : Int) (h : i < a.length) : nv ((a.set i x).drop i) = x.toNat + 4294967296 * nv (a.drop (i + 1)) := by
  rw [lm_drop (by simpa using h), set_drop_succ, lm_set h, if_pos rfl]
theorem div32_run {hi lo y : Nat} (h0 : hi < y) (h1 : lo < 4294967296) (h2 : y < 4294967296) :
    (math_bits_Div32 (hi : Int) (lo : Int) (y : Int)).run = some ((((hi * 4294967296 + lo) / y : Nat) : Int), (((hi * 4294967296 + lo) % y : Nat) : Int)) := by
  have e1 := hilo2 (x := (hi : Int)) (y := (lo : Int)) (by omega) (by omega) (by omega) (by omega)
  have ey : wu64 (y : Int) = y := wu64_in (by omega) (by omega)
  have eh : wu64 (hi : Int) = hi := wu64_in (by omega) (by omega)
  have el : wu64 (lo : Int) = lo := wu64_in (by omega) (by omega)
  have hq : (hi * 4294967296 + lo) / y < 4294967296 := by
    rw [Nat.div_lt_iff_lt_mul (by omega)]
    have := Nat.mul_le_mul_left 4294967296 (show hi + 1 ≤ y from h0)
    omega
  have hr : (hi * 4294967296 + lo) % y < y := Nat.mod_lt _ (by omega)
  have e2 : (hi : Int) * 4294967296 + (lo : Int) = ((hi * 4294967296 + lo : Nat) : Int) := by omega
  have e3 : Int.tdiv ((hi * 4294967296 + lo : Nat) : Int) (y : Int) = (((hi * 4294967296 + lo) / y : Nat) : Int) := by rw [tdiv_pos (by omega)]; rfl
  have e4 : Int.tmod ((hi * 4294967296 + lo : Nat) : Int) (y : Int) = (((hi * 4294967296 + lo) % y : Nat) : Int) := by rw [tmod_pos (by omega)]; rfl
  unfold math_bits_Div32
  rw [T.run_ite_f (by simp; omega)]
  simp only [ey, eh, el, e1, e2, e3, e4]
  rw [T.run_leI _ (by omega), T.run_neI _ (by omega), T.run_neI _ (by omega), T.run_ret, wu64n (by omega), wu32n hq, wu32n (by omega)]
theorem small_step {A Q r y l q : Nat} (h : A = Q * y + r) (hq : q = (r * 4294967296 + l) / y) : l + 4294967296 * A = (q + 4294967296 * Q) * y + (r * 4294967296 + l) % y := by
  have := Nat.div_add_mod (r * 4294967296 + l) y
  rw [← hq] at this
  generalize (r * 4294967296 + l) % y = m at *
  rw [h]
  have e : (q + 4294967296 * Q) * y + m = (y * q + m) + 4294967296 * (Q * y) := by grind
  rw [e, this]; omega
theorem nat_small_run (a : List Int) (ha : limbs a) (la : a.length ≤ 1000000000) (y : Nat) (h0 : 0 < y) (h1 : y < 4294967296) : (nat_small a (y : Int)).run = some (ofN (nv a / y), ((nv a % y : Nat) : Int)) := by
  have loop : ∃ r : Int × List Int, (nat_small_L0 a (y : Int) (0, (a.length : Int) - 1, List.replicate a.length 0)).run = some r ∧ ∃ m : Nat, r.1 = (m : Int) ∧ m < y ∧ limbs r.2 ∧ r.2.length = a.length ∧ nv a = nv r.2 * y + m := by
    refine T.loop_post (fun s : Int × Int × List Int => ∃ (m i : Nat), s.1 = (m : Int) ∧ s.2.1 = (i : Int) - 1 ∧ m < y ∧ i ≤ a.length ∧ limbs s.2.2 ∧ s.2.2.length = a.length ∧ nv (a.drop i) = nv (s.2.2.drop i) * y + m)
      (fun s => (s.2.1 + 1).toNat) _ ?_ ⟨0, a.length, rfl, rfl, h0, Nat.le_refl _, limbs_replicate _, by simp, by simp⟩
    rintro ⟨_, _, xs⟩ ⟨m, i, rfl, rfl, hm, hi, hl, hn, hv⟩
    simp only at hl hn hv ⊢
    cases i with
    | zero =>
      right
      refine ⟨((m : Int), xs), ?_, m, rfl, hm, hl, hn, by simpa using hv⟩
      unfold nat_small_R0
      simp
    | succ i =>
      left
      have hx := lm_lt ha i
      have e1 : ((i + 1 : Nat) : Int) - 1 = (i : Int) := by omega
      have hd := div32_run hm hx h1
      have hq : (m * 4294967296 + lm a i) / y < 4294967296 := by
        rw [Nat.div_lt_iff_lt_mul (by omega)]
        have := Nat.mul_le_mul_left 4294967296 (show m + 1 ≤ y from hm)
        omega
      have ei : w64 ((i : Int) - 1) = (i : Int) - 1 := w64_in (by omega) (by omega)
      refine ⟨((((m * 4294967296 + lm a i) % y : Nat) : Int), (i : Int) - 1, xs.set i (((m * 4294967296 + lm a i) / y : Nat) : Int)), ?_, ⟨_, i, rfl, rfl, Nat.mod_lt _ h0, by omega, limbs_setN hl _ hq, by simpa using hn, ?_⟩, by simp⟩
      · unfold nat_small_R0
        simp only [e1, dflt_u32, nth_lm ha, T.run_iteS, ei]
        rw [if_pos (by simp), T.run_idx _ (by omega) (by omega), T.run_bind_of hd]
        simp (disch := omega) [hn]
      · simp only
        rw [lm_drop (by omega), set_drop _ (by omega), Int.toNat_natCast]
        exact small_step hv rfl
  obtain ⟨⟨_, xs⟩, hr, m, rfl, hm, hl, hn, hv⟩ := loop
  simp only at hl hn hv
  unfold nat_small
  rw [w64_in (by omega) (by omega)]
  simp only [Int.toNat_natCast, List.length_replicate]
  rw [T.run_mk _ (by omega) (by omega) (by omega) (by omega), T.run_cur _ rfl rfl rfl, T.run_true, T.run_bind_of hr]
  simp only [Nat.zero_add, List.drop_zero, List.take_length]
  have e1 : nv a / y = nv xs := by rw [hv, Nat.mul_comm, Nat.mul_add_div h0, Nat.div_eq_of_lt hm, Nat.add_zero]
  have e2 : nv a % y = m := by rw [hv, Nat.mul_comm, Nat.mul_add_mod, Nat.mod_eq_of_lt hm]
  rw [T.run_true, T.run_bind_of (trim_run xs hl (by omega)), T.run_ret, e1, e2]
end Go.AM.Lf
namespace Go.AM.Lf
open PL
theorem shlI64 {v s : Nat} (hv : v < 4294967296) (hs : s ≤ 32) : shlI .u64 (v : Int) (s : Int) = ((v * 2 ^ s : Nat) : Int) := by
  have h1 : 2 ^ s ≤ 2 ^ 32 := Nat.pow_le_pow_right (by omega) hs
  have h2 : v * 2 ^ s ≤ 4294967295 * 4294967296 := Nat.mul_le_mul (by omega) h1
  have e : min (s : Int).toNat 64 = s := by simp; omega
  show wu64 ((v : Int) * 2 ^ (min (s : Int).toNat 64)) = _
  rw [e]
  have e2 : (v : Int) * 2 ^ s = ((v * 2 ^ s : Nat) : Int) := by simp
  rw [e2, wu64n (by omega)]
theorem shrI64 {v s : Nat} (hs : s ≤ 64) : shrI .u64 (v : Int) (s : Int) = ((v / 2 ^ s : Nat) : Int) := by
  have e : min (s : Int).toNat 64 = s := by simp; omega
  show Int.fdiv (v : Int) (2 ^ (min (s : Int).toNat 64)) = _
  rw [e]
  have e2 : (2 : Int) ^ s = ((2 ^ s : Nat) : Int) := by simp
  rw [e2, Int.fdiv_eq_ediv_of_nonneg _ (Int.natCast_nonneg _)]; rfl
theorem or_low {h m s : Nat} (hh : h < 2 ^ s) : h ||| m * 2 ^ s = h + m * 2 ^ s := by rw [Nat.or_comm, or_add m h s hh, Nat.add_comm]
theorem mod_pow_mul (v s : Nat) (hs : s ≤ 32) : v * 2 ^ s % 4294967296 = (v % 2 ^ (32 - s)) * 2 ^ s := by
  have e : (4294967296 : Nat) = 2 ^ (32 - s) * 2 ^ s := by rw [← Nat.pow_add]; rw [show 32 - s + s = 32 by omega]
  rw [e, Nat.mul_mod_mul_right]
theorem left_step {h v s : Nat} (hh : h < 2 ^ s) (hv : v < 4294967296) (hs : s < 32) :
    orI .u32 (h : Int) (wu32 ((v * 2 ^ s : Nat) : Int)) = ((h + v * 2 ^ s % 4294967296 : Nat) : Int) ∧ h + v * 2 ^ s % 4294967296 < 4294967296 ∧ v * 2 ^ s / 4294967296 < 2 ^ s := by
  have h1 : 2 ^ s ≤ 2 ^ 31 := Nat.pow_le_pow_right (by omega) (by omega)
  have e1 := mod_pow_mul v s (by omega)
  have e2 : (v % 2 ^ (32 - s)) * 2 ^ s + 2 ^ s ≤ 4294967296 := by
    have : v % 2 ^ (32 - s) + 1 ≤ 2 ^ (32 - s) := Nat.mod_lt _ (Nat.pow_pos (by omega))
    have := Nat.mul_le_mul_right (2 ^ s) this
    rw [← Nat.pow_add, show 32 - s + s = 32 by omega] at this
    rw [Nat.add_mul] at this
    omega
  refine ⟨?_, by rw [e1]; omega, ?_⟩
  · rw [lo32, orI_u32 (by omega) (by omega), e1, or_low hh]
  · rw [Nat.div_lt_iff_lt_mul (by omega), Nat.mul_comm]
    exact Nat.mul_lt_mul_of_pos_left hv (Nat.pow_pos (by omega))
theorem left_alg {X h P V v t A : Nat} (hv : X + h * P = V * t) (hA : A = v * t) : X + P * (h + A % 4294967296) + A / 4294967296 * (P * 4294967296) = (V + P * v) * t := by
  have e : A = A % 4294967296 + 4294967296 * (A / 4294967296) := by omega
  generalize A % 4294967296 = lo at *
  generalize A / 4294967296 = hi at *
  have e2 : X + P * (h + lo) + hi * (P * 4294967296) = (X + h * P) + P * (lo + 4294967296 * hi) := by grind
  rw [e2, hv, ← e, hA]; grind
theorem left_loop (a : List Int) (ha : limbs a) (la : a.length ≤ 1000000000) (s n : Nat) (hs : s < 32) (hn1 : a.length ≤ n) (hn2 : n ≤ a.length + 1) (hfit : nv a * 2 ^ s < 4294967296 ^ n) :
    ∃ r, (nat_left_L0 (s : Int) (n : Int) a (a.length : Int) (0, List.replicate n 0)).run = some r ∧ limbs r ∧ r.length = n ∧ nv r = nv a * 2 ^ s := by
  refine T.loop_post (fun z : Int × List Int => ∃ i h : Nat, z.1 = (i : Int) ∧ i ≤ a.length ∧ limbs z.2 ∧ z.2.length = n ∧ h < 2 ^ s ∧ (i < n → lm z.2 i = h) ∧ nv (z.2.take i) + h * 4294967296 ^ i = nv (a.take i) * 2 ^ s)
    (fun z => a.length - z.1.toNat) _ ?_ ⟨0, 0, rfl, by omega, limbs_replicate _, by simp, Nat.pow_pos (by omega), fun _ => ?_, by simp⟩
  · rintro ⟨_, xs⟩ ⟨i, h, rfl, hi, hl, hn, hh, hli, hv⟩
    simp only at hl hn hli hv ⊢
    by_cases hlt : i < a.length
    · left
      have hx := lm_lt ha i
      obtain ⟨s1, s2, s3⟩ := left_step hh hx hs
      have hb : wu64 (lm a i : Int) = lm a i := wu64n (by omega)
      have hlx := hli (by omega)
      have hp : 2 ^ s ≤ 2 ^ 31 := Nat.pow_le_pow_right (by omega) (by omega)
      have e2 : wu32 ((lm a i * 2 ^ s / 4294967296 : Nat) : Int) = ((lm a i * 2 ^ s / 4294967296 : Nat) : Int) := wu32n (by omega)
      by_cases hin : i + 1 < n
      all_goals have hin' : ((i : Int) + 1 < (n : Int)) ↔ (i + 1 < n) := by omega
      · refine ⟨(((i + 1 : Nat) : Int), (xs.set i ((h + lm a i * 2 ^ s % 4294967296 : Nat) : Int)).set (i + 1) ((lm a i * 2 ^ s / 4294967296 : Nat) : Int)), ?_,
          ⟨i + 1, lm a i * 2 ^ s / 4294967296, rfl, by omega, limbs_setN (limbs_setN hl _ s2) _ (by omega), by simpa using hn, s3, fun _ => ?_, ?_⟩, by simp; omega⟩
        · unfold nat_left_R0
          simp only [dflt_u32, nth_lm ha, Int.toNat_natCast, Nat.zero_add, nthN_lm hl, hb, shlI64 hx (show s ≤ 32 by omega), hlx, s1, i1 i (by omega), hi32, e2]
          simp (disch := omega) [hlt, hn, hin, hin']
        · simp only
          rw [lm_set (by simp; omega), if_pos rfl, Int.toNat_natCast]
        · simp only
          rw [take_set_lt _ _ _ _ (Nat.le_refl _), nv_set_take _ (by omega), nv_take_lm, Int.toNat_natCast, Nat.pow_succ]
          exact left_alg hv rfl
      · refine ⟨(((i + 1 : Nat) : Int), xs.set i ((h + lm a i * 2 ^ s % 4294967296 : Nat) : Int)), ?_,
          ⟨i + 1, lm a i * 2 ^ s / 4294967296, rfl, by omega, limbs_setN hl _ s2, by simpa using hn, s3, fun _ => by omega, ?_⟩, by simp; omega⟩
        · unfold nat_left_R0
          simp only [dflt_u32, nth_lm ha, Int.toNat_natCast, Nat.zero_add, nthN_lm hl, hb, shlI64 hx (show s ≤ 32 by omega), hlx, s1, i1 i (by omega), hi32, e2]
          simp (disch := omega) [hlt, hn, hin, hin']
        · simp only
          rw [nv_set_take _ (by omega), nv_take_lm, Int.toNat_natCast, Nat.pow_succ]
          exact left_alg hv rfl
    · right
      have : i = a.length := by omega
      subst this
      refine ⟨xs, ?_, hl, hn, ?_⟩
      · unfold nat_left_R0
        simp
      · rw [List.take_length] at hv
        by_cases q : n = a.length
        · rw [nv_take_all (by omega)] at hv
          rcases Nat.eq_zero_or_pos h with z | z
          · subst z; omega
          · have := Nat.mul_le_mul_right (4294967296 ^ a.length) z
            rw [q] at hfit; omega
        · have hne : n = a.length + 1 := by omega
          have := nv_take_lm xs a.length
          rw [nv_take_all (by omega), hli (by omega), Nat.mul_comm] at this
          omega
  · show lm (List.replicate n 0) 0 = 0
    unfold lm nth
    cases n <;> simp [List.replicate_succ]
theorem nat_left_run (a : List Int) (ha : limbs a) (la : a.length ≤ 1000000000) (s n : Nat) (hs : s < 32) (hn1 : a.length ≤ n) (hn2 : n ≤ a.length + 1) (hfit : nv a * 2 ^ s < 4294967296 ^ n) :
    ∃ r, (nat_left a (s : Int) (n : Int)).run = some r ∧ limbs r ∧ r.length = n ∧ nv r = nv a * 2 ^ s := by
  obtain ⟨r, h1, h2, h3, h4⟩ := left_loop a ha la s n hs hn1 hn2 hfit
  refine ⟨r, ?_, h2, h3, h4⟩
  unfold nat_left
  simp only [Int.toNat_natCast, List.length_replicate]
  rw [T.run_mk _ (by omega) (by omega) (by omega) (by omega), T.run_cur _ rfl rfl rfl, T.run_true, T.run_bind_of h1]
  simp
theorem nat_left_S_run (a : List Int) (ha : limbs a) (la : a.length ≤ 1000000000) (s n : Nat) (hs : s < 32) (hn1 : a.length ≤ n) (hn2 : n ≤ a.length + 1) (hfit : nv a * 2 ^ s < 4294967296 ^ n) :
    ∃ r, (nat_left_S a (s : Int) (n : Int)).run = some r ∧ limbs r ∧ r.length = n ∧ nv r = nv a * 2 ^ s := by
  obtain ⟨r, h1, h2, h3, h4⟩ := left_loop a ha la s n hs hn1 hn2 hfit
  refine ⟨r, ?_, h2, h3, h4⟩
  have h1' : (nat_left_S_L0 (s : Int) (n : Int) a (a.length : Int) (0, List.replicate n 0)).run = some r := h1
  unfold nat_left_S
  simp only [Int.toNat_natCast, List.length_replicate]
  rw [T.run_mk _ (by omega) (by omega) (by omega) (by omega), T.run_cur _ rfl rfl rfl, T.run_true, T.run_bind_of h1']
  simp
end Go.AM.Lf
namespace Go.AM.Lf
open PL
theorem or_hi {a b s : Nat} (hs : s ≤ 32) (ha : a < 2 ^ (32 - s)) : a ||| b * 2 ^ (32 - s) = a + b * 2 ^ (32 - s) := by rw [Nat.or_comm, or_add b a (32 - s) ha, Nat.add_comm]
theorem pow_split (s : Nat) (h : s ≤ 32) : (4294967296 : Nat) = 2 ^ (32 - s) * 2 ^ s := by rw [← Nat.pow_add, show 32 - s + s = 32 by omega]
theorem shr_w {v s : Nat} (hs : s ≤ 32) : v * 4294967296 / 2 ^ s = v * 2 ^ (32 - s) := by
  rw [pow_split s hs, ← Nat.mul_assoc, Nat.mul_div_cancel _ (Nat.pow_pos (by omega))]
theorem shr_hi {v s : Nat} (hs : s ≤ 32) : v * 2 ^ (32 - s) / 4294967296 = v / 2 ^ s := by
  rw [pow_split s hs, Nat.mul_comm v, Nat.mul_div_mul_left _ _ (Nat.pow_pos (by omega))]
theorem shr_lo {v s : Nat} (hs : s ≤ 32) : v * 2 ^ (32 - s) % 4294967296 = (v % 2 ^ s) * 2 ^ (32 - s) := by
  rw [pow_split s hs, Nat.mul_comm (2 ^ (32 - s)), Nat.mul_mod_mul_right]
theorem shr_alg {V v P s C : Nat} (hs : s ≤ 32) (hC : C = V / 2 ^ s) : C + P * ((v % 2 ^ s) * 2 ^ (32 - s)) + P * 4294967296 * (v / 2 ^ s) = (V + P * 4294967296 * v) / 2 ^ s := by
  have hp : 0 < 2 ^ s := Nat.pow_pos (by omega)
  have e1 : V + P * 4294967296 * v = V + (P * 2 ^ (32 - s) * v) * 2 ^ s := by
    have : P * 4294967296 * v = P * (2 ^ (32 - s) * 2 ^ s) * v := by rw [← pow_split s hs]
    rw [this]; grind
  rw [e1, Nat.add_mul_div_right _ _ hp, hC]
  have e2 : v = v % 2 ^ s + 2 ^ s * (v / 2 ^ s) := by have := Nat.div_add_mod v (2 ^ s); omega
  have e3 : P * 4294967296 * (v / 2 ^ s) = P * (2 ^ (32 - s) * 2 ^ s) * (v / 2 ^ s) := by rw [← pow_split s hs]
  rw [e3]
  have e4 : P * 2 ^ (32 - s) * v = P * 2 ^ (32 - s) * (v % 2 ^ s + 2 ^ s * (v / 2 ^ s)) := by rw [← e2]
  rw [e4]
  generalize v % 2 ^ s = lo
  generalize v / 2 ^ s = hi
  grind
theorem shr_loop (x : List Int) (hx : limbs x) (lx : x.length ≤ 4000000000) (s : Nat) (hs : s < 32) :
    ∃ r, (nat_Shift_L0 (s : Int) x (x.length : Int) (0, List.replicate x.length 0)).run = some r ∧ limbs r ∧ r.length = x.length ∧ nv r = nv x / 2 ^ s := by
  refine T.loop_post (fun z : Int × List Int => ∃ i : Nat, z.1 = (i : Int) ∧ i ≤ x.length ∧ limbs z.2 ∧ z.2.length = x.length ∧ (∀ j, i ≤ j → lm z.2 j = 0) ∧ (∀ j, i = j + 1 → lm z.2 j = lm x j / 2 ^ s) ∧ nv (z.2.take i) = nv (x.take i) / 2 ^ s)
    (fun z => x.length - z.1.toNat) _ ?_ ⟨0, rfl, by omega, limbs_replicate _, by simp, fun j _ => ?_, fun j h => by omega, by simp⟩
  · rintro ⟨_, xs⟩ ⟨i, rfl, hi, hl, hn, hz, hp, hv⟩
    simp only at hl hn hz hp hv ⊢
    by_cases hlt : i < x.length
    · left
      have hxl := lm_lt hx i
      have hb : wu64 (lm x i : Int) = lm x i := wu64n (by omega)
      have h32 : (32 : Int) = ((32 : Nat) : Int) := rfl
      have w1 : shrI .u64 (shlI .u64 (lm x i : Int) 32) (s : Int) = ((lm x i * 2 ^ (32 - s) : Nat) : Int) := by
        rw [h32, shlI64 hxl (by omega), shrI64 (by omega), ← shr_w (by omega)]
      have hq : lm x i / 2 ^ s < 4294967296 := Nat.lt_of_le_of_lt (Nat.div_le_self _ _) hxl
      have w2 : wu32 (shrI .u64 ((lm x i * 2 ^ (32 - s) : Nat) : Int) 32) = ((lm x i / 2 ^ s : Nat) : Int) := by rw [hi32, shr_hi (by omega), wu32n hq]
      have w3 : orI .u32 (nthN xs i 0) ((lm x i / 2 ^ s : Nat) : Int) = ((lm x i / 2 ^ s : Nat) : Int) := by
        rw [nthN_lm hl, hz i (Nat.le_refl _), orI_u32 (by omega) hq, Nat.zero_or]
      cases i with
      | zero =>
        refine ⟨(1, xs.set 0 ((lm x 0 / 2 ^ s : Nat) : Int)), ?_, ⟨1, rfl, by omega, limbs_setN hl _ hq, by simpa using hn, fun j h => ?_, fun j h => ?_, ?_⟩, by simp; omega⟩
        · have w3' := w3
          simp only [Int.natCast_zero] at *
          have hx0 : nth x 0 0 = (lm x 0 : Int) := nth_lm hx 0
          unfold nat_Shift_R0
          simp only [dflt_u32, hx0, Int.toNat_natCast, Nat.zero_add, hb, w1, w2, w3]
          have w3'' : orI .u32 (nthN xs (Int.toNat 0) 0) ((lm x 0 / 2 ^ s : Nat) : Int) = ((lm x 0 / 2 ^ s : Nat) : Int) := w3
          generalize lm x 0 / 2 ^ s = q at *
          simp only [w3'']
          simp (disch := omega) [hlt, hn]
        · rw [nth_set_ne _ _ _ _ (by omega)]; exact hz j (by omega)
        · have : j = 0 := by omega
          subst this
          rw [lm_set (by omega), if_pos rfl, Int.toNat_natCast]
        · simp only
          rw [nv_set_take _ (by omega), nv_take_lm]; simp only [Int.toNat_natCast, List.take_zero, nv_nil, Nat.pow_zero, Nat.one_mul, Nat.zero_add]
      | succ i =>
        have hpi := hp i rfl
        have hxl2 := lm_lt hx i
        have hq2 : lm xs i < 2 ^ (32 - s) := by
          rw [hpi, Nat.div_lt_iff_lt_mul (Nat.pow_pos (by omega)), ← pow_split s (by omega)]; exact hxl2
        have hq3 : lm x (i + 1) * 2 ^ (32 - s) % 4294967296 = (lm x (i + 1) % 2 ^ s) * 2 ^ (32 - s) := shr_lo (by omega)
        have hq4 : lm xs i + (lm x (i + 1) % 2 ^ s) * 2 ^ (32 - s) < 4294967296 := by
          have h1 : lm x (i + 1) % 2 ^ s + 1 ≤ 2 ^ s := Nat.mod_lt _ (Nat.pow_pos (by omega))
          have h2 := Nat.mul_le_mul_right (2 ^ (32 - s)) h1
          rw [Nat.mul_comm (2 ^ s), ← pow_split s (by omega), Nat.add_mul] at h2
          omega
        have hxi := lm_lt hl i
        have w4 : ∀ ys : List Int, limbs ys → lm ys i = lm xs i → orI .u32 (nthN ys i 0) (wu32 ((lm x (i + 1) * 2 ^ (32 - s) : Nat) : Int)) = ((lm xs i + (lm x (i + 1) % 2 ^ s) * 2 ^ (32 - s) : Nat) : Int) := by
          intro ys hys he
          rw [nthN_lm hys, he, lo32, orI_u32 hxi (Nat.mod_lt _ (by omega)), hq3, or_hi (by omega) hq2]
        have w5 := w4 _ (limbs_setN hl (i + 1) hq) (nth_set_ne _ _ _ _ (by omega))
        refine ⟨(((i + 1 + 1 : Nat) : Int), (xs.set (i + 1) ((lm x (i + 1) / 2 ^ s : Nat) : Int)).set i ((lm xs i + (lm x (i + 1) % 2 ^ s) * 2 ^ (32 - s) : Nat) : Int)), ?_,
          ⟨i + 1 + 1, rfl, by omega, limbs_setN (limbs_setN hl _ hq) _ hq4, by simpa using hn, fun j h => ?_, fun j h => ?_, ?_⟩, by simp; omega⟩
        · unfold nat_Shift_R0
          simp only [dflt_u32, nth_lm hx, Int.toNat_natCast, Nat.zero_add, hb, w1, w2, w3, i1 (i + 1) (by omega), im1 i (by omega), w5]
          rw [T.run_ite_t (by simp; omega)]
          have hpos : decide ((0 : Int) < ((i + 1 : Nat) : Int)) = true := by simp
          generalize hG : (xs.set (i + 1) ((lm x (i + 1) / 2 ^ s : Nat) : Int)).set i ((lm xs i + (lm x (i + 1) % 2 ^ s) * 2 ^ (32 - s) : Nat) : Int) = G
          have hGl : G.length = xs.length := by rw [← hG]; simp
          rw [T.run_idx _ (by omega) (by omega), T.run_leI _ (by omega), T.run_leI _ (by omega), T.run_idx _ (by omega) (by omega), T.run_e _ rfl (by omega), T.run_leI _ (by omega), T.run_idx _ (by omega) (by omega), T.run_e _ rfl (by omega), T.run_ite_t hpos,
            T.run_idx _ (by omega) (by omega), T.run_e _ (by simp) (by simp; omega), T.run_idx _ (by omega) (by omega), T.run_e _ (by simp) (by simp; omega), T.run_cur _ (by omega) rfl (by omega), T.run_eqN _ (by omega), T.run_ret]
        · rw [nth_set_ne _ _ _ _ (by omega), nth_set_ne _ _ _ _ (by omega)]; exact hz j (by omega)
        · have : j = i + 1 := by omega
          subst this
          rw [nth_set_ne _ _ _ _ (by omega), lm_set (by omega), if_pos rfl, Int.toNat_natCast]
        · simp only
          rw [nv_take_lm, nth_set_ne _ _ _ _ (by omega), lm_set (by omega), if_pos rfl, Int.toNat_natCast, nv_set_take _ (by simp; omega), take_set_lt _ _ _ _ (by omega), Int.toNat_natCast, nv_take_lm, Nat.pow_succ]
          have hv2 := hv
          rw [nv_take_lm] at hv2
          have e : nv (xs.take i) + 4294967296 ^ i * (lm xs i + lm x (i + 1) % 2 ^ s * 2 ^ (32 - s)) = (nv (xs.take i) + 4294967296 ^ i * lm xs i) + 4294967296 ^ i * (lm x (i + 1) % 2 ^ s * 2 ^ (32 - s)) := by rw [Nat.mul_add]; omega
          rw [e]
          exact shr_alg (by omega) hv2
    · right
      have : i = x.length := by omega
      subst this
      refine ⟨xs, ?_, hl, hn, ?_⟩
      · unfold nat_Shift_R0
        simp
      · rw [List.take_length, nv_take_all (by omega)] at hv; exact hv
  · show lm (List.replicate x.length 0) j = 0
    unfold lm nth
    simp [List.getD_eq_getElem?_getD, List.getElem?_replicate]
    split <;> simp
end Go.AM.Lf
namespace Go.AM.Lf
open PL
theorem len_pow {A k : Nat} (h : (ofN A).length ≤ k) : A < 4294967296 ^ k := ofN_len_le.1 h
theorem pow32 (k : Nat) : (4294967296 : Nat) ^ (k / 32) * 2 ^ (k % 32) = 2 ^ k := by
  have : (4294967296 : Nat) = 2 ^ 32 := by decide
  rw [this, ← Nat.pow_mul, ← Nat.pow_add]; congr 1; omega
theorem Shift_neg_run (a : List Int) (ha : limbs a) (la : a.length ≤ 1000000000) (k : Nat) (hk : k ≤ 4096) (h0 : 0 < k) : (nat_Shift a (-(k : Int))).run = some (ofN (nv a / 2 ^ k)) := by
  have qa := ofN_nv_len ha
  unfold nat_Shift
  rw [T.run_bind_of (trim_run a ha (by omega))]
  generalize nv a = A at *
  have e1 : minI (maxI (-(k : Int)) (-4096)) 4096 = -(k : Int) := by unfold minI maxI; repeat' split <;> omega
  have e2 : w64 (0 - -(k : Int)) = (k : Int) := by rw [w64_in (by omega) (by omega)]; omega
  have e3 : w64 (Int.tdiv (k : Int) 32) = ((k / 32 : Nat) : Int) := by rw [tdiv_pos (by omega), w64_in (by omega) (by omega)]; omega
  have e4 : wu64 (Int.tmod (k : Int) 32) = ((k % 32 : Nat) : Int) := by rw [tmod_pos (by omega), wu64_in (by omega) (by omega)]; omega
  simp only [e1, e2, e3, e4]
  rw [T.run_ite_t (by simp; omega), T.run_neI _ (by omega)]
  have hx := limbs_ofN A
  by_cases c : (ofN A).length ≤ k / 32
  · rw [T.run_ite_t (by simp; omega), T.run_ret]
    have h1 := len_pow c
    have h2 := pow32 k
    have h3 : 4294967296 ^ (k / 32) ≤ 2 ^ k := by rw [← h2]; exact Nat.le_mul_of_pos_right _ (Nat.pow_pos (by omega))
    rw [Nat.div_eq_of_lt (by omega), ofN_zero]
  · rw [T.run_ite_f (by simp; omega), T.run_neI _ (by omega)]
    have e5 : w64 (((ofN A).length : Int) - ((k / 32 : Nat) : Int)) = (((ofN A).length - k / 32 : Nat) : Int) := by rw [w64_in (by omega) (by omega)]; omega
    have e6 : cutL (e := .int .u32) ((k / 32 : Nat) : Int) ((ofN A).length : Int) (ofN A) = (ofN A).drop (k / 32) := by unfold cutL; simp only [Int.toNat_natCast, List.take_length]
    obtain ⟨r, g1, g2, g3, g4⟩ := shr_loop ((ofN A).drop (k / 32)) (limbs_drop hx _) (by simp; omega) (k % 32) (Nat.mod_lt _ (by omega))
    have hlen : ((ofN A).drop (k / 32)).length = (ofN A).length - k / 32 := List.length_drop
    rw [hlen] at g1
    simp only [e5, e6, Int.toNat_natCast, List.length_replicate, hlen]
    rw [T.run_mk _ (by omega) (by omega) (by omega) (by omega), T.run_sl _ (by omega) (by omega) (by omega), T.run_cur _ rfl rfl rfl, T.run_true, T.run_bind_of g1]
    simp only [Nat.zero_add, List.drop_zero, List.take_length]
    rw [T.run_true, T.run_bind_of (trim_run r g2 (by omega)), T.run_ret, g4]
    have h1 := nv_split (ofN A) (k / 32) (by omega)
    rw [nv_ofN] at h1
    have h2 := nv_take_lt hx (k / 32)
    have h3 : A / 4294967296 ^ (k / 32) = nv ((ofN A).drop (k / 32)) := by
      refine (congrArg (· / 4294967296 ^ (k / 32)) h1).trans ?_
      rw [Nat.add_mul_div_left _ _ (pow_pos' _), Nat.div_eq_of_lt h2, Nat.zero_add]
    rw [← h3, Nat.div_div_eq_div_mul, pow32]
theorem nv_zeros_app (k : Nat) (l : List Int) : nv (List.replicate k 0 ++ l) = 4294967296 ^ k * nv l := by rw [nv_append]; simp
theorem Shift_pos_run (a : List Int) (ha : limbs a) (la : a.length ≤ 1000000000) (k : Nat) (hk : k ≤ 4096) : (nat_Shift a (k : Int)).run = some (ofN (nv a * 2 ^ k)) := by
  have qa := ofN_nv_len ha
  unfold nat_Shift
  rw [T.run_bind_of (trim_run a ha (by omega))]
  generalize nv a = A at *
  have e1 : minI (maxI (k : Int) (-4096)) 4096 = (k : Int) := by unfold minI maxI; repeat' split <;> omega
  have e3 : w64 (Int.tdiv (k : Int) 32) = ((k / 32 : Nat) : Int) := by rw [tdiv_pos (by omega), w64_in (by omega) (by omega)]; omega
  have e4 : wu64 (Int.tmod (k : Int) 32) = ((k % 32 : Nat) : Int) := by rw [tmod_pos (by omega), wu64_in (by omega) (by omega)]; omega
  have hx := limbs_ofN A
  have e5 : w64 ((ofN A).length + 1 : Int) = (((ofN A).length + 1 : Nat) : Int) := i1 _ (by omega)
  have e6 : w64 (w64 (((k / 32 : Nat) : Int) + (ofN A).length) + 1) = ((k / 32 + (ofN A).length + 1 : Nat) : Int) := by rw [w64_in (x := ((k / 32 : Nat) : Int) + (ofN A).length) (by omega) (by omega), w64_in (by omega) (by omega)]; omega
  have hfit : nv (ofN A) * 2 ^ (k % 32) < 4294967296 ^ ((ofN A).length + 1) := by
    have h1 := nv_lt hx
    have h2 : 2 ^ (k % 32) ≤ 2 ^ 32 := Nat.pow_le_pow_right (by omega) (by omega)
    rw [Nat.pow_succ]
    exact Nat.mul_lt_mul_of_lt_of_le h1 h2 (by omega)
  obtain ⟨r, g1, g2, g3, g4⟩ := nat_left_run (ofN A) hx (by omega) (k % 32) ((ofN A).length + 1) (Nat.mod_lt _ (by omega)) (by omega) (by omega) hfit
  simp only [e1, e3, e4, e5, e6]
  rw [T.run_ite_f (by simp), T.run_neI _ (by omega), T.run_mk _ (by omega) (by omega) (by omega) (by omega), T.run_sl _ (by omega) (by simp; omega) (by simp), T.run_neI _ (by omega), T.run_bind_of g1]
  simp only [Int.toNat_natCast, Nat.zero_add, List.length_replicate, List.drop_zero]
  rw [T.run_cpy _ rfl (by omega), T.run_true]
  have ec : ((copyL (k / 32) (k / 32 + (ofN A).length + 1 - k / 32) (List.replicate (k / 32 + (ofN A).length + 1) (0 : Int)) r)) = List.replicate (k / 32) 0 ++ r := by
    unfold copyL
    rw [List.take_replicate, List.drop_replicate, List.take_of_length_le (by omega)]
    rw [show k / 32 + (ofN A).length + 1 - (k / 32 + min (k / 32 + (ofN A).length + 1 - k / 32) r.length) = 0 by omega]
    rw [show min (k / 32) (k / 32 + (ofN A).length + 1) = k / 32 by omega]
    simp
  rw [ec, List.take_of_length_le (by simp; omega)]
  rw [T.run_bind_of (trim_run _ (limbs_append.2 ⟨limbs_replicate _, g2⟩) (by simp; omega)), T.run_ret, nv_zeros_app, g4, nv_ofN]
  congr 2
  rw [← pow32 k]; grind
end Go.AM.Lf
namespace Go.AM.Lf
open PL
theorem guess_run {u2 u1 u0 v1 v2 : Nat} (h2 : u2 < 4294967296) (h1 : u1 < 4294967296) (h0 : u0 < 4294967296) (hv1 : v1 < 4294967296) (hv2 : v2 < 4294967296) (hn : 2147483648 ≤ v1)
    (ht : u2 * 18446744073709551616 + u1 * 4294967296 + u0 < (v1 * 4294967296 + v2 + 1) * 4294967296) :
    (nat_guess (u2 : Int) (u1 : Int) (u0 : Int) (v1 : Int) (v2 : Int)).run = some ((min ((u2 * 18446744073709551616 + u1 * 4294967296 + u0) / (v1 * 4294967296 + v2)) 4294967295 : Nat) : Int) := by
  obtain ⟨t1, t2⟩ := guess_top hn hv2 ht
  have ti := guess_init (u2 := u2) (u1 := u1) (u0 := u0) (v1 := v1) (v2 := v2) (by omega) h0
  obtain ⟨Q, hQ⟩ : ∃ Q, (u2 * 18446744073709551616 + u1 * 4294967296 + u0) / (v1 * 4294967296 + v2) = Q := ⟨_, rfl⟩
  rw [hQ] at ti ⊢
  have hV : 0 < v1 * 4294967296 + v2 := by omega
  have e1 := hilo2 (x := (u2 : Int)) (y := (u1 : Int)) (by omega) (by omega) (by omega) (by omega)
  have e2 : (u2 : Int) * 4294967296 + (u1 : Int) = ((u2 * 4294967296 + u1 : Nat) : Int) := by omega
  have w1 : wu64 (u1 : Int) = u1 := wu64n (by omega)
  have w2 : wu64 (u2 : Int) = u2 := wu64n (by omega)
  have w0 : wu64 (u0 : Int) = u0 := wu64n (by omega)
  have x1 : wu64 (v1 : Int) = v1 := wu64n (by omega)
  have x2 : wu64 (v2 : Int) = v2 := wu64n (by omega)
  have e3 : Int.tdiv ((u2 * 4294967296 + u1 : Nat) : Int) (v1 : Int) = (((u2 * 4294967296 + u1) / v1 : Nat) : Int) := by rw [tdiv_pos (by omega)]; rfl
  have e4 : Int.tmod ((u2 * 4294967296 + u1 : Nat) : Int) (v1 : Int) = (((u2 * 4294967296 + u1) % v1 : Nat) : Int) := by rw [tmod_pos (by omega)]; rfl
  have hm : (u2 * 4294967296 + u1) % v1 < v1 := Nat.mod_lt _ (by omega)
  have hdm := Nat.div_add_mod (u2 * 4294967296 + u1) v1
  rw [Nat.mul_comm] at hdm
  have loop : ∃ r : Int, (nat_guess_L0 (u0 : Int) (v1 : Int) (v2 : Int) ((((u2 * 4294967296 + u1) / v1 : Nat) : Int), (((u2 * 4294967296 + u1) % v1 : Nat) : Int))).run = some r ∧ r = ((min Q 4294967295 : Nat) : Int) := by
    refine T.loop_post (fun s : Int × Int => ∃ q r : Nat, s.1 = (q : Int) ∧ s.2 = (r : Int) ∧ q ≤ 4294967297 ∧ r < 4294967296 ∧ q * v1 + r = u2 * 4294967296 + u1 ∧ min Q 4294967295 ≤ q)
      (fun s => s.1.toNat) _ ?_ ⟨_, _, rfl, rfl, t2, by omega, hdm, by omega⟩
    rintro ⟨_, _⟩ ⟨q, r, rfl, rfl, hq, hr, hqr, hmin⟩
    have e5 := hilo2 (x := (r : Int)) (y := (u0 : Int)) (by omega) (by omega) (by omega) (by omega)
    have es : shrI .u64 (q : Int) 32 = ((q / 4294967296 : Nat) : Int) := hi32 q
    by_cases hbig : 4294967296 ≤ q ∨ r * 4294967296 + u0 < q * v2
    · -- too many
      have hgt : min Q 4294967295 < q := by
        rcases hbig with h | h
        · omega
        · have := guess_gt hV (guess_dn (u2 := u2) (u1 := u1) (u0 := u0) (v1 := v1) (v2 := v2) hqr h)
          omega
      have ec : ((shrI .u64 (q : Int) 32 != 0) || decide (orI .u64 (shlI .u64 (r : Int) 32) (u0 : Int) < wu64 ((q : Int) * (v2 : Int)))) = true := by
        rw [es, e5]
        by_cases h : 4294967296 ≤ q
        · have : (((q / 4294967296 : Nat) : Int) != 0) = true := by simp; omega
          rw [this]; rfl
        · have hh : r * 4294967296 + u0 < q * v2 := hbig.resolve_left h
          have hm2 := mul_le_64 (x := q) (y := v2) (Nat.lt_of_not_le h) hv2
          have e6 : (q : Int) * (v2 : Int) = ((q * v2 : Nat) : Int) := by simp
          rw [e6, wu64n (Nat.lt_of_le_of_lt hm2 (by decide))]
          generalize q * v2 = z at *
          rw [show decide ((r : Int) * 4294967296 + (u0 : Int) < (z : Int)) = true from decide_eq_true (by omega)]; simp
      have eq1 : wu64 ((q : Int) - 1) = ((q - 1 : Nat) : Int) := by rw [wu64_in (by omega) (by omega)]; omega
      have er1 : wu64 ((r : Int) + (v1 : Int)) = ((r + v1 : Nat) : Int) := by rw [wu64_in (by omega) (by omega)]; omega
      have hq1 : (q - 1) * v1 + (r + v1) = u2 * 4294967296 + u1 := by
        obtain ⟨p, rfl⟩ : ∃ p, q = p + 1 := ⟨q - 1, by omega⟩
        rw [Nat.add_mul] at hqr
        simp only [Nat.add_sub_cancel]; omega
      by_cases hover : 4294967296 ≤ r + v1
      · right
        refine ⟨((q - 1 : Nat) : Int), ?_, ?_⟩
        · unfold nat_guess_R0
          simp only [w0, x1, x2, eq1, er1]
          rw [T.run_obl ⟨by omega, fun _ => by omega⟩, T.run_ite_t ec, T.run_leI _ (by omega), T.run_ite_t (by rw [hi32]; simp; omega), T.run_ret]
        · -- what is left cannot be more
          have hq2 : q - 1 ≤ Q := by
            rw [← hQ, Nat.le_div_iff_mul_le hV]
            refine guess_up (u0 := u0) hq1 ?_
            have h3 : q - 1 ≤ 4294967295 := by
              rcases Nat.lt_or_ge 4294967296 q with h | h
              · have hq3 : q = 4294967297 := by omega
                subst hq3
                simp only [Nat.add_one_sub_one] at hq1
                omega
              · omega
            have h4 : (q - 1) * v2 ≤ 4294967295 * 4294967295 := Nat.mul_le_mul h3 (by omega)
            generalize (q - 1) * v2 = z at *
            omega
          have h5 : q - 1 ≤ 4294967295 := by
            rcases Nat.lt_or_ge 4294967296 q with h | h
            · have hq3 : q = 4294967297 := by omega
              subst hq3
              simp only [Nat.add_one_sub_one] at hq1
              omega
            · omega
          omega
      · left
        refine ⟨(((q - 1 : Nat) : Int), ((r + v1 : Nat) : Int)), ?_, ⟨q - 1, r + v1, rfl, rfl, by omega, by omega, hq1, by omega⟩, by simp; omega⟩
        unfold nat_guess_R0
        simp only [w0, x1, x2, eq1, er1]
        rw [T.run_obl ⟨by omega, fun _ => by omega⟩, T.run_ite_t ec, T.run_leI _ (by omega), T.run_ite_f (by rw [hi32]; simp; omega), T.run_ret]
    · right
      have hm2 := mul_le_64 (x := q) (y := v2) (by omega) hv2
      have e6 : (q : Int) * (v2 : Int) = ((q * v2 : Nat) : Int) := by simp
      have ec : ((shrI .u64 (q : Int) 32 != 0) || decide (orI .u64 (shlI .u64 (r : Int) 32) (u0 : Int) < wu64 ((q : Int) * (v2 : Int)))) = false := by
        have hz : q / 4294967296 = 0 := by omega
        rw [es, e5, e6, wu64n (Nat.lt_of_le_of_lt hm2 (by decide)), hz]
        have hh : ¬ (r * 4294967296 + u0 < q * v2) := by omega
        generalize q * v2 = z at *
        rw [show decide ((r : Int) * 4294967296 + (u0 : Int) < (z : Int)) = false from decide_eq_false (by omega)]; rfl
      refine ⟨(q : Int), ?_, ?_⟩
      · unfold nat_guess_R0
        simp only [w0, x1, x2]
        rw [T.run_obl ⟨by omega, fun _ => by omega⟩, T.run_ite_f ec, T.run_ret]
      · have hq2 : q ≤ Q := by
          rw [← hQ, Nat.le_div_iff_mul_le hV]
          exact guess_up hqr (by omega)
        omega
  obtain ⟨r, hr, rfl⟩ := loop
  unfold nat_guess
  have e7 : wu64 (((u2 * 4294967296 + u1) / v1 : Nat) : Int) = (((u2 * 4294967296 + u1) / v1 : Nat) : Int) := wu64n (by omega)
  simp only [w1, w2, x1, e1, e2, e3, e4, e7]
  rw [T.run_leI _ (by omega), T.run_neI _ (by omega), T.run_neI _ (by omega), T.run_bind_of hr, T.run_ret]
end Go.AM.Lf
namespace Go.AM.Lf
open PL
theorem sub32_run {x y b : Nat} (hx : x < 4294967296) (hy : y < 4294967296) (hb : b ≤ 1) :
    (math_bits_Sub32 (x : Int) (y : Int) (b : Int)).run = some ((((x + 4294967296 * (if x < y + b then 1 else 0)) - (y + b) : Nat) : Int), ((if x < y + b then 1 else 0 : Nat) : Int)) := by
  have e1 := sub32 hx hy hb
  have e2 := borrow32 hx hy hb rfl
  unfold math_bits_Sub32
  rw [T.run_leI _ (by omega), e1, e2, T.run_ret]
  have e3 : (x + 4294967296 * (if x < y + b then 1 else 0)) - y - b = (x + 4294967296 * (if x < y + b then 1 else 0)) - (y + b) := by omega
  rw [e3]
  split <;> rfl
theorem add32_run {x y b : Nat} (hx : x < 4294967296) (hy : y < 4294967296) (hb : b ≤ 1) :
    (math_bits_Add32 (x : Int) (y : Int) (b : Int)).run = some ((((x + y + b) % 4294967296 : Nat) : Int), (((x + y + b) / 4294967296 : Nat) : Int)) := by
  have e : wu64 (wu64 ((x : Int) + (y : Int)) + (b : Int)) = ((x + y + b : Nat) : Int) := by rw [wu64_in (x := (x : Int) + y) (by omega) (by omega), wu64_in (by omega) (by omega)]; omega
  unfold math_bits_Add32
  rw [T.run_leI _ (by omega), wu64n (by omega), wu64n (by omega), wu64n (by omega), e, hi32, lo32, wu32n (by omega), T.run_ret]
theorem drop_set' (xs : List Int) (o i : Nat) (x : Int) : (xs.set (o + i) x).drop o = (xs.drop o).set i x := by
  rw [List.drop_set, if_neg (by omega)]; congr 1; omega
theorem lm_drop' (xs : List Int) (o i : Nat) : lm (xs.drop o) i = lm xs (o + i) := by
  unfold lm nth
  rw [show (((o + i : Nat) : Int)).toNat = o + i by omega, Int.toNat_natCast]
  simp [List.getD_eq_getElem?_getD, List.getElem?_drop]
theorem take_alg {X X' P N c bo q v w lo hi d Y k : Nat} (h : X + q * N = Y + (bo + c) * P) (hs : X' + P * w = X + P * d) (hc : c + q * v = lo + 4294967296 * hi) (hd : d + (lo + bo) = w + 4294967296 * k) :
    X' + q * (N + P * v) = Y + (k + hi) * (P * 4294967296) := by
  have e1 : P * (d + (lo + bo)) = P * (w + 4294967296 * k) := by rw [hd]
  have e2 : P * (c + q * v) = P * (lo + 4294967296 * hi) := by rw [hc]
  have e3 : X' + P * w + q * N + P * (c + q * v) + P * (lo + bo) = X' + q * (N + P * v) + (P * w + P * c + P * (lo + bo)) := by grind
  have e4 : X' + P * w + q * N + P * (c + q * v) + P * (lo + bo) = Y + (k + hi) * (P * 4294967296) + (P * w + P * c + P * (lo + bo)) := by
    rw [hs, e2]
    have e5 : X + P * d + q * N + P * (lo + 4294967296 * hi) + P * (lo + bo) = (X + q * N) + P * (d + (lo + bo)) + P * (lo + 4294967296 * hi) := by grind
    rw [e5, e1, h]; grind
  omega
theorem qv_lt {c q v : Nat} (hc : c < 4294967296) (hq : q < 4294967296) (hv : v < 4294967296) : wu64 ((c : Int) + wu64 ((q : Int) * (v : Int))) = ((c + q * v : Nat) : Int) ∧ (c + q * v) / 4294967296 < 4294967296 := by
  have h := mul_le_64 hq hv
  have e : (q : Int) * (v : Int) = ((q * v : Nat) : Int) := by simp
  rw [e]
  generalize q * v = z at *
  rw [wu64_in (x := (z : Int)) (by omega) (by omega), wu64_in (by omega) (by omega)]
  omega
theorem takes1 (b : List Int) (hb : limbs b) (lb : b.length ≤ 1000000000) (q : Nat) (hq : q < 4294967296) (u : List Int) (hu : limbs u) (o : Nat) (ho : o + b.length < u.length) :
    ∃ r : (Nat × Nat) × Int × Int × List Int, (nat_takes_S_L0 b (q : Int) b (b.length : Int) ((o, b.length + 1), 0, 0, 0, u)).run = some r ∧ r.1 = (o, b.length + 1) ∧ ∃ c bo : Nat, r.2.1 = (c : Int) ∧ r.2.2.1 = (bo : Int) ∧ c < 4294967296 ∧ bo ≤ 1 ∧ limbs r.2.2.2 ∧
      r.2.2.2.length = u.length ∧ r.2.2.2.take o = u.take o ∧ (r.2.2.2.drop o).drop b.length = (u.drop o).drop b.length ∧ nv (r.2.2.2.drop o) + q * nv b = nv (u.drop o) + (bo + c) * 4294967296 ^ b.length := by
  refine T.loop_post (fun s : (Nat × Nat) × Int × Int × Int × List Int => s.1 = (o, b.length + 1) ∧ ∃ c bo i : Nat, s.2.1 = (c : Int) ∧ s.2.2.1 = (bo : Int) ∧ s.2.2.2.1 = (i : Int) ∧ c < 4294967296 ∧ bo ≤ 1 ∧ i ≤ b.length ∧ limbs s.2.2.2.2 ∧
      s.2.2.2.2.length = u.length ∧ s.2.2.2.2.take o = u.take o ∧ (s.2.2.2.2.drop o).drop i = (u.drop o).drop i ∧ nv (s.2.2.2.2.drop o) + q * nv (b.take i) = nv (u.drop o) + (bo + c) * 4294967296 ^ i)
    (fun s => b.length - s.2.2.2.1.toNat) _ ?_ ⟨rfl, 0, 0, 0, rfl, rfl, rfl, by omega, by omega, by omega, hu, rfl, rfl, rfl, by simp⟩
  rintro ⟨_, _, _, _, xs⟩ ⟨rfl, c, bo, i, rfl, rfl, rfl, hc, hbo, hi, hl, hn, ht, hd, hv⟩
  simp only at hl hn ht hd hv ⊢
  by_cases hlt : i < b.length
  · left
    have hw := lm_lt hb i
    have hx := lm_lt hl (o + i)
    obtain ⟨m1, m2⟩ := qv_lt hc hq hw
    have hs := sub32_run hx (show (c + q * lm b i) % 4294967296 < 4294967296 by omega) hbo
    have hdl : lm xs (o + i) + 4294967296 * (if lm xs (o + i) < (c + q * lm b i) % 4294967296 + bo then 1 else 0) - ((c + q * lm b i) % 4294967296 + bo) < 4294967296 := by split <;> omega
    have hbw : (if lm xs (o + i) < (c + q * lm b i) % 4294967296 + bo then 1 else 0) ≤ 1 := by split <;> omega
    have hde : lm xs (o + i) + 4294967296 * (if lm xs (o + i) < (c + q * lm b i) % 4294967296 + bo then 1 else 0) - ((c + q * lm b i) % 4294967296 + bo) + ((c + q * lm b i) % 4294967296 + bo) = lm xs (o + i) + 4294967296 * (if lm xs (o + i) < (c + q * lm b i) % 4294967296 + bo then 1 else 0) := by split <;> omega
    generalize hD : lm xs (o + i) + 4294967296 * (if lm xs (o + i) < (c + q * lm b i) % 4294967296 + bo then 1 else 0) - ((c + q * lm b i) % 4294967296 + bo) = D at *
    generalize hB : (if lm xs (o + i) < (c + q * lm b i) % 4294967296 + bo then 1 else 0) = B2 at *
    refine ⟨((o, b.length + 1), ((((c + q * lm b i) / 4294967296 : Nat)) : Int), (B2 : Int), ((i + 1 : Nat) : Int), xs.set (o + i) (D : Int)), ?_,
      ⟨rfl, (c + q * lm b i) / 4294967296, B2, i + 1, rfl, rfl, rfl, m2, hbw, by omega, limbs_setN hl _ hdl, by simpa using hn, ?_, ?_, ?_⟩, by simp; omega⟩
    · unfold nat_takes_S_R0
      have ew : wu64 (lm b i : Int) = lm b i := wu64n (by omega)
      simp only [dflt_u32, nth_lm hb, Int.toNat_natCast, nthN_lm hl, ew, m1, lo32, hi32, i1 i (by omega)]
      rw [T.run_ite_t (by simp; omega), T.run_idx _ (by omega) (by omega), T.run_idx _ (by omega) (by omega), T.run_e _ rfl (by omega), T.run_bind_of hs]
      simp only
      rw [T.run_idx _ (by omega) (by omega), T.run_e _ rfl (by omega), T.run_leI _ (by omega), T.run_true, T.run_eqN _ (by simp), T.run_ret]
    · simp only
      rw [List.take_set_of_le (by omega), ht]
    · simp only
      rw [drop_set', set_drop_succ]
      have := congrArg (List.drop 1) hd
      rw [List.drop_drop, List.drop_drop, ] at this
      simpa [Nat.add_assoc, Nat.add_comm] using this
    · simp only
      rw [drop_set', nv_take_lm, Nat.pow_succ]
      have hset := nv_set (a := xs.drop o) (i := i) (D : Int) (by simp; omega)
      rw [Int.toNat_natCast, lm_drop'] at hset
      exact take_alg (lo := (c + q * lm b i) % 4294967296) hv hset (by generalize c + q * lm b i = z; omega) hde
  · right
    have : i = b.length := by omega
    subst this
    refine ⟨((o, b.length + 1), (c : Int), (bo : Int), xs), ?_, rfl, c, bo, rfl, rfl, hc, hbo, hl, hn, ht, hd, by simpa [List.take_length] using hv⟩
    unfold nat_takes_S_R0
    simp
theorem back_alg {X X' P N m v w d hi Y : Nat} (h : X + m * P = Y + N) (hs : X' + P * w = X + P * d) (hd : d + 4294967296 * hi = w + v + m) : X' + hi * (P * 4294967296) = Y + (N + P * v) := by
  have e1 : P * (d + 4294967296 * hi) = P * (w + v + m) := by rw [hd]
  have e2 : X' + hi * (P * 4294967296) + (P * w + P * m) = Y + (N + P * v) + (P * w + P * m) := by
    have e3 : X' + hi * (P * 4294967296) + (P * w + P * m) = (X' + P * w) + P * (4294967296 * hi) + P * m := by grind
    rw [e3, hs]
    have e4 : X + P * d + P * (4294967296 * hi) + P * m = (X + m * P) + P * (d + 4294967296 * hi) := by grind
    rw [e4, e1, h]; grind
  omega
theorem takes2 (b : List Int) (hb : limbs b) (lb : b.length ≤ 1000000000) (u : List Int) (hu : limbs u) (o : Nat) (ho : o + b.length < u.length) :
    ∃ r : (Nat × Nat) × Int × List Int, (nat_takes_S_L1 b b (b.length : Int) ((o, b.length + 1), 0, 0, u)).run = some r ∧ r.1 = (o, b.length + 1) ∧ ∃ m : Nat, r.2.1 = (m : Int) ∧ m ≤ 1 ∧ limbs r.2.2 ∧
      r.2.2.length = u.length ∧ r.2.2.take o = u.take o ∧ (r.2.2.drop o).drop b.length = (u.drop o).drop b.length ∧ nv (r.2.2.drop o) + m * 4294967296 ^ b.length = nv (u.drop o) + nv b := by
  refine T.loop_post (fun s : (Nat × Nat) × Int × Int × List Int => s.1 = (o, b.length + 1) ∧ ∃ m i : Nat, s.2.1 = (m : Int) ∧ s.2.2.1 = (i : Int) ∧ m ≤ 1 ∧ i ≤ b.length ∧ limbs s.2.2.2 ∧
      s.2.2.2.length = u.length ∧ s.2.2.2.take o = u.take o ∧ (s.2.2.2.drop o).drop i = (u.drop o).drop i ∧ nv (s.2.2.2.drop o) + m * 4294967296 ^ i = nv (u.drop o) + nv (b.take i))
    (fun s => b.length - s.2.2.1.toNat) _ ?_ ⟨rfl, 0, 0, rfl, rfl, by omega, by omega, hu, rfl, rfl, rfl, by simp⟩
  rintro ⟨_, _, _, xs⟩ ⟨rfl, m, i, rfl, rfl, hm, hi, hl, hn, ht, hd, hv⟩
  simp only at hl hn ht hd hv ⊢
  by_cases hlt : i < b.length
  · left
    have hw := lm_lt hb i
    have hx := lm_lt hl (o + i)
    have hs := add32_run hx hw hm
    refine ⟨((o, b.length + 1), (((lm xs (o + i) + lm b i + m) / 4294967296 : Nat) : Int), ((i + 1 : Nat) : Int), xs.set (o + i) (((lm xs (o + i) + lm b i + m) % 4294967296 : Nat) : Int)), ?_,
      ⟨rfl, _, i + 1, rfl, rfl, by omega, by omega, limbs_setN hl _ (by omega), by simpa using hn, ?_, ?_, ?_⟩, by simp; omega⟩
    · unfold nat_takes_S_R1
      simp only [dflt_u32, nth_lm hb, Int.toNat_natCast, nthN_lm hl, i1 i (by omega)]
      rw [T.run_ite_t (by simp; omega), T.run_idx _ (by omega) (by omega), T.run_idx _ (by omega) (by omega), T.run_e _ rfl (by omega), T.run_bind_of hs]
      simp only
      rw [T.run_idx _ (by omega) (by omega), T.run_e _ rfl (by omega), T.run_true, T.run_eqN _ (by simp), T.run_ret]
    · simp only
      rw [List.take_set_of_le (by omega), ht]
    · simp only
      rw [drop_set', set_drop_succ]
      have := congrArg (List.drop 1) hd
      rw [List.drop_drop, List.drop_drop, ] at this
      simpa [Nat.add_assoc, Nat.add_comm] using this
    · simp only
      rw [drop_set', nv_take_lm, Nat.pow_succ]
      have hset := nv_set (a := xs.drop o) (i := i) (((lm xs (o + i) + lm b i + m) % 4294967296 : Nat) : Int) (by simp; omega)
      rw [Int.toNat_natCast, lm_drop'] at hset
      exact back_alg hv hset (by omega)
  · right
    have : i = b.length := by omega
    subst this
    refine ⟨((o, b.length + 1), (m : Int), xs), ?_, rfl, m, rfl, hm, hl, hn, ht, hd, by simpa [List.take_length] using hv⟩
    unfold nat_takes_S_R1
    simp
end Go.AM.Lf
namespace Go.AM.Lf
open PL
theorem nv_top_zero {D : List Int} (hl : limbs D) (k : Nat) (hk : k ≤ D.length) (h : nv D < 4294967296 ^ k) : nv (D.drop k) = 0 := by
  have h1 := nv_split D k hk
  rcases Nat.eq_zero_or_pos (nv (D.drop k)) with z | z
  · exact z
  · have := Nat.mul_le_mul_left (4294967296 ^ k) z
    omega
theorem nv_lt_of_top {D : List Int} (hl : limbs D) (k : Nat) (hk : k ≤ D.length) (h : nv (D.drop k) = 0) : nv D < 4294967296 ^ k := by
  have h1 := nv_split D k hk
  have h2 := nv_take_lt hl k
  rw [h] at h1; omega
theorem last_alg {X X' P q N c bo w d Y k : Nat} (h : X + q * N = Y + (bo + c) * P) (hs : X' + P * w = X + P * d) (hd : d + (c + bo) = w + 4294967296 * k) : X' + q * N = Y + k * (P * 4294967296) := by
  have e1 : P * (d + (c + bo)) = P * (w + 4294967296 * k) := by rw [hd]
  have e2 : X' + q * N + (P * w + P * (c + bo)) = Y + k * (P * 4294967296) + (P * w + P * (c + bo)) := by
    have e3 : X' + q * N + (P * w + P * (c + bo)) = (X' + P * w) + q * N + P * (c + bo) := by grind
    rw [e3, hs]
    have e4 : X + P * d + q * N + P * (c + bo) = (X + q * N) + P * (d + (c + bo)) := by grind
    rw [e4, h, e1]; grind
  omega
theorem back_fin {Z Y X U P L m p N : Nat} (h1 : Z + P * L = Y + P * ((L + m) % 4294967296)) (h2 : Y + m * P = X + N) (h3 : X + (p + 1) * N = U + 1 * (P * 4294967296)) (h4 : Z < P * 4294967296) (h5 : (p + 1) * N ≤ U + N)
    (hm : m ≤ 1) (hL : L < 4294967296) : Z + (p + 1 - 1) * N = U := by
  rw [distr2] at h3 h5
  rw [Nat.add_sub_cancel]
  rw [Nat.mul_comm m P] at h2
  by_cases hov : L + m < 4294967296
  · rw [Nat.mod_eq_of_lt hov, Nat.mul_add] at h1
    generalize P * L = a at *
    generalize P * m = b at *
    generalize p * N = c at *
    omega
  · have hov2 : (L + m) % 4294967296 = 0 := by omega
    have e5 : P * (L + m) = P * 4294967296 := by congr 1; omega
    rw [hov2, Nat.mul_zero] at h1
    rw [Nat.mul_add] at e5
    generalize P * L = a at *
    generalize P * m = b at *
    generalize p * N = c at *
    omega
theorem takes_run (b : List Int) (hb : limbs b) (lb : b.length ≤ 1000000000) (q : Nat) (hq : q < 4294967296) (u : List Int) (hu : limbs u) (lu : u.length ≤ 4000000000) (o : Nat) (ho : o + b.length < u.length)
    (hfit : nv (u.drop o) < 4294967296 ^ (b.length + 1)) (hnear : q * nv b ≤ nv (u.drop o) + nv b) :
    ∃ xs : List Int, (nat_takes_S (o, b.length + 1) b (q : Int) u).run = some (decide (nv (u.drop o) < q * nv b), xs) ∧ limbs xs ∧ xs.length = u.length ∧ xs.take o = u.take o ∧
      nv (xs.drop o) + (if nv (u.drop o) < q * nv b then q - 1 else q) * nv b = nv (u.drop o) := by
  obtain ⟨⟨_, _, _, xs⟩, hr, rfl, c, bo, rfl, rfl, hc, hbo, hl, hn, ht, hd, hv⟩ := takes1 b hb lb q hq u hu o ho
  simp only at hl hn ht hd hv
  have hBl := nv_lt hb
  have hx := lm_lt hl (o + b.length)
  have hs := sub32_run hx hc hbo
  have hdl : lm xs (o + b.length) + 4294967296 * (if lm xs (o + b.length) < c + bo then 1 else 0) - (c + bo) < 4294967296 := by split <;> omega
  have hbw : (if lm xs (o + b.length) < c + bo then 1 else 0) ≤ 1 := by split <;> omega
  have hde : lm xs (o + b.length) + 4294967296 * (if lm xs (o + b.length) < c + bo then 1 else 0) - (c + bo) + (c + bo) = lm xs (o + b.length) + 4294967296 * (if lm xs (o + b.length) < c + bo then 1 else 0) := by split <;> omega
  generalize lm xs (o + b.length) + 4294967296 * (if lm xs (o + b.length) < c + bo then 1 else 0) - (c + bo) = D at *
  generalize (if lm xs (o + b.length) < c + bo then 1 else 0) = B2 at *
  have hset := nv_set (a := xs.drop o) (i := b.length) (D : Int) (by simp; omega)
  rw [Int.toNat_natCast, lm_drop', ← drop_set'] at hset
  have hfin := last_alg hv hset hde
  have hl1 : limbs (xs.set (o + b.length) (D : Int)) := limbs_setN hl _ hdl
  have hn1 : (xs.set (o + b.length) (D : Int)).length = u.length := by simpa using hn
  have ht1 : (xs.set (o + b.length) (D : Int)).take o = u.take o := by rw [List.take_set_of_le (by omega), ht]
  have hd1 : ((xs.set (o + b.length) (D : Int)).drop o).drop (b.length + 1) = (u.drop o).drop (b.length + 1) := by
    rw [drop_set', set_drop_succ]
    have := congrArg (List.drop 1) hd
    rw [List.drop_drop, List.drop_drop] at this
    simpa [Nat.add_assoc, Nat.add_comm] using this
  have hz := nv_top_zero (limbs_drop hu o) (b.length + 1) (by simp; omega) hfit
  have hlt1 : nv ((xs.set (o + b.length) (D : Int)).drop o) < 4294967296 ^ (b.length + 1) := nv_lt_of_top (limbs_drop hl1 o) _ (by simp; omega) (by rw [hd1]; exact hz)
  have epow : (4294967296 : Nat) ^ (b.length + 1) = 4294967296 ^ b.length * 4294967296 := Nat.pow_succ ..
  have ec : wu32 (c : Int) = c := wu32n hc
  unfold nat_takes_S
  rw [T.run_eqN _ rfl, T.run_eqN _ rfl, T.run_bind_of hr]
  simp only [Int.toNat_natCast, dflt_u32, nthN_lm hl, ec]
  rw [T.run_idx _ (by omega) (by omega), T.run_e _ rfl (by omega), T.run_bind_of hs]
  simp only
  rw [T.run_idx _ (by omega) (by omega), T.run_e _ rfl (by omega)]
  generalize hX : xs.set (o + b.length) (D : Int) = X at *
  rcases Nat.eq_zero_or_pos B2 with z | z
  · subst z
    rw [T.run_ite_t (by simp), T.run_eqN _ (by omega), T.run_ret]
    have hnl : ¬ (nv (u.drop o) < q * nv b) := by omega
    refine ⟨X, by rw [decide_eq_false hnl], hl1, hn1, ht1, ?_⟩
    rw [if_neg hnl]; omega
  · have hB2 : B2 = 1 := by omega
    subst hB2
    have hlt : nv (u.drop o) < q * nv b := by omega
    obtain ⟨⟨_, _, ys⟩, hr2, rfl, m, rfl, hm, hl2, hn2, ht2, hd2, hv2⟩ := takes2 b hb lb X hl1 o (by omega)
    simp only at hl2 hn2 ht2 hd2 hv2
    have hy := lm_lt hl2 (o + b.length)
    have eu : wu32 ((lm ys (o + b.length) : Int) + (m : Int)) = (((lm ys (o + b.length) + m) % 4294967296 : Nat) : Int) := by rw [← lo32]; rfl
    rw [T.run_ite_f (by simp), T.run_true, T.run_eqN _ (by omega), T.run_bind_of hr2]
    simp only [Int.toNat_natCast, dflt_u32, nthN_lm hl2, eu]
    rw [T.run_idx _ (by omega) (by omega), T.run_e _ rfl (by omega), T.run_idx _ (by omega) (by omega), T.run_e _ rfl (by omega), T.run_eqN _ (by simp), T.run_ret]
    have hset2 := nv_set (a := ys.drop o) (i := b.length) (((lm ys (o + b.length) + m) % 4294967296 : Nat) : Int) (by simp; omega)
    rw [Int.toNat_natCast, lm_drop', ← drop_set'] at hset2
    have hl3 : limbs (ys.set (o + b.length) (((lm ys (o + b.length) + m) % 4294967296 : Nat) : Int)) := limbs_setN hl2 _ (by omega)
    have hd3 : ((ys.set (o + b.length) (((lm ys (o + b.length) + m) % 4294967296 : Nat) : Int)).drop o).drop (b.length + 1) = (u.drop o).drop (b.length + 1) := by
      rw [drop_set', set_drop_succ, ← hd1]
      have := congrArg (List.drop 1) hd2
      rw [List.drop_drop, List.drop_drop] at this
      simpa [Nat.add_assoc, Nat.add_comm] using this
    have hlt3 : nv ((ys.set (o + b.length) (((lm ys (o + b.length) + m) % 4294967296 : Nat) : Int)).drop o) < 4294967296 ^ (b.length + 1) := nv_lt_of_top (limbs_drop hl3 o) _ (by simp; omega) (by rw [hd3]; exact hz)
    refine ⟨_, by rw [decide_eq_true hlt], hl3, by simp; omega, ?_, ?_⟩
    · rw [List.take_set_of_le (by omega), ht2, ht1]
    · rw [if_pos hlt]
      generalize nv ((ys.set (o + b.length) (((lm ys (o + b.length) + m) % 4294967296 : Nat) : Int)).drop o) = Z at *
      obtain ⟨p, rfl⟩ : ∃ p, q = p + 1 := ⟨q - 1, by
        rcases Nat.eq_zero_or_pos q with h | h
        · subst h; omega
        · omega⟩
      rw [epow] at hlt3
      exact back_fin hset2 hv2 hfin hlt3 hnear hm hy
end Go.AM.Lf
namespace Go.AM.Lf
open PL
def lenTab : Str := [0, 1, 2, 2, 3, 3, 3, 3, 4, 4, 4, 4, 4, 4, 4, 4] ++ List.replicate 16 5 ++ List.replicate 32 6 ++ List.replicate 64 7 ++ List.replicate 128 8
theorem lenTab_ok : ∀ y : Fin 256, y.val ≠ 0 → 1 ≤ (lenTab.getD y.val 0).toNat ∧ (lenTab.getD y.val 0).toNat ≤ 8 ∧ 2 ^ ((lenTab.getD y.val 0).toNat - 1) ≤ y.val ∧ y.val < 2 ^ (lenTab.getD y.val 0).toNat := by decide +kernel
set_option maxRecDepth 100000 in
theorem lenTab_len : lenTab.length = 256 := by decide +kernel
theorem len8 {y : Nat} (h0 : 0 < y) (h : y < 256) : ∃ t : Nat, byteAt lenTab (y : Int) = (t : Int) ∧ 1 ≤ t ∧ t ≤ 8 ∧ 2 ^ (t - 1) ≤ y ∧ y < 2 ^ t := by
  have := lenTab_ok ⟨y, h⟩ (by simp; omega)
  refine ⟨(lenTab.getD y 0).toNat, ?_, this⟩
  unfold byteAt
  rw [Int.toNat_natCast]
theorem shr_u32 {x s : Nat} (hs : s ≤ 32) : shrI .u32 (x : Int) (s : Int) = ((x / 2 ^ s : Nat) : Int) := by
  have e : min (s : Int).toNat 32 = s := by simp; omega
  show Int.fdiv (x : Int) (2 ^ (min (s : Int).toNat 32)) = _
  rw [e]
  have e2 : (2 : Int) ^ s = ((2 ^ s : Nat) : Int) := by simp
  rw [e2, Int.fdiv_eq_ediv_of_nonneg _ (Int.natCast_nonneg _)]; rfl
set_option maxRecDepth 100000 in
theorem len32_run {x : Nat} (h0 : 0 < x) (h : x < 4294967296) : ∃ t : Nat, (math_bits_Len32 (x : Int)).run = some (t : Int) ∧ 1 ≤ t ∧ t ≤ 32 ∧ 2 ^ (t - 1) ≤ x ∧ x < 2 ^ t := by
  have hdef : math_bits_Len32 (x : Int) = (.obl (((decide ((65536 : Int) ≤ (x : Int))) = true) → ((0 : Int) ≤ (16 : Int))) <|
    .obl (((decide ((256 : Int) ≤ (bif (decide ((65536 : Int) ≤ (x : Int))) then (shrI .u32 (x : Int) (16 : Int)) else (x : Int)))) = true) → ((0 : Int) ≤ (8 : Int))) <|
    .obl (idxOk (wu8 (bif (decide ((256 : Int) ≤ (bif (decide ((65536 : Int) ≤ (x : Int))) then (shrI .u32 (x : Int) (16 : Int)) else (x : Int)))) then (shrI .u32 (bif (decide ((65536 : Int) ≤ (x : Int))) then (shrI .u32 (x : Int) (16 : Int)) else (x : Int)) (8 : Int)) else (bif (decide ((65536 : Int) ≤ (x : Int))) then (shrI .u32 (x : Int) (16 : Int)) else (x : Int)))) lenTab.length) <|
    .ret (w64 ((bif (decide ((256 : Int) ≤ (bif (decide ((65536 : Int) ≤ (x : Int))) then (shrI .u32 (x : Int) (16 : Int)) else (x : Int)))) then (w64 ((bif (decide ((65536 : Int) ≤ (x : Int))) then (16 : Int) else (0 : Int)) + (8 : Int))) else (bif (decide ((65536 : Int) ≤ (x : Int))) then (16 : Int) else (0 : Int))) + (w64 (byteAt lenTab (wu8 (bif (decide ((256 : Int) ≤ (bif (decide ((65536 : Int) ≤ (x : Int))) then (shrI .u32 (x : Int) (16 : Int)) else (x : Int)))) then (shrI .u32 (bif (decide ((65536 : Int) ≤ (x : Int))) then (shrI .u32 (x : Int) (16 : Int)) else (x : Int)) (8 : Int)) else (bif (decide ((65536 : Int) ≤ (x : Int))) then (shrI .u32 (x : Int) (16 : Int)) else (x : Int)))))))) : T Int) := by rfl
  rw [hdef, lenTab_len]
  -- y: what is left; k: how many bits ahead of it
  obtain ⟨y, k, e1, e2, hk, hy0, hy, hlo, hhi⟩ : ∃ y k : Nat, (bif (decide ((256 : Int) ≤ (bif (decide ((65536 : Int) ≤ (x : Int))) then (shrI .u32 (x : Int) (16 : Int)) else (x : Int)))) then (shrI .u32 (bif (decide ((65536 : Int) ≤ (x : Int))) then (shrI .u32 (x : Int) (16 : Int)) else (x : Int)) (8 : Int)) else (bif (decide ((65536 : Int) ≤ (x : Int))) then (shrI .u32 (x : Int) (16 : Int)) else (x : Int))) = (y : Int) ∧
      (bif (decide ((256 : Int) ≤ (bif (decide ((65536 : Int) ≤ (x : Int))) then (shrI .u32 (x : Int) (16 : Int)) else (x : Int)))) then (w64 ((bif (decide ((65536 : Int) ≤ (x : Int))) then (16 : Int) else (0 : Int)) + (8 : Int))) else (bif (decide ((65536 : Int) ≤ (x : Int))) then (16 : Int) else (0 : Int))) = (k : Int) ∧
      k ≤ 24 ∧ 0 < y ∧ y < 256 ∧ y * 2 ^ k ≤ x ∧ x < (y + 1) * 2 ^ k := by
    have s16 : shrI .u32 (x : Int) 16 = ((x / 65536 : Nat) : Int) := shr_u32 (s := 16) (by omega)
    have s8 : ∀ z : Nat, shrI .u32 (z : Int) 8 = ((z / 256 : Nat) : Int) := fun z => shr_u32 (s := 8) (by omega)
    by_cases c1 : 65536 ≤ x
    · rw [show decide ((65536 : Int) ≤ (x : Int)) = true from decide_eq_true (by omega)]
      simp only [cond_true, s16]
      by_cases c2 : 256 ≤ x / 65536
      · rw [show decide ((256 : Int) ≤ ((x / 65536 : Nat) : Int)) = true from decide_eq_true (by omega)]
        simp only [cond_true, s8]
        exact ⟨x / 65536 / 256, 24, rfl, by decide, by omega, by omega, by omega, by omega, by omega⟩
      · rw [show decide ((256 : Int) ≤ ((x / 65536 : Nat) : Int)) = false from decide_eq_false (by omega)]
        simp only [cond_false]
        exact ⟨x / 65536, 16, rfl, rfl, by omega, by omega, by omega, by omega, by omega⟩
    · rw [show decide ((65536 : Int) ≤ (x : Int)) = false from decide_eq_false (by omega)]
      simp only [cond_false]
      by_cases c2 : 256 ≤ x
      · rw [show decide ((256 : Int) ≤ (x : Int)) = true from decide_eq_true (by omega)]
        simp only [cond_true, s8]
        exact ⟨x / 256, 8, rfl, by decide, by omega, by omega, by omega, by omega, by omega⟩
      · rw [show decide ((256 : Int) ≤ (x : Int)) = false from decide_eq_false (by omega)]
        simp only [cond_false]
        exact ⟨x, 0, rfl, rfl, by omega, by omega, by omega, by omega, by omega⟩
  obtain ⟨t, t1, t2, t3, t4, t5⟩ := len8 hy0 hy
  rw [e1, e2, wu8_in (by omega) (by omega), t1, w64_in (x := (t : Int)) (by omega) (by omega), w64_in (by omega) (by omega)]
  refine ⟨k + t, ?_, by omega, by omega, ?_, ?_⟩
  · rw [T.run_obl (fun _ => by omega), T.run_obl (fun _ => by omega), T.run_idx _ (by omega) (by omega), T.run_ret]; rfl
  · rw [show k + t - 1 = (t - 1) + k by omega, Nat.pow_add]
    exact Nat.le_trans (Nat.mul_le_mul_right _ t4) hlo
  · rw [show k + t = t + k by omega, Nat.pow_add]
    exact Nat.lt_of_lt_of_le hhi (Nat.mul_le_mul_right _ t5)
theorem lz32_run {x : Nat} (h0 : 0 < x) (h : x < 4294967296) : ∃ s : Nat, (math_bits_LeadingZeros32 (x : Int)).run = some (s : Int) ∧ s < 32 ∧ 2147483648 ≤ x * 2 ^ s ∧ x * 2 ^ s < 4294967296 := by
  obtain ⟨t, t1, t2, t3, t4, t5⟩ := len32_run h0 h
  refine ⟨32 - t, ?_, by omega, ?_, ?_⟩
  · unfold math_bits_LeadingZeros32
    rw [T.run_bind_of t1, T.run_ret, w64_in (by omega) (by omega)]
    congr 1; omega
  · have := Nat.mul_le_mul_right (2 ^ (32 - t)) t4
    rw [← Nat.pow_add, show t - 1 + (32 - t) = 31 by omega] at this
    exact this
  · have := Nat.mul_lt_mul_of_pos_right t5 (show 0 < 2 ^ (32 - t) from Nat.pow_pos (by omega))
    rw [← Nat.pow_add, show t + (32 - t) = 32 by omega] at this
    exact this
end Go.AM.Lf
namespace Go.AM.Lf
open PL
theorem horner (a b c : Nat) : (a * 4294967296 + b) * 4294967296 + c = a * 18446744073709551616 + b * 4294967296 + c := by
  rw [Nat.add_mul, Nat.mul_assoc]
theorem guess_run' {u2 u1 u0 v1 v2 : Nat} (h2 : u2 < 4294967296) (h1 : u1 < 4294967296) (h0 : u0 < 4294967296) (hv1 : v1 < 4294967296) (hv2 : v2 < 4294967296) (hn : 2147483648 ≤ v1)
    (ht : (u2 * 4294967296 + u1) * 4294967296 + u0 < (v1 * 4294967296 + v2 + 1) * 4294967296) :
    (nat_guess (u2 : Int) (u1 : Int) (u0 : Int) (v1 : Int) (v2 : Int)).run = some ((min (((u2 * 4294967296 + u1) * 4294967296 + u0) / (v1 * 4294967296 + v2)) 4294967295 : Nat) : Int) := by
  rw [horner] at ht ⊢
  exact guess_run h2 h1 h0 hv1 hv2 hn ht
theorem top2_alg (a b P t : Nat) : t + P * b + P * 4294967296 * a = (a * 4294967296 + b) * P + t := by grind
theorem top2 (d : List Int) (n : Nat) (hn : d.length = n + 2) : nv d = (lm d (n + 1) * 4294967296 + lm d n) * 4294967296 ^ n + nv (d.take n) := by
  have h1 := nv_take_lm d n
  have h2 := nv_take_lm d (n + 1)
  rw [nv_take_all (by omega)] at h2
  rw [h2, h1, Nat.pow_succ, top2_alg]
theorem top3_alg {B a b c P t0 t1 t2 t3 : Nat} (h1 : t1 = t0 + P * c) (h2 : t2 = t1 + P * B * b) (h3 : t3 = t2 + P * B * B * a) : t3 = ((a * B + b) * B + c) * P + t0 := by
  rw [h3, h2, h1]; grind
theorem top3 (w : List Int) (n : Nat) (h : nv (w.drop (n + 1 + 1 + 1)) = 0) : nv w = ((lm w (n + 1 + 1) * 4294967296 + lm w (n + 1)) * 4294967296 + lm w n) * 4294967296 ^ n + nv (w.take n) := by
  have h0 : nv w = nv (w.take (n + 1 + 1 + 1)) := by
    by_cases c : n + 1 + 1 + 1 ≤ w.length
    · have := nv_split w (n + 1 + 1 + 1) c
      rw [h, Nat.mul_zero, Nat.add_zero] at this; exact this
    · rw [nv_take_all (by omega)]
  have h1 := nv_take_lm w n
  have h2 := nv_take_lm w (n + 1)
  have h3 := nv_take_lm w (n + 1 + 1)
  rw [Nat.pow_succ] at h2
  rw [Nat.pow_succ, Nat.pow_succ, ← h0] at h3
  exact top3_alg h1 h2 h3
theorem lm_take_eq {a b : List Int} {k i : Nat} (h : a.take k = b.take k) (hi : i < k) : lm a i = lm b i := by
  have e := congrArg (fun l => l[i]?) h
  simp only [List.getElem?_take, if_pos hi] at e
  unfold lm nth
  rw [List.getD_eq_getElem?_getD, List.getD_eq_getElem?_getD, Int.toNat_natCast, e]
theorem top_lt {U3 V2 D X Y U V : Nat} (hU : U = U3 * D + X) (hV : V = V2 * D + Y) (hY : Y < D) (hUV : U < V * 4294967296) : U3 < (V2 + 1) * 4294967296 := by
  have h1 : U3 * D < (V2 + 1) * 4294967296 * D := by
    have e : (V2 + 1) * 4294967296 * D = (V2 * D + D) * 4294967296 := by grind
    rw [e]
    have : V * 4294967296 ≤ (V2 * D + D) * 4294967296 := Nat.mul_le_mul_right _ (by omega)
    omega
  exact Nat.lt_of_mul_lt_mul_right h1
theorem win_guess (d : List Int) (hd : limbs d) (n : Nat) (hn : d.length = n + 2) (htop : 2147483648 ≤ lm d (n + 1)) (w : List Int) (hw : limbs w) (hwl : n + 1 + 1 + 1 ≤ w.length) (hW : nv w < nv d * 4294967296) :
    ∃ x : Nat, (nat_guess (lm w (n + 1 + 1) : Int) (lm w (n + 1) : Int) (lm w n : Int) (lm d (n + 1) : Int) (lm d n : Int)).run = some (x : Int) ∧ x < 4294967296 ∧ nv w / nv d ≤ x ∧ x ≤ nv w / nv d + 1 ∧ nv w < 4294967296 ^ (d.length + 1) := by
  have hdl := nv_lt hd
  have hdt := top2 d n hn
  have hdn := nv_take_lt hd n
  have hWp : nv w < 4294967296 ^ (d.length + 1) := by
    rw [Nat.pow_succ]
    exact Nat.lt_of_lt_of_le hW (Nat.mul_le_mul_right _ (Nat.le_of_lt hdl))
  have hz := nv_top_zero hw (d.length + 1) (by omega) hWp
  rw [show d.length + 1 = n + 1 + 1 + 1 by omega] at hz
  have ht3 := top3 w n hz
  have hwn := nv_take_lt hw n
  have hU3 := top_lt ht3 hdt hdn hW
  refine ⟨_, guess_run' (lm_lt hw _) (lm_lt hw _) (lm_lt hw _) (lm_lt hd _) (lm_lt hd _) htop hU3, ?_, ?_, ?_, hWp⟩
  · exact Nat.lt_of_le_of_lt (Nat.min_le_right _ _) (by decide)
  · refine (guess_q ht3 hwn hdt hdn ?_ hW rfl).1
    exact Nat.le_trans (Nat.mul_le_mul_right 4294967296 htop) (Nat.le_add_right _ _)
  · refine (guess_q ht3 hwn hdt hdn ?_ hW rfl).2
    exact Nat.le_trans (Nat.mul_le_mul_right 4294967296 htop) (Nat.le_add_right _ _)
theorem near {W V x : Nat} (g2 : x ≤ W / V + 1) : x * V ≤ W + V := by
  have h1 := Nat.mul_le_mul_right V g2
  have h2 := Nat.div_mul_le_self W V
  rw [Nat.add_mul, Nat.one_mul] at h1
  omega
theorem digit {W V x : Nat} (hV : 0 < V) (g1 : W / V ≤ x) (g2 : x ≤ W / V + 1) : (if W < x * V then x - 1 else x) = W / V := by
  have hdm := Nat.div_add_mod W V
  have hml := Nat.mod_lt W hV
  have hz : 0 ≤ W / V := Nat.zero_le _
  split
  · rename_i c
    have : x ≠ W / V := by
      intro h
      rw [h, Nat.mul_comm] at c; omega
    generalize W / V = z at *
    omega
  · rename_i c
    have hle : x ≤ W / V := (Nat.le_div_iff_mul_le hV).2 (by omega)
    exact Nat.le_antisymm hle g1
theorem win_lt {l N V : Nat} (hl : l < 4294967296) (hN : N < V) : l + 4294967296 * N < V * 4294967296 := by
  have := Nat.mul_le_mul_left 4294967296 (show N + 1 ≤ V from hN)
  omega
theorem digit_alg {l N Q V z r R : Nat} (h : r + z * V = l + 4294967296 * N) (hR : R = Q * V + N) : l + 4294967296 * R = (z + 4294967296 * Q) * V + r := by
  rw [hR]
  have e : (z + 4294967296 * Q) * V + r = (r + z * V) + 4294967296 * (Q * V) := by grind
  rw [e, h]; omega
end Go.AM.Lf
namespace Go.AM.Lf
open PL
theorem long_round (d : List Int) (hd : limbs d) (n : Nat) (hn : d.length = n + 2) (ln : n ≤ 999999990) (htop : 2147483648 ≤ lm d (n + 1)) (y : Int) (i : Nat) (li : i ≤ 1000000000) (u q : List Int) (hl : limbs u) (lu : u.length ≤ 2000000000) (hiu : i + d.length < u.length)
    (hq : limbs q) (hiq : i < q.length) (hlt : nv (u.drop (i + 1)) < nv d) :
    ∃ (xs : List Int) (z : Nat), (nat_long_R0 y d ((n + 2 : Nat) : Int) ((i : Int), u, q)).run = some (.inl ((i : Int) - 1, xs, q.set i (z : Int))) ∧ z < 4294967296 ∧ limbs xs ∧ xs.length = u.length ∧ xs.take i = u.take i ∧ nv (xs.drop i) < nv d ∧
      nv (xs.drop i) + z * nv d = lm u i + 4294967296 * nv (u.drop (i + 1)) := by
  have hwd := lm_drop (a := u) (i := i) (by omega)
  have hW := win_lt (lm_lt hl i) hlt
  rw [← hwd] at hW
  obtain ⟨x, hg, hx, g1, g2, hWp⟩ := win_guess d hd n hn htop (u.drop i) (limbs_drop hl i) (by rw [List.length_drop]; omega) hW
  have hdp : 0 < nv d := Nat.lt_of_le_of_lt (Nat.zero_le _) hlt
  obtain ⟨xs, hr, hxl, hxn, hxt, hxv⟩ := takes_run d hd (by omega) x hx u hl (by omega) i hiu hWp (near g2)
  have hdig := digit hdp g1 g2
  rw [hdig] at hxv
  rw [lm_drop', lm_drop', lm_drop'] at hg
  have hdq : nv (u.drop i) / nv d < 4294967296 := Nat.lt_of_le_of_lt g1 hx
  have hmod : nv (xs.drop i) < nv d := by
    have h1 := Nat.div_add_mod (nv (u.drop i)) (nv d)
    have h2 := Nat.mod_lt (nv (u.drop i)) hdp
    rw [Nat.mul_comm] at h1
    omega
  refine ⟨xs, nv (u.drop i) / nv d, ?_, hdq, hxl, hxn, hxt, hmod, by rw [hxv, hwd]⟩
  have hx1 : ∀ c : Bool, c = decide (nv (u.drop i) < x * nv d) → (if c = true then wu64 ((x : Int) - 1) else (x : Int)) = ((nv (u.drop i) / nv d : Nat) : Int) := by
    intro c hc
    rw [← hdig]
    by_cases cc : nv (u.drop i) < x * nv d
    · have hx0 : x ≠ 0 := by intro h; subst h; omega
      rw [hc, decide_eq_true cc, if_pos rfl, if_pos cc, wu64_in (by omega) (by omega)]; omega
    · rw [hc, decide_eq_false cc, if_neg (by simp), if_neg cc]
  generalize nv (u.drop i) / nv d = z at *
  clear g1 g2 hxv hdig hW hWp hlt hmod hwd
  have ei : w64 ((i : Int) - 1) = (i : Int) - 1 := w64_in (by omega) (by omega)
  have a0 : w64 ((i : Int) + ((n + 2 : Nat) : Int)) = ((i + (n + 1 + 1) : Nat) : Int) := by rw [w64_in (by omega) (by omega)]; omega
  have a1 : w64 (((i + (n + 1 + 1) : Nat) : Int) - 1) = ((i + (n + 1) : Nat) : Int) := by rw [w64_in (by omega) (by omega)]; omega
  have a2 : w64 (((i + (n + 1 + 1) : Nat) : Int) - 2) = ((i + n : Nat) : Int) := by rw [w64_in (by omega) (by omega)]; omega
  have a3 : w64 (((n + 2 : Nat) : Int) - 1) = ((n + 1 : Nat) : Int) := by rw [w64_in (by omega) (by omega)]; omega
  have a4 : w64 (((n + 2 : Nat) : Int) - 2) = ((n : Nat) : Int) := by rw [w64_in (by omega) (by omega)]; omega
  have a5 : w64 (((i + (n + 1 + 1) : Nat) : Int) + 1) = ((i + (n + 1 + 1) + 1 : Nat) : Int) := i1 _ (by omega)
  have hwin : i + (n + 1 + 1) + 1 - i = d.length + 1 := by omega
  unfold nat_long_R0
  simp only [ei, a0, a1, a2, a3, a4, a5]
  rw [T.run_ite_t (by simp)]
  rw [T.run_idx _ (by omega) (by omega), T.run_e _ rfl (by omega), T.run_idx _ (by omega) (by omega), T.run_e _ rfl (by omega), T.run_idx _ (by omega) (by omega), T.run_e _ rfl (by omega), T.run_idx _ (by omega) (by omega), T.run_idx _ (by omega) (by omega)]
  simp only [Int.toNat_natCast, Nat.zero_add, dflt_u32, nthN_lm hl, nth_lm hd, hwin]
  rw [T.run_bind_of hg]
  have hc := hx1 _ rfl
  rw [T.run_bind_of (a := ((z : Int), xs, q)) ?_]
  · simp only [wu32n hdq]
    rw [T.run_idx _ (by omega) (by omega), T.run_e _ rfl (by omega), T.run_cur _ (by simp) rfl (by simp), T.run_cur _ rfl rfl rfl, T.run_true, T.run_eqN _ (by simp), T.run_ret]
  · rw [T.run_sl _ (by omega) (by omega) (by omega), T.run_true, T.run_true, T.run_bind_of hr]
    simp only [T.run_iteS]
    by_cases cc : nv (u.drop i) < x * nv d
    · rw [if_pos (decide_eq_true cc)] at hc ⊢
      rw [T.run_cur _ rfl rfl rfl, T.run_cur _ (by omega) rfl (by omega), T.run_true, T.run_true, T.run_ret, hc]
    · rw [if_neg (by simpa using cc)] at hc ⊢
      rw [T.run_cur _ rfl rfl rfl, T.run_cur _ (by omega) rfl (by omega), T.run_true, T.run_true, T.run_ret, hc]
theorem long_loop (d : List Int) (hd : limbs d) (m n : Nat) (hn : d.length = n + 2) (hm : n + 2 ≤ m) (lm' : m ≤ 999999990) (htop : 2147483648 ≤ lm d (n + 1)) (u0 : List Int) (hu0 : limbs u0) (hlu : u0.length = m + 1)
    (hst : nv (u0.drop (m - (n + 2) + 1)) < nv d) (y : Int) :
    ∃ r : List Int × List Int, (nat_long_L0 y d ((n + 2 : Nat) : Int) (((m - (n + 2) : Nat) : Int), u0, List.replicate (m - (n + 2) + 1) 0)).run = some r ∧ limbs r.1 ∧ r.1.length = m + 1 ∧ limbs r.2 ∧ r.2.length = m - (n + 2) + 1 ∧ nv r.1 < nv d ∧ nv u0 = nv r.2 * nv d + nv r.1 := by
  refine T.loop_post (fun s : Int × List Int × List Int => ∃ k : Nat, s.1 = (k : Int) - 1 ∧ k ≤ m - (n + 2) + 1 ∧ limbs s.2.1 ∧ s.2.1.length = m + 1 ∧ limbs s.2.2 ∧ s.2.2.length = m - (n + 2) + 1 ∧ s.2.1.take k = u0.take k ∧
      nv (s.2.1.drop k) < nv d ∧ nv (u0.drop k) = nv (s.2.2.drop k) * nv d + nv (s.2.1.drop k))
    (fun s => (s.1 + 1).toNat) _ ?_ ⟨m - (n + 2) + 1, by simp, Nat.le_refl _, hu0, hlu, limbs_replicate _, by simp, rfl, hst, by simp⟩
  rintro ⟨_, u, q⟩ ⟨k, rfl, hk, hl, hul, hq, hql, htk, hlt, hv⟩
  simp only at hl hul hq hql htk hlt hv ⊢
  cases k with
  | zero =>
    right
    refine ⟨(u, q), ?_, hl, hul, hq, hql, by simpa using hlt, by simpa using hv⟩
    unfold nat_long_R0
    simp
  | succ i =>
    left
    obtain ⟨xs, z, hr, hz, hxl, hxn, hxt, hxm, hxv⟩ := long_round d hd n hn (by omega) htop y i (by omega) u q hl (by omega) (by omega) hq (by omega) hlt
    have e1 : ((i + 1 : Nat) : Int) - 1 = (i : Int) := by omega
    refine ⟨((i : Int) - 1, xs, q.set i (z : Int)), by rw [e1]; exact hr, ⟨i, rfl, by omega, hxl, hxn.trans hul, limbs_setN hq _ hz, by simpa using hql, ?_, hxm, ?_⟩, by simp⟩
    · simp only
      rw [hxt]
      have := congrArg (List.take i) htk
      rwa [List.take_take, List.take_take, show min i (i + 1) = i by omega] at this
    · simp only
      rw [set_drop _ (by omega), Int.toNat_natCast, lm_drop (a := u0) (by omega), ← lm_take_eq htk (show i < i + 1 by omega)]
      exact digit_alg hxv hv
end Go.AM.Lf
namespace Go.AM.Lf
open PL
theorem long_fin {A B S Q R : Nat} (hS : 0 < S) (h : A * S = Q * (B * S) + R) (hR : R < B * S) : Q = A / B ∧ R / S = A % B := by
  have hB : 0 < B := Nat.pos_of_ne_zero fun z => by subst z; simp at hR
  have h1 := Nat.div_add_mod R S
  have h2 := Nat.mod_lt R hS
  -- R is a multiple of S
  have h3 : A * S = S * (Q * B + R / S) + R % S := by
    have e : Q * (B * S) = S * (Q * B) := by grind
    rw [h, e, Nat.mul_add]; omega
  have h4 : R % S = 0 := by
    have := congrArg (· % S) h3
    simp only [Nat.mul_mod_left] at this
    rw [Nat.add_comm, Nat.add_mul_mod_self_left, Nat.mod_mod] at this
    exact this.symm
  rw [h4, Nat.add_zero, Nat.mul_comm A] at h3
  have h5 := Nat.eq_of_mul_eq_mul_left hS h3
  have h6 : R / S < B := (Nat.div_lt_iff_lt_mul hS).2 hR
  constructor
  · rw [h5, Nat.mul_comm, Nat.mul_add_div hB, Nat.div_eq_of_lt h6, Nat.add_zero]
  · rw [h5, Nat.mul_comm, Nat.mul_add_mod, Nat.mod_eq_of_lt h6]
theorem start_lt {A S P D V X : Nat} (hA : A < D * P) (hS : S ≤ 2147483648) (hV : 2147483648 * P ≤ V) (hX : X * D ≤ A * S) (hD : 0 < D) (hS0 : 0 < S) : X < V := by
  have h1 : A * S < D * V := by
    have a1 : A * S < D * P * S := Nat.mul_lt_mul_of_pos_right hA hS0
    have a2 : D * P * S ≤ D * V := by
      have : P * S ≤ V := by
        have := Nat.mul_le_mul_left P hS
        rw [Nat.mul_comm P 2147483648] at this
        exact Nat.le_trans this hV
      rw [Nat.mul_assoc]
      exact Nat.mul_le_mul_left D this
    omega
  have h2 : X * D < V * D := by rw [Nat.mul_comm V]; exact Nat.lt_of_le_of_lt hX h1
  exact Nat.lt_of_mul_lt_mul_right h2
theorem nat_long_run (a b : List Int) (ha : limbs a) (hb : limbs b) (la : a.length ≤ 100000000) (n : Nat) (hbn : b.length = n + 2) (hba : b.length ≤ a.length) (htop : lm b (n + 1) ≠ 0) :
    (nat_long a b).run = some (ofN (nv a / nv b), ofN (nv a % nv b)) := by
  have ht := lm_lt hb (n + 1)
  obtain ⟨s, hs, hs1, hs2, hs3⟩ := lz32_run (x := lm b (n + 1)) (by omega) ht
  have hp31 : 2 ^ s ≤ 2147483648 := by
    have : 2 ^ s ≤ 2 ^ 31 := Nat.pow_le_pow_right (by omega) (by omega)
    exact this
  have hsp : 0 < 2 ^ s := Nat.pow_pos (by omega)
  have hBt := top2 b n hbn
  -- the divisor
  have hfitb : nv b * 2 ^ s < 4294967296 ^ b.length := by
    have h1 := nv_take_lm b (n + 1)
    rw [nv_take_all (by omega)] at h1
    have h2 := nv_take_lt hb (n + 1)
    have h3 : nv b < 4294967296 ^ (n + 1) * (lm b (n + 1) + 1) := by rw [h1, Nat.mul_add]; omega
    rw [hbn]
    have h4 : (lm b (n + 1) + 1) * 2 ^ s ≤ 4294967296 := by
      have hm : 4294967296 = 2 ^ (32 - s) * 2 ^ s := pow_split s (by omega)
      have h5 : lm b (n + 1) < 2 ^ (32 - s) := by
        rw [hm] at hs3
        exact Nat.lt_of_mul_lt_mul_right hs3
      have := Nat.mul_le_mul_right (2 ^ s) (show lm b (n + 1) + 1 ≤ 2 ^ (32 - s) from h5)
      rw [← hm] at this; exact this
    have h5 : nv b * 2 ^ s < 4294967296 ^ (n + 1) * (lm b (n + 1) + 1) * 2 ^ s := Nat.mul_lt_mul_of_pos_right h3 hsp
    have h6 : 4294967296 ^ (n + 1) * (lm b (n + 1) + 1) * 2 ^ s ≤ 4294967296 ^ (n + 2) := by
      rw [Nat.mul_assoc, Nat.pow_succ 4294967296 (n + 1)]
      exact Nat.mul_le_mul_left _ h4
    exact Nat.lt_of_lt_of_le h5 h6
  obtain ⟨d, hd, hdl, hdn, hdv⟩ := nat_left_S_run b hb (by omega) s b.length hs1 (Nat.le_refl _) (by omega) hfitb
  have hfita : nv a * 2 ^ s < 4294967296 ^ (a.length + 1) := by
    have h1 := nv_lt ha
    rw [Nat.pow_succ]
    exact Nat.mul_lt_mul_of_lt_of_le h1 (Nat.le_trans hp31 (by omega)) (by omega)
  obtain ⟨u, hu, hul, hun, huv⟩ := nat_left_S_run a ha (by omega) s (a.length + 1) hs1 (by omega) (by omega) hfita
  -- its highest limb
  have hdtop : 2147483648 ≤ lm d (n + 1) := by
    have h1 := nv_take_lm d (n + 1)
    rw [nv_take_all (by omega), hdv] at h1
    have h2 := nv_take_lt hdl (n + 1)
    have h3 := nv_take_lm b (n + 1)
    rw [nv_take_all (by omega)] at h3
    have h4 : 4294967296 ^ (n + 1) * (lm b (n + 1) * 2 ^ s) ≤ nv b * 2 ^ s := by
      rw [← Nat.mul_assoc]
      exact Nat.mul_le_mul_right _ (by omega)
    have h5 : 4294967296 ^ (n + 1) * 2147483648 ≤ nv b * 2 ^ s := Nat.le_trans (Nat.mul_le_mul_left _ hs2) h4
    have h6 : 4294967296 ^ (n + 1) * 2147483648 < 4294967296 ^ (n + 1) * (lm d (n + 1) + 1) := by
      rw [Nat.mul_add]; omega
    have := Nat.lt_of_mul_lt_mul_left h6
    omega
  have hst : nv (u.drop (a.length - (n + 2) + 1)) < nv d := by
    have h1 := nv_split u (a.length - (n + 2) + 1) (by omega)
    have h2 : nv (u.drop (a.length - (n + 2) + 1)) * 4294967296 ^ (a.length - (n + 2) + 1) ≤ nv a * 2 ^ s := by
      rw [← huv, h1, Nat.mul_comm]; omega
    have h3 : 2147483648 * 4294967296 ^ (n + 1) ≤ nv d := by
      have h4 := nv_take_lm d (n + 1)
      rw [nv_take_all (by omega)] at h4
      have h5 := Nat.mul_le_mul_left (4294967296 ^ (n + 1)) hdtop
      rw [Nat.mul_comm 2147483648]; omega
    have h4 : nv a < 4294967296 ^ (a.length - (n + 2) + 1) * 4294967296 ^ (n + 1) := by
      rw [← Nat.pow_add, show a.length - (n + 2) + 1 + (n + 1) = a.length by omega]
      exact nv_lt ha
    exact start_lt h4 hp31 h3 h2 (pow_pos' _) hsp
  obtain ⟨⟨xu, xq⟩, hr, hxu, hxun, hxq, hxqn, hxlt, hxv⟩ := long_loop d hdl a.length n (by omega) (by omega) (by omega) hdtop u hul (by omega) hst (s : Int)
  simp only at hxu hxun hxq hxqn hxlt hxv
  rw [huv, hdv] at hxv
  rw [hdv] at hxlt
  obtain ⟨f1, f2⟩ := long_fin hsp hxv hxlt
  -- the text
  have e1 : w64 ((b.length : Int) - 1) = ((n + 1 : Nat) : Int) := by rw [w64_in (by omega) (by omega)]; omega
  have es : wu64 (s : Int) = s := wu64n (by omega)
  have e2 : w64 ((a.length : Int) + 1) = ((a.length + 1 : Nat) : Int) := i1 _ (by omega)
  have e3 : w64 (w64 ((a.length : Int) - ((n + 2 : Nat) : Int)) + 1) = ((a.length - (n + 2) + 1 : Nat) : Int) := by rw [w64_in (x := (a.length : Int) - ((n + 2 : Nat) : Int)) (by omega) (by omega), w64_in (by omega) (by omega)]; omega
  have e4 : w64 (((a.length - (n + 2) + 1 : Nat) : Int) - 1) = ((a.length - (n + 2) : Nat) : Int) := im1 _ (by omega)
  have e5 : w64 (s : Int) = s := w64_in (by omega) (by omega)
  have e6 : w64 (0 - (s : Int)) = -(s : Int) := by rw [w64_in (by omega) (by omega)]; omega
  unfold nat_long
  simp only [e1, e2, dflt_u32, nth_lm hb]
  rw [T.run_idx _ (by omega) (by omega), T.run_bind_of hs]
  simp only [es]
  rw [T.run_bind_of hu, T.run_bind_of hd]
  simp only [e3, e4, e5, e6, Int.toNat_natCast, List.length_replicate, Nat.zero_add, List.drop_zero, List.take_length, hdn, hbn]
  rw [T.run_mk _ (by omega) (by omega) (by omega) (by omega), T.run_true, T.run_cur _ rfl rfl rfl, T.run_cur _ rfl rfl rfl, T.run_true, T.run_true]
  have hdn' : d.take (n + 2) = d := List.take_of_length_le (by omega)
  simp only [hdn']
  rw [T.run_bind_of hr]
  simp only [List.take_length]
  rw [T.run_true, T.run_true, T.run_bind_of (trim_run xq hxq (by omega)), T.run_sl _ (by omega) (by omega) (by omega)]
  have ec : cutL (e := .int .u32) 0 ((n + 2 : Nat) : Int) xu = xu.take (n + 2) := by unfold cutL; simp only [Int.toNat_natCast, Int.toNat_zero, List.drop_zero]
  have hxt : nv (xu.take (n + 2)) = nv xu := by
    have h1 := nv_split xu (n + 2) (by omega)
    have h2 := nv_top_zero hxu (n + 2) (by omega) (Nat.lt_trans hxlt (by rw [← hbn]; exact hfitb))
    rw [h2] at h1; omega
  rw [ec]
  have hsh : (nat_Shift (xu.take (n + 2)) (-(s : Int))).run = some (ofN (nv xu / 2 ^ s)) := by
    rcases Nat.eq_zero_or_pos s with z | z
    · subst z
      have := Shift_pos_run (xu.take (n + 2)) (limbs_take hxu _) (by simp; omega) 0 (by omega)
      rw [hxt] at this
      simpa using this
    · have := Shift_neg_run (xu.take (n + 2)) (limbs_take hxu _) (by simp; omega) s (by omega) z
      rw [hxt] at this
      exact this
  rw [T.run_bind_of hsh, T.run_ret, f2, f1]
end Go.AM.Lf
namespace Go.AM.Lf
open PL
theorem ofN_top {A : Nat} (k : Nat) (h : (ofN A).length = k + 1) : lm (ofN A) k ≠ 0 := by
  intro hz
  have h1 := nv_take_lm (ofN A) k
  rw [nv_take_all (by omega), hz, Nat.mul_zero, Nat.add_zero, nv_ofN] at h1
  have h2 := nv_take_lt (limbs_ofN A) k
  have := ofN_len_le.2 (show A < 4294967296 ^ k by omega)
  omega
theorem nat_DivMod_run (a b : List Int) (ha : limbs a) (hb : limbs b) (la : a.length ≤ 100000000) (lb : b.length ≤ 100000000) :
    (nat_DivMod a b).run = some (if nv b = 0 then ([], [], false) else (ofN (nv a / nv b), ofN (nv a % nv b), true)) := by
  have qa := ofN_nv_len ha
  have qb := ofN_nv_len hb
  unfold nat_DivMod
  rw [T.run_bind_of (trim_run a ha (by omega)), T.run_bind_of (trim_run b hb (by omega))]
  generalize nv a = A at *
  generalize nv b = B at *
  by_cases hB : B = 0
  · subst hB
    rw [ofN_zero]; simp
  · have hne : (ofN B).length ≠ 0 := by
      intro h
      exact hB (ofN_eq_nil.1 (List.eq_nil_of_length_eq_zero h))
    rw [if_neg hB, T.run_ite_f (by simpa using hne), T.run_bind_of (nat_Cmp_run _ _ (limbs_ofN A) (limbs_ofN B) (by omega) (by omega)), nv_ofN, nv_ofN]
    by_cases hlt : A < B
    · rw [T.run_ite_t (by unfold cmpI; rw [if_pos hlt]; rfl), T.run_bind_of (Trim_run _ (limbs_ofN A) (by omega)), T.run_ret, nv_ofN, Nat.div_eq_of_lt hlt, Nat.mod_eq_of_lt hlt, ofN_zero]
    · rw [T.run_ite_f (by unfold cmpI; rw [if_neg hlt]; split <;> simp)]
      by_cases h1 : (ofN B).length = 1
      · -- by one limb
        have hb1 : ofN B = [(B : Int)] := by
          rw [ofN_pos hB] at h1 ⊢
          have : B / 4294967296 = 0 := by
            have : (ofN (B / 4294967296)).length = 0 := by simpa using h1
            exact ofN_eq_nil.1 (List.eq_nil_of_length_eq_zero this)
          rw [this, ofN_zero]
          congr 1; omega
        have hBl : B < 4294967296 := by
          have := ofN_len_le.1 (Nat.le_of_eq h1)
          simpa using this
        have e0 : nth (ofN B) 0 0 = (B : Int) := by rw [hb1]; rfl
        have hm := Nat.mod_lt A (Nat.pos_of_ne_zero hB)
        have hs := nat_small_run (ofN A) (limbs_ofN A) (by omega) B (by omega) hBl
        rw [nv_ofN] at hs
        rw [T.run_ite_t (by rw [h1]; rfl), T.run_idx _ (by omega) (by omega)]
        simp only [dflt_u32, e0]
        rw [T.run_bind_of hs]
        simp only [wu64n (show A % B < 18446744073709551616 by omega)]
        rw [T.run_bind_of (nat_Of_run _ (by omega)), T.run_ret]
      · obtain ⟨n, hn⟩ : ∃ n, (ofN B).length = n + 2 := ⟨(ofN B).length - 2, by omega⟩
        have hle : (ofN B).length ≤ (ofN A).length := by
          rcases Nat.lt_or_ge (ofN A).length (ofN B).length with h | h
          · exact absurd (len_lt_nv h) hlt
          · exact h
        have hl := nat_long_run (ofN A) (ofN B) (limbs_ofN A) (limbs_ofN B) (by omega) n hn hle (ofN_top (n + 1) (by omega))
        rw [nv_ofN, nv_ofN] at hl
        rw [T.run_ite_f (by simp; omega), T.run_bind_of hl, T.run_ret]
theorem nat_Gcd_run (a b : List Int) (ha : limbs a) (hb : limbs b) (la : a.length ≤ 100000000) (lb : b.length ≤ 100000000) : (nat_Gcd a b).run = some (ofN (Nat.gcd (nv a) (nv b))) := by
  have qa := ofN_nv_len ha
  have qb := ofN_nv_len hb
  unfold nat_Gcd
  rw [T.run_bind_of (Trim_run a ha (by omega)), T.run_bind_of (Trim_run b hb (by omega))]
  generalize nv a = A at *
  generalize nv b = B at *
  have key : (nat_Gcd_L0 (ofN A, ofN B)).run = some (ofN (Nat.gcd A B)) := by
    have := T.loop_run (r := nat_Gcd_R0) (fun s : List Int × List Int => ∃ A B : Nat, s = (ofN A, ofN B) ∧ (ofN A).length ≤ 100000000 ∧ (ofN B).length ≤ 100000000)
      (fun s => nv s.2) (fun s => ofN (Nat.gcd (nv s.1) (nv s.2))) ?_ (s := (ofN A, ofN B)) ⟨A, B, rfl, by omega, by omega⟩
    · rw [nv_ofN, nv_ofN] at this; exact this
    · rintro _ ⟨A, B, rfl, hA, hB'⟩
      simp only [nv_ofN]
      by_cases hB : B = 0
      · right
        subst hB
        unfold nat_Gcd_R0
        rw [ofN_zero]; simp
      · left
        have hd := nat_DivMod_run (ofN A) (ofN B) (limbs_ofN A) (limbs_ofN B) hA hB'
        rw [nv_ofN, nv_ofN, if_neg hB] at hd
        have hm := Nat.mod_lt A (Nat.pos_of_ne_zero hB)
        have hne : (ofN B).length ≠ 0 := fun h => hB (ofN_eq_nil.1 (List.eq_nil_of_length_eq_zero h))
        refine ⟨(ofN B, ofN (A % B)), ?_, ⟨B, A % B, rfl, hB', ?_⟩, by simpa using hm, ?_⟩
        · unfold nat_Gcd_R0
          rw [T.run_ite_t (by simp; omega), T.run_bind_of hd, T.run_ret]
        · have : (ofN (A % B)).length ≤ (ofN B).length := ofN_len_le.2 (Nat.lt_trans hm (ofN_len_le.1 (Nat.le_refl _)))
          omega
        · simp only [nv_ofN]
          rw [Nat.gcd_comm, ← Nat.gcd_rec, Nat.gcd_comm]
  rw [T.run_bind_of key, T.run_ret]
end Go.AM.Lf
namespace Go.AM.Lf
open PL
theorem one_limb : limbs [(1 : Int)] := by
  intro x hx; simp at hx; omega
end Go.AM.Lf
namespace Go.AM.PL
def dgt (n : Nat) : UInt8 := UInt8.ofNat (48 + n % 10)
def dgz (n : Nat) : Str := if h : n = 0 then [] else dgz (n / 10) ++ [dgt n]
termination_by n
decreasing_by omega
def pr (n : Nat) : Str := if n = 0 then [48] else dgz n
theorem dgz_zero : dgz 0 = [] := by rw [dgz]; rfl
theorem dgz_pos {n : Nat} (h : n ≠ 0) : dgz n = dgz (n / 10) ++ [dgt n] := by rw [dgz, dif_neg h]
def rd (n : Nat) : List Int := if h : n = 0 then [] else ((48 + n % 10 : Nat) : Int) :: rd (n / 10)
termination_by n
decreasing_by omega
theorem rd_zero : rd 0 = [] := by rw [rd]; rfl
theorem rd_pos {n : Nat} (h : n ≠ 0) : rd n = ((48 + n % 10 : Nat) : Int) :: rd (n / 10) := by rw [rd, dif_neg h]
def rdig : Nat → Nat → List Int
  | 0, _ => []
  | k + 1, n => ((48 + n % 10 : Nat) : Int) :: rdig k (n / 10)
theorem rdig_len (k n : Nat) : (rdig k n).length = k := by
  induction k generalizing n with
  | zero => rfl
  | succ k ih => simp [rdig, ih]
theorem rdig_mod (k n : Nat) : rdig k (n % 10 ^ k) = rdig k n := by
  induction k generalizing n with
  | zero => rfl
  | succ k ih =>
    simp only [rdig]
    have e1 : n % 10 ^ (k + 1) % 10 = n % 10 := Nat.mod_mod_of_dvd _ ⟨10 ^ k, by rw [Nat.pow_succ, Nat.mul_comm]⟩
    have e2 : n % 10 ^ (k + 1) / 10 = n / 10 % 10 ^ k := by rw [Nat.pow_succ, Nat.mul_comm, Nat.mod_mul_right_div_self]
    rw [e1, e2, ih]
theorem rd_split (k n : Nat) (h : n / 10 ^ k ≠ 0) : rd n = rdig k n ++ rd (n / 10 ^ k) := by
  induction k generalizing n with
  | zero => simp [rdig]
  | succ k ih =>
    have hn : n ≠ 0 := by intro z; subst z; simp at h
    have e : n / 10 ^ (k + 1) = n / 10 / 10 ^ k := by rw [Nat.pow_succ, Nat.mul_comm, Nat.div_div_eq_div_mul]
    rw [e] at h ⊢
    rw [rd_pos hn, ih _ h]; rfl
theorem rdig_small (k n : Nat) (h : n / 10 ^ k = 0) : ∃ z, rdig k n = rd n ++ List.replicate z 48 := by
  induction k generalizing n with
  | zero => simp at h; subst h; exact ⟨0, by rw [rd_zero]; rfl⟩
  | succ k ih =>
    have e : n / 10 ^ (k + 1) = n / 10 / 10 ^ k := by rw [Nat.pow_succ, Nat.mul_comm, Nat.div_div_eq_div_mul]
    rw [e] at h
    obtain ⟨z, hz⟩ := ih _ h
    simp only [rdig]
    by_cases hn : n = 0
    · subst hn
      refine ⟨z + 1, ?_⟩
      rw [hz]
      simp [rd_zero, List.replicate_succ]
    · exact ⟨z, by rw [hz, rd_pos hn]; rfl⟩
def blk (n : Nat) : List Int := if h : n = 0 then [] else rdig 9 (n % 1000000000) ++ blk (n / 1000000000)
termination_by n
decreasing_by omega
theorem blk_zero : blk 0 = [] := by rw [blk]; rfl
theorem blk_pos {n : Nat} (h : n ≠ 0) : blk n = rdig 9 (n % 1000000000) ++ blk (n / 1000000000) := by rw [blk, dif_neg h]
theorem blk_rd (n : Nat) : ∃ z, blk n = rd n ++ List.replicate z 48 := by
  induction n using Nat.strongRecOn with
  | _ n ih =>
    by_cases hn : n = 0
    · subst hn; exact ⟨0, by rw [blk_zero, rd_zero]; rfl⟩
    · rw [blk_pos hn]
      have e : rdig 9 (n % 1000000000) = rdig 9 n := rdig_mod 9 n
      rw [e]
      by_cases h : n / 1000000000 = 0
      · rw [h, blk_zero, List.append_nil]
        exact rdig_small 9 n h
      · obtain ⟨z, hz⟩ := ih (n / 1000000000) (by omega)
        refine ⟨z, ?_⟩
        rw [hz, ← List.append_assoc]
        congr 1
        exact (rd_split 9 n h).symm
theorem dgz_rd (n : Nat) : dgz n = bytesStr (rd n).reverse := by
  induction n using Nat.strongRecOn with
  | _ n ih =>
    by_cases hn : n = 0
    · subst hn; rw [dgz_zero, rd_zero]; rfl
    · rw [dgz_pos hn, rd_pos hn, ih _ (by omega)]
      simp only [List.reverse_cons, bytesStr, List.map_append, List.map_cons, List.map_nil]
      congr 1
theorem rd_ne {n : Nat} (h : n ≠ 0) : rd n ≠ [] := by rw [rd_pos h]; simp
theorem rd_last (n : Nat) : ∀ x, (rd n).getLast? = some x → x ≠ 48 := by
  induction n using Nat.strongRecOn with
  | _ n ih =>
    intro x hx
    by_cases hn : n = 0
    · subst hn; rw [rd_zero] at hx; cases hx
    · rw [rd_pos hn] at hx
      by_cases h2 : n / 10 = 0
      · rw [h2, rd_zero] at hx
        simp at hx; omega
      · refine ih (n / 10) (by omega) x ?_
        rw [← hx]
        cases hc : rd (n / 10) with
        | nil => exact absurd hc (rd_ne h2)
        | cons y l => rw [List.getLast?_cons_cons]
end Go.AM.PL
namespace Go.AM.Lf
open PL
@[simp] theorem dflt_u8 : dflt (.int .u8) = (0 : Int) := rfl
theorem lenDigits : ([48, 49, 50, 51, 52, 53, 54, 55, 56, 57] : Str).length = 10 := rfl
theorem digitAt (r : Nat) : byteAt ([48, 49, 50, 51, 52, 53, 54, 55, 56, 57] : Str) ((r % 10 : Nat) : Int) = ((48 + r % 10 : Nat) : Int) := by
  have key : ∀ d : Fin 10, byteAt ([48, 49, 50, 51, 52, 53, 54, 55, 56, 57] : Str) ((d.val : Nat) : Int) = ((48 + d.val : Nat) : Int) := by decide
  exact key ⟨r % 10, by omega⟩
theorem group_run (q : List Int) (rest : Nat) (hr : rest < 4294967296) (xs : List Int) (hx : xs.length ≤ 1000000000) : (nat_Print_L1 q ((rest : Int), 0, xs)).run = some (xs ++ rdig 9 rest) := by
  have := T.loop_run (r := nat_Print_R1 q) (fun s : Int × Int × List Int => ∃ (r k : Nat), s.1 = (r : Int) ∧ r < 4294967296 ∧ s.2.1 = (k : Int) ∧ k ≤ 9 ∧ s.2.2.length ≤ 1000000000 + k)
    (fun s => 9 - s.2.1.toNat) (fun s => s.2.2 ++ rdig (9 - s.2.1.toNat) s.1.toNat) ?_ (s := ((rest : Int), 0, xs)) ⟨rest, 0, rfl, hr, rfl, by omega, by omega⟩
  · unfold nat_Print_L1
    simpa using this
  · rintro ⟨_, _, ys⟩ ⟨r, k, rfl, h1, rfl, h2, h3⟩
    simp only at h3 ⊢
    by_cases hk : k < 9
    · left
      have e1 : Int.tmod (r : Int) 10 = ((r % 10 : Nat) : Int) := by rw [tmod_pos (by omega)]; rfl
      have e2 : wu32 (Int.tdiv (r : Int) 10) = ((r / 10 : Nat) : Int) := by rw [tdiv_pos (by omega)]; exact wu32n (n := r / 10) (by omega)
      refine ⟨(((r / 10 : Nat) : Int), ((k + 1 : Nat) : Int), ys ++ [((48 + r % 10 : Nat) : Int)]), ?_, ⟨r / 10, k + 1, rfl, by omega, rfl, by omega, by simp; omega⟩, by simp; omega, ?_⟩
      · unfold nat_Print_R1
        simp only [e1, e2, digitAt, i1 k (by omega), lenDigits]
        rw [T.run_ite_t (by simp; omega)]
        simp (disch := omega)
      · simp only [Int.toNat_natCast]
        rw [show 9 - k = (9 - (k + 1)) + 1 by omega, rdig]
        simp
    · right
      have : k = 9 := by omega
      subst this
      unfold nat_Print_R1
      simp [rdig]
theorem blk_len (n j : Nat) (h : n < 4294967296 ^ j) : (blk n).length ≤ 18 * j := by
  induction j generalizing n with
  | zero =>
    have : n = 0 := by simpa using h
    subst this; rw [blk_zero]; simp
  | succ j ih =>
    by_cases hn : n = 0
    · subst hn; rw [blk_zero]; simp
    · rw [blk_pos hn]
      by_cases h2 : n / 1000000000 = 0
      · rw [h2, blk_zero]; simp [rdig_len]; omega
      · rw [blk_pos h2]
        have h3 : n / 1000000000 / 1000000000 < 4294967296 ^ j := by
          rw [Nat.div_div_eq_div_mul, Nat.div_lt_iff_lt_mul (by omega)]
          rw [Nat.pow_succ] at h
          exact Nat.lt_of_lt_of_le h (Nat.mul_le_mul_left _ (by omega))
        have := ih _ h3
        simp [rdig_len]; omega
theorem groups_run (n : Nat) (hn : (ofN n).length ≤ 1000000) : (nat_Print_L0 (ofN n, [])).run = some (blk n) := by
  have hbl := blk_len n (ofN n).length (ofN_len_le.1 (Nat.le_refl _))
  have := T.loop_run (r := nat_Print_R0) (fun s : List Int × List Int => ∃ m : Nat, s.1 = ofN m ∧ (ofN m).length ≤ 1000000 ∧ s.2.length + (blk m).length ≤ 18000000)
    (fun s => nv s.1) (fun s => s.2 ++ blk (nv s.1)) ?_ (s := (ofN n, [])) ⟨n, rfl, hn, by simp; omega⟩
  · unfold nat_Print_L0
    simpa using this
  · rintro ⟨_, xs⟩ ⟨m, rfl, h1, h2⟩
    simp only [nv_ofN] at h2 ⊢
    by_cases hm : m = 0
    · right
      subst hm
      unfold nat_Print_R0
      rw [ofN_zero, blk_zero]; simp
    · left
      have hne : (ofN m).length ≠ 0 := fun h => hm (ofN_eq_nil.1 (List.eq_nil_of_length_eq_zero h))
      have hs : (nat_small (ofN m) 1000000000).run = some (ofN (nv (ofN m) / 1000000000), ((nv (ofN m) % 1000000000 : Nat) : Int)) := nat_small_run (ofN m) (limbs_ofN m) (by omega) 1000000000 (by omega) (by omega)
      rw [nv_ofN] at hs
      have hbm := blk_pos hm
      have hl := congrArg List.length hbm
      rw [List.length_append, rdig_len] at hl
      have hg := group_run (ofN (m / 1000000000)) (m % 1000000000) (by omega) xs (by omega)
      have hlen : (ofN (m / 1000000000)).length ≤ (ofN m).length := ofN_len_le.2 (Nat.lt_of_le_of_lt (Nat.div_le_self _ _) (ofN_len_le.1 (Nat.le_refl _)))
      refine ⟨(ofN (m / 1000000000), xs ++ rdig 9 (m % 1000000000)), ?_, ⟨m / 1000000000, rfl, by omega, ?_⟩, ?_, ?_⟩
      · unfold nat_Print_R0
        rw [T.run_ite_t (by simp; omega), T.run_bind_of hs]
        simp only
        rw [T.run_cur _ rfl rfl rfl, T.run_true, T.run_bind_of hg, T.run_cur _ rfl rfl rfl, T.run_true, T.run_ret]
      · simp only [List.length_append, rdig_len]; omega
      · simp only [nv_ofN]; omega
      · simp only [nv_ofN]
        rw [hbm, List.append_assoc]
theorem strip_run (l : List Int) (z : Nat) (hl : l ≠ []) (hlast : ∀ x, l.getLast? = some x → x ≠ 48) (hn : l.length + z ≤ 100000000) :
    (nat_Print_L2 ((0, (l ++ List.replicate z 48).length), l ++ List.replicate z 48)).run = some ((0, l.length), l ++ List.replicate z 48) := by
  generalize hX : l ++ List.replicate z 48 = X
  have hXl : X.length = l.length + z := by rw [← hX]; simp
  have hpos : 0 < l.length := List.length_pos_iff.2 hl
  have hget : ∀ p : Nat, nthN X p 0 = if p < l.length then nthN l p 0 else if p < l.length + z then 48 else 0 := by
    intro p
    unfold nthN
    rw [← hX, List.getD_eq_getElem?_getD, List.getD_eq_getElem?_getD]
    by_cases h : p < l.length
    · rw [if_pos h, List.getElem?_append_left h]
    · rw [if_neg h, List.getElem?_append_right (by omega), List.getElem?_replicate]
      by_cases h2 : p < l.length + z
      · rw [if_pos h2, if_pos (by omega)]; rfl
      · rw [if_neg h2, if_neg (by omega)]; rfl
  have := T.loop_run (r := nat_Print_R2) (fun s : (Nat × Nat) × List Int => ∃ k : Nat, s.1 = (0, l.length + k) ∧ k ≤ z ∧ s.2 = X) (fun s => s.1.2) (fun _ => ((0, l.length), X)) ?_ (s := ((0, X.length), X)) ⟨z, by rw [hXl], Nat.le_refl _, rfl⟩
  · exact this
  · rintro ⟨w, y⟩ ⟨k, h1, hk, h2⟩
    simp only at h1 h2
    rw [h1, h2]
    have e1 : w64 (((l.length + k : Nat) : Int) - 1) = ((l.length + k - 1 : Nat) : Int) := by rw [w64_in (by omega) (by omega)]; omega
    have hg := hget (l.length + k - 1)
    cases k with
    | zero =>
      right
      have hgl : nthN l (l.length - 1) 0 ≠ 48 := by
        refine hlast _ ?_
        rw [List.getLast?_eq_getElem?]
        unfold nthN
        rw [List.getD_eq_getElem?_getD, List.getElem?_eq_getElem (by omega)]; rfl
      rw [Nat.add_zero] at hg
      rw [if_pos (by omega)] at hg
      unfold nat_Print_R2
      simp only [Nat.add_zero] at e1 ⊢
      simp only [e1, Int.toNat_natCast, Nat.zero_add, dflt_u8, hg]
      rw [T.run_obl (fun _ => ⟨⟨by omega, by omega⟩, ⟨rfl, by omega⟩⟩), T.run_ite_f (by simp [hgl]), T.run_true, T.run_true, T.run_ret]
    | succ k =>
      left
      rw [show l.length + (k + 1) - 1 = l.length + k by omega] at e1 hg
      rw [if_neg (by omega), if_pos (by omega)] at hg
      refine ⟨((0, l.length + k), X), ?_, ⟨k, rfl, by omega, rfl⟩, by simp, rfl⟩
      unfold nat_Print_R2
      simp only [e1, Int.toNat_natCast, Nat.zero_add, dflt_u8, hg]
      rw [T.run_obl (fun _ => ⟨⟨by omega, by omega⟩, ⟨rfl, by omega⟩⟩), T.run_ite_t (by simp; omega), T.run_sl _ (by omega) (by omega) (by omega), T.run_true, T.run_true, T.run_ret]
      simp
theorem reverse_run (xs : List Int) (n : Nat) (hn : n ≤ xs.length) (hx : xs.length ≤ 1000000000) : ∃ ys : List Int, (slices_Reverse_sl_byte_S (0, n) xs).run = some ys ∧ ys.length = xs.length ∧ ys.take n = (xs.take n).reverse := by
  have e0 : w64 ((n : Int) - 1) = (n : Int) - 1 := w64_in (by omega) (by omega)
  have loop : ∃ ys : List Int, (slices_Reverse_sl_byte_S_L0 ((0, n), 0, (n : Int) - 1, xs)).run = some ys ∧ ys.length = xs.length ∧ ∀ p, p < n → ys[p]? = xs[n - 1 - p]? := by
    refine T.loop_post (fun s : (Nat × Nat) × Int × Int × List Int => s.1 = (0, n) ∧ ∃ i : Nat, s.2.1 = (i : Int) ∧ s.2.2.1 = (n : Int) - 1 - (i : Int) ∧ i ≤ n ∧ s.2.2.2.length = xs.length ∧ 2 * i ≤ n + 1 ∧ ∀ p, p < n → s.2.2.2[p]? = if p < i ∨ n < p + i + 1 then xs[n - 1 - p]? else xs[p]?)
      (fun s => n - s.2.1.toNat) _ ?_ ⟨rfl, 0, rfl, by simp, by omega, rfl, by omega, fun p hp => by rw [if_neg (by omega)]⟩
    rintro ⟨_, _, _, zs⟩ ⟨rfl, i, rfl, rfl, hi, hl, h2i, hv⟩
    simp only at hl hv ⊢
    by_cases hlt : (i : Int) < (n : Int) - 1 - (i : Int)
    · left
      have hj : ((n : Int) - 1 - (i : Int)).toNat = n - 1 - i := by omega
      have ej : w64 ((n : Int) - 1 - (i : Int) - 1) = (n : Int) - 1 - ((i + 1 : Nat) : Int) := by rw [w64_in (by omega) (by omega)]; omega
      refine ⟨((0, n), ((i + 1 : Nat) : Int), (n : Int) - 1 - ((i + 1 : Nat) : Int), (zs.set i (nthN zs (n - 1 - i) 0)).set (n - 1 - i) (nthN zs i 0)), ?_, ⟨rfl, i + 1, rfl, rfl, by omega, by simpa using hl, by omega, ?_⟩, by simp; omega⟩
      · unfold slices_Reverse_sl_byte_S_R0
        simp only [hj, Int.toNat_natCast, Nat.zero_add, dflt_u8, i1 i (by omega), ej]
        rw [T.run_ite_t (decide_eq_true hlt), T.run_idx _ (by omega) (by omega), T.run_e _ rfl (by omega), T.run_idx _ (by omega) (by omega), T.run_e _ rfl (by omega), T.run_idx _ (by omega) (by omega), T.run_e _ rfl (by omega), T.run_idx _ (by omega) (by omega), T.run_e _ (by simp) (by simp; omega), T.run_true, T.run_eqN _ (by simp), T.run_ret]
      · intro p hp
        have g1 := hv i (by omega)
        have g2 := hv (n - 1 - i) (by omega)
        rw [if_neg (by omega)] at g1 g2
        simp only [List.getElem?_set, List.length_set]
        by_cases c1 : n - 1 - i = p
        · rw [if_pos c1, if_pos (by omega), if_pos (by omega)]
          unfold nthN
          rw [List.getD_eq_getElem?_getD, g1, ← c1, show n - 1 - (n - 1 - i) = i by omega, List.getElem?_eq_getElem (by omega)]; rfl
        · rw [if_neg c1]
          by_cases c2 : i = p
          · rw [if_pos c2, if_pos (by omega), if_pos (by omega)]
            unfold nthN
            rw [List.getD_eq_getElem?_getD, g2, ← c2, List.getElem?_eq_getElem (by omega)]; rfl
          · rw [if_neg c2, hv p hp]
            by_cases c3 : p < i ∨ n < p + i + 1
            · rw [if_pos c3, if_pos (by omega)]
            · rw [if_neg c3, if_neg (by omega)]
    · right
      refine ⟨zs, ?_, hl, fun p hp => ?_⟩
      · unfold slices_Reverse_sl_byte_S_R0
        rw [T.run_ite_f (decide_eq_false hlt), T.run_eqN _ rfl, T.run_ret]
      · rw [hv p hp]
        split
        · rfl
        · rw [show n - 1 - p = p by omega]
  obtain ⟨ys, hr, hl, hv⟩ := loop
  refine ⟨ys, ?_, hl, ?_⟩
  · unfold slices_Reverse_sl_byte_S
    rw [T.run_eqN _ rfl, T.run_eqN _ rfl, e0, T.run_bind_of hr, T.run_eqN _ rfl, T.run_ret]
  · apply List.ext_getElem?
    intro p
    by_cases hp : p < n
    · have hl2 : (xs.take n).length = n := by simp; omega
      rw [List.getElem?_take, if_pos hp, hv p hp, List.getElem?_reverse (by omega), hl2, List.getElem?_take, if_pos (by omega)]
    · rw [List.getElem?_eq_none (by simp; omega), List.getElem?_eq_none (by simp; omega)]
theorem nat_Print_run (a : List Int) (ha : limbs a) (la : a.length ≤ 1000000) : (nat_Print a).run = some (pr (nv a)) := by
  have qa := ofN_nv_len ha
  unfold nat_Print
  rw [T.run_bind_of (Trim_run a ha (by omega))]
  generalize nv a = n at *
  by_cases hn : n = 0
  · subst hn; rw [ofN_zero]; simp [pr]
  · have hne : (ofN n).length ≠ 0 := fun h => hn (ofN_eq_nil.1 (List.eq_nil_of_length_eq_zero h))
    rw [T.run_ite_f (by simpa using hne), T.run_cur _ rfl rfl rfl, T.run_eqN _ rfl, T.run_bind_of (groups_run n (by omega))]
    have hbl := blk_len n (ofN n).length (ofN_len_le.1 (Nat.le_refl _))
    obtain ⟨z, hz⟩ := blk_rd n
    have hzl := congrArg List.length hz
    rw [List.length_append, List.length_replicate] at hzl
    have hst := strip_run (rd n) z (rd_ne hn) (rd_last n) (by omega)
    rw [← hz] at hst
    obtain ⟨ys, hr, hl, hv⟩ := reverse_run (blk n) (rd n).length (by omega) (by omega)
    rw [T.run_eqN _ rfl, T.run_eqN _ rfl, T.run_bind_of hst]
    simp only [T.run_true]
    rw [T.run_bind_of hr, T.run_eqN _ hl.symm, T.run_ret]
    simp only [Nat.zero_add, List.drop_zero]
    rw [hv, hz, List.take_left, ← dgz_rd]
    unfold pr
    rw [if_neg hn]
end Go.AM.Lf
namespace Go.AM.Lf
open PL
def ratN (neg : Bool) (n d : Nat) : Rat := if n = 0 ∨ d = 0 then (false, [], [1], ()) else (neg, ofN (n / Nat.gcd n d), ofN (d / Nat.gcd n d), ())
def ratOk (k : Nat) (a : Rat) : Prop := limbs a.2.1 ∧ limbs a.2.2.1 ∧ a.2.1.length ≤ k ∧ a.2.2.1.length ≤ k
theorem ofN_one : ofN 1 = [1] := by rw [ofN_pos (by omega), show 1 / 4294967296 = 0 from rfl, ofN_zero]; rfl
theorem ofN_len_mono {m n : Nat} (h : m ≤ n) : (ofN m).length ≤ (ofN n).length := ofN_len_le.2 (Nat.lt_of_le_of_lt h (ofN_len_le.1 (Nat.le_refl _)))
theorem ratN_ok (neg : Bool) (n d k : Nat) (hk : 1 ≤ k) (hn : (ofN n).length ≤ k) (hd : (ofN d).length ≤ k) : ratOk k (ratN neg n d) := by
  unfold ratN
  split
  · exact ⟨limbs_nil, one_limb, by simp, by simpa using hk⟩
  · exact ⟨limbs_ofN _, limbs_ofN _, Nat.le_trans (ofN_len_mono (Nat.div_le_self _ _)) hn, Nat.le_trans (ofN_len_mono (Nat.div_le_self _ _)) hd⟩
theorem rat_Of_run (neg : Bool) (n d : List Int) (hn : limbs n) (hd : limbs d) (ln : n.length ≤ 100000000) (ld : d.length ≤ 100000000) : (rat_Of neg n d).run = some (ratN neg (nv n) (nv d)) := by
  have qn := ofN_nv_len hn
  have qd := ofN_nv_len hd
  unfold rat_Of
  rw [T.run_bind_of (Trim_run n hn (by omega)), T.run_bind_of (Trim_run d hd (by omega))]
  generalize nv n = N at *
  generalize nv d = D at *
  unfold ratN
  by_cases h : N = 0 ∨ D = 0
  · rw [if_pos h]
    have e : (((ofN N).length : Int) == 0 || ((ofN D).length : Int) == 0) = true := by
      rcases h with rfl | rfl <;> simp [ofN_zero]
    have h1 : (nat_Of 1).run = some (ofN 1) := nat_Of_run 1 (by omega)
    rw [T.run_ite_t e, T.run_bind_of h1, T.run_ret, ofN_one]
  · rw [if_neg h]
    have hN : N ≠ 0 := fun z => h (.inl z)
    have hD : D ≠ 0 := fun z => h (.inr z)
    have n1 : (ofN N).length ≠ 0 := fun h => hN (ofN_eq_nil.1 (List.eq_nil_of_length_eq_zero h))
    have n2 : (ofN D).length ≠ 0 := fun h => hD (ofN_eq_nil.1 (List.eq_nil_of_length_eq_zero h))
    have e : (((ofN N).length : Int) == 0 || ((ofN D).length : Int) == 0) = false := by rw [Bool.or_eq_false_iff]; exact ⟨by simpa using n1, by simpa using n2⟩
    have hg := nat_Gcd_run (ofN N) (ofN D) (limbs_ofN N) (limbs_ofN D) (by omega) (by omega)
    rw [nv_ofN, nv_ofN] at hg
    have hgp : Nat.gcd N D ≠ 0 := fun z => hN (Nat.gcd_eq_zero_iff.1 z).1
    have hgl : (ofN (Nat.gcd N D)).length ≤ 100000000 := Nat.le_trans (ofN_len_mono (Nat.gcd_le_left D (Nat.pos_of_ne_zero hN))) (by omega)
    have h1 := nat_DivMod_run (ofN N) (ofN (Nat.gcd N D)) (limbs_ofN N) (limbs_ofN _) (by omega) hgl
    have h2 := nat_DivMod_run (ofN D) (ofN (Nat.gcd N D)) (limbs_ofN D) (limbs_ofN _) (by omega) hgl
    rw [nv_ofN, nv_ofN, if_neg hgp] at h1 h2
    rw [T.run_ite_f e, T.run_bind_of hg, T.run_bind_of h1]
    simp only
    rw [T.run_bind_of h2, T.run_ret]
theorem rat_Norm_run (a : Rat) (h : ratOk 100000000 a) : (rat_Norm a).run = some (ratN a.1 (nv a.2.1) (nv a.2.2.1)) := by
  unfold rat_Norm
  rw [T.run_bind_of (rat_Of_run _ _ _ h.1 h.2.1 h.2.2.1 h.2.2.2), T.run_ret]
end Go.AM.Lf
namespace Go.AM.Lf
open PL
theorem ok_up {j k : Nat} {a : Rat} (h : ratOk j a) (hk : j ≤ k) : ratOk k a := ⟨h.1, h.2.1, Nat.le_trans h.2.2.1 hk, Nat.le_trans h.2.2.2 hk⟩
def norm (a : Rat) : Rat := ratN a.1 (nv a.2.1) (nv a.2.2.1)
theorem norm_ok {k : Nat} (hk : 1 ≤ k) {a : Rat} (h : ratOk k a) : ratOk k (norm a) := ratN_ok _ _ _ k hk (Nat.le_trans (ofN_nv_len h.1) h.2.2.1) (Nat.le_trans (ofN_nv_len h.2.1) h.2.2.2)
theorem rat_norm (a : Rat) (h : ratOk 100000000 a) : (rat_Norm a).run = some (norm a) := rat_Norm_run a h
end Go.AM.Lf
namespace Go.AM.PL
abbrev Q := _root_.Rat
def qv (neg : Bool) (n d : Nat) : Q := mkRat (if neg = true then -(n : Int) else (n : Int)) d
def toR (q : Q) : Bool × List Int × List Int × Unit := (decide (q.num < 0), ofN q.num.natAbs, ofN q.den, ())
end Go.AM.PL
namespace Go.AM.Lf
open PL
def val (a : Rat) : Q := qv a.1 (nv a.2.1) (nv a.2.2.1)
end Go.AM.Lf
namespace Go.AM.Lf
open PL
def sgS (b : Bool) : Str := if b = true then [45] else []
theorem sign_run (a : Rat) : (dec_sign a).run = some (sgS a.1) := by
  unfold dec_sign sgS; rw [T.run_iteS]; split <;> rfl
theorem sgS_len (b : Bool) : (sgS b).length ≤ 1 := by unfold sgS; split <;> simp
theorem pr_len (n k : Nat) (h : (ofN n).length ≤ k) : (pr n).length ≤ 18 * k + 1 := by
  unfold pr
  split
  · simp
  · obtain ⟨z, hz⟩ := blk_rd n
    have h1 := blk_len n k (ofN_len_le.1 h)
    have h2 := congrArg List.length hz
    rw [List.length_append] at h2
    rw [dgz_rd]
    simp only [bytesStr, List.length_map, List.length_reverse]
    omega
end Go.AM.Lf
namespace Go.AM.Lf
open PL
def printS (a : Rat) : Str := if nv a.2.2.1 = 1 then sgS a.1 ++ pr (nv a.2.1) else sgS a.1 ++ pr (nv a.2.1) ++ ([47] ++ pr (nv a.2.2.1))
theorem dec_Print_run (a : Rat) (h : ratOk 1000 a) : (dec_Print a).run = some (printS (norm a)) := by
  have hno := norm_ok (by omega) h
  have hrn := rat_norm a (ok_up h (by omega))
  unfold dec_Print
  rw [T.run_bind_of hrn]
  clear hrn
  generalize norm a = v at *
  obtain ⟨hn, hd, ln, ld⟩ := hno
  have hpn := nat_Print_run v.2.1 hn (by omega)
  have hpd := nat_Print_run v.2.2.1 hd (by omega)
  have hl1 := pr_len (nv v.2.1) 1000 (Nat.le_trans (ofN_nv_len hn) ln)
  have hl2 := pr_len (nv v.2.2.1) 1000 (Nat.le_trans (ofN_nv_len hd) ld)
  have hsl := sgS_len v.1
  have h1 : (nat_Of 1).run = some (ofN 1) := nat_Of_run 1 (by omega)
  have hc := nat_Cmp_run v.2.2.1 (ofN 1) hd (limbs_ofN _) (by omega) (by rw [ofN_one]; simp)
  rw [nv_ofN] at hc
  rw [T.run_bind_of (sign_run v), T.run_bind_of hpn, T.run_leN _ (by omega), T.run_bind_of h1, T.run_bind_of hc]
  unfold printS cmpI
  by_cases c : nv v.2.2.1 = 1
  · rw [c, if_pos rfl, if_neg (by omega), if_neg (by omega), T.run_ite_f (by rfl), T.run_ret]; rfl
  · rw [if_neg c, T.run_ite_t (by
      split
      · rfl
      · split
        · rfl
        · omega), T.run_bind_of hpd]
    simp only [cat]
    rw [T.run_leN _ (by simp; omega), T.run_leN _ (by simp; omega), T.run_ret]
end Go.AM.Lf
namespace Go.AM.T
variable {σ ρ α β : Type}
theorem loop_fold {r : σ → T (σ ⊕ ρ)} (l : List α) (d : α) (e : β → Int → σ) (I : Nat → β → Prop) (g : β → α → β) (fin : β → ρ)
    (step : ∀ (k : Nat) (b : β) (x : α), k < l.length → nth l (k : Int) d = x → x ∈ l → I k b → (r (e b (k : Int))).run = some (.inl (e (g b x) ((k + 1 : Nat) : Int))) ∧ I (k + 1) (g b x))
    (done : ∀ b, I l.length b → (r (e b (l.length : Int))).run = some (.inr (fin b))) {b : β} (h0 : I 0 b) : (loop r (e b 0)).run = some (fin (l.foldl g b)) ∧ I l.length (l.foldl g b) := by
  have key : ∀ (n k : Nat) (b : β), n + k = l.length → I k b → (loop r (e b (k : Int))).run = some (fin ((l.drop k).foldl g b)) ∧ I l.length ((l.drop k).foldl g b) := by
    intro n
    induction n with
    | zero =>
      intro k b hk hb
      have : k = l.length := by omega
      subst this
      rw [List.drop_length]
      exact ⟨loop_done (done b hb), hb⟩
    | succ n ih =>
      intro k b hk hb
      have hlt : k < l.length := by omega
      have hd : l.drop k = l[k] :: l.drop (k + 1) := List.drop_eq_getElem_cons hlt
      have hn : nth l (k : Int) d = l[k] := by simp [nth, hlt]
      obtain ⟨h1, h2⟩ := step k b l[k] hlt hn (List.getElem_mem hlt) hb
      rw [hd, List.foldl_cons, loop_step h1]
      exact ih (k + 1) _ (by omega) h2
  have := key l.length 0 b (by omega) h0
  simpa using this
theorem loop_scan {r : σ → T (σ ⊕ ρ)} (l : List α) (d : α) (e : β → Int → σ) (I : Nat → β → Prop) (f : List α → β → ρ)
    (step : ∀ (k : Nat) (b : β) (x : α) (xs : List α), k < l.length → nth l (k : Int) d = x → x ∈ l → l.drop k = x :: xs → I k b →
      (∃ b', (r (e b (k : Int))).run = some (.inl (e b' ((k + 1 : Nat) : Int))) ∧ I (k + 1) b' ∧ f xs b' = f (x :: xs) b) ∨ (r (e b (k : Int))).run = some (.inr (f (x :: xs) b)))
    (done : ∀ b, I l.length b → (r (e b (l.length : Int))).run = some (.inr (f [] b))) {b : β} (h0 : I 0 b) : (loop r (e b 0)).run = some (f l b) := by
  have key : ∀ (n k : Nat) (b : β), n + k = l.length → I k b → (loop r (e b (k : Int))).run = some (f (l.drop k) b) := by
    intro n
    induction n with
    | zero =>
      intro k b hk hb
      have : k = l.length := by omega
      subst this
      rw [List.drop_length]
      exact loop_done (done b hb)
    | succ n ih =>
      intro k b hk hb
      have hlt : k < l.length := by omega
      have hd : l.drop k = l[k] :: l.drop (k + 1) := List.drop_eq_getElem_cons hlt
      have hn : nth l (k : Int) d = l[k] := by simp [nth, hlt]
      rcases step k b l[k] _ hlt hn (List.getElem_mem hlt) hd hb with ⟨b', h1, h2, h3⟩ | h1
      · rw [hd, loop_step h1, ← h3]
        exact ih (k + 1) _ (by omega) h2
      · rw [hd]; exact loop_done h1
  have := key l.length 0 b (by omega) h0
  simpa using this
end Go.AM.T
namespace Go.AM.PL
theorem ix1 (k n : Nat) (h : k < n) (hn : n ≤ 4000000000000) : w64 ((k : Int) + 1) = ((k + 1 : Nat) : Int) := by rw [w64_in (by omega) (by omega)]; omega
theorem lt_t {k n : Nat} (h : k < n) : decide ((k : Int) < (n : Int)) = true := decide_eq_true (by omega)
theorem lt_f (n : Nat) : decide ((n : Int) < (n : Int)) = false := decide_eq_false (by omega)
theorem idx_ok {k n : Nat} (h : k < n) : idxOk (k : Int) n := ⟨by omega, by omega⟩
theorem foldl_cat {α : Type} (f : α → Str) (l : List α) (s : Str) : l.foldl (fun s x => s ++ f x) s = s ++ l.flatMap f := by
  induction l generalizing s with
  | nil => simp
  | cons x l ih => rw [List.foldl_cons, ih, List.flatMap_cons, List.append_assoc]
theorem foldl_snoc {α β : Type} (f : α → β) (l : List α) (s : List β) : l.foldl (fun s x => s ++ [f x]) s = s ++ l.map f := by
  induction l generalizing s with
  | nil => simp
  | cons x l ih => rw [List.foldl_cons, ih, List.map_cons, List.append_assoc]; rfl
theorem mul_mono {k n c : Nat} (h : k ≤ n) : k * c ≤ n * c := Nat.mul_le_mul_right c h
theorem cat_eq (a b : Str) : cat a b = a ++ b := rfl
end Go.AM.PL
namespace Go.AM.Lf
open PL
def i64r (n : Int) : Prop := -9223372036854775808 ≤ n ∧ n ≤ 9223372036854775807
theorem printS_len (a : Rat) (h : ratOk 1000 a) : (printS (norm a)).length ≤ 40000 := by
  have hno := norm_ok (by omega) h
  generalize norm a = v at *
  have h1 := pr_len (nv v.2.1) 1000 (Nat.le_trans (ofN_nv_len hno.1) hno.2.2.1)
  have h2 := pr_len (nv v.2.2.1) 1000 (Nat.le_trans (ofN_nv_len hno.2.1) hno.2.2.2)
  have h3 := sgS_len v.1
  unfold printS
  split <;> simp <;> omega
end Go.AM.Lf
namespace Go.AM.Lf
open PL
theorem rat_Int_run (n : Int) (h : i64r n) : (rat_Int n).run = some (toR (n : Q)) := by
  obtain ⟨h1, h2⟩ := h
  unfold rat_Int
  have hN : (bif (decide (n < (0 : Int))) then (wu64 ((0 : Int) - (wu64 n))) else (wu64 n)) = ((n.natAbs : Nat) : Int) := by
    by_cases c : n < 0
    · rw [decide_eq_true c, cond_true, wu64_mod n, wu64_mod]; omega
    · rw [decide_eq_false c, cond_false, wu64_in (by omega) (by omega)]; omega
  have h1' : (nat_Of 1).run = some (ofN 1) := nat_Of_run 1 (by omega)
  rw [hN, T.run_bind_of (nat_Of_run n.natAbs (by omega)), T.run_bind_of h1', T.run_ret]
  have e : toR (n : Q) = (decide (n < 0), ofN n.natAbs, ofN 1, ()) := by
    unfold toR
    rw [Rat.num_intCast, Rat.den_intCast]
  rw [e]
end Go.AM.Lf
namespace Go.AM.Lf
open PL
theorem strEq_refl (s : Str) : strEq s s = true := by rw [strEq_iff]; simp
theorem dgz_small (n : Nat) (h : n < 10) (h0 : n ≠ 0) : dgz n = [dgt n] := by
  rw [dgz_pos h0, show n / 10 = 0 by omega, dgz_zero]; rfl
theorem limbs_wf {l : List Int} (h : wf (.sl u32) l) : limbs l := fun x hx => by
  obtain ⟨p, q⟩ := h x hx
  have p' : (0 : Int) ≤ x := p
  have q' : x ≤ 4294967295 := q
  exact ⟨p', by omega⟩
theorem rat_wf {a : Rat} (h : wf tyRat a) : limbs a.2.1 ∧ limbs a.2.2.1 := ⟨limbs_wf h.2.1, limbs_wf h.2.2.1⟩
end Go.AM.Lf
namespace Go.AM.Lf
def ixF {α : Type} (p : α → Bool) (i : Int) : List α → Int
  | [] => -1
  | x :: r => if p x = true then i else ixF p (i + 1) r
theorem indexSwitch_run (l : List Switch) (g : Switch → T Bool) (p : Switch → Bool) (hg : ∀ x, (g x).run = some (p x)) (hl : (l.length : Int) ≤ 4611686018427387904) : (slices_IndexFunc_sl_Switch l g).run = some (ixF p 0 l) := by
  have key : (slices_IndexFunc_sl_Switch_L0 l g (l.length : Int) 0).run = some (if ixF p 0 l = -1 then .inl () else .inr (ixF p 0 l)) := by
    have := T.loop_run (r := slices_IndexFunc_sl_Switch_R0 l g (l.length : Int)) (fun i => 0 ≤ i) (fun i => ((l.length : Int) - i).toNat) (fun i => if ixF p i (l.drop i.toNat) = -1 then .inl () else .inr (ixF p i (l.drop i.toNat))) (fun i h => ?_) (s := 0) (Int.le_refl 0)
    · unfold slices_IndexFunc_sl_Switch_L0; simpa using this
    · by_cases hi : i < l.length
      · rw [drop_get l (dflt tySwitch) h hi]
        by_cases hp : p (nth l i (dflt tySwitch)) = true
        · right
          have : ¬ i = -1 := by omega
          simp (disch := omega) [slices_IndexFunc_sl_Switch_R0, hi, hg, hp, ixF, this]
        · left
          refine ⟨i + 1, ?_, by omega, by omega, ?_⟩
          · simp (disch := omega) [slices_IndexFunc_sl_Switch_R0, hi, hg, hp]
          · simp [ixF, hp]
      · right
        rw [drop_end _ hi]
        simp [slices_IndexFunc_sl_Switch_R0, hi, ixF]
  simp only [slices_IndexFunc_sl_Switch, T.run_bind, key]
  split <;> rename_i h <;> simp [h]
def relP (w : List Switch) (on : List Bool) (p : Page) : Bool := strEq p.2.1 [] || (decide (0 ≤ ixF (fun s => strEq s.1 p.2.1) 0 w) && (decide (ixF (fun s => strEq s.1 p.2.1) 0 w < (on.length : Int)) && nth on (ixF (fun s => strEq s.1 p.2.1) 0 w) false))
theorem relevant_run (f : Form) (on : List Bool) (hp : (f.2.2.1.length : Int) ≤ 1000000000000) (hw : (f.1.length : Int) ≤ 4611686018427387904) : (page_Relevant f on).run = some (f.2.2.1.map (relP f.1 on)) := by
  have key : (page_Relevant_L0 on f f.2.2.1 (f.2.2.1.length : Int) (0, [])).run = some (f.2.2.1.map (relP f.1 on)) := by
    refine T.loop_list f.2.2.1 (dflt tyPage) (fun b i => (i, b)) (fun b r => (b.length : Int) + r.length ≤ 1000000000000) (fun r b => b ++ r.map (relP f.1 on)) ?_ ?_ (by simpa using hp)
    · intro b x xs i h0 hi hx hb
      simp only [List.length_cons] at hb
      refine .inl ⟨b ++ [relP f.1 on x], ?_, by simp; omega, by simp⟩
      have hI := indexSwitch_run f.1 (fun z0 => page_Relevant_f1 z0 x) (fun s => strEq s.1 x.2.1) (fun _ => rfl) hw
      have hd : dflt .bool = false := rfl
      by_cases c1 : strEq x.2.1 [] = true
      · simp (disch := omega) [page_Relevant_R0, hi, hx, hI, relP, c1]
      · by_cases c2 : 0 ≤ ixF (fun s => strEq s.1 x.2.1) 0 f.1
        · by_cases c3 : ixF (fun s => strEq s.1 x.2.1) 0 f.1 < (on.length : Int)
          · simp (disch := omega) [page_Relevant_R0, hi, hx, hI, relP, c1, c2, c3, hd]
          · simp (disch := omega) [page_Relevant_R0, hi, hx, hI, relP, c1, c2, c3]
        · simp (disch := omega) [page_Relevant_R0, hi, hx, hI, relP, c1, c2]
    · intro b _
      simp [page_Relevant_R0]
  simp [page_Relevant, key]
end Go.AM.Lf
namespace Go.AM.T
theorem run_same {α β : Type} (a : β) (t : T α) : (obl (a = a) t).run = t.run := run_obl rfl t
end Go.AM.T
namespace Go.AM.Lf
open PL
abbrev tyIt : Ty := .cons .str (.cons tyRat .nil)
abbrev ItT := den tyIt
theorem bytesOf_len (s : Str) : (bytesOf s).length = s.length := by unfold bytesOf; simp
theorem bytesOf_app (s t : Str) : bytesOf (s ++ t) = bytesOf s ++ bytesOf t := by unfold bytesOf; simp
theorem bytesStr_of (s : Str) : bytesStr (bytesOf s) = s := by
  unfold bytesStr bytesOf
  rw [List.map_map]
  conv => rhs; rw [← List.map_id s]
  refine List.map_congr_left fun b _ => ?_
  simp [byteOf]
theorem bytesOf_range (s : Str) : ∀ n ∈ bytesOf s, (0 : Int) ≤ n ∧ n < 256 := by
  intro n hn
  unfold bytesOf at hn
  obtain ⟨b, _, rfl⟩ := List.mem_map.1 hn
  have := b.toNat_lt
  omega
theorem writeString_run (s b : Str) (h : b.length + s.length ≤ 140737488355328) : (strings_Builder_WriteString_S s () (bytesOf b)).run = some ((s.length : Int), (), bytesOf (b ++ s)) := by
  unfold strings_Builder_WriteString_S bld_copyCheck
  simp only [T.bind]
  rw [T.run_cur _ rfl rfl rfl, T.run_true, T.run_app _ rfl rfl rfl (by simp only [bytesOf_len]; omega), T.run_cur _ (by simp) rfl (by simp), T.run_obl (by simp), T.run_ret, bytesOf_app]
theorem bldString_run (b : Str) (h : b.length ≤ 140737488355328) : (bld_String () (bytesOf b)).run = some (b, ()) := by
  unfold bld_String strT
  rw [T.run_obl ⟨bytesOf_range b, by rw [bytesOf_len]; exact h⟩, T.run_ret, bytesStr_of]
def itemS (x : ItT) : Str := x.1 ++ [32] ++ printS (norm x.2.1) ++ [10]
def itemOk (x : ItT) : Prop := x.1.length ≤ 100000 ∧ ratOk 1000 x.2.1
theorem itemS_len {x : ItT} (h : itemOk x) : (itemS x).length ≤ 140003 := by
  have := printS_len _ h.2
  have := h.1
  unfold itemS
  simp only [List.length_append, List.length_cons, List.length_nil]
  omega
theorem encode_run (l : List ItT) (h : ∀ x ∈ l, itemOk x) (hl : l.length ≤ 1000000) : (record_Encode l).run = some (l.flatMap itemS) := by
  have key := T.loop_fold (r := record_Encode_R0 l (l.length : Int)) l (dflt tyIt) (fun (b : Str) i => (i, (), bytesOf b)) (fun k b => b.length ≤ k * 140003) (fun b x => b ++ itemS x) (fun b => ((), bytesOf b)) (fun k b x hk hx hm hI => ?_) (fun b hI => ?_) (b := []) (by simp)
  · obtain ⟨k1, k2⟩ := key
    rw [foldl_cat, List.nil_append] at k1 k2
    have k1 : (record_Encode_L0 l (l.length : Int) ((0 : Int), ((), ([] : List Int)))).run = some ((), bytesOf (l.flatMap itemS)) := k1
    unfold record_Encode
    rw [T.run_cur _ rfl rfl rfl, T.run_same, T.run_bind_of k1]
    dsimp only
    rw [T.run_cur _ rfl rfl rfl, T.run_same, T.run_bind_of (bldString_run _ (by omega))]
    rfl
  · have h1 := printS_len _ (h x hm).2
    have h2 := itemS_len (h x hm)
    have h3 := (h x hm).1
    have h4 := mul_mono (c := 140003) (show k + 1 ≤ l.length from hk)
    rw [Nat.add_mul, Nat.one_mul] at h4
    have hd : (dec_Print (x.2.1.1, (x.2.1.2.1, (x.2.1.2.2.1, ())))).run = some (printS (norm x.2.1)) := dec_Print_run x.2.1 (h x hm).2
    have hw := writeString_run (itemS x) b (by omega)
    refine ⟨?_, by rw [List.length_append, Nat.add_mul, Nat.one_mul]; omega⟩
    unfold record_Encode_R0
    dsimp only
    rw [T.run_ite_t (lt_t hk), T.run_obl (idx_ok hk), hx, T.run_leN _ (by simp; omega), T.run_bind_of hd, T.run_leN _ (by simp [cat_eq]; omega), T.run_leN _ (by simp [cat_eq]; omega), T.run_cur _ rfl rfl rfl, T.run_same]
    have e : cat (cat (cat x.1 [32]) (printS (norm x.2.1))) [10] = itemS x := rfl
    rw [e, T.run_bind_of hw]
    dsimp only
    rw [T.run_cur _ rfl rfl rfl, T.run_same, T.run_ret, ix1 k _ hk (by omega)]
  · unfold record_Encode_R0
    dsimp only
    rw [T.run_ite_f (lt_f _), T.run_cur _ rfl rfl rfl, T.run_same, T.run_ret]
theorem known21_run : (law21_known).run = some true := by
  have l3 : limbs [(3 : Int)] := by intro x hx; simp at hx; omega
  have h1 := encode_run [(([97] : Str), ((false, (([(1 : Int)] : List Int), (([(3 : Int)] : List Int), ()))), ()))] (fun x hx => by
    rw [List.mem_singleton] at hx; subst hx; exact ⟨by simp, one_limb, l3, by simp, by simp⟩) (by simp)
  have n1 : norm (false, [1], [3], ()) = (false, ofN 1, ofN 3, ()) := by
    show ratN false (nv [1]) (nv [3]) = _
    rw [show nv [1] = 1 from rfl, show nv [3] = 3 from rfl]; rfl
  have e : ([(([97] : Str), ((false, (([(1 : Int)] : List Int), (([(3 : Int)] : List Int), ()))), ()))] : List ItT).flatMap itemS = [97, 32, 49, 47, 51, 10] := by
    simp only [List.flatMap_cons, List.flatMap_nil, List.append_nil]
    unfold itemS
    dsimp only
    rw [n1]
    unfold printS
    simp only [nv_ofN]
    rw [if_neg (by omega)]
    unfold pr
    rw [if_neg (by omega), if_neg (by omega), dgz_small 1 (by omega) (by omega), dgz_small 3 (by omega) (by omega)]; rfl
  rw [e] at h1
  unfold law21_known
  rw [T.run_bind_of h1, T.run_ret, strEq_refl]
theorem clone_rat_run (a : List Rat) (hl : a.length ≤ 1000000000000) : (slices_Clone_sl_Rat a).run = some a := by
  unfold slices_Clone_sl_Rat
  rw [T.run_obl]
  · cases a with
    | nil => simp
    | cons x a => simp only [List.length_cons] at hl; simp (disch := omega)
  · rintro rfl r hr
    first
    | simpa [T.leads] using hr
    | (obtain ⟨_, _, hr⟩ := hr; simpa [T.leads] using hr)
theorem fieldsN_run (f : Form) (hl : f.2.2.2.1.length ≤ 1000000000) : (elab_Fields f).run = some (f.2.2.2.1.map (·.1)) := by
  have key := T.loop_fold (r := elab_Fields_R0 f.2.2.2.1 (f.2.2.2.1.length : Int)) f.2.2.2.1 (dflt tyField) (fun (b : List Str) i => (i, b)) (fun k b => b.length = k) (fun b x => b ++ [x.1]) id (fun k b x hk hx hm hI => ?_) (fun b hI => ?_) (b := []) rfl
  · obtain ⟨k1, k2⟩ := key
    rw [foldl_snoc, List.nil_append] at k1 k2
    have k1 : (elab_Fields_L0 f.2.2.2.1 (f.2.2.2.1.length : Int) ((0 : Int), ([] : List Str))).run = some (f.2.2.2.1.map (·.1)) := k1
    unfold elab_Fields
    rw [T.run_cur _ rfl rfl rfl, T.run_same, T.run_bind_of k1, T.run_same, T.run_ret, Nat.zero_add, List.take_length, List.drop_zero]
  · refine ⟨?_, by simp; omega⟩
    unfold elab_Fields_R0
    dsimp only
    rw [T.run_ite_t (lt_t hk), T.run_obl (idx_ok hk), hx, T.run_app _ rfl rfl rfl (by omega), T.run_cur _ (by simp) rfl (by simp), T.run_obl (by simp), T.run_ret, ix1 k _ hk (by omega)]
  · unfold elab_Fields_R0
    dsimp only
    rw [T.run_ite_f (lt_f _), T.run_cur _ rfl rfl rfl, T.run_same, T.run_ret]; rfl
theorem env_run (f : Form) (ps : List Rat) (hl : f.2.2.2.1.length ≤ 1000000000) (hp : f.2.1.length ≤ 1000000000) (hps : ps.length ≤ 1000000000) :
    (elab_Env f ps).run = some (f.2.2.2.1.map (·.1), f.2.1.map (·.1), ps, ()) := by
  have key := T.loop_fold (r := elab_Env_R0 f.2.1 (f.2.1.length : Int)) f.2.1 (dflt tyParam) (fun (b : List Str) i => (i, (([] : List Rat), ()), (f.2.2.2.1.map (·.1), ps, ()), [], [], b)) (fun k b => b.length = k) (fun b x => b ++ [x.1])
    (fun b => ((([] : List Rat), ()), (f.2.2.2.1.map (·.1), ps, ()), [], [], b)) (fun k b x hk hx hm hI => ?_) (fun b hI => ?_) (b := []) rfl
  · obtain ⟨k1, k2⟩ := key
    rw [foldl_snoc, List.nil_append] at k1 k2
    have k1 : (elab_Env_L0 f.2.1 (f.2.1.length : Int) ((0 : Int), ((([] : List Rat), ()), ((f.2.2.2.1.map (·.1), (ps, ())), (([] : List Str), (([] : List Str), ([] : List Str))))))).run = some ((([] : List Rat), ()), (f.2.2.2.1.map (·.1), ps, ()), [], [], f.2.1.map (·.1)) := k1
    unfold elab_Env
    rw [T.run_bind_of (fieldsN_run f hl), T.run_bind_of (clone_rat_run ps (by omega)), T.run_cur _ rfl rfl rfl, T.run_cur _ rfl rfl rfl, T.run_cur _ rfl rfl rfl, T.run_same, T.run_same, T.run_same, T.run_bind_of k1, T.run_same, T.run_ret, Nat.zero_add, List.take_length, List.drop_zero]
  · refine ⟨?_, by simp; omega⟩
    unfold elab_Env_R0
    dsimp only
    rw [T.run_ite_t (lt_t hk), T.run_obl (idx_ok hk), hx, T.run_app _ rfl rfl rfl (by omega), T.run_cur _ rfl rfl rfl, T.run_cur _ rfl rfl rfl, T.run_cur _ (by simp) rfl (by simp), T.run_same, T.run_same, T.run_obl (by simp), T.run_ret, ix1 k _ hk (by omega)]
  · unfold elab_Env_R0
    dsimp only
    rw [T.run_ite_f (lt_f _), T.run_cur _ rfl rfl rfl, T.run_cur _ rfl rfl rfl, T.run_cur _ rfl rfl rfl, T.run_same, T.run_same, T.run_same, T.run_ret]
end Go.AM.Lf
namespace Go.AM.Lf
open PL
theorem foldl_catL {α β : Type} (f : α → List β) (l : List α) (s : List β) : l.foldl (fun s x => s ++ f x) s = s ++ l.flatMap f := by
  induction l generalizing s with
  | nil => simp
  | cons x r ih => rw [List.foldl_cons, ih, List.flatMap_cons, List.append_assoc]
theorem flat_filter {α β : Type} (p : α → Bool) (f : α → β) (l : List α) : (l.flatMap fun x => if p x = true then [f x] else []) = (l.filter p).map f := by
  induction l with
  | nil => rfl
  | cons x r ih =>
    rw [List.flatMap_cons, List.filter_cons, ih]
    by_cases h : p x = true
    · rw [if_pos h, if_pos h]; rfl
    · rw [if_neg h, if_neg h]; rfl
theorem miss1_run (f : Form) (d : doc_Doc) (i : Int) (x3 : List Bool) (x4 x5 : Int) (l : List Field) (v : aff_Env) (xs : List Str) (c : Bool) (hl : l.length ≤ 1000000000) (hx : xs.length ≤ 1000000000000)
    (hc : ∀ k < l.length, (decide ((d.2.2.2.2.2.1.length : Int) ≤ (k : Int)) || (!(nth d.2.2.2.2.2.1 (k : Int) (dflt .bool)))) = c) :
    (record_Missing_L1 f d i x3 x4 x5 l (l.length : Int) (0, v, xs)).run = some (v, xs ++ (l.filter fun x => x.2.1 == i && (x.2.2.1 && c)).map (·.1)) := by
  have key := T.loop_fold (r := record_Missing_R1 f d i x3 x4 x5 l (l.length : Int)) l (dflt tyField) (fun (b : List Str) i => (i, v, b)) (fun k b => b.length ≤ xs.length + k) (fun b x => b ++ if (x.2.1 == i && (x.2.2.1 && c)) = true then [x.1] else [])
    (fun b => (v, b)) (fun k b x hk hx hm hI => ?_) (fun b hI => ?_) (b := xs) (by simp)
  · rw [foldl_catL, flat_filter] at key
    exact key.1
  · have hci := hc k hk
    unfold record_Missing_R1
    dsimp only
    rw [T.run_ite_t (lt_t hk), T.run_obl (idx_ok hk), hx, T.run_obl (fun _ _ h => by have := of_decide_eq_false h; exact ⟨by omega, by omega⟩), hci]
    by_cases q : (x.2.1 == i && (x.2.2.1 && c)) = true
    · rw [if_pos q, T.run_ite_t q, T.run_app _ rfl rfl rfl (by omega), T.run_cur _ (by simp) rfl (by simp), T.run_obl (by simp), T.run_ret, ix1 k _ hk (by omega)]
      exact ⟨rfl, by simp; omega⟩
    · rw [if_neg q, T.run_ite_f (by simpa using q), T.run_cur _ rfl rfl rfl, T.run_same, T.run_ret, ix1 k _ hk (by omega), List.append_nil]
      exact ⟨rfl, by omega⟩
  · unfold record_Missing_R1
    dsimp only
    rw [T.run_ite_f (lt_f _), T.run_cur _ rfl rfl rfl, T.run_same, T.run_ret]
theorem miss2_run (f : Form) (d : doc_Doc) (i : Int) (x3 : List Bool) (x4 x5 : Int) (l : List Check) (v : aff_Env) (xs : List Str) (p : Check → Bool) (hl : l.length ≤ 1000000000) (hx : xs.length ≤ 1000000000000)
    (hp : ∀ c ∈ l, (record_fails c v d.2.2.1).run = some (p c)) :
    (record_Missing_L2 f d i x3 x4 x5 l (l.length : Int) (0, v, xs)).run = some (v, xs ++ (l.filter fun x => x.2.1 == i && p x).map (·.1)) := by
  have key := T.loop_fold (r := record_Missing_R2 f d i x3 x4 x5 l (l.length : Int)) l (dflt tyCheck) (fun (b : List Str) i => (i, v, b)) (fun k b => b.length ≤ xs.length + k) (fun b x => b ++ if (x.2.1 == i && p x) = true then [x.1] else [])
    (fun b => (v, b)) (fun k b x hk hx hm hI => ?_) (fun b hI => ?_) (b := xs) (by simp)
  · rw [foldl_catL, flat_filter] at key
    exact key.1
  · have hpx := hp x hm
    unfold record_Missing_R2
    dsimp only
    rw [T.run_ite_t (lt_t hk), T.run_obl (idx_ok hk), hx]
    have inner : (T.ite (x.2.1 == i) ((record_fails x v d.2.2.1).bind fun r2 => .obl (curOk (List.length b) (0 : Nat) (List.length b) (List.length b)) <| .obl ((List.length b) = (List.length b)) <| .ret (r2, (v, (b, x))))
        (.obl (curOk (List.length b) (0 : Nat) (List.length b) (List.length b)) <| .obl ((List.length b) = (List.length b)) <| .ret (false, (v, (b, x)))) : T (Bool × aff_Env × List Str × Check)).run = some (x.2.1 == i && p x, v, b, x) := by
      cases q : (x.2.1 == i) with
      | true => rw [T.run_ite_true, T.run_bind_of hpx, T.run_cur _ rfl rfl rfl, T.run_same, T.run_ret, Bool.true_and]
      | false => rw [T.run_ite_false, T.run_cur _ rfl rfl rfl, T.run_same, T.run_ret, Bool.false_and]
    rw [T.run_bind_of inner]
    dsimp only
    by_cases q : (x.2.1 == i && p x) = true
    · rw [if_pos q, T.run_ite_t q, T.run_app _ rfl rfl rfl (by omega), T.run_cur _ (by simp) rfl (by simp), T.run_obl (by simp), T.run_ret, ix1 k _ hk (by omega)]
      exact ⟨rfl, by simp; omega⟩
    · rw [if_neg q, T.run_ite_f (by simpa using q), T.run_cur _ rfl rfl rfl, T.run_same, T.run_ret, ix1 k _ hk (by omega), List.append_nil]
      exact ⟨rfl, by omega⟩
  · unfold record_Missing_R2
    dsimp only
    rw [T.run_ite_f (lt_f _), T.run_cur _ rfl rfl rfl, T.run_same, T.run_ret]
def missP (f : Form) (c : Bool) (p : Check → Bool) (i : Int) : List Str := (f.2.2.2.1.filter fun x => x.2.1 == i && (x.2.2.1 && c)).map (·.1) ++ (f.2.2.2.2.2.1.filter fun x => x.2.1 == i && p x).map (·.1)
theorem missP_len (f : Form) (c : Bool) (p : Check → Bool) (i : Int) : (missP f c p i).length ≤ f.2.2.2.1.length + f.2.2.2.2.2.1.length := by
  unfold missP
  rw [List.length_append, List.length_map, List.length_map]
  exact Nat.add_le_add (List.length_filter_le _ _) (List.length_filter_le _ _)
theorem missing_run (f : Form) (d : doc_Doc) (c : Bool) (p : Check → Bool) (h1 : f.1.length ≤ 100000) (h2 : f.2.1.length ≤ 100000) (h3 : f.2.2.1.length ≤ 100000) (h4 : f.2.2.2.1.length ≤ 100000) (h5 : f.2.2.2.2.2.1.length ≤ 100000) (h6 : d.1.length ≤ 100000)
    (hc : ∀ k < f.2.2.2.1.length, (decide ((d.2.2.2.2.2.1.length : Int) ≤ (k : Int)) || (!(nth d.2.2.2.2.2.1 (k : Int) (dflt .bool)))) = c)
    (hp : ∀ x ∈ f.2.2.2.2.2.1, (record_fails x (f.2.2.2.1.map (·.1), f.2.1.map (·.1), d.1, ()) d.2.2.1).run = some (p x)) :
    (record_Missing f d).run = some ((f.2.2.1.map (relP f.1 d.2.1)).zipIdx.flatMap fun x => if x.1 = true then missP f c p (x.2 : Int) else []) := by
  have hv := env_run f d.1 (by omega) (by omega) (by omega)
  have hr := relevant_run f d.2.1 (by omega) (by omega)
  have hrl : (f.2.2.1.map (relP f.1 d.2.1)).length ≤ 100000 := by rw [List.length_map]; exact h3
  generalize hV : ((f.2.2.2.1.map (·.1), f.2.1.map (·.1), d.1, ()) : aff_Env) = v at *
  generalize f.2.2.1.map (relP f.1 d.2.1) = rel at *
  unfold record_Missing
  rw [T.run_bind_of hv, T.run_bind_of hr, T.run_cur _ rfl rfl rfl, T.run_same]
  have key := T.loop_fold (r := record_Missing_R0 f d rel (rel.length : Int)) rel.zipIdx (false, 0) (fun (b : List Str) i => (i, v, b)) (fun k b => b.length ≤ k * 200000) (fun b x => b ++ if x.1 = true then missP f c p (x.2 : Int) else [])
    (fun b => (v, b)) (fun k b x hk hx hm hI => ?_) (fun b hI => ?_) (b := []) (by simp)
  · rw [foldl_catL, List.nil_append] at key
    have k1 : (record_Missing_L0 f d rel (rel.length : Int) ((0 : Int), (v, ([] : List Str)))).run = some (v, rel.zipIdx.flatMap fun x => if x.1 = true then missP f c p (x.2 : Int) else []) := key.1
    rw [T.run_bind_of k1]
    dsimp only
    rw [T.run_same, T.run_ret, Nat.zero_add, List.take_length, List.drop_zero]
  · rw [List.length_zipIdx] at hk
    have hx1 : x = (rel[k], k) := by
      rw [← hx]
      unfold nth
      rw [Int.toNat_natCast, List.getD_eq_getElem?_getD, List.getElem?_zipIdx, List.getElem?_eq_getElem hk]
      simp
    have hn : nth rel (k : Int) (dflt .bool) = rel[k] := by simp [nth, hk]
    have hkk : k * 200000 ≤ 100000 * 200000 := mul_mono (by omega)
    subst hx1
    unfold record_Missing_R0
    dsimp only
    rw [T.run_ite_t (lt_t hk), T.run_obl (idx_ok hk), hn]
    cases q : rel[k] with
    | false =>
      rw [T.run_ite_t (by rfl), T.run_cur _ rfl rfl rfl, T.run_same, T.run_ret, ix1 k _ hk (by omega), if_neg (by simp), List.append_nil]
      exact ⟨rfl, Nat.le_trans hI (Nat.mul_le_mul_right _ (Nat.le_succ k))⟩
    | true =>
      have m1 := miss1_run f d (k : Int) rel (rel.length : Int) (k : Int) f.2.2.2.1 v b c (by omega) (by omega) hc
      have hb1 : (b ++ (f.2.2.2.1.filter fun x => x.2.1 == (k : Int) && (x.2.2.1 && c)).map (·.1)).length ≤ k * 200000 + 100000 := by
        rw [List.length_append, List.length_map]
        exact Nat.add_le_add hI (Nat.le_trans (List.length_filter_le _ _) h4)
      have m2 := miss2_run f d (k : Int) rel (rel.length : Int) (k : Int) f.2.2.2.2.2.1 v _ p (by omega) (by omega : (b ++ (f.2.2.2.1.filter fun x => x.2.1 == (k : Int) && (x.2.2.1 && c)).map (·.1)).length ≤ 1000000000000) hp
      have hlen := missP_len f c p (k : Int)
      rw [T.run_ite_f (by rfl), T.run_cur _ rfl rfl rfl, T.run_same, T.run_bind_of m1]
      dsimp only
      rw [T.run_cur _ rfl rfl rfl, T.run_same, T.run_bind_of m2]
      dsimp only
      rw [T.run_cur _ rfl rfl rfl, T.run_same, T.run_ret, ix1 k _ hk (by omega), if_pos rfl, List.append_assoc]
      exact ⟨rfl, by rw [List.length_append]; omega⟩
  · rw [List.length_zipIdx] at hI ⊢
    unfold record_Missing_R0
    dsimp only
    rw [T.run_ite_f (lt_f _), T.run_cur _ rfl rfl rfl, T.run_same, T.run_ret]
end Go.AM.Lf
namespace Go.AM.Lf
open PL
theorem texts21_refl (a : List Str) (hl : a.length ≤ 1000000000) : (law21_texts a a).run = some true := by
  have key : (law21_texts_L0 a a 0).run = some (.inl ()) := by
    refine T.loop_scan (r := law21_texts_R0 a a) a (dflt .str) (fun (_ : Unit) i => i) (fun _ _ => True) (fun _ _ => (.inl () : Unit ⊕ Bool)) (fun k _ x xs hk hx hm hd hI => ?_) (fun _ _ => ?_) (b := ()) trivial
    · left
      refine ⟨(), ?_, trivial, rfl⟩
      unfold law21_texts_R0
      rw [T.run_ite_t (lt_t hk), T.run_obl (idx_ok hk), T.run_obl (idx_ok hk), strEq_refl, T.run_ite_f (by rfl), T.run_ret, ix1 k _ hk (by omega)]
    · unfold law21_texts_R0
      rw [T.run_ite_f (lt_f _), T.run_ret]
  unfold law21_texts
  rw [T.run_ite_f (by simp), T.run_bind_of key]; rfl
end Go.AM.Lf
namespace Go.AM.Lf
open PL
theorem bkE_pos (e : Expr) : 1 ≤ bkE e := by cases e; simp only [bkE]; omega
theorem bkEs_mem {l : List Expr} {e : Expr} (h : e ∈ l) : bkE e ≤ bkEs l := by
  induction l with
  | nil => cases h
  | cons x r ih =>
    simp only [bkEs]
    rcases List.mem_cons.1 h with rfl | h
    · omega
    · have := ih h; omega
theorem bkEs_kids (e : Expr) : bkEs e.kids < bkE e := by cases e; simp only [Expr.kids, bkE]; omega
theorem bkEs_len (l : List Expr) : l.length ≤ bkEs l := by
  induction l with
  | nil => exact Nat.le_refl _
  | cons x r ih => have := bkE_pos x; simp only [bkEs, List.length_cons]; omega
end Go.AM.Lf
namespace Go.AM.Lf
open PL
mutual
def wtE : Expr → Int → Int
  | .mk _ n s l, left => wtEs l (left - 3 - s.length - 8 * n.2.1.length - 8 * n.2.2.1.length)
def wtEs : List Expr → Int → Int
  | [], left => left
  | e :: r, left => if 0 ≤ left then wtEs r (wtE e left) else left
end
mutual
theorem wtE_le : ∀ (e : Expr) (left : Int), wtE e left ≤ left ∧ left - 16 * bkE e ≤ wtE e left
  | .mk _ n s l, left => by
    have := wtEs_le l (left - 3 - s.length - 8 * n.2.1.length - 8 * n.2.2.1.length)
    simp only [wtE, bkE]
    constructor <;> omega
theorem wtEs_le : ∀ (l : List Expr) (left : Int), wtEs l left ≤ left ∧ left - 16 * bkEs l ≤ wtEs l left
  | [], left => by simp [wtEs, bkEs]
  | e :: r, left => by
    have h1 := wtE_le e left
    have h2 := wtEs_le r (wtE e left)
    simp only [wtEs, bkEs]
    split <;> constructor <;> omega
end
theorem wtEs_neg (l : List Expr) (left : Int) (h : ¬ 0 ≤ left) : wtEs l left = left := by cases l <;> simp [wtEs, h]
end Go.AM.Lf
namespace Go.AM.Lf
open PL
theorem sumB_mem {α : Type} (f : α → Nat) (l : List α) : ∀ x ∈ l, f x ≤ sumB f l := by
  induction l with
  | nil => intro x hx; cases hx
  | cons y l ih =>
    intro x hx
    show _ ≤ f y + sumB f l
    rcases List.mem_cons.1 hx with rfl | hx
    · omega
    · have := ih x hx; omega
theorem sumB_len {α : Type} (f : α → Nat) (l : List α) (h : ∀ x, 1 ≤ f x) : l.length ≤ sumB f l := by
  induction l with
  | nil => simp
  | cons y l ih =>
    show _ ≤ f y + sumB f l
    have := h y
    simp; omega
end Go.AM.Lf
namespace Go.AM.Lf
open PL
mutual
/-- What an expression weighs. -/
def szE : Expr → Nat
  | .mk _ n s l => 3 + s.length + 8 * n.2.1.length + 8 * n.2.2.1.length + szEs l
def szEs : List Expr → Nat
  | [] => 0
  | e :: r => szE e + szEs r
end
mutual
theorem wtE_sz : ∀ (e : Expr) (left : Int), 0 ≤ wtE e left → wtE e left = left - szE e
  | .mk _ n s l, left, h => by
    have := wtEs_sz l (left - 3 - s.length - 8 * n.2.1.length - 8 * n.2.2.1.length)
    simp only [wtE, szE] at h ⊢
    rw [this h]; omega
theorem wtEs_sz : ∀ (l : List Expr) (left : Int), 0 ≤ wtEs l left → wtEs l left = left - szEs l
  | [], left, h => by simp [wtEs, szEs]
  | e :: r, left, h => by
    have h1 := wtE_sz e left
    have h2 := wtEs_sz r (wtE e left)
    have h3 := (wtEs_le r (wtE e left)).1
    by_cases c : 0 ≤ left
    · simp only [wtEs, szEs, if_pos c] at h ⊢
      rw [h2 h, h1 (by omega)]; omega
    · simp only [wtEs, if_neg c] at h; omega
end
structure FB (f : Form) : Prop where
  l1 : f.1.length ≤ 1048576
  l2 : f.2.1.length ≤ 1048576
  l3 : f.2.2.1.length ≤ 1048576
  l4 : f.2.2.2.1.length ≤ 1048576
  l5 : f.2.2.2.2.1.length ≤ 1048576
  l6 : f.2.2.2.2.2.1.length ≤ 1048576
  s : ∀ x ∈ f.1, x.1.length ≤ 1048576
  p : ∀ x ∈ f.2.1, x.1.length ≤ 1048576 ∧ x.2.1.2.1.length ≤ 1048576 ∧ x.2.1.2.2.1.length ≤ 1048576 ∧ limbs x.2.1.2.1 ∧ limbs x.2.1.2.2.1
  g : ∀ x ∈ f.2.2.1, x.1.length ≤ 1048576 ∧ x.2.1.length ≤ 1048576
  d : ∀ x ∈ f.2.2.2.1, x.1.length ≤ 1048576
  r : ∀ x ∈ f.2.2.2.2.1, x.1.length ≤ 1048576 ∧ x.2.2.1.length ≤ 1048576 ∧ bkE x.2.2.2.1 ≤ 1048576 ∧ bkE x.2.2.2.2.1 ≤ 1048576
  c : ∀ x ∈ f.2.2.2.2.2.1, x.1.length ≤ 1048576 ∧ bkE x.2.2.2.1 ≤ 1048576 ∧ bkE x.2.2.2.2.1 ≤ 1048576
theorem fb_of {f : Form} (hw : wf tyForm f) (hb : bk tyForm f ≤ 1048576) : FB f := by
  have e1 : bk tyForm f = (sumB (bk tySwitch) f.1 + 1) + ((sumB (bk tyParam) f.2.1 + 1) + ((sumB (bk tyPage) f.2.2.1 + 1) + ((sumB (bk tyField) f.2.2.2.1 + 1) + ((sumB (bk tyRule) f.2.2.2.2.1 + 1) + ((sumB (bk tyCheck) f.2.2.2.2.2.1 + 1) + 1))))) := rfl
  have b1 : ∀ x, bk tySwitch x = (x.1.length + 1) + (1 + 1) := fun _ => rfl
  have b2 : ∀ x, bk tyParam x = (x.1.length + 1) + ((1 + ((sumB (bk u32) x.2.1.2.1 + 1) + ((sumB (bk u32) x.2.1.2.2.1 + 1) + 1))) + 1) := fun _ => rfl
  have b3 : ∀ x, bk tyPage x = (x.1.length + 1) + ((x.2.1.length + 1) + 1) := fun _ => rfl
  have b4 : ∀ x, bk tyField x = (x.1.length + 1) + (1 + (1 + (1 + 1))) := fun _ => rfl
  have b5 : ∀ x, bk tyRule x = (x.1.length + 1) + (1 + ((x.2.2.1.length + 1) + (bkE x.2.2.2.1 + (bkE x.2.2.2.2.1 + 1)))) := fun _ => rfl
  have b6 : ∀ x, bk tyCheck x = (x.1.length + 1) + (1 + (1 + (bkE x.2.2.2.1 + (bkE x.2.2.2.2.1 + 1)))) := fun _ => rfl
  have u1 : ∀ l : List Int, sumB (bk u32) l = l.length := fun l => sumB_one l
  have k1 := sumB_len (bk tySwitch) f.1 (fun x => by rw [b1]; omega)
  have k2 := sumB_len (bk tyParam) f.2.1 (fun x => by rw [b2]; omega)
  have k3 := sumB_len (bk tyPage) f.2.2.1 (fun x => by rw [b3]; omega)
  have k4 := sumB_len (bk tyField) f.2.2.2.1 (fun x => by rw [b4]; omega)
  have k5 := sumB_len (bk tyRule) f.2.2.2.2.1 (fun x => by rw [b5]; omega)
  have k6 := sumB_len (bk tyCheck) f.2.2.2.2.2.1 (fun x => by rw [b6]; omega)
  rw [e1] at hb
  refine ⟨by omega, by omega, by omega, by omega, by omega, by omega, fun x hx => ?_, fun x hx => ?_, fun x hx => ?_, fun x hx => ?_, fun x hx => ?_, fun x hx => ?_⟩
  · have := sumB_mem (bk tySwitch) f.1 x hx; rw [b1] at this; omega
  · have := sumB_mem (bk tyParam) f.2.1 x hx
    rw [b2, u1, u1] at this
    have hwx : wf tyParam x := hw.2.1 x hx
    obtain ⟨r1, r2⟩ := rat_wf hwx.2.1
    exact ⟨by omega, by omega, by omega, r1, r2⟩
  · have := sumB_mem (bk tyPage) f.2.2.1 x hx; rw [b3] at this; exact ⟨by omega, by omega⟩
  · have := sumB_mem (bk tyField) f.2.2.2.1 x hx; rw [b4] at this; omega
  · have := sumB_mem (bk tyRule) f.2.2.2.2.1 x hx; rw [b5] at this; exact ⟨by omega, by omega, by omega, by omega⟩
  · have := sumB_mem (bk tyCheck) f.2.2.2.2.2.1 x hx; rw [b6] at this; exact ⟨by omega, by omega, by omega⟩
theorem heavy_loop {r : Int × Int → T ((Int × Int) ⊕ Int)} (len : Nat) (hlen : len ≤ 1048576) (P : Nat → Prop)
    (h1 : ∀ (n : Int) (k : Nat), k < len → 0 ≤ n → n ≤ 600 → ∃ n', (r (n, (k : Int))).run = some (.inl (n', ((k + 1 : Nat) : Int))) ∧ -10000000000 ≤ n' ∧ n' ≤ n ∧ (0 ≤ n' → P k))
    (h2 : ∀ (n : Int) (k : Nat), ¬ (k < len ∧ 0 ≤ n) → (r (n, (k : Int))).run = some (.inr n)) (n : Int) (hn : -10000000000 ≤ n) (hn2 : n ≤ 600) :
    ∃ n', (T.loop r (n, 0)).run = some n' ∧ -10000000000 ≤ n' ∧ n' ≤ n ∧ (0 ≤ n' → ∀ k < len, P k) := by
  refine T.loop_post (fun s : Int × Int => ∃ k : Nat, s.2 = (k : Int) ∧ k ≤ len ∧ -10000000000 ≤ s.1 ∧ s.1 ≤ n ∧ (0 ≤ s.1 → ∀ j < k, P j)) (fun s => len - s.2.toNat) _ (fun s hs => ?_) ⟨0, rfl, by omega, hn, by omega, fun _ j hj => by omega⟩
  obtain ⟨m, i⟩ := s
  obtain ⟨k, rfl, hk, hm, hm2, hP⟩ := hs
  by_cases c : k < len ∧ 0 ≤ m
  · left
    obtain ⟨n', g1, g2, g3, g4⟩ := h1 m k c.1 c.2 (by dsimp only at hm2; omega)
    refine ⟨_, g1, ⟨k + 1, rfl, c.1, g2, by dsimp only at hm2 ⊢; omega, fun h0 j hj => ?_⟩, by dsimp only; omega⟩
    rcases Nat.lt_succ_iff_lt_or_eq.1 hj with hj | rfl
    · exact hP c.2 j hj
    · exact g4 h0
  · right
    refine ⟨m, h2 m k c, hm, hm2, fun h0 j hj => hP h0 j ?_⟩
    have : k = len := by
      by_cases q : k < len
      · exact absurd ⟨q, h0⟩ c
      · omega
    omega
theorem and_f {k len : Nat} {n : Int} (h : ¬ (k < len ∧ 0 ≤ n)) : (decide ((k : Int) < (len : Int)) && decide (0 ≤ n)) = false := by
  by_cases q : k < len
  · have : ¬ 0 ≤ n := fun z => h ⟨q, z⟩
    rw [decide_eq_false this, Bool.and_false]
  · rw [decide_eq_false (by omega), Bool.false_and]
theorem and_t {k len : Nat} {n : Int} (h : k < len) (h0 : 0 ≤ n) : (decide ((k : Int) < (len : Int)) && decide (0 ≤ n)) = true := by
  rw [decide_eq_true (by omega), decide_eq_true h0]; rfl
end Go.AM.Lf
namespace Go.AM.Lf
open PL
theorem weight21_run (e : Expr) (left : Int) (h0 : -100000000000 ≤ left) (h1 : left ≤ 600) (hb : bkE e ≤ 1000000000) : (law21_weight e left).run = some (wtE e left) := by
  unfold law21_weight
  refine T.fix_run (fun x : Expr × Int => -100000000000 ≤ x.2 ∧ x.2 ≤ 600 ∧ bkE x.1 ≤ 1000000000) (fun x => bkE x.1) (fun x => wtE x.1 x.2) (fun x hx g hg => ?_) (x := (e, left)) ⟨h0, h1, hb⟩
  obtain ⟨e, left⟩ := x
  obtain ⟨h0, h1, hx⟩ := hx
  simp only at hx hg h0 h1
  have hk := bkEs_kids e
  have hkl := bkEs_len e.kids
  have loop : ∀ acc : Int, -1000000000000 ≤ acc → acc ≤ 600 → (law21_weight_L0 (fun y0 y1 => g (y0, y1)) e (acc, 0)).run = some (wtEs e.kids acc) := by
    intro acc a1 a2
    refine T.loop_list e.kids (dflt .expr) (fun b i => (b, i)) (fun b r => b ≤ 600 ∧ ∀ x ∈ r, x ∈ e.kids) (fun r b => wtEs r b) ?_ ?_ ⟨a2, fun x hx => hx⟩
    · rintro b x xs i hi0 hi hx ⟨b1, b2⟩
      by_cases hb0 : 0 ≤ b
      · have hm := bkEs_mem (b2 x List.mem_cons_self)
        have hr := hg (x, b) ⟨by simp only; omega, b1, by simp only; omega⟩ (by simp only; omega)
        simp only at hr
        have := (wtE_le x b).1
        refine .inl ⟨wtE x b, ?_, ⟨by omega, fun y hy => b2 y (List.mem_cons_of_mem _ hy)⟩, ?_⟩
        · simp (disch := omega) [law21_weight_R0, hi, hx, hb0, hr]
        · simp [wtEs, hb0]
      · right
        have hw : wtEs (x :: xs) b = b := wtEs_neg _ _ hb0
        simp [law21_weight_R0, hi, hb0, hw]
    · rintro b _
      simp [law21_weight_R0, wtEs]
  unfold law21_weight_B
  cases e with | mk k n s kids =>
  simp only [Expr.kids, Expr.name, Expr.num, bkE] at *
  have hL := loop (left - 3 - s.length - 8 * n.2.1.length - 8 * n.2.2.1.length) (by omega) (by omega)
  rw [w64_in (x := left - 3) (by omega) (by omega), w64_in (x := left - 3 - s.length) (by omega) (by omega), w64_in (x := 8 * (n.2.1.length : Int)) (by omega) (by omega), w64_in (x := left - 3 - s.length - 8 * n.2.1.length) (by omega) (by omega),
    w64_in (x := 8 * (n.2.2.1.length : Int)) (by omega) (by omega), w64_in (by omega) (by omega), T.run_bind_of hL, T.run_ret]
  rfl
structure FL (f : Form) : Prop where
  n : f.1.length + f.2.1.length + f.2.2.1.length + f.2.2.2.1.length + f.2.2.2.2.1.length + f.2.2.2.2.2.1.length ≤ 30
  s : ∀ x ∈ f.1, x.1.length ≤ 600
  p : ∀ x ∈ f.2.1, x.1.length ≤ 600 ∧ x.2.1.2.1.length ≤ 75 ∧ x.2.1.2.2.1.length ≤ 75
  g : ∀ x ∈ f.2.2.1, x.1.length ≤ 600 ∧ x.2.1.length ≤ 600
  d : ∀ x ∈ f.2.2.2.1, x.1.length ≤ 600
  r : ∀ x ∈ f.2.2.2.2.1, x.1.length ≤ 600 ∧ x.2.2.1.length ≤ 600 ∧ szE x.2.2.2.1 ≤ 600 ∧ szE x.2.2.2.2.1 ≤ 600
  c : ∀ x ∈ f.2.2.2.2.2.1, x.1.length ≤ 600 ∧ szE x.2.2.2.1 ≤ 600 ∧ szE x.2.2.2.2.1 ≤ 600
theorem all_at {α : Type} {l : List α} {P : α → Prop} (h : ∀ k (hk : k < l.length), P l[k]) : ∀ x ∈ l, P x := by
  intro x hx
  obtain ⟨k, hk, rfl⟩ := List.getElem_of_mem hx
  exact h k hk
theorem nth_at {α : Type} {l : List α} {k : Nat} (h : k < l.length) (d : α) : nth l (k : Int) d = l[k] := by simp [nth, h]
theorem heavy21_run (f : Form) (h : FB f) : ∃ b, (law21_heavy f).run = some b ∧ (b = false → FL f) := by
  obtain ⟨hl1, hl2, hl3, hl4, hl5, hl6, hs, hp, hg, hd, hr, hc⟩ := h
  unfold law21_heavy
  have e0 : w64 ((600 : Int) - (w64 ((20 : Int) * (w64 ((w64 ((w64 ((w64 ((w64 ((f.1.length : Int) + (f.2.1.length : Int))) + (f.2.2.1.length : Int))) + (f.2.2.2.1.length : Int))) + (f.2.2.2.2.1.length : Int))) + (f.2.2.2.2.2.1.length : Int)))))) =
      600 - 20 * ((f.1.length + f.2.1.length + f.2.2.1.length + f.2.2.2.1.length + f.2.2.2.2.1.length + f.2.2.2.2.2.1.length : Nat) : Int) := by
    rw [w64_in (x := (f.1.length : Int) + (f.2.1.length : Int)) (by omega) (by omega), w64_in (x := (f.1.length : Int) + (f.2.1.length : Int) + (f.2.2.1.length : Int)) (by omega) (by omega), w64_in (x := (f.1.length : Int) + (f.2.1.length : Int) + (f.2.2.1.length : Int) + (f.2.2.2.1.length : Int)) (by omega) (by omega),
      w64_in (x := (f.1.length : Int) + (f.2.1.length : Int) + (f.2.2.1.length : Int) + (f.2.2.2.1.length : Int) + (f.2.2.2.2.1.length : Int)) (by omega) (by omega), w64_in (x := (f.1.length : Int) + (f.2.1.length : Int) + (f.2.2.1.length : Int) + (f.2.2.2.1.length : Int) + (f.2.2.2.2.1.length : Int) + (f.2.2.2.2.2.1.length : Int)) (by omega) (by omega),
      w64_in (x := 20 * _) (by omega) (by omega), w64_in (by omega) (by omega)]
    omega
  rw [e0]
  obtain ⟨N, hN⟩ : ∃ N, f.1.length + f.2.1.length + f.2.2.1.length + f.2.2.2.1.length + f.2.2.2.2.1.length + f.2.2.2.2.2.1.length = N := ⟨_, rfl⟩
  rw [hN]
  obtain ⟨n1, r1, a1, b1, P1⟩ := heavy_loop (r := law21_heavy_R0 f) f.2.1.length hl2 (fun k => ∀ hk : k < f.2.1.length, f.2.1[k].1.length ≤ 600 ∧ f.2.1[k].2.1.2.1.length ≤ 75 ∧ f.2.1[k].2.1.2.2.1.length ≤ 75) (fun n k hk h0 h6 => by
    obtain ⟨q1, q2, q3, _⟩ := hp _ (List.getElem_mem hk)
    refine ⟨n - 8 * f.2.1[k].2.1.2.1.length - 8 * f.2.1[k].2.1.2.2.1.length - f.2.1[k].1.length, ?_, by omega, by omega, fun h0 _ => ⟨by omega, by omega, by omega⟩⟩
    unfold law21_heavy_R0
    dsimp only
    rw [T.run_ite_t (and_t hk h0), T.run_obl (idx_ok hk), T.run_obl (idx_ok hk), T.run_obl (idx_ok hk), T.run_ret, nth_at hk, ix1 k _ hk (by omega), w64_in (x := 8 * (f.2.1[k].2.1.2.1.length : Int)) (by omega) (by omega), w64_in (x := 8 * (f.2.1[k].2.1.2.2.1.length : Int)) (by omega) (by omega),
      w64_in (x := n - _) (by omega) (by omega), w64_in (x := n - _ - _) (by omega) (by omega), w64_in (by omega) (by omega)])
    (fun n k hk => by unfold law21_heavy_R0; dsimp only; rw [T.run_ite_f (and_f hk), T.run_ret]) (600 - 20 * (N : Int)) (by omega) (by omega)
  obtain ⟨n2, r2, a2, b2, P2⟩ := heavy_loop (r := law21_heavy_R1 f) f.1.length hl1 (fun k => ∀ hk : k < f.1.length, f.1[k].1.length ≤ 600) (fun n k hk h0 h6 => by
    have q1 := hs _ (List.getElem_mem hk)
    refine ⟨n - f.1[k].1.length, ?_, by omega, by omega, fun h0 _ => by omega⟩
    unfold law21_heavy_R1
    dsimp only
    rw [T.run_ite_t (and_t hk h0), T.run_obl (idx_ok hk), T.run_ret, nth_at hk, ix1 k _ hk (by omega), w64_in (by omega) (by omega)])
    (fun n k hk => by unfold law21_heavy_R1; dsimp only; rw [T.run_ite_f (and_f hk), T.run_ret]) n1 a1 (by omega)
  obtain ⟨n3, r3, a3, b3, P3⟩ := heavy_loop (r := law21_heavy_R2 f) f.2.2.1.length hl3 (fun k => ∀ hk : k < f.2.2.1.length, f.2.2.1[k].1.length ≤ 600 ∧ f.2.2.1[k].2.1.length ≤ 600) (fun n k hk h0 h6 => by
    obtain ⟨q1, q2⟩ := hg _ (List.getElem_mem hk)
    refine ⟨n - f.2.2.1[k].1.length - f.2.2.1[k].2.1.length, ?_, by omega, by omega, fun h0 _ => ⟨by omega, by omega⟩⟩
    unfold law21_heavy_R2
    dsimp only
    rw [T.run_ite_t (and_t hk h0), T.run_obl (idx_ok hk), T.run_obl (idx_ok hk), T.run_ret, nth_at hk, ix1 k _ hk (by omega), w64_in (x := n - _) (by omega) (by omega), w64_in (by omega) (by omega)])
    (fun n k hk => by unfold law21_heavy_R2; dsimp only; rw [T.run_ite_f (and_f hk), T.run_ret]) n2 a2 (by omega)
  obtain ⟨n4, r4, a4, b4, P4⟩ := heavy_loop (r := law21_heavy_R3 f) f.2.2.2.1.length hl4 (fun k => ∀ hk : k < f.2.2.2.1.length, f.2.2.2.1[k].1.length ≤ 600) (fun n k hk h0 h6 => by
    have q1 := hd _ (List.getElem_mem hk)
    refine ⟨n - f.2.2.2.1[k].1.length, ?_, by omega, by omega, fun h0 _ => by omega⟩
    unfold law21_heavy_R3
    dsimp only
    rw [T.run_ite_t (and_t hk h0), T.run_obl (idx_ok hk), T.run_ret, nth_at hk, ix1 k _ hk (by omega), w64_in (by omega) (by omega)])
    (fun n k hk => by unfold law21_heavy_R3; dsimp only; rw [T.run_ite_f (and_f hk), T.run_ret]) n3 a3 (by omega)
  obtain ⟨n5, r5, a5, b5, P5⟩ := heavy_loop (r := law21_heavy_R4 f) f.2.2.2.2.1.length hl5 (fun k => ∀ hk : k < f.2.2.2.2.1.length, f.2.2.2.2.1[k].1.length ≤ 600 ∧ f.2.2.2.2.1[k].2.2.1.length ≤ 600 ∧ szE f.2.2.2.2.1[k].2.2.2.1 ≤ 600 ∧ szE f.2.2.2.2.1[k].2.2.2.2.1 ≤ 600) (fun n k hk h0 h6 => by
    obtain ⟨q1, q2, q3, q4⟩ := hr _ (List.getElem_mem hk)
    have m1 := wtE_le f.2.2.2.2.1[k].2.2.2.1 (n - f.2.2.2.2.1[k].1.length - f.2.2.2.2.1[k].2.2.1.length)
    have m2 := wtE_le f.2.2.2.2.1[k].2.2.2.2.1 (wtE f.2.2.2.2.1[k].2.2.2.1 (n - f.2.2.2.2.1[k].1.length - f.2.2.2.2.1[k].2.2.1.length))
    have s1 := wtE_sz f.2.2.2.2.1[k].2.2.2.1 (n - f.2.2.2.2.1[k].1.length - f.2.2.2.2.1[k].2.2.1.length)
    have s2 := wtE_sz f.2.2.2.2.1[k].2.2.2.2.1 (wtE f.2.2.2.2.1[k].2.2.2.1 (n - f.2.2.2.2.1[k].1.length - f.2.2.2.2.1[k].2.2.1.length))
    have w1 := weight21_run f.2.2.2.2.1[k].2.2.2.1 (n - f.2.2.2.2.1[k].1.length - f.2.2.2.2.1[k].2.2.1.length) (by omega) (by omega) (by omega)
    have w2 := weight21_run f.2.2.2.2.1[k].2.2.2.2.1 (wtE f.2.2.2.2.1[k].2.2.2.1 (n - f.2.2.2.2.1[k].1.length - f.2.2.2.2.1[k].2.2.1.length)) (by omega) (by omega) (by omega)
    refine ⟨wtE f.2.2.2.2.1[k].2.2.2.2.1 (wtE f.2.2.2.2.1[k].2.2.2.1 (n - f.2.2.2.2.1[k].1.length - f.2.2.2.2.1[k].2.2.1.length)), ?_, by omega, by omega, fun h0 _ => ?_⟩
    · unfold law21_heavy_R4
      dsimp only
      rw [T.run_ite_t (and_t hk h0), T.run_obl (idx_ok hk), T.run_obl (idx_ok hk), T.run_obl (idx_ok hk), T.run_obl (idx_ok hk), nth_at hk, ix1 k _ hk (by omega), w64_in (x := n - _) (by omega) (by omega), w64_in (x := n - _ - _) (by omega) (by omega), T.run_bind_of w1, T.run_bind_of w2, T.run_ret]
    · have t2 := s2 h0
      have t1 := s1 (by omega)
      exact ⟨by omega, by omega, by omega, by omega⟩)
    (fun n k hk => by unfold law21_heavy_R4; dsimp only; rw [T.run_ite_f (and_f hk), T.run_ret]) n4 a4 (by omega)
  obtain ⟨n6, r6, a6, b6, P6⟩ := heavy_loop (r := law21_heavy_R5 f) f.2.2.2.2.2.1.length hl6 (fun k => ∀ hk : k < f.2.2.2.2.2.1.length, f.2.2.2.2.2.1[k].1.length ≤ 600 ∧ szE f.2.2.2.2.2.1[k].2.2.2.1 ≤ 600 ∧ szE f.2.2.2.2.2.1[k].2.2.2.2.1 ≤ 600) (fun n k hk h0 h6 => by
    obtain ⟨q1, q3, q4⟩ := hc _ (List.getElem_mem hk)
    have m1 := wtE_le f.2.2.2.2.2.1[k].2.2.2.1 (n - f.2.2.2.2.2.1[k].1.length)
    have m2 := wtE_le f.2.2.2.2.2.1[k].2.2.2.2.1 (wtE f.2.2.2.2.2.1[k].2.2.2.1 (n - f.2.2.2.2.2.1[k].1.length))
    have s1 := wtE_sz f.2.2.2.2.2.1[k].2.2.2.1 (n - f.2.2.2.2.2.1[k].1.length)
    have s2 := wtE_sz f.2.2.2.2.2.1[k].2.2.2.2.1 (wtE f.2.2.2.2.2.1[k].2.2.2.1 (n - f.2.2.2.2.2.1[k].1.length))
    have w1 := weight21_run f.2.2.2.2.2.1[k].2.2.2.1 (n - f.2.2.2.2.2.1[k].1.length) (by omega) (by omega) (by omega)
    have w2 := weight21_run f.2.2.2.2.2.1[k].2.2.2.2.1 (wtE f.2.2.2.2.2.1[k].2.2.2.1 (n - f.2.2.2.2.2.1[k].1.length)) (by omega) (by omega) (by omega)
    refine ⟨wtE f.2.2.2.2.2.1[k].2.2.2.2.1 (wtE f.2.2.2.2.2.1[k].2.2.2.1 (n - f.2.2.2.2.2.1[k].1.length)), ?_, by omega, by omega, fun h0 _ => ?_⟩
    · unfold law21_heavy_R5
      dsimp only
      rw [T.run_ite_t (and_t hk h0), T.run_obl (idx_ok hk), T.run_obl (idx_ok hk), T.run_obl (idx_ok hk), nth_at hk, ix1 k _ hk (by omega), w64_in (x := n - _) (by omega) (by omega), T.run_bind_of w1, T.run_bind_of w2, T.run_ret]
    · have t2 := s2 h0
      have t1 := s1 (by omega)
      exact ⟨by omega, by omega, by omega⟩)
    (fun n k hk => by unfold law21_heavy_R5; dsimp only; rw [T.run_ite_f (and_f hk), T.run_ret]) n5 a5 (by omega)
  have r1 : (law21_heavy_L0 f (600 - 20 * (N : Int), 0)).run = some n1 := r1
  have r2 : (law21_heavy_L1 f (n1, 0)).run = some n2 := r2
  have r3 : (law21_heavy_L2 f (n2, 0)).run = some n3 := r3
  have r4 : (law21_heavy_L3 f (n3, 0)).run = some n4 := r4
  have r5 : (law21_heavy_L4 f (n4, 0)).run = some n5 := r5
  have r6 : (law21_heavy_L5 f (n5, 0)).run = some n6 := r6
  rw [T.run_bind_of r1, T.run_bind_of r2, T.run_bind_of r3, T.run_bind_of r4, T.run_bind_of r5, T.run_bind_of r6, T.run_ret]
  refine ⟨_, rfl, fun hb => ?_⟩
  have h0 : 0 ≤ n6 := by have := of_decide_eq_false hb; omega
  exact ⟨by omega, all_at fun k hk => P2 (by omega) k hk hk, all_at fun k hk => P1 (by omega) k hk hk, all_at fun k hk => P3 (by omega) k hk hk, all_at fun k hk => P4 (by omega) k hk hk, all_at fun k hk => P5 (by omega) k hk hk, all_at fun k hk => P6 (by omega) k hk hk⟩
end Go.AM.Lf
namespace Go.AM.Lf
open PL
abbrev ile (a b : Int) : Prop := a ≤ b
abbrev ilt (a b : Int) : Prop := a < b
theorem nlt {a b : Int} (h : ¬ ilt a b) : decide (a < b) = false := decide_eq_false h
theorem nle {a b : Int} (h : ¬ ile a b) : decide (a ≤ b) = false := decide_eq_false h
theorem ylt {a b : Int} (h : ilt a b) : decide (a < b) = true := decide_eq_true h
theorem yle {a b : Int} (h : ile a b) : decide (a ≤ b) = true := decide_eq_true h
theorem split_page {α : Type} (pg : α → Int) (lo : Int) : ∀ (l : List α), l.Pairwise (fun a b => pg a ≤ pg b) → (∀ x ∈ l, lo ≤ pg x) → l = l.filter (fun x => pg x == lo) ++ l.filter (fun x => !(pg x == lo))
  | [], _, _ => rfl
  | x :: r, hs, hl => by
    have hx := hl x List.mem_cons_self
    obtain ⟨h1, h2⟩ := List.pairwise_cons.1 hs
    by_cases c : pg x = lo
    · have e : (pg x == lo) = true := by simpa using c
      rw [List.filter_cons_of_pos (by simpa using c), List.filter_cons_of_neg (by simp [c]), List.cons_append, ← split_page pg lo r h2 fun y hy => hl y (List.mem_cons_of_mem _ hy)]
    · have hall : ∀ y ∈ x :: r, ¬ (pg y = lo) := by
        intro y hy
        rcases List.mem_cons.1 hy with rfl | hy
        · exact c
        · have := h1 y hy; omega
      rw [List.filter_eq_nil_iff.2 (fun y hy => by simpa using hall y hy), List.filter_eq_self.2 (fun y hy => by simpa using hall y hy)]
      rfl
theorem by_page {α β : Type} (pg : α → Int) (m : α → Bool) (g : α → β) : ∀ (n lo : Nat) (l : List α), l.Pairwise (fun a b => pg a ≤ pg b) → (∀ x ∈ l, (lo : Int) ≤ pg x ∧ pg x < (lo + n : Nat)) →
    (List.range' lo n).flatMap (fun (i : Nat) => (l.filter fun x => pg x == (i : Int) && m x).map g) = (l.filter m).map g
  | 0, lo, l, hs, hl => by
    cases l with
    | nil => rfl
    | cons x r => have := hl x List.mem_cons_self; omega
  | n + 1, lo, l, hs, hl => by
    have hsp := split_page pg (lo : Int) l hs fun x hx => (hl x hx).1
    rw [List.range'_succ, List.flatMap_cons]
    have hrest := by_page pg m g n (lo + 1) (l.filter fun x => !(pg x == (lo : Int))) (hs.filter _) (fun x hx => by
      obtain ⟨h1, h2⟩ := List.mem_filter.1 hx
      have h3 := hl x h1
      have h4 : ¬ pg x = (lo : Int) := by simpa using h2
      omega)
    have he : ∀ i ∈ List.range' (lo + 1) n, (l.filter fun x => pg x == (i : Int) && m x).map g = ((l.filter fun x => !(pg x == (lo : Int))).filter fun x => pg x == (i : Int) && m x).map g := by
      intro i hi
      have hi := (List.mem_range'_1.1 hi).1
      rw [List.filter_filter]
      congr 1
      refine List.filter_congr fun x hx => ?_
      by_cases c : pg x = (i : Int)
      · have : ¬ pg x = (lo : Int) := by omega
        have e : (pg x == (lo : Int)) = false := by simpa using this
        rw [e]; simp
      · have e : (pg x == (i : Int)) = false := by simpa using c
        rw [e]; simp
    have hf : (List.range' (lo + 1) n).flatMap (fun (i : Nat) => (l.filter fun x => pg x == (i : Int) && m x).map g) = (List.range' (lo + 1) n).flatMap (fun (i : Nat) => ((l.filter fun x => !(pg x == (lo : Int))).filter fun x => pg x == (i : Int) && m x).map g) := by
      rw [List.flatMap_def, List.flatMap_def]
      congr 1
      exact List.map_congr_left he
    rw [hf, hrest]
    conv => rhs; rw [hsp, List.filter_append, List.map_append]
    congr 2
    rw [List.filter_filter]
    exact List.filter_congr fun x _ => Bool.and_comm _ _
theorem zip_true {β : Type} (g : Nat → List β) (n : Nat) : ((List.replicate n true).zipIdx.flatMap fun x => if x.1 = true then g x.2 else []) = (List.range' 0 n).flatMap g := by
  have : ∀ (n k : Nat), ((List.replicate n true).zipIdx k).flatMap (fun x => if x.1 = true then g x.2 else []) = (List.range' k n).flatMap g := by
    intro n
    induction n with
    | zero => intro k; rfl
    | succ n ih =>
      intro k
      rw [List.replicate_succ, List.zipIdx_cons, List.flatMap_cons, ih, List.range'_succ, List.flatMap_cons]
      rfl
  exact this n 0
theorem of_len (f : Form) (d : doc_Doc) (np : Nat) (hrel : f.2.2.1.map (relP f.1 d.2.1) = List.replicate np true) (h1 : f.1.length ≤ 100000) (h3 : f.2.2.1.length ≤ 100000) (h4 : f.2.2.2.1.length ≤ 100000) (hv : d.2.2.1 = [])
    (hp : ∀ x ∈ f.2.2.2.1, ile 0 x.2.1 ∧ ilt x.2.1 np) : ∃ l, (record_Of f d).run = some l ∧ l.length = f.2.2.2.1.length := by
  have hr := relevant_run f d.2.1 (by omega) (by omega)
  rw [hrel] at hr
  unfold record_Of
  rw [T.run_bind_of hr, T.run_cur _ rfl rfl rfl, T.run_same]
  have key := T.loop_fold (r := record_Of_R0 d (List.replicate np true) f.2.2.2.1 (f.2.2.2.1.length : Int)) f.2.2.2.1 (dflt tyField) (fun (b : List Param) i => (i, b)) (fun k b => b.length = k) (fun b x => b ++ [(x.1, (toR 0, ()))]) id (fun k b x hk hx hm hI => ?_) (fun b hI => ?_) (b := []) rfl
  · obtain ⟨k1, k2⟩ := key
    have k1 : (record_Of_L0 d (List.replicate np true) f.2.2.2.1 (f.2.2.2.1.length : Int) ((0 : Int), [])).run = some (f.2.2.2.1.foldl (fun b x => b ++ [(x.1, (toR 0, ()))]) []) := k1
    refine ⟨_, ?_, k2⟩
    rw [T.run_bind_of k1, T.run_same, T.run_ret, Nat.zero_add, List.take_length, List.drop_zero]
  · obtain ⟨q1, q2⟩ := hp x hm
    have hi := rat_Int_run 0 ⟨by omega, by omega⟩
    have hnp : (List.replicate np true).length = np := List.length_replicate
    obtain ⟨j, hj⟩ : ∃ j : Nat, x.2.1 = (j : Int) := ⟨Int.toNat x.2.1, (Int.toNat_of_nonneg q1).symm⟩
    have hn : nth (List.replicate np true) x.2.1 (dflt .bool) = true := by
      rw [hj] at q2 ⊢; rw [nth_at (by rw [hnp]; omega), List.getElem_replicate]
    refine ⟨?_, by simp; omega⟩
    unfold record_Of_R0
    dsimp only
    rw [T.run_ite_t (lt_t hk), T.run_obl (idx_ok hk), hx, T.run_obl (fun _ _ => ⟨q1, by rw [hnp]; exact q2⟩), hn, hnp]
    have e : (decide (x.2.1 < (0 : Int)) || (decide ((np : Int) ≤ x.2.1) || !true)) = false := by
      rw [nlt (a := x.2.1) (b := 0) (by omega), nle (a := np) (b := x.2.1) (by omega)]; rfl
    rw [T.run_ite_f e, T.run_bind_of hi, hv]
    have inner : ∀ y : T (List Param × Field × Rat), (T.ite (decide ((k : Int) < (([] : List Rat).length : Int))) y (.obl (curOk (List.length b) (0 : Nat) (List.length b) (List.length b)) <| .obl ((List.length b) = (List.length b)) <| .ret (b, (x, toR ((0 : Int) : Q))))).run = some (b, (x, toR ((0 : Int) : Q))) := by
      intro y
      rw [T.run_ite_f (decide_eq_false (by simp)), T.run_cur _ rfl rfl rfl, T.run_same, T.run_ret]
    rw [T.run_bind_of (inner _)]
    dsimp only
    rw [T.run_app _ rfl rfl rfl (by omega), T.run_cur _ (by simp) rfl (by simp), T.run_obl (by simp), T.run_ret, ix1 k _ hk (by omega)]
    rfl
  · unfold record_Of_R0
    dsimp only
    rw [T.run_ite_f (lt_f _), T.run_cur _ rfl rfl rfl, T.run_same, T.run_ret]; rfl
theorem relP_true (w : List Switch) (on : List Bool) (l : List Page) (h : ∀ p ∈ l, p.2.1 = []) : l.map (relP w on) = List.replicate l.length true := by
  refine List.eq_replicate_iff.2 ⟨by simp, fun b hb => ?_⟩
  obtain ⟨p, hp, rfl⟩ := List.mem_map.1 hb
  unfold relP
  rw [h p hp, strEq_refl]; rfl
theorem missP_none (f : Form) (p : Check → Bool) (h : f.2.2.2.2.2.1 = []) (i : Int) : missP f false p i = [] := by
  unfold missP
  rw [h]
  simp
theorem filled_pages (on : List Bool) (F : Form) (ps : List Page) (hl : ps.length ≤ 100000) : ∃ xs, (law21_RecordFilled_L0 on (0, F, ps)).run = some (F, xs) ∧ xs.length = ps.length ∧ ∀ p ∈ xs, p.2.1 = [] := by
  have := T.loop_post (r := law21_RecordFilled_R0 on) (fun s : Int × Form × List Page => ∃ k : Nat, s.1 = (k : Int) ∧ k ≤ ps.length ∧ s.2.1 = F ∧ s.2.2.length = ps.length ∧ ∀ j (hj : j < s.2.2.length), j < k → (s.2.2[j]).2.1 = []) (fun s => ps.length - s.1.toNat)
    (fun z : Form × List Page => z.1 = F ∧ z.2.length = ps.length ∧ ∀ p ∈ z.2, p.2.1 = []) (fun s hs => ?_) (s := (0, F, ps)) ⟨0, rfl, by omega, rfl, rfl, fun j _ hj => by omega⟩
  · obtain ⟨⟨z1, z2⟩, h1, rfl, h3, h4⟩ := this
    exact ⟨z2, h1, h3, h4⟩
  · obtain ⟨i, F', xs⟩ := s
    obtain ⟨k, rfl, hk, rfl, hn, hI⟩ := hs
    dsimp only at hn hI
    by_cases c : k < ps.length
    · left
      have hkx : k < xs.length := by omega
      have e0 : (0 : Nat) + Int.toNat ((k : Nat) : Int) = k := by omega
      refine ⟨(((k + 1 : Nat) : Int), F', xs.set k ((nthN xs k (dflt tyPage)).1, (([] : Str), ()))), ?_, ⟨k + 1, rfl, c, rfl, by simpa using hn, fun j hj hj2 => ?_⟩, by dsimp only; omega⟩
      · unfold law21_RecordFilled_R0
        dsimp only
        simp only [e0, List.length_set]
        rw [T.run_ite_t (lt_t hkx), T.run_obl (idx_ok hkx), T.run_e _ rfl hkx, T.run_cur _ rfl rfl rfl, T.run_true, T.run_ret, ix1 k _ hkx (by omega)]
      · dsimp only at hj ⊢
        rw [List.length_set] at hj
        rw [List.getElem_set]
        split
        · rfl
        · exact hI j hj (by omega)
    · right
      have hk2 : k = xs.length := by omega
      refine ⟨(F', xs), ?_, rfl, hn, all_at fun j hj => hI j hj (by have hj : j < xs.length := hj; omega)⟩
      unfold law21_RecordFilled_R0
      dsimp only
      rw [T.run_ite_f (decide_eq_false (by omega)), T.run_cur _ rfl rfl rfl, T.run_same, T.run_ret]
abbrev FT := List Switch × List Param × List Field × List Rule × List Check × Unit
abbrev DT := List Rat × List Bool × List Rat × List Int × List doc_Pin × Unit
theorem filled_fields (on : List Bool) (sw : List Switch) (pr : List Param) (fs : List Field) (ru : List Rule) (ch : List Check) (D : DT) (ps : List Page) (hl : fs.length ≤ 100000) :
    ∃ z, (law21_RecordFilled_L1 on (0, (sw, pr, fs, ru, ch, ()), ps, D, [], [])).run = some z ∧ ((∃ t, z = .inr (true, t)) ∨
      (z = .inl ((sw, pr, fs, ru, ch, ()), ps, D, List.replicate fs.length true, (fs.filter (·.2.2.1)).map (·.1)) ∧ fs.Pairwise (fun a b => ile a.2.1 b.2.1) ∧ ∀ x ∈ fs, ile 0 x.2.1 ∧ ilt x.2.1 ps.length)) := by
  refine T.loop_post (r := law21_RecordFilled_R1 on) (fun s : Int × FT × List Page × DT × List Bool × List Str => ∃ k : Nat, k ≤ fs.length ∧ s = ((k : Int), (sw, pr, fs, ru, ch, ()), ps, D, List.replicate k true, ((fs.take k).filter (·.2.2.1)).map (·.1)) ∧
      (fs.take k).Pairwise (fun a b => ile a.2.1 b.2.1) ∧ ∀ x ∈ fs.take k, ile 0 x.2.1 ∧ ilt x.2.1 ps.length) (fun s => fs.length - s.1.toNat) _ (fun s hs => ?_) ⟨0, by omega, rfl, by simp, by simp⟩
  obtain ⟨k, hk, rfl, hI1, hI2⟩ := hs
  by_cases c : k < fs.length
  · have htake : fs.take (k + 1) = fs.take k ++ [fs[k]] := List.take_succ_eq_append_getElem c
    have ei : 0 < k → w64 ((k : Int) - 1) = ((k - 1 : Nat) : Int) := fun h => by rw [w64_in (by omega) (by omega)]; omega
    have hprev : 0 < k → nth fs (w64 ((k : Int) - 1)) (dflt tyField) = fs[k - 1]'(by omega) := fun h => by rw [ei h, nth_at (by omega)]
    by_cases bad : ilt fs[k].2.1 0 ∨ ile ps.length fs[k].2.1 ∨ (0 < k ∧ ilt fs[k].2.1 (fs[k - 1]'(by omega)).2.1)
    · right
      have e : (decide (fs[k].2.1 < (0 : Int)) || (decide ((ps.length : Int) ≤ fs[k].2.1) || (decide ((0 : Int) < (k : Int)) && decide (fs[k].2.1 < (nth fs (w64 ((k : Int) - 1)) (dflt tyField)).2.1)))) = true := by
        rcases bad with h | h | ⟨h1, h2⟩
        · rw [ylt h, Bool.true_or]
        · rw [yle h, Bool.true_or, Bool.or_true]
        · rw [hprev h1, ylt h2, decide_eq_true (by omega : (0 : Int) < (k : Int)), Bool.true_and, Bool.or_true, Bool.or_true]
      refine ⟨.inr (true, (sw, pr, fs, ru, ch, ()), ps, D, List.replicate k true, ((fs.take k).filter (·.2.2.1)).map (·.1)), ?_, .inl ⟨_, rfl⟩⟩
      · unfold law21_RecordFilled_R1
        dsimp only
        rw [T.run_ite_t (lt_t c), T.run_obl ⟨idx_ok c, fun _ => ⟨idx_ok c, fun _ h => ⟨idx_ok c, by have h := of_decide_eq_true h; rw [ei (by omega)]; exact idx_ok (by omega)⟩⟩⟩, nth_at c, T.run_ite_t e, T.run_bind_of known21_run, T.run_cur _ rfl rfl rfl, T.run_same, T.run_cur _ rfl rfl rfl, T.run_same, T.run_same, T.run_ret]
    · left
      have b1 : ile 0 fs[k].2.1 := by omega
      have b2 : ilt fs[k].2.1 ps.length := by omega
      have b3 : 0 < k → ile (fs[k - 1]'(by omega)).2.1 fs[k].2.1 := fun h => by
        by_cases q : ilt fs[k].2.1 (fs[k - 1]'(by omega)).2.1
        · exact absurd (.inr (.inr ⟨h, q⟩)) bad
        · omega
      have e : (decide (fs[k].2.1 < (0 : Int)) || (decide ((ps.length : Int) ≤ fs[k].2.1) || (decide ((0 : Int) < (k : Int)) && decide (fs[k].2.1 < (nth fs (w64 ((k : Int) - 1)) (dflt tyField)).2.1)))) = false := by
        rw [nlt (a := fs[k].2.1) (b := 0) (by omega), nle (a := ps.length) (b := fs[k].2.1) (by omega), Bool.false_or, Bool.false_or]
        by_cases h : 0 < k
        · rw [hprev h, nlt (a := fs[k].2.1) (b := (fs[k - 1]'(by omega)).2.1) (by have := b3 h; omega), Bool.and_false]
        · rw [decide_eq_false (by omega : ¬ (0 : Int) < (k : Int)), Bool.false_and]
      refine ⟨(((k + 1 : Nat) : Int), (sw, pr, fs, ru, ch, ()), ps, D, List.replicate (k + 1) true, ((fs.take (k + 1)).filter (·.2.2.1)).map (·.1)), ?_, ⟨k + 1, c, rfl, ?_, ?_⟩, by dsimp only; omega⟩
      · have hlen : (((fs.take k).filter (·.2.2.1)).map (·.1)).length ≤ 100000 := by
          rw [List.length_map]
          have h1 := List.length_filter_le (fun x : Field => x.2.2.1) (fs.take k)
          have h2 := List.length_take_le k fs
          omega
        unfold law21_RecordFilled_R1
        dsimp only
        rw [T.run_ite_t (lt_t c), T.run_obl ⟨idx_ok c, fun _ => ⟨idx_ok c, fun _ h => ⟨idx_ok c, by have h := of_decide_eq_true h; rw [ei (by omega)]; exact idx_ok (by omega)⟩⟩⟩, nth_at c, T.run_ite_f e, T.run_app _ rfl rfl rfl (by rw [List.length_replicate]; omega), T.run_obl (idx_ok c)]
        have hrep : List.replicate k true ++ [true] = List.replicate (k + 1) true := by rw [List.replicate_succ']
        rw [htake, List.filter_append, List.map_append]
        cases q : fs[k].2.2.1 with
        | true =>
          have ef : ([fs[k]].filter (·.2.2.1)).map (·.1) = [fs[k].1] := by simp [q]
          rw [T.run_ite_true, T.run_obl (idx_ok c), T.run_app _ rfl rfl rfl (by omega), T.run_cur _ (by simp) rfl (by simp), T.run_cur _ rfl rfl rfl, T.run_same, T.run_cur _ (by simp) rfl (by simp), T.run_obl (by simp), T.run_obl (by simp), T.run_ret, ix1 k _ c (by omega), hrep, ef]
        | false =>
          have ef : ([fs[k]].filter (·.2.2.1)).map (·.1) = ([] : List Str) := by simp [q]
          rw [T.run_ite_false, T.run_cur _ rfl rfl rfl, T.run_cur _ rfl rfl rfl, T.run_same, T.run_cur _ (by simp) rfl (by simp), T.run_obl (by simp), T.run_same, T.run_ret, ix1 k _ c (by omega), hrep, ef, List.append_nil]
      · rw [htake]
        refine List.pairwise_append.2 ⟨hI1, List.pairwise_singleton _ _, fun a ha b hb => ?_⟩
        rw [List.mem_singleton] at hb
        subst hb
        by_cases h : 0 < k
        · have hb3 := b3 h
          have e1 : fs.take k = fs.take (k - 1) ++ [fs[k - 1]'(by omega)] := by
            have := List.take_succ_eq_append_getElem (l := fs) (i := k - 1) (by omega)
            rwa [Nat.sub_add_cancel h] at this
          rw [e1] at ha hI1
          rcases List.mem_append.1 ha with ha | ha
          · have := (List.pairwise_append.1 hI1).2.2 a ha _ (List.mem_singleton.2 rfl)
            omega
          · rw [List.mem_singleton] at ha
            subst ha; exact hb3
        · have : k = 0 := by omega
          subst this
          simp at ha
      · intro x hx
        rw [htake] at hx
        rcases List.mem_append.1 hx with hx | hx
        · exact hI2 x hx
        · rw [List.mem_singleton] at hx
          subst hx; exact ⟨b1, b2⟩
  · right
    have hk2 : k = fs.length := by omega
    subst hk2
    rw [List.take_length] at hI1 hI2 ⊢
    refine ⟨_, ?_, .inr ⟨rfl, hI1, hI2⟩⟩
    unfold law21_RecordFilled_R1
    dsimp only
    rw [T.run_ite_f (lt_f _), T.run_cur _ rfl rfl rfl, T.run_cur _ rfl rfl rfl, T.run_same, T.run_cur _ rfl rfl rfl, T.run_same, T.run_same, T.run_ret]
end Go.AM.Lf
namespace Go.AM.Lf
open PL
theorem law21_RecordFilled_all (f : Form) (on : List Bool) (hf : FB f) : (law21_RecordFilled f on).run = some true := by
  obtain ⟨b, hb, hFL⟩ := heavy21_run f hf
  unfold law21_RecordFilled
  have head : ((T.bind (law21_heavy f) fun r => .ite r (.ret (true, f)) (.ret ((decide ((20 : Int) < (on.length : Int))), f))) : T (Bool × Form)).run = some (b || decide ((20 : Int) < (on.length : Int)), f) := by
    rw [T.run_bind_of hb]
    cases b <;> rfl
  rw [T.run_bind_of head]
  dsimp only
  cases hq : (b || decide ((20 : Int) < (on.length : Int))) with
  | true => rfl
  | false =>
    simp only [Bool.or_eq_false_iff] at hq
    have hL := hFL hq.1
    have hn := hL.n
    obtain ⟨xs, hp1, hp2, hp3⟩ := filled_pages on (([] : List Switch), (f.2.1, (f.2.2.1, (f.2.2.2.1, (f.2.2.2.2.1, (([] : List Check), ())))))) f.2.2.1 (by omega)
    obtain ⟨z, hz, hz2⟩ := filled_fields on [] f.2.1 f.2.2.2.1 f.2.2.2.2.1 [] ([], on, [], [], [], ()) xs (by omega)
    rw [T.run_ite_false, T.run_app _ rfl rfl rfl (by omega), T.run_cur _ (by omega) rfl (by omega), T.run_obl (by omega), T.run_bind_of hp1]
    dsimp only
    rw [T.run_cur _ rfl rfl rfl, T.run_cur _ rfl rfl rfl, T.run_same, T.run_cur _ rfl rfl rfl, T.run_same, T.run_same, T.run_bind_of hz]
    rcases hz2 with ⟨t, rfl⟩ | ⟨rfl, hs, hr⟩
    · rfl
    · dsimp only [Sum.elim_inl]
      have hlw : (((f.2.2.2.1.filter (·.2.2.1)).map (·.1)) : List Str).length ≤ 100000 := by
        rw [List.length_map]
        exact Nat.le_trans (List.length_filter_le _ _) (by omega)
      have hrel := relP_true ([] : List Switch) on xs hp3
      rw [T.run_same, T.run_same]
      simp only [Nat.zero_add, List.take_length, List.drop_zero]
      have m1 := missing_run (([] : List Switch), (f.2.1, (xs, (f.2.2.2.1, (f.2.2.2.2.1, (([] : List Check), ())))))) (([] : List Rat), (on, (([] : List Rat), (([] : List Int), (([] : List doc_Pin), (List.replicate f.2.2.2.1.length true, ())))))) false (fun _ => true)
        (by simp) (by show f.2.1.length ≤ _; omega) (by show xs.length ≤ _; omega) (by show f.2.2.2.1.length ≤ _; omega) (by simp) (by simp)
        (fun k hk => by
          have hk : k < f.2.2.2.1.length := hk
          show (decide (((List.replicate f.2.2.2.1.length true).length : Int) ≤ (k : Int)) || !(nth (List.replicate f.2.2.2.1.length true) (k : Int) (dflt .bool))) = false
          rw [List.length_replicate, nth_at (by rw [List.length_replicate]; exact hk), List.getElem_replicate, decide_eq_false (by omega)]; rfl) (fun x hx => by cases hx)
      have m2 := missing_run (([] : List Switch), (f.2.1, (xs, (f.2.2.2.1, (f.2.2.2.2.1, (([] : List Check), ())))))) (([] : List Rat), (on, (([] : List Rat), (([] : List Int), (([] : List doc_Pin), (([] : List Bool), ())))))) true (fun _ => true)
        (by simp) (by show f.2.1.length ≤ _; omega) (by show xs.length ≤ _; omega) (by show f.2.2.2.1.length ≤ _; omega) (by simp) (by simp)
        (fun k hk => by
          show (decide (((([] : List Bool)).length : Int) ≤ (k : Int)) || _) = true
          rw [decide_eq_true (by simp)]; rfl) (fun x hx => by cases hx)
      have m3 := of_len (([] : List Switch), (f.2.1, (xs, (f.2.2.2.1, (f.2.2.2.2.1, (([] : List Check), ())))))) (([] : List Rat), (on, (([] : List Rat), (([] : List Int), (([] : List doc_Pin), (List.replicate f.2.2.2.1.length true, ())))))) xs.length hrel
        (by simp) (by show xs.length ≤ _; omega) (by show f.2.2.2.1.length ≤ _; omega) rfl hr
      have e1 : ((xs.map (relP ([] : List Switch) on)).zipIdx.flatMap fun x => if x.1 = true then missP (([] : List Switch), (f.2.1, (xs, (f.2.2.2.1, (f.2.2.2.2.1, (([] : List Check), ())))))) false (fun _ => true) (x.2 : Int) else []) = [] := by
        rw [hrel, zip_true (fun i => missP (([] : List Switch), (f.2.1, (xs, (f.2.2.2.1, (f.2.2.2.2.1, (([] : List Check), ())))))) false (fun _ => true) (i : Int))]
        rw [List.flatMap_eq_nil_iff]
        intro i _
        exact missP_none _ _ rfl _
      have e2 : ((xs.map (relP ([] : List Switch) on)).zipIdx.flatMap fun x => if x.1 = true then missP (([] : List Switch), (f.2.1, (xs, (f.2.2.2.1, (f.2.2.2.2.1, (([] : List Check), ())))))) true (fun _ => true) (x.2 : Int) else []) = (f.2.2.2.1.filter (·.2.2.1)).map (·.1) := by
        rw [hrel, zip_true (fun i => missP (([] : List Switch), (f.2.1, (xs, (f.2.2.2.1, (f.2.2.2.2.1, (([] : List Check), ())))))) true (fun _ => true) (i : Int))]
        refine Eq.trans ?_ (by_page (fun x : Field => x.2.1) (fun x => x.2.2.1) (fun x => x.1) xs.length 0 f.2.2.2.1 hs (fun x hx => by
          obtain ⟨q1, q2⟩ := hr x hx
          exact ⟨q1, by rw [Nat.zero_add]; exact q2⟩))
        rw [List.flatMap_def, List.flatMap_def]
        congr 1
        refine List.map_congr_left fun i _ => ?_
        unfold missP
        simp only [List.filter_nil, List.map_nil, List.append_nil, Bool.and_true]
      have m1 := m1.trans (congrArg some e1)
      have m2 := m2.trans (congrArg some e2)
      obtain ⟨l, m3, hl⟩ := m3
      refine (T.run_bind_of m1 _).trans ?_
      rw [T.run_ite_t (by rfl)]
      refine (T.run_bind_of m2 _).trans ?_
      rw [T.run_true, T.run_bind_of (texts21_refl _ (by omega)), T.run_ite_true]
      refine (T.run_bind_of m3 _).trans ?_
      have e3 : (((l.length : Nat) : Int) == (f.2.2.2.1.length : Int)) = true := by
        have : l.length = f.2.2.2.1.length := hl
        rw [this]; simp
      refine (T.run_ite_t e3 _ _).trans ?_
      rw [T.run_bind_of known21_run, T.run_ret]
theorem law21_RecordFilled_law (x : denL [tyForm, .sl .bool]) (hw : wfL [tyForm, .sl .bool] x) (hb : bkL [tyForm, .sl .bool] x ≤ 1048576) : (law21_RecordFilled (toPs [tyForm, .sl .bool] x).1 (toPs [tyForm, .sl .bool] x).2).run = some true := by
  obtain ⟨f, on, u⟩ := x
  have e : bkL [tyForm, .sl .bool] (f, on, u) = bk tyForm f + (bk (.sl .bool) on + 0) := rfl
  exact law21_RecordFilled_all f on (fb_of hw.1 (by omega))
end Go.AM.Lf
