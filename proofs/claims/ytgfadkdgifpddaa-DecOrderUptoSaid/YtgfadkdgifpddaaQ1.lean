/-
  Plain laws of the lifted program, part 1.
-/
import Derived.Test.YtgfadkdgifpddaaLf0
import Derived.Test.YtgfadkdgifpddaaAmA
import Derived.Test.YtgfadkdgifpddaaAmD
import Derived.Test.YtgfadkdgifpddaaQ0
set_option linter.unusedVariables false
namespace Go.AM.Lf
open PL
theorem rnd_alg {n d m e a r b s : Nat} (hd : 0 < d) (he : 0 < e) (hr : r < d) (hs : s < e) (h : (d * a + r) * e ≤ (e * b + s) * d) : a ≤ b ∧ (a = b → r * e ≤ s * d) := by
  have e1 : (d * a + r) * e = a * (d * e) + r * e := by grind
  have e2 : (e * b + s) * d = b * (d * e) + s * d := by grind
  rw [e1, e2] at h
  have h3 : s * d < d * e := by rw [Nat.mul_comm d e]; exact Nat.mul_lt_mul_of_pos_right hs hd
  constructor
  · rcases Nat.lt_or_ge b a with c | c
    · have h4 : (b + 1) * (d * e) ≤ a * (d * e) := Nat.mul_le_mul_right _ c
      have h5 : (b + 1) * (d * e) = b * (d * e) + d * e := by grind
      omega
    · exact c
  · intro c; subst c; omega
theorem rnd_mono {n d m e : Nat} (hd : 0 < d) (he : 0 < e) (h : n * e ≤ m * d) : rnd n d ≤ rnd m e := by
  have e1 := Nat.div_add_mod n d
  have e2 := Nat.div_add_mod m e
  have h1 := Nat.mod_lt n hd
  have h2 := Nat.mod_lt m he
  unfold rnd
  generalize n / d = a at *
  generalize n % d = r at *
  generalize m / e = b at *
  generalize m % e = s at *
  rw [← e1, ← e2] at h
  obtain ⟨h3, h4⟩ := rnd_alg (n := n) (m := m) hd he h1 h2 h
  by_cases c : a = b
  · have h5 := h4 c
    subst c
    by_cases u : d < 2 * r ∨ (2 * r = d ∧ a % 2 = 1)
    · have g : d * e ≤ 2 * (s * d) := by
        have : d * e ≤ 2 * r * e := Nat.mul_le_mul_right e (by omega)
        rw [Nat.mul_assoc] at this; omega
      have g2 : e * d ≤ (2 * s) * d := by rw [Nat.mul_comm e d, Nat.mul_assoc]; exact g
      have g3 : e ≤ 2 * s := Nat.le_of_mul_le_mul_right g2 hd
      have v : e < 2 * s ∨ (2 * s = e ∧ a % 2 = 1) := by
        rcases Nat.lt_or_ge e (2 * s) with k | k
        · exact .inl k
        · refine .inr ⟨by omega, ?_⟩
          rcases u with u | u
          · exfalso
            have w1 : (d + 1) * e ≤ 2 * r * e := Nat.mul_le_mul_right e (by omega)
            have w2 : (d + 1) * e = d * e + e := by grind
            have w3 : 2 * r * e = 2 * (r * e) := by rw [Nat.mul_assoc]
            have w4 : 2 * (s * d) = d * e := by
              have : 2 * s = e := by omega
              rw [← Nat.mul_assoc, this, Nat.mul_comm]
            omega
          · exact u.2
      rw [if_pos u, if_pos v]
      exact Nat.le_refl _
    · rw [if_neg u]; split <;> omega
  · have : a + 1 ≤ b := by omega
    split <;> split <;> omega
def rndQ (q : Q) (k : Nat) : Q := mkRat (sgn (decide (q.num < 0)) (rnd (q.num.natAbs * 10 ^ k) q.den)) (10 ^ k)
theorem mk_le {x y : Int} {t : Nat} (ht : 0 < t) (h : x ≤ y) : mkRat x t ≤ mkRat y t := by
  rw [Rat.mkRat_eq_div, Rat.mkRat_eq_div, Rat.div_def, Rat.div_def]
  refine Rat.mul_le_mul_of_nonneg_right (Rat.intCast_le_intCast.2 h) (Rat.le_of_lt (Rat.inv_pos.2 (by exact Rat.natCast_pos.2 ht)))
theorem rndQ_mono {p q : Q} (k : Nat) (h : p ≤ q) : rndQ p k ≤ rndQ q k := by
  refine mk_le (Nat.pow_pos (by omega)) ?_
  have h' := (Rat.le_iff p q).1 h
  have hp := p.den_pos; have hq := q.den_pos
  have aux : ∀ x y d e : Nat, x * e ≤ y * d → x * 10 ^ k * e ≤ y * 10 ^ k * d := fun x y d e z => by
    have e1 : x * 10 ^ k * e = x * e * 10 ^ k := by grind
    have e2 : y * 10 ^ k * d = y * d * 10 ^ k := by grind
    rw [e1, e2]; exact Nat.mul_le_mul_right _ z
  unfold sgn
  by_cases c : p.num < 0 <;> by_cases d : q.num < 0
  · have := rnd_mono (n := q.num.natAbs * 10 ^ k) (m := p.num.natAbs * 10 ^ k) hq hp (aux _ _ _ _ (by
      have e1 : p.num = -(p.num.natAbs : Int) := by omega
      have e2 : q.num = -(q.num.natAbs : Int) := by omega
      rw [e1, e2, Int.neg_mul, Int.neg_mul] at h'
      have := Int.neg_le_neg_iff.1 h'
      exact_mod_cast this))
    simp only [decide_eq_true c, decide_eq_true d, if_true]; omega
  · simp only [decide_eq_true c, decide_eq_false d, if_true, Bool.false_eq_true, if_false]; omega
  · exfalso
    have h1 : 0 ≤ p.num * (q.den : Int) := Int.mul_nonneg (by omega) (by omega)
    have h2 : q.num * (p.den : Int) < 0 := Int.mul_neg_of_neg_of_pos d (by omega)
    omega
  · have := rnd_mono (n := p.num.natAbs * 10 ^ k) (m := q.num.natAbs * 10 ^ k) hp hq (aux _ _ _ _ (by
      have e1 : p.num = (p.num.natAbs : Int) := by omega
      have e2 : q.num = (q.num.natAbs : Int) := by omega
      rw [e1, e2] at h'
      exact_mod_cast h'))
    simp only [decide_eq_false c, decide_eq_false d, Bool.false_eq_true, if_false]; omega
theorem round_toR (a : Rat) (k : Nat) : ratN (norm a).1 (rndR (norm a) k) (10 ^ k) = toR (rndQ (val a) k) := by
  rw [ratN_toR, norm_toR, qv_sgn]
  unfold rndR rndQ
  rw [toR_fst, toR_num, toR_den, nv_ofN, nv_ofN]
theorem dec_Round_toR (a : Rat) (h : ratOk 1000 a) (s : Int) : (dec_Round a s).run = some (toR (rndQ (val a) (clampS s))) := by
  rw [dec_Round_run a h s, round_toR]
theorem rndQ_len (a : Rat) (h : ratOk 1000 a) (s : Int) : qlen (rndQ (val a) (clampS s)) ≤ 3000 := by
  have hr := rnd_len (norm a) (norm_ok (by omega) h) (clampS s) (by have := clampS_le s; omega)
  have h10 := ten_len (clampS s)
  have hk := clampS_le s
  have e : rndQ (val a) (clampS s) = qv (decide ((val a).num < 0)) (rndR (norm a) (clampS s)) (10 ^ clampS s) := by
    rw [qv_sgn]; unfold rndR rndQ; rw [norm_toR, toR_num, toR_den, nv_ofN, nv_ofN]
  rw [e]
  exact qv_len _ _ _ _ (by omega) (by omega) (by omega)
theorem cmpQ_mono {p q x y : Q} (h1 : p ≤ q → x ≤ y) (h2 : q ≤ p → y ≤ x) : (0 ≤ cmpQ p q → 0 ≤ cmpQ x y) ∧ (cmpQ p q ≤ 0 → cmpQ x y ≤ 0) := by
  unfold cmpQ
  constructor
  · intro h
    by_cases c : p < q
    · rw [if_pos c] at h; omega
    · have := h2 (Rat.not_lt.1 c)
      rw [if_neg (Rat.not_lt.2 this)]; split <;> omega
  · intro h
    have hle : p ≤ q := by
      by_cases c : p < q
      · exact Rat.le_of_lt c
      · rw [if_neg c] at h
        by_cases d : p = q
        · subst d; exact Rat.le_refl
        · rw [if_neg d] at h; omega
    have := h1 hle
    by_cases c : x < y
    · rw [if_pos c]; omega
    · have : x = y := Rat.le_antisymm this (Rat.not_lt.1 c)
      rw [if_neg c, if_pos this]; omega
theorem big2_run (a b : Rat) (h : a.2.1.length + a.2.2.1.length ≤ 4000000000) (k : b.2.1.length + b.2.2.1.length ≤ 4000000000) :
    (law3_big [a, b]).run = some (decide (16 < a.2.1.length + a.2.2.1.length + (b.2.1.length + b.2.2.1.length))) := by
  have e0 : nth [a, b] 0 (dflt tyRat) = a := rfl
  have e9 : nth [a, b] 1 (dflt tyRat) = b := rfl
  have e1 : w64 (w64 (0 + (a.2.1.length : Int)) + (a.2.2.1.length : Int)) = ((a.2.1.length + a.2.2.1.length : Nat) : Int) := by
    rw [w64_in (x := 0 + (a.2.1.length : Int)) (by omega) (by omega), w64_in (by omega) (by omega)]; omega
  have e2 : w64 (w64 (((a.2.1.length + a.2.2.1.length : Nat) : Int) + (b.2.1.length : Int)) + (b.2.2.1.length : Int)) = ((a.2.1.length + a.2.2.1.length + (b.2.1.length + b.2.2.1.length) : Nat) : Int) := by
    rw [w64_in (x := ((a.2.1.length + a.2.2.1.length : Nat) : Int) + (b.2.1.length : Int)) (by omega) (by omega), w64_in (by omega) (by omega)]; omega
  have ei : w64 (0 + 1) = 1 := by decide
  have ej : w64 (1 + 1) = 2 := by decide
  unfold law3_big
  by_cases c : 16 < a.2.1.length + a.2.2.1.length
  · have hL : (law3_big_L0 [a, b] (0, 0)).run = some (.inr true) := by
      refine T.loop_done ?_
      unfold law3_big_R0
      simp only [e0, e1]
      rw [T.run_ite_t (by simp), T.run_idx _ (by omega) (by simp), T.run_idx _ (by omega) (by simp), T.run_ite_t (decide_eq_true (by omega)), T.run_ret]
    rw [T.run_bind_of hL, decide_eq_true (by omega)]; rfl
  · have hs : (law3_big_R0 [a, b] (0, 0)).run = some (.inl (((a.2.1.length + a.2.2.1.length : Nat) : Int), 1)) := by
      unfold law3_big_R0
      simp only [e0, e1, ei]
      rw [T.run_ite_t (by simp), T.run_idx _ (by omega) (by simp), T.run_idx _ (by omega) (by simp), T.run_ite_f (decide_eq_false (by omega)), T.run_ret]
    by_cases d : 16 < a.2.1.length + a.2.2.1.length + (b.2.1.length + b.2.2.1.length)
    · have hL : (law3_big_L0 [a, b] (0, 0)).run = some (.inr true) := by
        refine (T.loop_step hs).trans (T.loop_done ?_)
        unfold law3_big_R0
        simp only [e9, e2]
        rw [T.run_ite_t (by simp), T.run_idx _ (by omega) (by simp), T.run_idx _ (by omega) (by simp), T.run_ite_t (decide_eq_true (by omega)), T.run_ret]
      rw [T.run_bind_of hL, decide_eq_true d]; rfl
    · have hL : (law3_big_L0 [a, b] (0, 0)).run = some (.inl ()) := by
        have hs2 : (law3_big_R0 [a, b] (((a.2.1.length + a.2.2.1.length : Nat) : Int), 1)).run = some (.inl (((a.2.1.length + a.2.2.1.length + (b.2.1.length + b.2.2.1.length) : Nat) : Int), 2)) := by
          unfold law3_big_R0
          simp only [e9, e2, ej]
          rw [T.run_ite_t (by simp), T.run_idx _ (by omega) (by simp), T.run_idx _ (by omega) (by simp), T.run_ite_f (decide_eq_false (by omega)), T.run_ret]
        refine (T.loop_step hs).trans ((T.loop_step hs2).trans (T.loop_done ?_))
        unfold law3_big_R0
        rw [T.run_ite_f (by simp), T.run_ret]
      rw [T.run_bind_of hL, decide_eq_false d]; rfl
theorem law3_DecOrder_law (x : denL [tyRat, tyRat, i64]) (hw : wfL [tyRat, tyRat, i64] x) (hb : bkL [tyRat, tyRat, i64] x ≤ 1048576) : (law3_DecOrder (toPs [tyRat, tyRat, i64] x).1 (toPs [tyRat, tyRat, i64] x).2.1 (toPs [tyRat, tyRat, i64] x).2.2).run = some true := by
  obtain ⟨a, b, s, u⟩ := x
  have hla := rat_wf hw.1
  have hlb := rat_wf hw.2.1
  have hbb : bkL [tyRat, tyRat, i64] (a, b, s, u) = bk tyRat a + (bk tyRat b + (bk i64 s + 0)) := rfl
  have hka := rat_bk (a := a) (k := 1048576) (by omega)
  have hkb := rat_bk (a := b) (k := 1048576) (by omega)
  show (law3_DecOrder a b s).run = some true
  unfold law3_DecOrder
  have hlen : w64 (w64 (w64 ((a.2.1.length : Int) + (b.2.1.length : Int)) + (a.2.2.1.length : Int)) + (b.2.2.1.length : Int)) = ((a.2.1.length + b.2.1.length + a.2.2.1.length + b.2.2.1.length : Nat) : Int) := by
    rw [w64_in (x := (a.2.1.length : Int) + (b.2.1.length : Int)) (by omega) (by omega), w64_in (x := (a.2.1.length : Int) + (b.2.1.length : Int) + (a.2.2.1.length : Int)) (by omega) (by omega), w64_in (by omega) (by omega)]; omega
  have hguard : (T.bind (law3_big ([a, b] : List Rat)) fun r =>
      .ite r (.ret true) (.ite (decide ((8 : Int) < (w64 ((w64 ((w64 ((Nat.cast (List.length a.2.1) : Int) + (Nat.cast (List.length b.2.1) : Int))) + (Nat.cast (List.length a.2.2.1) : Int))) + (Nat.cast (List.length b.2.2.1) : Int)))))
            (.ret true) (.ite (decide (s < (0 : Int))) (.ret true) (.ret (decide ((9 : Int) < s)))) : T Bool)).run =
      some (decide (16 < a.2.1.length + a.2.2.1.length + (b.2.1.length + b.2.2.1.length)) || (decide (8 < a.2.1.length + b.2.1.length + a.2.2.1.length + b.2.2.1.length) || (decide (s < 0) || decide (9 < s)))) := by
    have e8 : decide ((8 : Int) < ((a.2.1.length + b.2.1.length + a.2.2.1.length + b.2.2.1.length : Nat) : Int)) = decide (8 < a.2.1.length + b.2.1.length + a.2.2.1.length + b.2.2.1.length) := decide_eq_decide.2 (by omega)
    rw [T.run_bind_of (big2_run a b (by omega) (by omega)), hlen, e8]
    cases decide (16 < a.2.1.length + a.2.2.1.length + (b.2.1.length + b.2.2.1.length)) with
    | true => rfl
    | false =>
      rw [T.run_ite_false]
      cases decide (8 < a.2.1.length + b.2.1.length + a.2.2.1.length + b.2.2.1.length) with
      | true => rfl
      | false =>
        rw [T.run_ite_false]
        cases decide (s < 0) <;> rfl
  rw [T.run_bind_of hguard]
  by_cases c : 8 < a.2.1.length + b.2.1.length + a.2.2.1.length + b.2.2.1.length
  · rw [decide_eq_true c]; simp
  · generalize (decide (16 < a.2.1.length + a.2.2.1.length + (b.2.1.length + b.2.2.1.length)) || (decide (8 < a.2.1.length + b.2.1.length + a.2.2.1.length + b.2.2.1.length) || (decide (s < 0) || decide (9 < s)))) = g
    cases g with
    | true => rfl
    | false =>
      rw [T.run_ite_false]
      have oa : ratOk 1000 a := ⟨hla.1, hla.2, by omega, by omega⟩
      have ob : ratOk 1000 b := ⟨hlb.1, hlb.2, by omega, by omega⟩
      have hj := ref2_Cmp_run (toR (rndQ (val a) (clampS s))) (toR (rndQ (val b) (clampS s))) (ratOk_toR (Nat.le_trans (rndQ_len a oa s) (by omega))) (ratOk_toR (Nat.le_trans (rndQ_len b ob s) (by omega)))
      rw [val_toR, val_toR] at hj
      rw [T.run_bind_of (ref2_Cmp_run a b (ok_up oa (by omega)) (ok_up ob (by omega))), T.run_bind_of (dec_Round_toR a oa s), T.run_bind_of (dec_Round_toR b ob s), T.run_bind_of hj]
      have hm := cmpQ_mono (p := val a) (q := val b) (rndQ_mono (clampS s)) (rndQ_mono (clampS s))
      generalize cmpQ (val a) (val b) = k at *
      generalize cmpQ (rndQ (val a) (clampS s)) (rndQ (val b) (clampS s)) = j at *
      have hkn : ∀ {f : Bool → T Bool}, (∀ r, (f r).run = some r) → (T.bind law3_known f).run = some true := fun hf => by rw [T.run_bind_of known_run, hf]
      by_cases k1 : k < 0
      · rw [T.run_ite_t (decide_eq_true k1), T.run_ite_f (decide_eq_false (by omega)), T.run_ite_t (decide_eq_true (hm.2 (by omega)))]
        exact hkn fun _ => rfl
      · rw [T.run_ite_f (decide_eq_false k1), T.run_ite_t (decide_eq_true (hm.1 (by omega)))]
        by_cases k2 : 0 < k
        · rw [T.run_ite_t (decide_eq_true k2)]; exact hkn fun _ => rfl
        · rw [T.run_ite_f (decide_eq_false k2), T.run_ite_t (decide_eq_true (hm.2 (by omega)))]
          exact hkn fun _ => rfl
end Go.AM.Lf
