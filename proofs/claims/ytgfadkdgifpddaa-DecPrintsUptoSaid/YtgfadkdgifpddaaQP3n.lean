/-
  Plain laws of the lifted program: P3n.
-/
import Derived.Test.YtgfadkdgifpddaaQP3m
set_option linter.unusedVariables false
namespace Go.AM.Lf
open PL
theorem horner (a b c : Nat) : (a * 4294967296 + b) * 4294967296 + c = a * 18446744073709551616 + b * 4294967296 + c := by
  rw [Nat.add_mul, Nat.mul_assoc]
theorem guess_run' {u2 u1 u0 v1 v2 : Nat} (h2 : u2 < 4294967296) (h1 : u1 < 4294967296) (h0 : u0 < 4294967296) (hv1 : v1 < 4294967296) (hv2 : v2 < 4294967296) (hn : 2147483648 ≤ v1)
    (ht : (u2 * 4294967296 + u1) * 4294967296 + u0 < (v1 * 4294967296 + v2 + 1) * 4294967296) :
    (nat_guess (u2 : Int) (u1 : Int) (u0 : Int) (v1 : Int) (v2 : Int)).run = some ((min (((u2 * 4294967296 + u1) * 4294967296 + u0) / (v1 * 4294967296 + v2)) 4294967295 : Nat) : Int) := by
  rw [horner] at ht ⊢
  exact guess_run h2 h1 h0 hv1 hv2 hn ht
theorem top2_alg (a b P t : Nat) : t + P * b + P * 4294967296 * a = (a * 4294967296 + b) * P + t := by grind
/-- A row's highest limbs. -/
theorem top2 (d : List Int) (n : Nat) (hn : d.length = n + 2) : nv d = (lm d (n + 1) * 4294967296 + lm d n) * 4294967296 ^ n + nv (d.take n) := by
  have h1 := nv_take_lm d n
  have h2 := nv_take_lm d (n + 1)
  rw [nv_take_all (by omega)] at h2
  rw [h2, h1, Nat.pow_succ, top2_alg]
theorem top3_alg {B a b c P t0 t1 t2 t3 : Nat} (h1 : t1 = t0 + P * c) (h2 : t2 = t1 + P * B * b) (h3 : t3 = t2 + P * B * B * a) : t3 = ((a * B + b) * B + c) * P + t0 := by
  rw [h3, h2, h1]; grind
theorem top3 (w : List Int) (n : Nat) (h : nv (w.drop (n + 1 + 1 + 1)) = 0) : nv w = ((lm w (n + 1 + 1) * 4294967296 + lm w (n + 1)) * 4294967296 + lm w n) * 4294967296 ^ n + nv (w.take n) := by
  have h0 : nv w = nv (w.take (n + 1 + 1 + 1)) := by
    by_cases c : n + 1 + 1 + 1 ≤ w.length
    · have := nv_split w (n + 1 + 1 + 1) c
      rw [h, Nat.mul_zero, Nat.add_zero] at this; exact this
    · rw [nv_take_all (by omega)]
  have h1 := nv_take_lm w n
  have h2 := nv_take_lm w (n + 1)
  have h3 := nv_take_lm w (n + 1 + 1)
  rw [Nat.pow_succ] at h2
  rw [Nat.pow_succ, Nat.pow_succ, ← h0] at h3
  exact top3_alg h1 h2 h3
theorem lm_take_eq {a b : List Int} {k i : Nat} (h : a.take k = b.take k) (hi : i < k) : lm a i = lm b i := by
  have e := congrArg (fun l => l[i]?) h
  simp only [List.getElem?_take, if_pos hi] at e
  unfold lm nth
  rw [List.getD_eq_getElem?_getD, List.getD_eq_getElem?_getD, Int.toNat_natCast, e]
theorem top_lt {U3 V2 D X Y U V : Nat} (hU : U = U3 * D + X) (hV : V = V2 * D + Y) (hY : Y < D) (hUV : U < V * 4294967296) : U3 < (V2 + 1) * 4294967296 := by
  have h1 : U3 * D < (V2 + 1) * 4294967296 * D := by
    have e : (V2 + 1) * 4294967296 * D = (V2 * D + D) * 4294967296 := by grind
    rw [e]
    have : V * 4294967296 ≤ (V2 * D + D) * 4294967296 := Nat.mul_le_mul_right _ (by omega)
    omega
  exact Nat.lt_of_mul_lt_mul_right h1
theorem win_guess (d : List Int) (hd : limbs d) (n : Nat) (hn : d.length = n + 2) (htop : 2147483648 ≤ lm d (n + 1)) (w : List Int) (hw : limbs w) (hwl : n + 1 + 1 + 1 ≤ w.length) (hW : nv w < nv d * 4294967296) :
    ∃ x : Nat, (nat_guess (lm w (n + 1 + 1) : Int) (lm w (n + 1) : Int) (lm w n : Int) (lm d (n + 1) : Int) (lm d n : Int)).run = some (x : Int) ∧ x < 4294967296 ∧ nv w / nv d ≤ x ∧ x ≤ nv w / nv d + 1 ∧ nv w < 4294967296 ^ (d.length + 1) := by
  have hdl := nv_lt hd
  have hdt := top2 d n hn
  have hdn := nv_take_lt hd n
  have hWp : nv w < 4294967296 ^ (d.length + 1) := by
    rw [Nat.pow_succ]
    exact Nat.lt_of_lt_of_le hW (Nat.mul_le_mul_right _ (Nat.le_of_lt hdl))
  have hz := nv_top_zero hw (d.length + 1) (by omega) hWp
  rw [show d.length + 1 = n + 1 + 1 + 1 by omega] at hz
  have ht3 := top3 w n hz
  have hwn := nv_take_lt hw n
  have hU3 := top_lt ht3 hdt hdn hW
  refine ⟨_, guess_run' (lm_lt hw _) (lm_lt hw _) (lm_lt hw _) (lm_lt hd _) (lm_lt hd _) htop hU3, ?_, ?_, ?_, hWp⟩
  · exact Nat.lt_of_le_of_lt (Nat.min_le_right _ _) (by decide)
  · refine (guess_q ht3 hwn hdt hdn ?_ hW rfl).1
    exact Nat.le_trans (Nat.mul_le_mul_right 4294967296 htop) (Nat.le_add_right _ _)
  · refine (guess_q ht3 hwn hdt hdn ?_ hW rfl).2
    exact Nat.le_trans (Nat.mul_le_mul_right 4294967296 htop) (Nat.le_add_right _ _)
theorem near {W V x : Nat} (g2 : x ≤ W / V + 1) : x * V ≤ W + V := by
  have h1 := Nat.mul_le_mul_right V g2
  have h2 := Nat.div_mul_le_self W V
  rw [Nat.add_mul, Nat.one_mul] at h1
  omega
theorem digit {W V x : Nat} (hV : 0 < V) (g1 : W / V ≤ x) (g2 : x ≤ W / V + 1) : (if W < x * V then x - 1 else x) = W / V := by
  have hdm := Nat.div_add_mod W V
  have hml := Nat.mod_lt W hV
  have hz : 0 ≤ W / V := Nat.zero_le _
  split
  · rename_i c
    have : x ≠ W / V := by
      intro h
      rw [h, Nat.mul_comm] at c; omega
    generalize W / V = z at *
    omega
  · rename_i c
    have hle : x ≤ W / V := (Nat.le_div_iff_mul_le hV).2 (by omega)
    exact Nat.le_antisymm hle g1
theorem win_lt {l N V : Nat} (hl : l < 4294967296) (hN : N < V) : l + 4294967296 * N < V * 4294967296 := by
  have := Nat.mul_le_mul_left 4294967296 (show N + 1 ≤ V from hN)
  omega
theorem digit_alg {l N Q V z r R : Nat} (h : r + z * V = l + 4294967296 * N) (hR : R = Q * V + N) : l + 4294967296 * R = (z + 4294967296 * Q) * V + r := by
  rw [hR]
  have e : (z + 4294967296 * Q) * V + r = (r + z * V) + 4294967296 * (Q * V) := by grind
  rw [e, h]; omega
end Go.AM.Lf
