/-
  Plain laws of the lifted program: P3s.
-/
import Derived.Test.YtgfadkdgifpddaaQP3r
import Derived.Test.YtgfadkdgifpddaaQDLib
set_option linter.unusedVariables false
namespace Go.AM.Lf
open PL
@[simp] theorem dflt_u8 : dflt (.int .u8) = (0 : Int) := rfl
theorem lenDigits : ([48, 49, 50, 51, 52, 53, 54, 55, 56, 57] : Str).length = 10 := rfl
theorem digitAt (r : Nat) : byteAt ([48, 49, 50, 51, 52, 53, 54, 55, 56, 57] : Str) ((r % 10 : Nat) : Int) = ((48 + r % 10 : Nat) : Int) := by
  have key : ∀ d : Fin 10, byteAt ([48, 49, 50, 51, 52, 53, 54, 55, 56, 57] : Str) ((d.val : Nat) : Int) = ((48 + d.val : Nat) : Int) := by decide
  exact key ⟨r % 10, by omega⟩
/-- Nine digits. -/
theorem group_run (q : List Int) (rest : Nat) (hr : rest < 4294967296) (xs : List Int) (hx : xs.length ≤ 1000000000) : (nat_Print_L1 q ((rest : Int), 0, xs)).run = some (xs ++ rdig 9 rest) := by
  have := T.loop_run (r := nat_Print_R1 q) (fun s : Int × Int × List Int => ∃ (r k : Nat), s.1 = (r : Int) ∧ r < 4294967296 ∧ s.2.1 = (k : Int) ∧ k ≤ 9 ∧ s.2.2.length ≤ 1000000000 + k)
    (fun s => 9 - s.2.1.toNat) (fun s => s.2.2 ++ rdig (9 - s.2.1.toNat) s.1.toNat) ?_ (s := ((rest : Int), 0, xs)) ⟨rest, 0, rfl, hr, rfl, by omega, by omega⟩
  · unfold nat_Print_L1
    simpa using this
  · rintro ⟨_, _, ys⟩ ⟨r, k, rfl, h1, rfl, h2, h3⟩
    simp only at h3 ⊢
    by_cases hk : k < 9
    · left
      have e1 : Int.tmod (r : Int) 10 = ((r % 10 : Nat) : Int) := by rw [tmod_pos (by omega)]; rfl
      have e2 : wu32 (Int.tdiv (r : Int) 10) = ((r / 10 : Nat) : Int) := by rw [tdiv_pos (by omega)]; exact wu32n (n := r / 10) (by omega)
      refine ⟨(((r / 10 : Nat) : Int), ((k + 1 : Nat) : Int), ys ++ [((48 + r % 10 : Nat) : Int)]), ?_, ⟨r / 10, k + 1, rfl, by omega, rfl, by omega, by simp; omega⟩, by simp; omega, ?_⟩
      · unfold nat_Print_R1
        simp only [e1, e2, digitAt, i1 k (by omega), lenDigits]
        rw [T.run_ite_t (by simp; omega)]
        simp (disch := omega)
      · simp only [Int.toNat_natCast]
        rw [show 9 - k = (9 - (k + 1)) + 1 by omega, rdig]
        simp
    · right
      have : k = 9 := by omega
      subst this
      unfold nat_Print_R1
      simp [rdig]
theorem blk_len (n j : Nat) (h : n < 4294967296 ^ j) : (blk n).length ≤ 18 * j := by
  induction j generalizing n with
  | zero =>
    have : n = 0 := by simpa using h
    subst this; rw [blk_zero]; simp
  | succ j ih =>
    by_cases hn : n = 0
    · subst hn; rw [blk_zero]; simp
    · rw [blk_pos hn]
      by_cases h2 : n / 1000000000 = 0
      · rw [h2, blk_zero]; simp [rdig_len]; omega
      · rw [blk_pos h2]
        have h3 : n / 1000000000 / 1000000000 < 4294967296 ^ j := by
          rw [Nat.div_div_eq_div_mul, Nat.div_lt_iff_lt_mul (by omega)]
          rw [Nat.pow_succ] at h
          exact Nat.lt_of_lt_of_le h (Nat.mul_le_mul_left _ (by omega))
        have := ih _ h3
        simp [rdig_len]; omega
theorem groups_run (n : Nat) (hn : (ofN n).length ≤ 1000000) : (nat_Print_L0 (ofN n, [])).run = some (blk n) := by
  have hbl := blk_len n (ofN n).length (ofN_len_le.1 (Nat.le_refl _))
  have := T.loop_run (r := nat_Print_R0) (fun s : List Int × List Int => ∃ m : Nat, s.1 = ofN m ∧ (ofN m).length ≤ 1000000 ∧ s.2.length + (blk m).length ≤ 18000000)
    (fun s => nv s.1) (fun s => s.2 ++ blk (nv s.1)) ?_ (s := (ofN n, [])) ⟨n, rfl, hn, by simp; omega⟩
  · unfold nat_Print_L0
    simpa using this
  · rintro ⟨_, xs⟩ ⟨m, rfl, h1, h2⟩
    simp only [nv_ofN] at h2 ⊢
    by_cases hm : m = 0
    · right
      subst hm
      unfold nat_Print_R0
      rw [ofN_zero, blk_zero]; simp
    · left
      have hne : (ofN m).length ≠ 0 := fun h => hm (ofN_eq_nil.1 (List.eq_nil_of_length_eq_zero h))
      have hs : (nat_small (ofN m) 1000000000).run = some (ofN (nv (ofN m) / 1000000000), ((nv (ofN m) % 1000000000 : Nat) : Int)) := nat_small_run (ofN m) (limbs_ofN m) (by omega) 1000000000 (by omega) (by omega)
      rw [nv_ofN] at hs
      have hbm := blk_pos hm
      have hl := congrArg List.length hbm
      rw [List.length_append, rdig_len] at hl
      have hg := group_run (ofN (m / 1000000000)) (m % 1000000000) (by omega) xs (by omega)
      have hlen : (ofN (m / 1000000000)).length ≤ (ofN m).length := ofN_len_le.2 (Nat.lt_of_le_of_lt (Nat.div_le_self _ _) (ofN_len_le.1 (Nat.le_refl _)))
      refine ⟨(ofN (m / 1000000000), xs ++ rdig 9 (m % 1000000000)), ?_, ⟨m / 1000000000, rfl, by omega, ?_⟩, ?_, ?_⟩
      · unfold nat_Print_R0
        rw [T.run_ite_t (by simp; omega), T.run_bind_of hs]
        simp only
        rw [T.run_cur _ rfl rfl rfl, T.run_true, T.run_bind_of hg, T.run_cur _ rfl rfl rfl, T.run_true, T.run_ret]
      · simp only [List.length_append, rdig_len]; omega
      · simp only [nv_ofN]; omega
      · simp only [nv_ofN]
        rw [hbm, List.append_assoc]
/-- Noughts at the end go. -/
theorem strip_run (l : List Int) (z : Nat) (hl : l ≠ []) (hlast : ∀ x, l.getLast? = some x → x ≠ 48) (hn : l.length + z ≤ 100000000) :
    (nat_Print_L2 ((0, (l ++ List.replicate z 48).length), l ++ List.replicate z 48)).run = some ((0, l.length), l ++ List.replicate z 48) := by
  generalize hX : l ++ List.replicate z 48 = X
  have hXl : X.length = l.length + z := by rw [← hX]; simp
  have hpos : 0 < l.length := List.length_pos_iff.2 hl
  have hget : ∀ p : Nat, nthN X p 0 = if p < l.length then nthN l p 0 else if p < l.length + z then 48 else 0 := by
    intro p
    unfold nthN
    rw [← hX, List.getD_eq_getElem?_getD, List.getD_eq_getElem?_getD]
    by_cases h : p < l.length
    · rw [if_pos h, List.getElem?_append_left h]
    · rw [if_neg h, List.getElem?_append_right (by omega), List.getElem?_replicate]
      by_cases h2 : p < l.length + z
      · rw [if_pos h2, if_pos (by omega)]; rfl
      · rw [if_neg h2, if_neg (by omega)]; rfl
  have := T.loop_run (r := nat_Print_R2) (fun s : (Nat × Nat) × List Int => ∃ k : Nat, s.1 = (0, l.length + k) ∧ k ≤ z ∧ s.2 = X) (fun s => s.1.2) (fun _ => ((0, l.length), X)) ?_ (s := ((0, X.length), X)) ⟨z, by rw [hXl], Nat.le_refl _, rfl⟩
  · exact this
  · rintro ⟨w, y⟩ ⟨k, h1, hk, h2⟩
    simp only at h1 h2
    rw [h1, h2]
    have e1 : w64 (((l.length + k : Nat) : Int) - 1) = ((l.length + k - 1 : Nat) : Int) := by rw [w64_in (by omega) (by omega)]; omega
    have hg := hget (l.length + k - 1)
    cases k with
    | zero =>
      right
      have hgl : nthN l (l.length - 1) 0 ≠ 48 := by
        refine hlast _ ?_
        rw [List.getLast?_eq_getElem?]
        unfold nthN
        rw [List.getD_eq_getElem?_getD, List.getElem?_eq_getElem (by omega)]; rfl
      rw [Nat.add_zero] at hg
      rw [if_pos (by omega)] at hg
      unfold nat_Print_R2
      simp only [Nat.add_zero] at e1 ⊢
      simp only [e1, Int.toNat_natCast, Nat.zero_add, dflt_u8, hg]
      rw [T.run_obl (fun _ => ⟨⟨by omega, by omega⟩, ⟨rfl, by omega⟩⟩), T.run_ite_f (by simp [hgl]), T.run_true, T.run_true, T.run_ret]
    | succ k =>
      left
      rw [show l.length + (k + 1) - 1 = l.length + k by omega] at e1 hg
      rw [if_neg (by omega), if_pos (by omega)] at hg
      refine ⟨((0, l.length + k), X), ?_, ⟨k, rfl, by omega, rfl⟩, by simp, rfl⟩
      unfold nat_Print_R2
      simp only [e1, Int.toNat_natCast, Nat.zero_add, dflt_u8, hg]
      rw [T.run_obl (fun _ => ⟨⟨by omega, by omega⟩, ⟨rfl, by omega⟩⟩), T.run_ite_t (by simp; omega), T.run_sl _ (by omega) (by omega) (by omega), T.run_true, T.run_true, T.run_ret]
      simp
/-- Reversing. -/
theorem reverse_run (xs : List Int) (n : Nat) (hn : n ≤ xs.length) (hx : xs.length ≤ 1000000000) : ∃ ys : List Int, (slices_Reverse_sl_byte_S (0, n) xs).run = some ys ∧ ys.length = xs.length ∧ ys.take n = (xs.take n).reverse := by
  have e0 : w64 ((n : Int) - 1) = (n : Int) - 1 := w64_in (by omega) (by omega)
  have loop : ∃ ys : List Int, (slices_Reverse_sl_byte_S_L0 ((0, n), 0, (n : Int) - 1, xs)).run = some ys ∧ ys.length = xs.length ∧ ∀ p, p < n → ys[p]? = xs[n - 1 - p]? := by
    refine T.loop_post (fun s : (Nat × Nat) × Int × Int × List Int => s.1 = (0, n) ∧ ∃ i : Nat, s.2.1 = (i : Int) ∧ s.2.2.1 = (n : Int) - 1 - (i : Int) ∧ i ≤ n ∧ s.2.2.2.length = xs.length ∧ 2 * i ≤ n + 1 ∧ ∀ p, p < n → s.2.2.2[p]? = if p < i ∨ n < p + i + 1 then xs[n - 1 - p]? else xs[p]?)
      (fun s => n - s.2.1.toNat) _ ?_ ⟨rfl, 0, rfl, by simp, by omega, rfl, by omega, fun p hp => by rw [if_neg (by omega)]⟩
    rintro ⟨_, _, _, zs⟩ ⟨rfl, i, rfl, rfl, hi, hl, h2i, hv⟩
    simp only at hl hv ⊢
    by_cases hlt : (i : Int) < (n : Int) - 1 - (i : Int)
    · left
      have hj : ((n : Int) - 1 - (i : Int)).toNat = n - 1 - i := by omega
      have ej : w64 ((n : Int) - 1 - (i : Int) - 1) = (n : Int) - 1 - ((i + 1 : Nat) : Int) := by rw [w64_in (by omega) (by omega)]; omega
      refine ⟨((0, n), ((i + 1 : Nat) : Int), (n : Int) - 1 - ((i + 1 : Nat) : Int), (zs.set i (nthN zs (n - 1 - i) 0)).set (n - 1 - i) (nthN zs i 0)), ?_, ⟨rfl, i + 1, rfl, rfl, by omega, by simpa using hl, by omega, ?_⟩, by simp; omega⟩
      · unfold slices_Reverse_sl_byte_S_R0
        simp only [hj, Int.toNat_natCast, Nat.zero_add, dflt_u8, i1 i (by omega), ej]
        rw [T.run_ite_t (decide_eq_true hlt), T.run_idx _ (by omega) (by omega), T.run_e _ rfl (by omega), T.run_idx _ (by omega) (by omega), T.run_e _ rfl (by omega), T.run_idx _ (by omega) (by omega), T.run_e _ rfl (by omega), T.run_idx _ (by omega) (by omega), T.run_e _ (by simp) (by simp; omega), T.run_true, T.run_eqN _ (by simp), T.run_ret]
      · intro p hp
        have g1 := hv i (by omega)
        have g2 := hv (n - 1 - i) (by omega)
        rw [if_neg (by omega)] at g1 g2
        simp only [List.getElem?_set, List.length_set]
        by_cases c1 : n - 1 - i = p
        · rw [if_pos c1, if_pos (by omega), if_pos (by omega)]
          unfold nthN
          rw [List.getD_eq_getElem?_getD, g1, ← c1, show n - 1 - (n - 1 - i) = i by omega, List.getElem?_eq_getElem (by omega)]; rfl
        · rw [if_neg c1]
          by_cases c2 : i = p
          · rw [if_pos c2, if_pos (by omega), if_pos (by omega)]
            unfold nthN
            rw [List.getD_eq_getElem?_getD, g2, ← c2, List.getElem?_eq_getElem (by omega)]; rfl
          · rw [if_neg c2, hv p hp]
            by_cases c3 : p < i ∨ n < p + i + 1
            · rw [if_pos c3, if_pos (by omega)]
            · rw [if_neg c3, if_neg (by omega)]
    · right
      refine ⟨zs, ?_, hl, fun p hp => ?_⟩
      · unfold slices_Reverse_sl_byte_S_R0
        rw [T.run_ite_f (decide_eq_false hlt), T.run_eqN _ rfl, T.run_ret]
      · rw [hv p hp]
        split
        · rfl
        · rw [show n - 1 - p = p by omega]
  obtain ⟨ys, hr, hl, hv⟩ := loop
  refine ⟨ys, ?_, hl, ?_⟩
  · unfold slices_Reverse_sl_byte_S
    rw [T.run_eqN _ rfl, T.run_eqN _ rfl, e0, T.run_bind_of hr, T.run_eqN _ rfl, T.run_ret]
  · apply List.ext_getElem?
    intro p
    by_cases hp : p < n
    · have hl2 : (xs.take n).length = n := by simp; omega
      rw [List.getElem?_take, if_pos hp, hv p hp, List.getElem?_reverse (by omega), hl2, List.getElem?_take, if_pos (by omega)]
    · rw [List.getElem?_eq_none (by simp; omega), List.getElem?_eq_none (by simp; omega)]
theorem nat_Print_run (a : List Int) (ha : limbs a) (la : a.length ≤ 1000000) : (nat_Print a).run = some (pr (nv a)) := by
  have qa := ofN_nv_len ha
  unfold nat_Print
  rw [T.run_bind_of (Trim_run a ha (by omega))]
  generalize nv a = n at *
  by_cases hn : n = 0
  · subst hn; rw [ofN_zero]; simp [pr]
  · have hne : (ofN n).length ≠ 0 := fun h => hn (ofN_eq_nil.1 (List.eq_nil_of_length_eq_zero h))
    rw [T.run_ite_f (by simpa using hne), T.run_cur _ rfl rfl rfl, T.run_eqN _ rfl, T.run_bind_of (groups_run n (by omega))]
    have hbl := blk_len n (ofN n).length (ofN_len_le.1 (Nat.le_refl _))
    obtain ⟨z, hz⟩ := blk_rd n
    have hzl := congrArg List.length hz
    rw [List.length_append, List.length_replicate] at hzl
    have hst := strip_run (rd n) z (rd_ne hn) (rd_last n) (by omega)
    rw [← hz] at hst
    obtain ⟨ys, hr, hl, hv⟩ := reverse_run (blk n) (rd n).length (by omega) (by omega)
    rw [T.run_eqN _ rfl, T.run_eqN _ rfl, T.run_bind_of hst]
    simp only [T.run_true]
    rw [T.run_bind_of hr, T.run_eqN _ hl.symm, T.run_ret]
    simp only [Nat.zero_add, List.drop_zero]
    rw [hv, hz, List.take_left, ← dgz_rd]
    unfold pr
    rw [if_neg hn]
theorem dgt_byte (r : Nat) (h : r < 10) : bytesStr [wu8 (wu64 (48 + (r : Int)))] = [dgt r] := by
  have e : wu64 (48 + (r : Int)) = ((48 + r : Nat) : Int) := by rw [wu64_in (by omega) (by omega)]; omega
  have e2 : wu8 ((48 + r : Nat) : Int) = ((48 + r : Nat) : Int) := wu8_in (by omega) (by omega)
  rw [e, e2]
  simp only [bytesStr, List.map_cons, List.map_nil, byteOf, dgt, Int.toNat_natCast, Nat.mod_eq_of_lt h]
theorem ref1_Print_run (a : List Int) (ha : limbs a) (la : a.length ≤ 1000000) : (ref1_Print a).run = some (pr (nv a)) := by
  have qa := ofN_nv_len ha
  unfold ref1_Print
  rw [T.run_bind_of (rTrim_run a ha (by omega))]
  generalize nv a = n at *
  by_cases hn : n = 0
  · subst hn; rw [ofN_zero]; simp [pr]
  · have hne : (ofN n).length ≠ 0 := fun h => hn (ofN_eq_nil.1 (List.eq_nil_of_length_eq_zero h))
    have hd : ∀ m : Nat, (ofN m).length ≤ 1000000 → (dgz m).length ≤ 18000000 := by
      intro m hm
      obtain ⟨z, hz⟩ := blk_rd m
      have h1 := blk_len m (ofN m).length (ofN_len_le.1 (Nat.le_refl _))
      have h2 := congrArg List.length hz
      rw [List.length_append] at h2
      rw [dgz_rd]
      simp only [bytesStr, List.length_map, List.length_reverse]
      omega
    have loop : (ref1_Print_L0 (ofN n, [])).run = some (dgz n) := by
      have := T.loop_run (r := ref1_Print_R0) (fun s : List Int × Str => ∃ m : Nat, s.1 = ofN m ∧ (ofN m).length ≤ 1000000 ∧ s.2.length + (dgz m).length ≤ 18000000) (fun s => nv s.1) (fun s => dgz (nv s.1) ++ s.2) ?_ (s := (ofN n, [])) ⟨n, rfl, by omega, by simpa using hd n (by omega)⟩
      · unfold ref1_Print_L0
        simpa using this
      · rintro ⟨_, s⟩ ⟨m, rfl, h1, h2⟩
        simp only [nv_ofN] at h2 ⊢
        by_cases hm : m = 0
        · right
          subst hm
          unfold ref1_Print_R0
          rw [ofN_zero, dgz_zero]; simp
        · left
          have hne : (ofN m).length ≠ 0 := fun h => hm (ofN_eq_nil.1 (List.eq_nil_of_length_eq_zero h))
          have hs : (ref1_small (ofN m) 10).run = some (ofN (nv (ofN m) / 10), ((nv (ofN m) % 10 : Nat) : Int)) := ref1_small_run (ofN m) (limbs_ofN m) (by omega) 10 (by omega) (by omega)
          rw [nv_ofN] at hs
          have hdp := dgz_pos hm
          have hdl := congrArg List.length hdp
          simp only [List.length_append, List.length_cons, List.length_nil] at hdl
          have hlen : (ofN (m / 10)).length ≤ (ofN m).length := ofN_len_le.2 (Nat.lt_of_le_of_lt (Nat.div_le_self _ _) (ofN_len_le.1 (Nat.le_refl _)))
          have eb := dgt_byte (m % 10) (by omega)
          have ed : dgt (m % 10) = dgt m := by unfold dgt; rw [Nat.mod_mod]
          rw [ed] at eb
          refine ⟨(ofN (m / 10), dgt m :: s), ?_, ⟨m / 10, rfl, by omega, ?_⟩, ?_, ?_⟩
          · unfold ref1_Print_R0
            rw [T.run_ite_t (by simp; omega), T.run_bind_of hs]
            simp only [eb]
            rw [T.run_leN _ (by simp; omega), T.run_ret]; rfl
          · simp only [List.length_cons]; omega
          · simp only [nv_ofN]; omega
          · simp only [nv_ofN]
            rw [hdp]; simp
    rw [T.run_ite_f (by simpa using hne), T.run_bind_of loop, T.run_ret]
    unfold pr
    rw [if_neg hn]
end Go.AM.Lf
