/-
  Plain laws of the lifted program: P3a.
-/
import Derived.Test.YtgfadkdgifpddaaLf0
import Derived.Test.YtgfadkdgifpddaaQKLib
import Derived.Test.YtgfadkdgifpddaaQBLib
set_option linter.unusedVariables false
namespace Go.AM.Lf
open PL
@[simp] theorem dflt_u32 : dflt (.int .u32) = (0 : Int) := rfl
theorem nth_last (l : List Int) (x : Int) : nth (l ++ [x]) ((l ++ [x]).length - 1 : Int) 0 = x := by
  rw [nth_append_r _ (by simp)]; simp [nth]
theorem trim_run (a : List Int) (h : limbs a) (hl : a.length ≤ 4000000000) : (nat_trim a).run = some (ofN (nv a)) := by
  have key : (nat_trim_L0 a).run = some (ofN (nv a)) := by
    unfold nat_trim_L0
    refine T.loop_run (fun a => limbs a ∧ a.length ≤ 4000000000) (fun a => a.length) (fun a => ofN (nv a)) ?_ ⟨h, hl⟩
    rintro s ⟨h1, h2⟩
    rcases List.eq_nil_or_concat s with rfl | ⟨l, x, rfl⟩
    · right; simp [nat_trim_R0, nat_Is, ofN_zero]
    · rw [List.concat_eq_append] at *
      have hx := nth_last l x
      have hlen : (l ++ [x]).length = l.length + 1 := by simp
      have hw : w64 (((l ++ [x]).length : Int) - 1) = ((l ++ [x]).length : Int) - 1 := w64_in (by omega) (by omega)
      have hIs : (nat_Is (l ++ [x])).run = some (x != 0) := by
        unfold nat_Is
        rw [T.run_obl]
        · simp only [hw, dflt_u32, hx, T.run_ret]
          congr 1
          have : (((l ++ [x]).length : Int) == 0) = false := by simp; omega
          rw [this]; rfl
        · intro _; rw [hw]; exact ⟨by omega, by omega⟩
      unfold nat_trim_R0
      rw [T.run_bind_of hIs]
      by_cases hx0 : x = 0
      · left
        subst hx0
        refine ⟨l, ?_, ⟨(limbs_append.1 h1).1, by omega⟩, by omega, by rw [nv_append_zero]⟩
        have hc : cutL (e := .int .u32) 0 (((l ++ [(0 : Int)]).length : Int) - 1) (l ++ [0]) = l := by
          unfold cutL; simp
        rw [hw, hc]
        simp only [bne_self_eq_false, Bool.not_false, T.run_ite_true]
        rw [T.run_sl _ (by omega) (by omega) (by omega), T.run_ret]
      · right
        have hb : (x != 0) = true := by simpa using hx0
        rw [hb]
        simp only [Bool.not_true, T.run_ite_false, T.run_ret]
        rw [ofN_nv h1]
        intro y hy
        simp at hy; omega
  unfold nat_trim
  rw [T.run_bind_of key, T.run_ret]
theorem clone_run (a : List Int) (hl : a.length ≤ 4000000000) : (slices_Clone_sl_uint32 a).run = some a := by
  unfold slices_Clone_sl_uint32
  rw [T.run_obl]
  · cases a with
    | nil => simp
    | cons x a => simp only [List.length_cons] at hl; simp (disch := omega)
  · rintro rfl r hr; simpa [T.leads] using hr
theorem Trim_run (a : List Int) (h : limbs a) (hl : a.length ≤ 4000000000) : (nat_Trim a).run = some (ofN (nv a)) := by
  unfold nat_Trim
  rw [T.run_bind_of (trim_run a h hl), T.run_bind_of (clone_run _ (Nat.le_trans (ofN_nv_len h) hl)), T.run_ret]
theorem rTrim_run (a : List Int) (h : limbs a) (hl : a.length ≤ 4000000000) : (ref1_Trim a).run = some (ofN (nv a)) := by
  have key : ∀ n : Nat, n ≤ a.length → nv (a.take n) = nv a → (ref1_Trim_L0 a (n : Int)).run = some ((ofN (nv a)).length : Int) ∧ (ofN (nv a)) = a.take (ofN (nv a)).length := by
    intro n
    induction n with
    | zero =>
      intro _ hn
      have h0 : nv a = 0 := by rw [← hn]; rfl
      rw [h0, ofN_zero]
      refine ⟨T.loop_done ?_, rfl⟩
      simp [ref1_Trim_R0]
    | succ n ih =>
      intro hle hn
      have e1 : w64 (((n + 1 : Nat) : Int) - 1) = (n : Int) := by rw [w64_in (by omega) (by omega)]; omega
      by_cases hx : nth a (n : Int) 0 = 0
      · have h2 : nv (a.take n) = nv a := by rw [← hn, nv_take_succ (by omega), hx]; simp
        obtain ⟨g1, g2⟩ := ih (by omega) h2
        refine ⟨?_, g2⟩
        rw [← g1]
        refine T.loop_step ?_
        unfold ref1_Trim_R0
        simp only [e1, dflt_u32, hx]
        rw [T.run_obl (fun _ => ⟨by omega, by omega⟩)]
        simp
      · have ht : trimd (a.take (n + 1)) := by
          rw [take_succ_nth _ _ (by omega)]
          intro y hy; simp at hy; rw [← hy]; exact hx
        have he := ofN_nv (limbs_take h (n + 1)) ht
        rw [hn] at he
        have hlen : (ofN (nv a)).length = n + 1 := by rw [he]; simp; omega
        rw [hlen]
        refine ⟨T.loop_done ?_, he⟩
        unfold ref1_Trim_R0
        simp only [e1, dflt_u32]
        rw [T.run_obl (fun _ => ⟨by omega, by omega⟩)]
        simp [hx]
  obtain ⟨g1, g2⟩ := key a.length (Nat.le_refl _) (by simp)
  have hle := ofN_nv_len h
  unfold ref1_Trim
  rw [T.run_bind_of g1]
  have hc : cutL (e := .int .u32) 0 ((ofN (nv a)).length : Int) a = ofN (nv a) := by
    unfold cutL; simp only [Int.toNat_natCast, Int.toNat_zero, List.drop_zero]; exact g2.symm
  simp only [hc]
  rw [T.run_sl _ (by omega) (by omega) (by omega)]
  cases hz : ofN (nv a) with
  | nil => simp
  | cons x l =>
    rw [hz] at hle
    simp only [List.length_cons] at hle
    simp (disch := omega)
end Go.AM.Lf
