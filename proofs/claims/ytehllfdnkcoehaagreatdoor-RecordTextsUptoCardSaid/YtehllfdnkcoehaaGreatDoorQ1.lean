/-
  Plain laws of the lifted program, part 1.
-/
import Derived.Test.YtehllfdnkcoehaaGreatDoorLf0
import Derived.Test.YtehllfdnkcoehaaGreatDoorAmA
import Derived.Test.YtehllfdnkcoehaaGreatDoorAmD
import Derived.Test.YtehllfdnkcoehaaGreatDoorQ0
set_option linter.unusedVariables false
namespace Go.AM.PL
def decT (t : Str) : Option (Nat × Nat) :=
  if t.takeWhile isD = [] then none else match t.dropWhile isD with
  | [] => some (dval (t.takeWhile isD), 1)
  | c :: q => if q = [] ∨ digs q = false then none else if c = 46 then some (dval (t.takeWhile isD) * 10 ^ q.length + dval q, 10 ^ q.length)
    else if c = 47 then (if dval q = 0 then none else some (dval (t.takeWhile isD), dval q)) else none
theorem takeWhile_digs {u : Str} (h : digs u = true) (r : Str) (hr : ∀ c q, r = c :: q → isD c = false) : (u ++ r).takeWhile isD = u ∧ (u ++ r).dropWhile isD = r := by
  induction u with
  | nil =>
    cases r with
    | nil => exact ⟨rfl, rfl⟩
    | cons c q => have := hr c q rfl; simp [this]
  | cons b u ih =>
    rw [digs_cons, Bool.and_eq_true] at h
    obtain ⟨i1, i2⟩ := ih h.2
    simp [h.1, i1, i2]
theorem decT_all {u : Str} (h : digs u = true) : decT u = if u = [] then none else some (dval u, 1) := by
  have := takeWhile_digs h [] (fun c q z => by cases z)
  rw [List.append_nil] at this
  unfold decT
  rw [this.1, this.2]
theorem decT_cut {u : Str} (h : digs u = true) (c : UInt8) (q : Str) (hc : isD c = false) : decT (u ++ c :: q) = if u = [] then none else if q = [] ∨ digs q = false then none else if c = 46 then some (dval u * 10 ^ q.length + dval q, 10 ^ q.length)
    else if c = 47 then (if dval q = 0 then none else some (dval u, dval q)) else none := by
  have := takeWhile_digs h (c :: q) (fun c' q' z => by cases z; exact hc)
  unfold decT
  rw [this.1, this.2]
theorem decT_bad {u : Str} (h : digs u = true) (c : UInt8) (q : Str) (hc : isD c = false) (h1 : c ≠ 46) (h2 : c ≠ 47) : decT (u ++ c :: q) = none := by
  rw [decT_cut h c q hc, if_neg h1, if_neg h2]
  split
  · rfl
  · split <;> rfl
theorem split_nondig {w : Str} (h : digs w = false) : ∃ u c v, w = u ++ c :: v ∧ digs u = true ∧ isD c = false := by
  induction w with
  | nil => cases h
  | cons b w ih =>
    cases hb : isD b with
    | false => exact ⟨[], b, w, rfl, rfl, hb⟩
    | true =>
      rw [digs_cons, hb, Bool.true_and] at h
      obtain ⟨u, c, v, rfl, h1, h2⟩ := ih h
      exact ⟨b :: u, c, v, rfl, by rw [digs_cons, hb, h1]; rfl, h2⟩
theorem split_at {c : UInt8} {s : Str} (h : c ∈ s) : ∃ w q, s = w ++ c :: q ∧ c ∉ w := by
  induction s with
  | nil => cases h
  | cons b s ih =>
    by_cases hb : b = c
    · subst hb; exact ⟨[], s, rfl, by simp⟩
    · obtain ⟨w, q, rfl, h2⟩ := ih (by rcases List.mem_cons.1 h with h | h; exact absurd h.symm hb; exact h)
      exact ⟨b :: w, q, rfl, by simp [h2]; exact fun z => hb z.symm⟩
theorem idxS_at (c : UInt8) (w q : Str) (h : c ∉ w) : idxS (w ++ c :: q) [c] = (w.length : Int) := by
  induction w with
  | nil => simp [idxS]
  | cons b w ih =>
    have hb : c ≠ b := fun z => h (by simp [z])
    have hw := ih (fun z => h (List.mem_cons_of_mem _ z))
    rw [List.cons_append]
    unfold idxS
    rw [hw]
    have e1 : List.isPrefixOf [c] (b :: (w ++ c :: q)) = false := by simp [List.isPrefixOf, hb]
    rw [e1]
    have e2 : ((w.length : Int) == -1) = false := by simp
    rw [e2]
    simp
theorem idxS_none (c : UInt8) (s : Str) (h : c ∉ s) : idxS s [c] = -1 := by
  induction s with
  | nil => rfl
  | cons b w ih =>
    have hb : c ≠ b := fun z => h (by simp [z])
    unfold idxS
    rw [ih (fun z => h (List.mem_cons_of_mem _ z))]
    have e1 : List.isPrefixOf [c] (b :: w) = false := by simp [List.isPrefixOf, hb]
    rw [e1]; rfl
theorem cutSt_at (c : UInt8) (w q : Str) (h : c ∉ w) : cutSt (w ++ c :: q) [c] = (w, q, true) := by
  unfold cutSt
  rw [idxS_at c w q h, if_pos (by omega)]
  simp
theorem cutSt_none (c : UInt8) (s : Str) (h : c ∉ s) : cutSt s [c] = (s, [], false) := by
  unfold cutSt
  rw [idxS_none c s h, if_neg (by omega)]
theorem natO_some {s : Str} {n : Nat} (h : natO s = some n) : s ≠ [] ∧ s.length ≤ 400 ∧ digs s = true ∧ n = dval s := by
  unfold natO at h
  split at h
  · cases h
  · rename_i hc
    cases h
    simp only [not_or] at hc
    exact ⟨hc.1, by omega, by simpa using hc.2.2, rfl⟩
theorem natO_of {s : Str} (h1 : s ≠ []) (h2 : s.length ≤ 400) (h3 : digs s = true) : natO s = some (dval s) := by
  unfold natO
  rw [if_neg (by simp [h1, h3]; omega)]
theorem natO_no {s : Str} (h : s = [] ∨ digs s = false) : natO s = none := by
  unfold natO
  rw [if_pos (by rcases h with h | h; exact .inl h; exact .inr (.inr h))]
end Go.AM.PL
namespace Go.AM.Lf
open PL
def zeroR : Rat := (false, [], [], ())
def decP (s : Str) : Option (Nat × Nat) := decT (trimPre s [45])
theorem trimPre_len (s p : Str) : (trimPre s p).length ≤ s.length := by unfold trimPre; split <;> simp
theorem parse_core (t : Str) (ht : t.length ≤ 400) (neg : Bool) :
    (T.bind (strings_Cut t ([46] : Str)) fun (whole, part, ok) =>
      .ite ok
        (T.bind (nat_Parse part) fun (r, is) =>
          .obl (((List.length whole) + (List.length part)) ≤ (4611686018427387904 : Nat)) <|
          T.bind (nat_Parse (cat whole part)) fun (n, both) =>
          .ite ((strEq whole ([] : Str)) || ((!is) || (!both)))
            (.ret ((false, (([] : List Int), (([] : List Int), ()))), (2 : Int)))
            (T.bind (dec_ten (Nat.cast (List.length part) : Int)) fun r1 =>
              T.bind (rat_Of neg n r1) fun r2 =>
              .ret (r2, (0 : Int))))
        (T.bind (strings_Cut t ([47] : Str)) fun (num, den, ok1) =>
          T.bind (nat_Parse num) fun (n1, is1) =>
          T.bind (nat_Parse (bif (!ok1) then ([49] : Str) else den)) fun (d, both1) =>
          .ite ((!is1) || ((!both1) || ((Nat.cast (List.length d) : Int) == (0 : Int))))
            (.ret ((false, (([] : List Int), (([] : List Int), ()))), (2 : Int)))
            (T.bind (rat_Of neg n1 d) fun r3 =>
              .ret (r3, (0 : Int)))) : T (Rat × Int)).run = some (match decT t with | some (n, d) => (ratN neg n d, (0 : Int)) | none => (zeroR, (2 : Int))) := by
  have hcut : ∀ c : UInt8, (strings_Cut t [c]).run = some (cutSt t [c]) := fun c => by
    unfold strings_Cut; rw [T.run_obl (by omega), T.run_ret]
  rw [T.run_bind_of (hcut 46)]
  have h46 : isD 46 = false := by decide
  have h47 : isD 47 = false := by decide
  by_cases c1 : (46 : UInt8) ∈ t
  · obtain ⟨w, p, rfl, hw⟩ := split_at c1
    rw [cutSt_at 46 w p hw]
    have hl : w.length + p.length + 1 ≤ 400 := by simp at ht; omega
    dsimp only
    rw [T.run_ite_true, T.run_bind_of (nat_Parse_run p (by omega))]
    have hwp := nat_Parse_run (cat w p) (by rw [len_cat]; omega)
    by_cases d1 : digs w = true
    · rw [decT_cut d1 46 p h46]
      by_cases d2 : w = []
      · subst d2
        rw [if_pos rfl]
        generalize natO p = o at *
        cases o <;> (dsimp only; rw [T.run_leN _ (by simp; omega), T.run_bind_of hwp]; generalize natO (cat [] p) = o2; cases o2 <;> rfl)
      · rw [if_neg d2]
        by_cases d3 : p = [] ∨ digs p = false
        · rw [if_pos d3, natO_no d3]
          dsimp only
          rw [T.run_leN _ (by omega), T.run_bind_of hwp]
          generalize natO (cat w p) = o2
          cases o2 <;> (dsimp only; rw [T.run_ite_t (by simp), T.run_ret]; rfl)
        · rw [if_neg d3, if_pos rfl]
          have d4 : p ≠ [] := fun z => d3 (.inl z)
          have d5 : digs p = true := by cases h : digs p with | true => rfl | false => exact absurd (.inr h) d3
          have d6 : digs (cat w p) = true := by rw [cat_eq, digs_app, d1, d5]; rfl
          have d7 : cat w p ≠ [] := by rw [cat_eq]; simp [d2]
          rw [natO_of d4 (by omega) d5]
          rw [natO_of d7 (by rw [len_cat]; omega) d6] at hwp
          dsimp only at hwp ⊢
          have e1 : strEq w [] = false := by rw [strEq_iff]; simpa using d2
          have h10 := ten_len p.length
          have hn := dval_len d6
          have ho := rat_Of_run neg (ofN (dval (cat w p))) (ofN (10 ^ p.length)) (limbs_ofN _) (limbs_ofN _) (by rw [len_cat] at hn; omega) (by omega)
          rw [nv_ofN, nv_ofN] at ho
          rw [T.run_leN _ (by omega), T.run_bind_of hwp]
          dsimp only
          rw [T.run_ite_f (by rw [e1]; rfl), T.run_bind_of (dec_ten_run p.length (by omega)), T.run_bind_of ho, T.run_ret, cat_eq, dval_app]
    · have d1 : digs w = false := by simpa using d1
      obtain ⟨u, c, v, rfl, g1, g2⟩ := split_nondig d1
      have hc46 : c ≠ 46 := fun z => hw (by simp [z])
      have e : decT (u ++ c :: v ++ 46 :: p) = none := by
        rw [List.append_assoc, List.cons_append, decT_cut g1 c _ g2]
        have : digs (v ++ 46 :: p) = false := by rw [digs_app, digs_cons, h46]; simp
        rw [if_pos (show v ++ 46 :: p = [] ∨ digs (v ++ 46 :: p) = false from .inr this)]; split <;> rfl
      rw [e]
      have hno : natO (cat (u ++ c :: v) p) = none := natO_no (.inr (by rw [cat_eq, digs_app, d1]; rfl))
      rw [hno] at hwp
      generalize natO p = o at *
      cases o <;> (dsimp only; rw [T.run_leN _ (by omega), T.run_bind_of hwp]; dsimp only; rw [T.run_ite_t (by simp), T.run_ret]; rfl)
  · rw [cutSt_none 46 t c1]
    dsimp only
    rw [T.run_ite_false, T.run_bind_of (hcut 47)]
    have fin : ∀ (num den : Str) (x : Bool), num.length ≤ 400 → den.length ≤ 400 → (T.bind (nat_Parse num) fun (n1, is1) =>
          T.bind (nat_Parse (bif (!x) then ([49] : Str) else den)) fun (d, both1) =>
          .ite ((!is1) || ((!both1) || ((Nat.cast (List.length d) : Int) == (0 : Int))))
            (.ret ((false, (([] : List Int), (([] : List Int), ()))), (2 : Int)))
            (T.bind (rat_Of neg n1 d) fun r3 => .ret (r3, (0 : Int))) : T (Rat × Int)).run =
          some (match natO num, natO (bif (!x) then ([49] : Str) else den) with | some n, some d => if d = 0 then (zeroR, (2 : Int)) else (ratN neg n d, (0 : Int)) | _, _ => (zeroR, (2 : Int))) := by
      intro num den x hn hd
      have hd2 : (bif (!x) then ([49] : Str) else den).length ≤ 400 := by cases x <;> simp [hd]
      generalize (bif (!x) then ([49] : Str) else den) = dd at *
      rw [T.run_bind_of (nat_Parse_run num (by omega))]
      have hdd := nat_Parse_run dd (by omega)
      cases h1 : natO num with
      | none =>
        dsimp only
        rw [T.run_bind_of hdd]
        generalize natO dd = o
        cases o <;> rfl
      | some n =>
        dsimp only
        rw [T.run_bind_of hdd]
        cases h2 : natO dd with
        | none => rfl
        | some d =>
          obtain ⟨a1, a2, a3, rfl⟩ := natO_some h1
          obtain ⟨b1, b2, b3, rfl⟩ := natO_some h2
          dsimp only
          have l1 := dval_len a3
          have l2 := dval_len b3
          by_cases z : dval dd = 0
          · rw [z, ofN_zero, if_pos rfl]; rfl
          · rw [if_neg z]
            have : (ofN (dval dd)).length ≠ 0 := fun h => z (ofN_eq_nil.1 (List.eq_nil_of_length_eq_zero h))
            have ho := rat_Of_run neg (ofN (dval num)) (ofN (dval dd)) (limbs_ofN _) (limbs_ofN _) (by omega) (by omega)
            rw [nv_ofN, nv_ofN] at ho
            rw [T.run_ite_f (by simp; exact fun h => z (ofN_eq_nil.1 h)), T.run_bind_of ho, T.run_ret]
    by_cases c2 : (47 : UInt8) ∈ t
    · obtain ⟨w, q, rfl, hw⟩ := split_at c2
      rw [cutSt_at 47 w q hw]
      have hl : w.length + q.length + 1 ≤ 400 := by simp at ht; omega
      rw [fin w q true (by omega) (by omega)]
      rw [show (bif (!true) then ([49] : Str) else q) = q from rfl]
      by_cases d1 : digs w = true
      · rw [decT_cut d1 47 q h47]
        by_cases d2 : w = []
        · rw [if_pos d2, natO_no (.inl d2)]
        · rw [if_neg d2, natO_of d2 (by omega) d1]
          by_cases d3 : q = [] ∨ digs q = false
          · rw [if_pos d3, natO_no d3]
          · have d4 : q ≠ [] := fun z => d3 (.inl z)
            have d5 : digs q = true := by cases h : digs q with | true => rfl | false => exact absurd (.inr h) d3
            rw [if_neg d3, if_neg (by decide), if_pos rfl, natO_of d4 (by omega) d5]
            dsimp only
            split <;> rfl
      · have d1 : digs w = false := by simpa using d1
        obtain ⟨u, c, v, rfl, g1, g2⟩ := split_nondig d1
        rw [natO_no (.inr d1)]
        have hc47 : c ≠ 47 := fun z => hw (by simp [z])
        have hc46 : c ≠ 46 := fun z => c1 (by simp [z])
        rw [List.append_assoc, List.cons_append, decT_bad g1 c _ g2 hc46 hc47]
    · rw [cutSt_none 47 t c2]
      rw [fin t [] false ht (by simp)]
      rw [show (bif (!false) then ([49] : Str) else []) = [49] from rfl]
      have h1 : natO [49] = some 1 := by decide
      rw [h1]
      by_cases d1 : digs t = true
      · rw [decT_all d1]
        by_cases d2 : t = []
        · rw [if_pos d2, natO_no (.inl d2)]
        · rw [if_neg d2, natO_of d2 ht d1]; rfl
      · have d1 : digs t = false := by simpa using d1
        rw [natO_no (.inr d1)]
        obtain ⟨u, c, v, rfl, g1, g2⟩ := split_nondig d1
        have hc47 : c ≠ 47 := fun z => c2 (by simp [z])
        have hc46 : c ≠ 46 := fun z => c1 (by simp [z])
        rw [decT_bad g1 c _ g2 hc46 hc47]
theorem dec_Parse_run (s : Str) (hs : s.length ≤ 1000000000) : (dec_Parse s).run = some (if 400 < s.length then (zeroR, (3 : Int)) else match decP s with | some (n, d) => (ratN (List.isPrefixOf [45] s) n d, (0 : Int)) | none => (zeroR, (2 : Int))) := by
  unfold dec_Parse
  by_cases c : 400 < s.length
  · rw [T.run_ite_t (decide_eq_true (by omega)), if_pos c, T.run_ret]; rfl
  · have hp : (strings_CutPrefix s [45]).run = some (trimPre s [45], List.isPrefixOf [45] s) := rfl
    have hl := trimPre_len s [45]
    rw [T.run_ite_f (decide_eq_false (by omega)), if_neg c, T.run_bind_of hp]
    exact parse_core _ (by omega) _
end Go.AM.Lf
namespace Go.AM.PL
theorem runLen (t : Str) : ∃ u r, t = u ++ r ∧ digs u = true ∧ (∀ c q, r = c :: q → isD c = false) := by
  induction t with
  | nil => exact ⟨[], [], rfl, rfl, fun c q h => by cases h⟩
  | cons b t ih =>
    cases hb : isD b with
    | false => exact ⟨[], b :: t, rfl, rfl, fun c q h => by cases h; exact hb⟩
    | true =>
      obtain ⟨u, r, rfl, h1, h2⟩ := ih
      exact ⟨b :: u, r, rfl, by rw [digs_cons, hb, h1]; rfl, h2⟩
theorem byte_dig {b : UInt8} : (decide ((48 : Int) ≤ (b.toNat : Int)) && decide ((b.toNat : Int) ≤ 57)) = isD b := by
  unfold isD
  rw [Bool.eq_iff_iff]; simp; omega
theorem byte_nodig {b : UInt8} : (decide ((b.toNat : Int) < (48 : Int)) || decide ((57 : Int) < (b.toNat : Int))) = !(isD b) := by
  unfold isD
  rw [Bool.eq_iff_iff]; simp; omega
end Go.AM.PL
namespace Go.AM.Lf
open PL
theorem run_run {u r : Str} (hu : digs u = true) (hr : ∀ c q, r = c :: q → isD c = false) (hl : (u ++ r).length ≤ 1000000000) : (ref3_run (u ++ r)).run = some (u.length : Int) := by
  have hL : (ref3_run_L0 (u ++ r) 0).run = some (u.length : Int) := by
    have := T.loop_run (r := ref3_run_R0 (u ++ r)) (fun i : Int => ∃ k : Nat, i = (k : Int) ∧ k ≤ u.length) (fun i => u.length - i.toNat) (fun _ => (u.length : Int)) (fun i hi => ?_) (s := 0) ⟨0, rfl, by omega⟩
    · exact this
    · obtain ⟨k, rfl, hk⟩ := hi
      unfold ref3_run_R0
      dsimp only
      by_cases c : k < u.length
      · left
        have hlt : k < (u ++ r).length := by simp; omega
        have hg : (u ++ r)[k] = u[k] := List.getElem_append_left c
        have hd : isD u[k] = true := List.all_eq_true.1 hu _ (List.getElem_mem c)
        refine ⟨((k + 1 : Nat) : Int), ?_, ⟨k + 1, rfl, c⟩, by simp only [Int.toNat_natCast]; omega, rfl⟩
        rw [T.run_obl (fun _ => ⟨idx_ok hlt, fun _ => idx_ok hlt⟩), byteAt_get hlt, hg, byte_dig, hd, lt_t hlt, T.run_ite_t (by rfl), T.run_ret, ix1 k _ hlt (by omega)]
      · right
        have hk : k = u.length := by omega
        subst hk
        cases r with
        | nil =>
          have hf : decide ((u.length : Int) < (((u ++ ([] : Str)).length : Nat) : Int)) = false := decide_eq_false (by simp)
          rw [hf, T.run_obl (fun h => by cases h), T.run_ite_f (by rfl), T.run_ret]
        | cons c q =>
          have hlt : u.length < (u ++ c :: q).length := by simp
          have hg : (u ++ c :: q)[u.length] = c := by simp
          rw [T.run_obl (fun _ => ⟨idx_ok hlt, fun _ => idx_ok hlt⟩), byteAt_get hlt, hg, byte_dig, hr c q rfl, lt_t hlt, T.run_ite_f (by rfl), T.run_ret]
  unfold ref3_run
  rw [T.run_bind_of hL, T.run_ret]
theorem ref1_Parse_run {u : Str} (h1 : u ≠ []) (h2 : u.length ≤ 400) (h3 : digs u = true) : (ref1_Parse u).run = some (ofN (dval u), true) := by
  have hL : (ref1_Parse_L0 u ([], 0)).run = some (.inl (ofN (dval u))) := by
    have := T.loop_run (r := ref1_Parse_R0 u) (fun st : List Int × Int => ∃ k : Nat, st = (ofN (dval (u.take k)), (k : Int)) ∧ k ≤ u.length) (fun st => u.length - st.2.toNat) (fun _ => (.inl (ofN (dval u)) : List Int ⊕ Bool)) (fun st hst => ?_) (s := ([], 0)) ⟨0, by simp [dval, ofN_zero], by omega⟩
    · exact this
    · obtain ⟨k, rfl, hk⟩ := hst
      unfold ref1_Parse_R0
      dsimp only
      by_cases c : k < u.length
      · left
        have hb : isD u[k] = true := List.all_eq_true.1 h3 _ (List.getElem_mem c)
        have hbb := isD_iff.1 hb
        have ht : digs (u.take k) = true := List.all_eq_true.2 fun x hx => List.all_eq_true.1 h3 x (List.mem_of_mem_take hx)
        have hl := dval_len ht
        have hl' : (ofN (dval (u.take k))).length ≤ 500 := by rw [List.length_take] at hl; omega
        have hm := ref1_Mul_run (ofN (dval (u.take k))) [10] (limbs_ofN _) ten_limbs (by omega) (by simp)
        rw [nv_ofN, show nv [10] = 10 from rfl] at hm
        have hml := ofN_mul_len (dval (u.take k)) 10
        have h10 : (ofN 10).length ≤ 1 := ofN_len_le.2 (by decide)
        have hd : wu32 (wu8 ((u[k].toNat : Int) - 48)) = ((u[k].toNat - 48 : Nat) : Int) := by rw [wu8_in (by omega) (by omega), wu32_in (by omega) (by omega)]; omega
        have ha := ref1_Add_run (ofN (dval (u.take k) * 10)) [((u[k].toNat - 48 : Nat) : Int)] (limbs_ofN _) (by intro x hx; simp at hx; omega) (by omega) (by simp)
        rw [nv_ofN, show nv [((u[k].toNat - 48 : Nat) : Int)] = u[k].toNat - 48 by rw [nv_cons, nv_nil]; omega] at ha
        refine ⟨(ofN (dval (u.take (k + 1))), ((k + 1 : Nat) : Int)), ?_, ⟨k + 1, rfl, c⟩, by simp only [Int.toNat_natCast]; omega, rfl⟩
        rw [T.run_ite_t (lt_t c), T.run_obl ⟨idx_ok c, fun _ => idx_ok c⟩, byteAt_get c, byte_nodig, hb, T.run_ite_f (by rfl), T.run_bind_of hm, T.run_obl (idx_ok c), hd, T.run_bind_of ha, T.run_ret, ix1 k _ c (by omega),
          List.take_succ_eq_append_getElem c, dval_snoc]
      · have : k = u.length := by omega
        subst this
        right
        rw [T.run_ite_f (lt_f _), T.run_ret, List.take_length]
  have hlen : 0 < u.length := List.length_pos_iff.2 h1
  have hg : (decide ((u.length : Int) < 1) || decide ((400 : Int) < (u.length : Int))) = false := by rw [decide_eq_false (by omega), decide_eq_false (by omega)]; rfl
  unfold ref1_Parse
  rw [T.run_ite_f hg, T.run_bind_of hL]; rfl
theorem ref2_Int0_run : (ref2_Int 0).run = some (toR 0) := by
  have h := ref1_Of_run 0 (by omega)
  rw [ofN_zero] at h
  have h2 := ref2_Of_run false [] [1] limbs_nil one_limb (by simp) (by simp)
  rw [show nv [] = 0 from rfl, show nv [1] = 1 from rfl, ratN_toR, qv_zero_num] at h2
  unfold ref2_Int
  rw [show (bif (decide ((0 : Int) < 0)) then (wu64 ((0 : Int) - (wu64 0))) else (wu64 0)) = ((0 : Nat) : Int) from by decide, show decide ((0 : Int) < 0) = false from by decide, T.run_bind_of h, T.run_bind_of h2, T.run_ret]
theorem ratN_one (neg : Bool) (n : Nat) : ratN neg n 1 = ratN neg (nv (ofN n)) (nv [1]) := by rw [nv_ofN]; rfl
theorem ref_core (t : Str) (ht : t.length ≤ 400) (neg : Bool) :
    (T.bind (ref3_run t) fun k =>
      .obl (slOk (0 : Int) k (List.length t)) <|
      .obl (slOk k (Nat.cast (List.length t) : Int) (List.length t)) <|
      .ite (k == (0 : Int))
        (T.bind (ref2_Int (0 : Int)) fun r1 =>
          .ret (r1, (2 : Int)))
        (T.bind (ref1_Parse (cutS (0 : Int) k t)) fun (n, r2) =>
          .ite (strEq (cutS k (Nat.cast (List.length t) : Int) t) ([] : Str))
            (T.bind (ref2_Of neg n ([(1 : Int)] : List Int)) fun r3 =>
              .ret (r3, (0 : Int)))
            (.obl (slOk (1 : Int) (Nat.cast (List.length (cutS k (Nat.cast (List.length t) : Int) t)) : Int) (List.length (cutS k (Nat.cast (List.length t) : Int) t))) <|
              T.bind (ref3_run (cutS (1 : Int) (Nat.cast (List.length (cutS k (Nat.cast (List.length t) : Int) t)) : Int) (cutS k (Nat.cast (List.length t) : Int) t))) fun m =>
              .obl (((m == (0 : Int)) = false) → (((m != (w64 ((Nat.cast (List.length (cutS k (Nat.cast (List.length t) : Int) t)) : Int) - (1 : Int)))) = false) → ((idxOk (0 : Int) (List.length (cutS k (Nat.cast (List.length t) : Int) t))) ∧ ((((byteAt (cutS k (Nat.cast (List.length t) : Int) t) (0 : Int)) != (46 : Int)) = true) → (idxOk (0 : Int) (List.length (cutS k (Nat.cast (List.length t) : Int) t))))))) <|
              .ite ((m == (0 : Int)) || ((m != (w64 ((Nat.cast (List.length (cutS k (Nat.cast (List.length t) : Int) t)) : Int) - (1 : Int)))) || (((byteAt (cutS k (Nat.cast (List.length t) : Int) t) (0 : Int)) != (46 : Int)) && ((byteAt (cutS k (Nat.cast (List.length t) : Int) t) (0 : Int)) != (47 : Int)))))
                (T.bind (ref2_Int (0 : Int)) fun r4 =>
                  .ret (r4, (2 : Int)))
                (.obl (slOk (1 : Int) (Nat.cast (List.length (cutS k (Nat.cast (List.length t) : Int) t)) : Int) (List.length (cutS k (Nat.cast (List.length t) : Int) t))) <|
                  T.bind (ref1_Parse (cutS (1 : Int) (Nat.cast (List.length (cutS k (Nat.cast (List.length t) : Int) t)) : Int) (cutS k (Nat.cast (List.length t) : Int) t))) fun (x, r5) =>
                  .obl (idxOk (0 : Int) (List.length (cutS k (Nat.cast (List.length t) : Int) t))) <|
                  .ite ((byteAt (cutS k (Nat.cast (List.length t) : Int) t) (0 : Int)) == (47 : Int))
                    (.ite ((Nat.cast (List.length x) : Int) == (0 : Int))
                        (T.bind (ref2_Int (0 : Int)) fun r6 =>
                          .ret (r6, (2 : Int)))
                        (T.bind (ref2_Of neg n x) fun r7 =>
                          .ret (r7, (0 : Int))))
                    (T.bind (ref3_ten m) fun t =>
                      T.bind (ref1_Mul n t) fun r8 =>
                      T.bind (ref1_Add r8 x) fun r9 =>
                      T.bind (ref2_Of neg r9 t) fun r10 =>
                      .ret (r10, (0 : Int)))))) : T (Rat × Int)).run = some (match decT t with | some (n, d) => (ratN neg n d, (0 : Int)) | none => (toR 0, (2 : Int))) := by
  obtain ⟨u, r, rfl, h1, h2⟩ := runLen t
  have hl : u.length + r.length ≤ 400 := by simpa using ht
  have hlen : (u ++ r).length = u.length + r.length := by simp
  have c1 : cutS 0 (u.length : Int) (u ++ r) = u := by unfold cutS; simp
  have c2 : cutS (u.length : Int) (((u ++ r).length : Nat) : Int) (u ++ r) = r := by unfold cutS; rw [Int.toNat_natCast, Int.toNat_natCast, List.take_length]; simp
  rw [T.run_bind_of (run_run h1 h2 (by omega)), T.run_sl _ (by omega) (by omega) (by omega), T.run_sl _ (by omega) (by omega) (by omega), c1, c2]
  by_cases d2 : u = []
  · subst d2
    have e : decT ([] ++ r) = none := by
      cases r with
      | nil => rfl
      | cons c q => rw [decT_cut h1 c q (h2 c q rfl), if_pos rfl]
    rw [e, T.run_ite_t (by rfl), T.run_bind_of ref2_Int0_run, T.run_ret]
  · have hu0 : u.length ≠ 0 := fun z => d2 (List.eq_nil_of_length_eq_zero z)
    have hn := dval_len h1
    rw [T.run_ite_f (by simpa using d2), T.run_bind_of (ref1_Parse_run d2 (by omega) h1)]
    dsimp only
    cases r with
    | nil =>
      have ho := ref2_Of_run neg (ofN (dval u)) [1] (limbs_ofN _) one_limb (by omega) (by simp)
      rw [← ratN_one] at ho
      rw [T.run_ite_t (by rfl), T.run_bind_of ho, T.run_ret, List.append_nil, decT_all h1, if_neg d2]
    | cons c q =>
      have hc := h2 c q rfl
      have hq : (c :: q).length = q.length + 1 := rfl
      have e1 : strEq (c :: q) [] = false := by rw [strEq_iff]; simp
      have e2 : w64 (((c :: q).length : Int) - 1) = (q.length : Int) := by rw [hq, w64_in (by omega) (by omega)]; omega
      have e3 : byteAt (c :: q) 0 = (c.toNat : Int) := rfl
      obtain ⟨u2, r2, rfl, k1, k2⟩ := runLen q
      have hl2 : (u2 ++ r2).length = u2.length + r2.length := by simp
      rw [T.run_ite_f e1, T.run_sl _ (by omega) (by rw [hq]; omega) (by omega), cutS_drop1, T.run_bind_of (run_run k1 k2 (by omega)), e2, e3, decT_cut h1 c _ hc, if_neg d2]
      rw [T.run_obl (fun _ _ => ⟨⟨by omega, by rw [hq]; omega⟩, fun _ => ⟨by omega, by rw [hq]; omega⟩⟩)]
      by_cases d3 : u2 ++ r2 = [] ∨ digs (u2 ++ r2) = false
      · rw [if_pos d3]
        have hg : (((u2.length : Int) == 0) || (((u2.length : Int) != (((u2 ++ r2).length : Nat) : Int)) || (((c.toNat : Int) != 46) && ((c.toNat : Int) != 47)))) = true := by
          rcases d3 with d3 | d3
          · have : u2 = [] := (List.append_eq_nil_iff.1 d3).1
            subst this; rfl
          · cases r2 with
            | nil => rw [List.append_nil, k1] at d3; cases d3
            | cons a b => rw [hl2, show ((a :: b).length) = b.length + 1 from rfl]; simp; omega
        rw [T.run_ite_t hg, T.run_bind_of ref2_Int0_run, T.run_ret]
      · rw [if_neg d3]
        have d4 : u2 ++ r2 ≠ [] := fun z => d3 (.inl z)
        have d5 : digs (u2 ++ r2) = true := by cases h : digs (u2 ++ r2) with | true => rfl | false => exact absurd (.inr h) d3
        have d6 : r2 = [] := by
          cases r2 with
          | nil => rfl
          | cons a b =>
            rw [digs_app, digs_cons, k2 a b rfl] at d5; simp at d5
        subst d6
        rw [List.append_nil] at *
        have hu2 : u2.length ≠ 0 := fun z => d4 (List.eq_nil_of_length_eq_zero z)
        have hcn : ∀ x : UInt8, ((c.toNat : Int) == (x.toNat : Int)) = decide (c = x) := fun x => by
          by_cases z : c = x
          · subst z; simp
          · rw [decide_eq_false z]
            have : c.toNat ≠ x.toNat := fun h => z (UInt8.toNat_inj.1 h)
            simp; omega
        have hg : (((u2.length : Int) == 0) || (((u2.length : Int) != (u2.length : Int)) || (((c.toNat : Int) != 46) && ((c.toNat : Int) != 47)))) = (!decide (c = 46) && !decide (c = 47)) := by
          have a1 : ((c.toNat : Int) == 46) = decide (c = 46) := hcn 46
          have a2 : ((c.toNat : Int) == 47) = decide (c = 47) := hcn 47
          have a3 : ((u2.length : Int) == 0) = false := by simp; exact d4
          rw [a3, bne_self_eq_false, Bool.false_or, Bool.false_or]
          unfold bne
          rw [a1, a2]
        rw [hg]
        have hx := dval_len k1
        have hp := ref1_Parse_run d4 (by omega) k1
        by_cases f1 : c = 46
        · rw [if_pos f1, T.run_ite_f (by simp [f1]), T.run_sl _ (by omega) (by rw [hq]; omega) (by omega), T.run_bind_of hp]
          dsimp only
          have h10 := ten_len u2.length
          have hm := ref1_Mul_ofN (dval u) (10 ^ u2.length) (by omega) (by omega)
          have hml := ofN_mul_len (dval u) (10 ^ u2.length)
          have ha := ref1_Add_ofN (dval u * 10 ^ u2.length) (dval u2) (by omega) (by omega)
          have hal := ofN_add_len (dval u * 10 ^ u2.length) (dval u2) 5000 (by omega) (by omega)
          have ho := ref2_Of_run neg (ofN (dval u * 10 ^ u2.length + dval u2)) (ofN (10 ^ u2.length)) (limbs_ofN _) (limbs_ofN _) (by omega) (by omega)
          rw [nv_ofN, nv_ofN] at ho
          rw [T.run_idx _ (by omega) (by rw [hq]; omega), T.run_ite_f (by rw [f1]; rfl), T.run_bind_of (ref3_ten_run _ (by omega)), T.run_bind_of hm, T.run_bind_of ha, T.run_bind_of ho, T.run_ret]
        · rw [if_neg f1]
          by_cases f2 : c = 47
          · rw [if_pos f2, T.run_ite_f (by simp [f2]), T.run_sl _ (by omega) (by rw [hq]; omega) (by omega), T.run_bind_of hp]
            dsimp only
            rw [T.run_idx _ (by omega) (by rw [hq]; omega), T.run_ite_t (by rw [f2]; rfl), len_zero]
            by_cases z : dval u2 = 0
            · rw [if_pos z, T.run_ite_t (decide_eq_true z), T.run_bind_of ref2_Int0_run, T.run_ret]
            · have ho := ref2_Of_run neg (ofN (dval u)) (ofN (dval u2)) (limbs_ofN _) (limbs_ofN _) (by omega) (by omega)
              rw [nv_ofN, nv_ofN] at ho
              rw [if_neg z, T.run_ite_f (decide_eq_false z), T.run_bind_of ho, T.run_ret]
          · rw [if_neg f2, T.run_ite_t (by simp [f1, f2]), T.run_bind_of ref2_Int0_run, T.run_ret]
theorem ref3_Parse_run (s : Str) (hs : s.length ≤ 1000000000) : (ref3_Parse s).run = some (if 400 < s.length then (toR 0, (3 : Int)) else match decP s with | some (n, d) => (ratN (List.isPrefixOf [45] s) n d, (0 : Int)) | none => (toR 0, (2 : Int))) := by
  unfold ref3_Parse
  by_cases c : 400 < s.length
  · rw [T.run_ite_t (decide_eq_true (by omega)), if_pos c, T.run_bind_of ref2_Int0_run, T.run_ret]
  · rw [T.run_ite_f (decide_eq_false (by omega)), if_neg c]
    have hneg : ((!(strEq s ([] : Str))) && ((byteAt s (0 : Int)) == (45 : Int))) = List.isPrefixOf [45] s := by
      cases s with
      | nil => rfl
      | cons b l =>
        have e1 : strEq (b :: l) [] = false := by rw [strEq_iff]; simp
        have e2 : byteAt (b :: l) 0 = (b.toNat : Int) := rfl
        rw [e1, e2]
        show (true && _) = ((45 : UInt8) == b && true)
        rw [Bool.true_and, Bool.and_true, Bool.eq_iff_iff]
        simp only [beq_iff_eq]
        constructor
        · intro h; exact (UInt8.toNat_inj.1 (by show (45 : UInt8).toNat = b.toNat; rw [show (45 : UInt8).toNat = 45 from rfl]; omega))
        · intro h; subst h; rfl
    have hcut : (bif ((!(strEq s ([] : Str))) && ((byteAt s (0 : Int)) == (45 : Int))) then (cutS (1 : Int) (Nat.cast (List.length s) : Int) s) else s) = trimPre s [45] := by
      rw [hneg]
      unfold trimPre
      cases h : List.isPrefixOf [45] s with
      | false => rfl
      | true =>
        cases s with
        | nil => cases h
        | cons b l => rw [if_pos rfl]; exact cutS_drop1 b l
    have hl := trimPre_len s [45]
    have core := ref_core (trimPre s [45]) (by omega) (List.isPrefixOf [45] s)
    have o1 : ((!(strEq s ([] : Str))) = true) → (idxOk (0 : Int) (List.length s)) := fun h => by
      cases s with
      | nil => cases h
      | cons b l => exact ⟨by omega, by simp⟩
    have o2 : (((!(strEq s ([] : Str))) && ((byteAt s (0 : Int)) == (45 : Int))) = true) → (slOk (1 : Int) (Nat.cast (List.length s) : Int) (List.length s)) := fun h => by
      cases s with
      | nil => cases h
      | cons b l => exact ⟨by omega, by simp; omega, by omega⟩
    rw [T.run_obl o1, T.run_obl o2]
    simp only [hcut]
    simp only [hneg]
    exact core
end Go.AM.Lf
namespace Go.AM.Lf
open PL
theorem limbs2_run (a b : List Int) (la : a.length ≤ 1000000000) (e : a = b) : (ref2_limbs a b).run = some true := by
  subst e
  have key : (ref2_limbs_L0 a a 0).run = some (.inl ()) := by
    have := T.loop_scan (r := ref2_limbs_R0 a a) a (dflt (.int .u32)) (fun (_ : Unit) i => i) (fun _ _ => True) (fun _ _ => (.inl () : Unit ⊕ Bool)) (fun k b x xs hk hx hm hd hI => ?_) (fun b _ => ?_) (b := ()) trivial
    · exact this
    · left
      refine ⟨(), ?_, trivial, rfl⟩
      unfold ref2_limbs_R0
      dsimp only
      rw [T.run_ite_t (lt_t hk), T.run_obl (idx_ok hk), T.run_obl (idx_ok hk), T.run_ite_f (by simp), T.run_ret, ix1 k _ hk (by omega)]
    · unfold ref2_limbs_R0
      dsimp only
      rw [T.run_ite_f (lt_f _), T.run_ret]
  unfold ref2_limbs
  rw [T.run_ite_f (by simp), T.run_bind_of key]; rfl
theorem Same_run (a b : Rat) (ha : ratOk 100000 a) (hb : ratOk 100000 b) (h : val a = val b) : (ref2_Same a b).run = some true := by
  unfold ref2_Same
  have l := qlen_val (by omega) ha
  have h1 := qlen_num (val a); have h2 := qlen_den (val a)
  rw [T.run_bind_of (ref2_norm a (ok_up ha (by omega))), T.run_bind_of (ref2_norm b (ok_up hb (by omega))), norm_toR, norm_toR, ← h, T.run_ite_t (by simp), toR_num, toR_den, T.run_bind_of (limbs2_run _ _ (by omega) rfl), T.run_ite_true, T.run_bind_of (limbs2_run _ _ (by omega) rfl), T.run_ret]
end Go.AM.Lf
namespace Go.AM.Lf
open PL
theorem decT_lt {t : Str} {n d : Nat} (h : decT t = some (n, d)) : n < 10 ^ t.length ∧ d ≤ 10 ^ t.length := by
  obtain ⟨u, r, rfl, h1, h2⟩ := runLen t
  have hu := dval_lt h1
  cases r with
  | nil =>
    rw [List.append_nil, decT_all h1] at h
    split at h
    · cases h
    · cases h
      rw [List.append_nil]
      exact ⟨hu, Nat.one_le_pow _ _ (by omega)⟩
  | cons c q =>
    rw [decT_cut h1 c q (h2 c q rfl)] at h
    have hl : (u ++ c :: q).length = u.length + q.length + 1 := by simp; omega
    have mono : ∀ {a b : Nat}, a ≤ b → 10 ^ a ≤ 10 ^ b := fun h => Nat.pow_le_pow_right (by omega) h
    split at h
    · cases h
    · split at h
      · cases h
      · rename_i hq
        have hd : digs q = true := by cases hh : digs q with | true => rfl | false => exact absurd (.inr hh) hq
        have hq1 := dval_lt hd
        rw [hl]
        split at h
        · cases h
          refine ⟨?_, mono (by omega)⟩
          have e : 10 ^ (u.length + q.length) ≤ 10 ^ (u.length + q.length + 1) := mono (by omega)
          rw [Nat.pow_add] at e
          have : (dval u + 1) * 10 ^ q.length ≤ 10 ^ u.length * 10 ^ q.length := Nat.mul_le_mul_right _ hu
          rw [Nat.add_mul, Nat.one_mul] at this
          omega
        · split at h
          · split at h
            · cases h
            · cases h
              have e1 : 10 ^ u.length ≤ 10 ^ (u.length + q.length + 1) := mono (by omega)
              have e2 : 10 ^ q.length ≤ 10 ^ (u.length + q.length + 1) := mono (by omega)
              omega
          · cases h
theorem big42 : 10 ^ 400 < 4294967296 ^ 42 := by decide +kernel
theorem lt_len {n k : Nat} (h : n ≤ 10 ^ k) (hk : k ≤ 400) : (ofN n).length ≤ 42 :=
  ofN_len_le.2 (Nat.lt_of_le_of_lt (Nat.le_trans h (Nat.pow_le_pow_right (by omega) hk)) big42)
theorem parse_small {s : Str} {n d : Nat} (neg : Bool) (hs : s.length ≤ 400) (h : decP s = some (n, d)) : ratOk 50 (ratN neg n d) := by
  have hl := trimPre_len s [45]
  obtain ⟨h1, h2⟩ := decT_lt h
  exact ratN_ok _ _ _ _ (by omega) (Nat.le_trans (lt_len (by omega) (by omega : (trimPre s [45]).length ≤ 400)) (by omega)) (Nat.le_trans (lt_len h2 (by omega)) (by omega))
end Go.AM.Lf
namespace Go.AM.T
theorem run_same {α β : Type} (a : β) (t : T α) : (obl (a = a) t).run = t.run := run_obl rfl t
end Go.AM.T
namespace Go.AM.Lf
open PL
abbrev tyIt : Ty := .cons .str (.cons tyRat .nil)
abbrev ItT := den tyIt
theorem nth_at {α : Type} {l : List α} {k : Nat} (h : k < l.length) (d : α) : nth l (k : Int) d = l[k] := by simp [nth, h]
theorem bytesOf_len (s : Str) : (bytesOf s).length = s.length := by unfold bytesOf; simp
theorem bytesOf_app (s t : Str) : bytesOf (s ++ t) = bytesOf s ++ bytesOf t := by unfold bytesOf; simp
theorem bytesStr_of (s : Str) : bytesStr (bytesOf s) = s := by
  unfold bytesStr bytesOf
  rw [List.map_map]
  conv => rhs; rw [← List.map_id s]
  refine List.map_congr_left fun b _ => ?_
  simp [byteOf]
theorem bytesOf_range (s : Str) : ∀ n ∈ bytesOf s, (0 : Int) ≤ n ∧ n < 256 := by
  intro n hn
  unfold bytesOf at hn
  obtain ⟨b, _, rfl⟩ := List.mem_map.1 hn
  have := b.toNat_lt
  omega
theorem writeString_run (s b : Str) (h : b.length + s.length ≤ 140737488355328) : (strings_Builder_WriteString_S s () (bytesOf b)).run = some ((s.length : Int), (), bytesOf (b ++ s)) := by
  unfold strings_Builder_WriteString_S bld_copyCheck
  simp only [T.bind]
  rw [T.run_cur _ rfl rfl rfl, T.run_true, T.run_app _ rfl rfl rfl (by simp only [bytesOf_len]; omega), T.run_cur _ (by simp) rfl (by simp), T.run_obl (by simp), T.run_ret, bytesOf_app]
theorem bldString_run (b : Str) (h : b.length ≤ 140737488355328) : (bld_String () (bytesOf b)).run = some (b, ()) := by
  unfold bld_String strT
  rw [T.run_obl ⟨bytesOf_range b, by rw [bytesOf_len]; exact h⟩, T.run_ret, bytesStr_of]
def itemS (x : ItT) : Str := x.1 ++ [32] ++ printS (norm x.2.1) ++ [10]
def itemOk (x : ItT) : Prop := x.1.length ≤ 100000 ∧ ratOk 1000 x.2.1
theorem itemS_len {x : ItT} (h : itemOk x) : (itemS x).length ≤ 140003 := by
  have := printS_len _ h.2
  have := h.1
  unfold itemS
  simp only [List.length_append, List.length_cons, List.length_nil]
  omega
theorem encode_run (l : List ItT) (h : ∀ x ∈ l, itemOk x) (hl : l.length ≤ 1000000) : (record_Encode l).run = some (l.flatMap itemS) := by
  have key := T.loop_fold (r := record_Encode_R0 l (l.length : Int)) l (dflt tyIt) (fun (b : Str) i => (i, (), bytesOf b)) (fun k b => b.length ≤ k * 140003) (fun b x => b ++ itemS x) (fun b => ((), bytesOf b)) (fun k b x hk hx hm hI => ?_) (fun b hI => ?_) (b := []) (by simp)
  · obtain ⟨k1, k2⟩ := key
    rw [foldl_cat, List.nil_append] at k1 k2
    have k1 : (record_Encode_L0 l (l.length : Int) ((0 : Int), ((), ([] : List Int)))).run = some ((), bytesOf (l.flatMap itemS)) := k1
    unfold record_Encode
    rw [T.run_cur _ rfl rfl rfl, T.run_same, T.run_bind_of k1]
    dsimp only
    rw [T.run_cur _ rfl rfl rfl, T.run_same, T.run_bind_of (bldString_run _ (by omega))]
    rfl
  · have h1 := printS_len _ (h x hm).2
    have h2 := itemS_len (h x hm)
    have h3 := (h x hm).1
    have h4 := mul_mono (c := 140003) (show k + 1 ≤ l.length from hk)
    rw [Nat.add_mul, Nat.one_mul] at h4
    have hd : (dec_Print (x.2.1.1, (x.2.1.2.1, (x.2.1.2.2.1, ())))).run = some (printS (norm x.2.1)) := dec_Print_run x.2.1 (h x hm).2
    have hw := writeString_run (itemS x) b (by omega)
    refine ⟨?_, by rw [List.length_append, Nat.add_mul, Nat.one_mul]; omega⟩
    unfold record_Encode_R0
    dsimp only
    rw [T.run_ite_t (lt_t hk), T.run_obl (idx_ok hk), hx, T.run_leN _ (by simp; omega), T.run_bind_of hd, T.run_leN _ (by simp [cat_eq]; omega), T.run_leN _ (by simp [cat_eq]; omega), T.run_cur _ rfl rfl rfl, T.run_same]
    have e : cat (cat (cat x.1 [32]) (printS (norm x.2.1))) [10] = itemS x := rfl
    rw [e, T.run_bind_of hw]
    dsimp only
    rw [T.run_cur _ rfl rfl rfl, T.run_same, T.run_ret, ix1 k _ hk (by omega)]
  · unfold record_Encode_R0
    dsimp only
    rw [T.run_ite_f (lt_f _), T.run_cur _ rfl rfl rfl, T.run_same, T.run_ret]
theorem known21_run : (law21_known).run = some true := by
  have l3 : limbs [(3 : Int)] := by intro x hx; simp at hx; omega
  have h1 := encode_run [(([97] : Str), ((false, (([(1 : Int)] : List Int), (([(3 : Int)] : List Int), ()))), ()))] (fun x hx => by
    rw [List.mem_singleton] at hx; subst hx; exact ⟨by simp, one_limb, l3, by simp, by simp⟩) (by simp)
  have n1 : norm (false, [1], [3], ()) = (false, ofN 1, ofN 3, ()) := by
    show ratN false (nv [1]) (nv [3]) = _
    rw [show nv [1] = 1 from rfl, show nv [3] = 3 from rfl]; rfl
  have e : ([(([97] : Str), ((false, (([(1 : Int)] : List Int), (([(3 : Int)] : List Int), ()))), ()))] : List ItT).flatMap itemS = [97, 32, 49, 47, 51, 10] := by
    simp only [List.flatMap_cons, List.flatMap_nil, List.append_nil]
    unfold itemS
    dsimp only
    rw [n1]
    unfold printS
    simp only [nv_ofN]
    rw [if_neg (by omega)]
    unfold pr
    rw [if_neg (by omega), if_neg (by omega), dgz_small 1 (by omega) (by omega), dgz_small 3 (by omega) (by omega)]; rfl
  rw [e] at h1
  unfold law21_known
  rw [T.run_bind_of h1, T.run_ret, strEq_refl]
end Go.AM.Lf
namespace Go.AM.Lf
open PL
def isL (b : UInt8) : Bool := decide (97 ≤ (b.toNat : Int)) && decide ((b.toNat : Int) ≤ 122)
def isIn (b : UInt8) : Bool := isL b || ((decide (48 ≤ (b.toNat : Int)) && decide ((b.toNat : Int) ≤ 57)) || ((b.toNat : Int) == 95))
def nameOk (s : Str) : Bool := match s with | [] => false | b :: _ => decide (s.length ≤ 24) && (isL b && s.all isIn)
theorem isInner_run (b : UInt8) : (expr_isInner (b.toNat : Int)).run = some (isIn b) := by
  have h1 : (expr_isLetter (b.toNat : Int)).run = some (isL b) := rfl
  have h2 : (expr_isDigit (b.toNat : Int)).run = some (decide (48 ≤ (b.toNat : Int)) && decide ((b.toNat : Int) ≤ 57)) := rfl
  unfold expr_isInner isIn
  rw [T.run_bind_of h1]
  cases isL b with
  | true => rw [T.run_ite_true, T.run_ret]; rfl
  | false =>
    rw [T.run_ite_false, T.run_bind_of h2]
    cases (decide (48 ≤ (b.toNat : Int)) && decide ((b.toNat : Int) ≤ 57)) with
    | true => rw [T.run_ite_true, T.run_ret]; rfl
    | false => rw [T.run_ite_false, T.run_ret]; rfl
theorem Name_run (s : Str) : (expr_Name s).run = some (nameOk s) := by
  unfold expr_Name
  cases s with
  | nil => rfl
  | cons b r =>
    have e0 : strEq (b :: r) [] = false := by rw [strEq_iff]; simp
    rw [e0]
    by_cases c : 24 < (b :: r).length
    · have : (T.ite false (.ret true) (.ite (decide ((24 : Int) < ((b :: r).length : Int))) (.ret true) (.obl (idxOk (0 : Int) (List.length (b :: r))) <| T.bind (expr_isLetter (byteAt (b :: r) (0 : Int))) fun r => .ret (!r))) : T Bool).run = some true := by
        rw [T.run_ite_false, T.run_ite_t (decide_eq_true (by omega)), T.run_ret]
      rw [T.run_bind_of this, T.run_ite_true, T.run_ret]
      unfold nameOk
      rw [decide_eq_false (by omega)]; rfl
    · have hb : byteAt (b :: r) (0 : Int) = (b.toNat : Int) := byteAt_get (s := b :: r) (k := 0) (by simp)
      have h1 : (expr_isLetter (b.toNat : Int)).run = some (isL b) := rfl
      have : (T.ite false (.ret true) (.ite (decide ((24 : Int) < ((b :: r).length : Int))) (.ret true) (.obl (idxOk (0 : Int) (List.length (b :: r))) <| T.bind (expr_isLetter (byteAt (b :: r) (0 : Int))) fun r => .ret (!r))) : T Bool).run = some (!isL b) := by
        rw [T.run_ite_false, T.run_ite_f (decide_eq_false (by omega)), T.run_obl (by refine ⟨by omega, ?_⟩; simp only [List.length_cons]; omega), hb, T.run_bind_of h1, T.run_ret]
      rw [T.run_bind_of this]
      unfold nameOk
      dsimp only
      rw [decide_eq_true (by omega), Bool.true_and]
      cases isL b with
      | false => rw [T.run_ite_t (by rfl), T.run_ret]; rfl
      | true =>
        rw [T.run_ite_f (by rfl), Bool.true_and]
        have key : (expr_Name_L0 (b :: r) ((b :: r).length : Int) 0).run = some (if (b :: r).all isIn = true then .inl () else .inr false) := by
          refine T.loop_scan (r := expr_Name_R0 (b :: r) ((b :: r).length : Int)) (b :: r) (0 : UInt8) (fun (_ : Unit) i => i) (fun _ _ => True) (fun l _ => (if l.all isIn = true then .inl () else .inr false : Unit ⊕ Bool)) (fun k _ x xs hk hx hm hd hI => ?_) (fun _ _ => ?_) (b := ()) trivial
          · have hxk : (b :: r)[k] = x := by rw [← hx]; unfold nth; rw [Int.toNat_natCast, List.getD_eq_getElem?_getD, List.getElem?_eq_getElem hk]; rfl
            have hbk : byteAt (b :: r) (k : Int) = (x.toNat : Int) := by rw [byteAt_get hk, hxk]
            cases hin : isIn x with
            | true =>
              left
              refine ⟨(), ?_, trivial, ?_⟩
              · unfold expr_Name_R0
                rw [T.run_ite_t (lt_t hk), T.run_obl (idx_ok hk), hbk, T.run_bind_of (isInner_run x), hin, T.run_ite_f (by rfl), T.run_ret, ix1 k _ hk (by omega)]
              · rw [List.all_cons, hin, Bool.true_and]
            | false =>
              right
              unfold expr_Name_R0
              rw [T.run_ite_t (lt_t hk), T.run_obl (idx_ok hk), hbk, T.run_bind_of (isInner_run x), hin, T.run_ite_t (by rfl), T.run_ret, List.all_cons, hin]
              rfl
          · unfold expr_Name_R0
            rw [T.run_ite_f (lt_f _), T.run_ret]; rfl
        rw [T.run_bind_of key]
        cases h : (b :: r).all isIn with
        | true => rfl
        | false => rfl
end Go.AM.Lf
namespace Go.AM.PL
def splitL : Str → List Str × Str
  | [] => ([], [])
  | b :: r => if b = 10 then ([] :: (splitL r).1, (splitL r).2) else match (splitL r).1 with
    | [] => ([], b :: (splitL r).2)
    | l :: ls => ((b :: l) :: ls, (splitL r).2)
theorem splitL_at (w q : Str) (h : (10 : UInt8) ∉ w) : splitL (w ++ 10 :: q) = (w :: (splitL q).1, (splitL q).2) := by
  induction w with
  | nil => simp [splitL]
  | cons b w ih =>
    have hb : b ≠ 10 := fun z => h (by simp [z])
    have hw := ih fun z => h (List.mem_cons_of_mem _ z)
    rw [List.cons_append, splitL, if_neg hb, hw]
theorem splitL_none (w : Str) (h : (10 : UInt8) ∉ w) : splitL w = ([], w) := by
  induction w with
  | nil => rfl
  | cons b w ih =>
    have hb : b ≠ 10 := fun z => h (by simp [z])
    have hw := ih fun z => h (List.mem_cons_of_mem _ z)
    rw [splitL, if_neg hb, hw]
theorem splitL_back : ∀ s : Str, s = (splitL s).1.flatMap (fun l => l ++ [10]) ++ (splitL s).2 ∧ (10 : UInt8) ∉ (splitL s).2
  | [] => ⟨rfl, by simp [splitL]⟩
  | b :: r => by
    obtain ⟨h1, h2⟩ := splitL_back r
    unfold splitL
    by_cases c : b = 10
    · rw [if_pos c]
      refine ⟨?_, h2⟩
      subst c
      conv => lhs; rw [h1]
      simp
    · rw [if_neg c]
      cases hl : (splitL r).1 with
      | nil =>
        rw [hl] at h1
        refine ⟨by conv => lhs; rw [h1]
                   simp, ?_⟩
        intro hm
        rcases List.mem_cons.1 hm with hm | hm
        · exact c hm.symm
        · exact h2 hm
      | cons l ls =>
        rw [hl] at h1
        refine ⟨?_, h2⟩
        conv => lhs; rw [h1]
        simp
def linesI (s : Str) : List Str := (splitL s).1 ++ if (splitL s).2 = [] then [] else [(splitL s).2]
theorem linesI_at (w q : Str) (h : (10 : UInt8) ∉ w) : linesI (w ++ 10 :: q) = w :: linesI q := by
  unfold linesI; rw [splitL_at w q h]; rfl
theorem linesI_none (w : Str) (h : (10 : UInt8) ∉ w) (hn : w ≠ []) : linesI w = [w] := by
  unfold linesI; rw [splitL_none w h]; simp [hn]
end Go.AM.PL
namespace Go.AM.Lf
open PL
def numO (u : Str) : Option Rat := if 400 < u.length then none else (decP u).map fun p => ratN (List.isPrefixOf [45] u) p.1 p.2
theorem dec_numO (u : Str) (hu : u.length ≤ 1000000000) : ∃ r e, (dec_Parse u).run = some (r, e) ∧ ((e = 0 ∧ numO u = some r) ∨ (e ≠ 0 ∧ numO u = none)) := by
  have h := dec_Parse_run u hu
  unfold numO
  by_cases c : 400 < u.length
  · rw [if_pos c] at h ⊢
    exact ⟨_, _, h, .inr ⟨by decide, rfl⟩⟩
  · rw [if_neg c] at h ⊢
    cases hd : decP u with
    | none => rw [hd] at h; exact ⟨_, _, h, .inr ⟨by decide, rfl⟩⟩
    | some p => rw [hd] at h; exact ⟨_, _, h, .inl ⟨rfl, rfl⟩⟩
theorem ref_numO (u : Str) (hu : u.length ≤ 1000000000) : ∃ r e, (ref3_Parse u).run = some (r, e) ∧ ((e = 0 ∧ numO u = some r) ∨ (e ≠ 0 ∧ numO u = none)) := by
  have h := ref3_Parse_run u hu
  unfold numO
  by_cases c : 400 < u.length
  · rw [if_pos c] at h ⊢
    exact ⟨_, _, h, .inr ⟨by decide, rfl⟩⟩
  · rw [if_neg c] at h ⊢
    cases hd : decP u with
    | none => rw [hd] at h; exact ⟨_, _, h, .inr ⟨by decide, rfl⟩⟩
    | some p => rw [hd] at h; exact ⟨_, _, h, .inl ⟨rfl, rfl⟩⟩
theorem numO_ok {u : Str} {r : Rat} (h : numO u = some r) : ratOk 50 r := by
  unfold numO at h
  split at h
  · cases h
  · rename_i c
    obtain ⟨p, hp, rfl⟩ := Option.map_eq_some_iff.1 h
    exact parse_small _ (by omega) hp
def itemO (t : Str) : Option ItT := match numO (cutSt t [32]).2.1 with
  | some r => if nameOk (cutSt t [32]).1 = true then some ((cutSt t [32]).1, r, ()) else none
  | none => none
def itemsO : List Str → Option (List ItT)
  | [] => some []
  | t :: r => match itemO t with
    | some x => (itemsO r).map (x :: ·)
    | none => none
def smallIt (x : ItT) : Prop := x.1.length ≤ 24 ∧ ratOk 50 x.2.1
theorem nameOk_len {s : Str} (h : nameOk s = true) : s.length ≤ 24 ∧ s.all isIn = true := by
  cases s with
  | nil => cases h
  | cons b r =>
    unfold nameOk at h
    simp only [Bool.and_eq_true, decide_eq_true_eq] at h
    exact ⟨h.1, h.2.2⟩
theorem itemO_ok {t : Str} {x : ItT} (h : itemO t = some x) : smallIt x := by
  unfold itemO at h
  split at h
  · rename_i r hr
    split at h
    · rename_i hn
      cases h
      exact ⟨(nameOk_len hn).1, numO_ok hr⟩
    · cases h
  · cases h
theorem ref5_Name_run (s : Str) : (ref5_Name s).run = some (nameOk s) := by
  have hL : ∀ b : UInt8, (ref5_letter (b.toNat : Int)).run = some (isL b) := fun _ => rfl
  have hD : ∀ b : UInt8, (ref5_digit (b.toNat : Int)).run = some (decide (48 ≤ (b.toNat : Int)) && decide ((b.toNat : Int) ≤ 57)) := fun _ => rfl
  unfold ref5_Name
  cases s with
  | nil => rfl
  | cons b r =>
    by_cases c : 24 < (b :: r).length
    · have : (T.ite (decide (((b :: r).length : Int) < (1 : Int))) (.ret true) (.ite (decide ((24 : Int) < ((b :: r).length : Int))) (.ret true) (.obl (idxOk (0 : Int) (List.length (b :: r))) <| T.bind (ref5_letter (byteAt (b :: r) (0 : Int))) fun r => .ret (!r))) : T Bool).run = some true := by
        rw [T.run_ite_f (decide_eq_false (by omega)), T.run_ite_t (decide_eq_true (by omega)), T.run_ret]
      rw [T.run_bind_of this, T.run_ite_true, T.run_ret]
      unfold nameOk
      rw [decide_eq_false (by omega)]; rfl
    · have hb : byteAt (b :: r) (0 : Int) = (b.toNat : Int) := byteAt_get (s := b :: r) (k := 0) (by simp)
      have : (T.ite (decide (((b :: r).length : Int) < (1 : Int))) (.ret true) (.ite (decide ((24 : Int) < ((b :: r).length : Int))) (.ret true) (.obl (idxOk (0 : Int) (List.length (b :: r))) <| T.bind (ref5_letter (byteAt (b :: r) (0 : Int))) fun r => .ret (!r))) : T Bool).run = some (!isL b) := by
        rw [T.run_ite_f (decide_eq_false (by simp only [List.length_cons]; omega)), T.run_ite_f (decide_eq_false (by omega)), T.run_obl (by refine ⟨by omega, ?_⟩; simp only [List.length_cons]; omega), hb, T.run_bind_of (hL b), T.run_ret]
      rw [T.run_bind_of this]
      unfold nameOk
      dsimp only
      rw [decide_eq_true (by omega), Bool.true_and]
      cases hbl : isL b with
      | false => rw [T.run_ite_t (by rfl), T.run_ret]; rfl
      | true =>
        rw [T.run_ite_f (by rfl), Bool.true_and]
        have hbi : isIn b = true := by unfold isIn; rw [hbl]; rfl
        have key : (ref5_Name_L0 (b :: r) 1).run = some (if r.all isIn = true then .inl () else .inr false) := by
          have hloop := T.loop_run (r := ref5_Name_R0 (b :: r)) (fun i => ∃ k : Nat, i = ((k + 1 : Nat) : Int) ∧ k ≤ r.length) (fun i => ((b :: r).length : Int).toNat - i.toNat) (fun i => if (r.drop (i.toNat - 1)).all isIn = true then .inl () else .inr false) (fun i hi => ?_) (s := 1) ⟨0, rfl, by omega⟩
          · exact hloop
          · obtain ⟨k, rfl, hk⟩ := hi
            have ek : ((k + 1 : Nat) : Int).toNat - 1 = k := by omega
            by_cases q : k < r.length
            · have hq : k + 1 < (b :: r).length := by simp only [List.length_cons]; omega
              have hbk : byteAt (b :: r) ((k + 1 : Nat) : Int) = (r[k].toNat : Int) := by rw [byteAt_get hq]; rfl
              have hdrop : r.drop k = r[k] :: r.drop (k + 1) := List.drop_eq_getElem_cons q
              have hin : ((.obl (idxOk ((k + 1 : Nat) : Int) (List.length (b :: r))) <| T.bind (ref5_letter (byteAt (b :: r) ((k + 1 : Nat) : Int))) fun r1 =>
                  .ite (!r1) (.obl (idxOk ((k + 1 : Nat) : Int) (List.length (b :: r))) <| T.bind (ref5_digit (byteAt (b :: r) ((k + 1 : Nat) : Int))) fun r2 =>
                      .ite (!r2) (.obl (idxOk ((k + 1 : Nat) : Int) (List.length (b :: r))) <| .ret ((byteAt (b :: r) ((k + 1 : Nat) : Int)) != (95 : Int))) (.ret false)) (.ret false)) : T Bool).run = some (!isIn r[k]) := by
                rw [T.run_obl (idx_ok hq), hbk, T.run_bind_of (hL _)]
                unfold isIn
                cases isL r[k] with
                | true => rfl
                | false =>
                  rw [T.run_ite_t (by rfl), T.run_obl (idx_ok hq), T.run_bind_of (hD _)]
                  cases (decide (48 ≤ (r[k].toNat : Int)) && decide ((r[k].toNat : Int) ≤ 57)) with
                  | true => rfl
                  | false => rw [T.run_ite_t (by rfl), T.run_obl (idx_ok hq), T.run_ret]; rfl
              cases hik : isIn r[k] with
              | true =>
                left
                refine ⟨((k + 1 + 1 : Nat) : Int), ?_, ⟨k + 1, rfl, q⟩, by simp only [List.length_cons]; omega, ?_⟩
                · unfold ref5_Name_R0
                  rw [T.run_ite_t (lt_t hq), T.run_bind_of hin, hik, T.run_ite_f (by rfl), T.run_ret, ix1 (k + 1) _ hq (by omega)]
                · rw [ek, hdrop, List.all_cons, hik, Bool.true_and, show ((k + 1 + 1 : Nat) : Int).toNat - 1 = k + 1 by omega]
              | false =>
                right
                unfold ref5_Name_R0
                rw [T.run_ite_t (lt_t hq), T.run_bind_of hin, hik, T.run_ite_t (by rfl), T.run_ret, ek, hdrop, List.all_cons, hik]
                rfl
            · right
              have hk2 : k = r.length := by omega
              unfold ref5_Name_R0
              rw [T.run_ite_f (decide_eq_false (by simp only [List.length_cons]; omega)), T.run_ret, ek, hk2, List.drop_length]; rfl
        rw [T.run_bind_of key, List.all_cons, hbi, Bool.true_and]
        cases h : r.all isIn with
        | true => rfl
        | false => rfl
theorem cut_run (s : Str) (c : UInt8) (h : s.length ≤ 1000000000) : (strings_Cut s [c]).run = some (cutSt s [c]) := by
  unfold strings_Cut
  rw [T.run_obl (by omega), T.run_ret]
theorem cutSt_len (s : Str) (c : UInt8) : (cutSt s [c]).1.length ≤ s.length ∧ (cutSt s [c]).2.1.length ≤ s.length := by
  by_cases h : c ∈ s
  · obtain ⟨w, q, rfl, hw⟩ := split_at h
    rw [cutSt_at c w q hw]
    simp only [List.length_append, List.length_cons]
    exact ⟨by omega, by omega⟩
  · rw [cutSt_none c s h]; simp
theorem decode_loop (s : Str) (hs : s.length ≤ 100000) : ∃ z, (record_Decode_L0 s (s, [])).run = some z ∧
    ((∃ ys, itemsO (linesI s) = some ys ∧ z = .inl ys ∧ ys.length ≤ s.length ∧ ∀ x ∈ ys, smallIt x) ∨ (itemsO (linesI s) = none ∧ ∃ t, z = .inr (2, t))) := by
  refine T.loop_post (r := record_Decode_R0 s) (fun st : Str × List ItT => itemsO (linesI s) = (itemsO (linesI st.1)).map (st.2 ++ ·) ∧ st.2.length + st.1.length ≤ s.length ∧ ∀ x ∈ st.2, smallIt x) (fun st => st.1.length) _ (fun st hst => ?_) ⟨by simp, by simp, by simp⟩
  obtain ⟨rest, xs⟩ := st
  obtain ⟨h1, h2, h3⟩ := hst
  dsimp only at h1 h2 h3
  by_cases hr : rest = []
  · right
    subst hr
    have e : itemsO (linesI []) = some [] := rfl
    rw [e] at h1
    refine ⟨.inl xs, ?_, .inl ⟨xs, by simpa using h1, rfl, by omega, h3⟩⟩
    unfold record_Decode_R0
    dsimp only
    rw [strEq_refl, T.run_ite_f (by rfl), T.run_cur _ rfl rfl rfl, T.run_same, T.run_ret]
  · have e0 : strEq rest [] = false := by rw [strEq_iff]; simpa using hr
    obtain ⟨line, more, fl, hcut, hlines, hmore⟩ : ∃ line more fl, cutSt rest [10] = (line, more, fl) ∧ linesI rest = line :: linesI more ∧ more.length + 1 ≤ rest.length ∧ line.length ≤ rest.length := by
      by_cases hm : (10 : UInt8) ∈ rest
      · obtain ⟨w, q, rfl, hw⟩ := split_at hm
        exact ⟨w, q, true, cutSt_at 10 w q hw, linesI_at w q hw, by simp, by simp⟩
      · have : 0 < rest.length := List.length_pos_iff.2 hr
        exact ⟨rest, [], false, cutSt_none 10 rest hm, linesI_none rest hm hr, by simp only [List.length_nil]; omega, by omega⟩
    obtain ⟨hmore, hline⟩ := hmore
    have c1 := cut_run rest 10 (by omega)
    have c2 := cut_run line 32 (by omega)
    rw [hcut] at c1
    have lc := cutSt_len line 32
    obtain ⟨nm, num, fl2, hc2⟩ : ∃ nm num fl2, cutSt line [32] = (nm, num, fl2) := ⟨_, _, _, rfl⟩
    have hitem : itemO line = match numO num with | some r => if nameOk nm = true then some (nm, r, ()) else none | none => none := by unfold itemO; rw [hc2]
    rw [hc2] at c2 lc
    dsimp only at lc
    obtain ⟨r2, e, hp, hcase⟩ := dec_numO num (by omega)
    rw [hlines] at h1
    have hn := Name_run nm
    have head : ∀ {α : Type} (k : Bool × List ItT × Rat → T α), ((record_Decode_R0 s (rest, xs)).run = (T.bind (.ite (e != (0 : Int)) (.obl (curOk (List.length xs) (0 : Nat) (List.length xs) (List.length xs)) <| .obl ((List.length xs) = (List.length xs)) <| .ret (true, (xs, r2)))
              (T.bind (expr_Name nm) fun r3 => .obl (curOk (List.length xs) (0 : Nat) (List.length xs) (List.length xs)) <| .obl ((List.length xs) = (List.length xs)) <| .ret ((!r3), (xs, r2))) : T (Bool × List ItT × Rat)) fun (x, xs1, v) =>
        .ite x (.obl ((List.length xs1) = (List.length xs1)) <| .ret (.inr (.inr ((2 : Int), xs1))))
          (.obl (appOk (List.length xs1) (List.length xs1) (0 : Nat) (List.length xs1) (List.length xs1) (1 : Nat) (72 : Nat)) <|
            .obl (curOk ((List.length xs1) + (1 : Nat)) (0 : Nat) ((List.length xs1) + (1 : Nat)) (List.length (xs1 ++ ([(nm, ((v.1, (v.2.1, (v.2.2.1, ()))), ()))] : List ItT)))) <|
            .obl (((List.length xs1) + (1 : Nat)) = (List.length (xs1 ++ ([(nm, ((v.1, (v.2.1, (v.2.2.1, ()))), ()))] : List ItT)))) <|
            .ret (.inl (more, (xs1 ++ ([(nm, ((v.1, (v.2.1, (v.2.2.1, ()))), ()))] : List ItT)))))).run) := by
      intro α k
      unfold record_Decode_R0
      dsimp only
      rw [e0, T.run_ite_t (by rfl), T.run_bind_of c1]
      dsimp only
      rw [T.run_bind_of c2]
      dsimp only
      rw [T.run_bind_of hp]
    rw [head (α := Unit) (fun _ => .ret ())]
    have inner : ((.ite (e != (0 : Int)) (.obl (curOk (List.length xs) (0 : Nat) (List.length xs) (List.length xs)) <| .obl ((List.length xs) = (List.length xs)) <| .ret (true, (xs, r2)))
              (T.bind (expr_Name nm) fun r3 => .obl (curOk (List.length xs) (0 : Nat) (List.length xs) (List.length xs)) <| .obl ((List.length xs) = (List.length xs)) <| .ret ((!r3), (xs, r2))) : T (Bool × List ItT × Rat))).run = some (e != 0 || !nameOk nm, xs, r2) := by
      cases q : (e != (0 : Int)) with
      | true => rw [T.run_ite_true, T.run_cur _ rfl rfl rfl, T.run_same, T.run_ret]; rfl
      | false => rw [T.run_ite_false, T.run_bind_of hn, T.run_cur _ rfl rfl rfl, T.run_same, T.run_ret]; rfl
    rw [T.run_bind_of inner]
    dsimp only
    cases hi : itemO line with
    | none =>
      right
      have hbad : (e != 0 || !nameOk nm) = true := by
        rw [hitem] at hi
        rcases hcase with ⟨he, hno⟩ | ⟨he, hno⟩
        · rw [hno] at hi
          dsimp only at hi
          split at hi
          · cases hi
          · rename_i hnn
            have : nameOk nm = false := by simpa using hnn
            rw [this]; simp
        · have : (e != 0) = true := by simpa using he
          rw [this]; rfl
      have hnone : itemsO (linesI s) = none := by
        rw [h1]
        unfold itemsO
        rw [hi]; rfl
      refine ⟨.inr (2, xs), ?_, .inr ⟨hnone, xs, rfl⟩⟩
      rw [T.run_ite_t hbad, T.run_same, T.run_ret]
    | some x =>
      left
      have hx : x = (nm, r2, ()) ∧ (e != 0 || !nameOk nm) = false := by
        rw [hitem] at hi
        rcases hcase with ⟨he, hno⟩ | ⟨he, hno⟩
        · rw [hno] at hi
          dsimp only at hi
          split at hi
          · rename_i hnn
            cases hi
            subst he
            exact ⟨rfl, by rw [hnn]; rfl⟩
          · cases hi
        · rw [hno] at hi; cases hi
      obtain ⟨rfl, hgood⟩ := hx
      have hsx := itemO_ok hi
      refine ⟨(more, xs ++ [(nm, r2, ())]), ?_, ⟨?_, by simp; omega, ?_⟩, by dsimp only; omega⟩
      · rw [T.run_ite_f hgood, T.run_app _ rfl rfl rfl (by omega), T.run_cur _ (by simp) rfl (by simp), T.run_obl (by simp), T.run_ret]
      · rw [h1]
        dsimp only
        conv => lhs; rw [itemsO, hi]
        dsimp only
        cases itemsO (linesI more) with
        | none => rfl
        | some ys => simp
      · intro y hy
        rcases List.mem_append.1 hy with hy | hy
        · exact h3 y hy
        · rw [List.mem_singleton] at hy
          subst hy; exact hsx
def encE (l : List ItT) : Str := l.flatMap itemS
def decS (s : Str) : List ItT × Int := match itemsO (splitL s).1 with
  | some ys => if encE ys = s then (ys, 0) else ([], 2)
  | none => ([], 2)
theorem smallIt_ok {x : ItT} (h : smallIt x) : itemOk x := ⟨by have := h.1; omega, ok_up h.2 (by omega)⟩
theorem enc_end (ys : List ItT) : encE ys = [] ∨ ∃ t, encE ys = t ++ [10] := by
  rcases List.eq_nil_or_concat ys with rfl | ⟨l, x, rfl⟩
  · exact .inl rfl
  · right
    refine ⟨encE l ++ (x.1 ++ [32] ++ printS (norm x.2.1)), ?_⟩
    unfold encE
    rw [List.concat_eq_append, List.flatMap_append]
    simp [itemS]
theorem enc_ne (s : Str) (h : (splitL s).2 ≠ []) (ys : List ItT) : encE ys ≠ s := by
  obtain ⟨h1, h2⟩ := splitL_back s
  intro he
  obtain ⟨t, b, hb⟩ : ∃ t b, (splitL s).2 = t ++ [b] := by
    rcases List.eq_nil_or_concat (splitL s).2 with q | ⟨l, x, q⟩
    · exact absurd q h
    · exact ⟨l, x, by rw [q, List.concat_eq_append]⟩
  rw [hb] at h1 h2
  rcases enc_end ys with hn | ⟨u, hu⟩
  · rw [hn] at he
    rw [← he] at h1
    simp at h1
  · rw [hu, h1, ← List.append_assoc] at he
    have := List.append_inj_right' he rfl
    simp at this
    exact h2 (by simp [this])
theorem record_Decode_run (s : Str) (hs : s.length ≤ 100000) : (record_Decode s).run = some (decS s) ∧ ∀ x ∈ (decS s).1, smallIt x := by
  obtain ⟨z, hz, hc⟩ := decode_loop s hs
  unfold record_Decode
  rw [T.run_cur _ rfl rfl rfl, T.run_same, T.run_bind_of hz]
  unfold decS
  rcases hc with ⟨ys, h1, rfl, h2, h3⟩ | ⟨h1, t, rfl⟩
  · have he := encode_run ys (fun x hx => smallIt_ok (h3 x hx)) (by omega)
    dsimp only [Sum.elim_inl]
    rw [T.run_same]
    simp only [Nat.zero_add, List.take_length, List.drop_zero]
    rw [T.run_bind_of he]
    have hsp : itemsO (splitL s).1 = some ys ∨ encE ys ≠ s := by
      by_cases hr : (splitL s).2 = []
      · left
        unfold linesI at h1
        rwa [hr, if_pos rfl, List.append_nil] at h1
      · exact .inr (enc_ne s hr ys)
    by_cases heq : encE ys = s
    · have h1' := hsp.resolve_right fun h => h heq
      rw [h1']
      dsimp only
      have e1 : strEq (ys.flatMap itemS) s = true := by rw [strEq_iff]; exact decide_eq_true heq
      rw [e1, if_pos heq, T.run_ite_f (by rfl), T.run_true, T.run_ret]
      exact ⟨rfl, h3⟩
    · have e1 : strEq (ys.flatMap itemS) s = false := by rw [strEq_iff]; exact decide_eq_false heq
      rw [e1, T.run_ite_t (by rfl), T.run_ret]
      have : (match itemsO (splitL s).1 with | some ys => if encE ys = s then (ys, (0 : Int)) else ([], 2) | none => ([], 2)) = ([], 2) := by
        cases hq : itemsO (splitL s).1 with
        | none => rfl
        | some y2 =>
          dsimp only
          by_cases hr : (splitL s).2 = []
          · unfold linesI at h1
            rw [hr, if_pos rfl, List.append_nil, hq] at h1
            cases h1
            rw [if_neg heq]
          · rw [if_neg (enc_ne s hr y2)]
      rw [this]
      exact ⟨rfl, by simp⟩
  · dsimp only [Sum.elim_inr]
    rw [T.run_ret]
    have : (match itemsO (splitL s).1 with | some ys => if encE ys = s then (ys, (0 : Int)) else ([], 2) | none => ([], 2)) = ([], 2) := by
      cases hq : itemsO (splitL s).1 with
      | none => rfl
      | some y2 =>
        dsimp only
        by_cases hr : (splitL s).2 = []
        · unfold linesI at h1
          rw [hr, if_pos rfl, List.append_nil, hq] at h1
          cases h1
        · rw [if_neg (enc_ne s hr y2)]
    rw [this]
    exact ⟨rfl, by simp⟩
end Go.AM.Lf
namespace Go.AM.Lf
open PL
theorem sumB_len {α : Type} (f : α → Nat) (l : List α) (h : ∀ x, 1 ≤ f x) : l.length ≤ sumB f l := by
  induction l with
  | nil => simp
  | cons y l ih =>
    show _ ≤ f y + sumB f l
    have := h y
    simp; omega
end Go.AM.Lf
namespace Go.AM.Lf
open PL
theorem ref21_Encode_run (l : List ItT) (h : ∀ x ∈ l, itemOk x) (hl : l.length ≤ 1000000) : (ref21_Encode l).run = some (encE l) := by
  have key := T.loop_fold (r := ref21_Encode_R0 l) l (dflt tyIt) (fun (b : Str) i => (b, i)) (fun k b => b.length ≤ k * 140003) (fun b x => b ++ itemS x) id (fun k b x hk hx hm hI => ?_) (fun b hI => ?_) (b := []) (by simp)
  · obtain ⟨k1, k2⟩ := key
    rw [foldl_cat, List.nil_append] at k1
    have k1 : (ref21_Encode_L0 l (([] : Str), (0 : Int))).run = some (encE l) := k1
    unfold ref21_Encode
    rw [T.run_bind_of k1, T.run_ret]
  · have h1 := printS_len _ (h x hm).2
    have h2 := itemS_len (h x hm)
    have h3 := (h x hm).1
    have h4 := mul_mono (c := 140003) (show k + 1 ≤ l.length from hk)
    rw [Nat.add_mul, Nat.one_mul] at h4
    have hd := ref3_Print_run x.2.1 (h x hm).2
    refine ⟨?_, by rw [List.length_append, Nat.add_mul, Nat.one_mul]; omega⟩
    unfold ref21_Encode_R0
    dsimp only
    rw [T.run_ite_t (lt_t hk), T.run_obl (idx_ok hk), hx, T.run_leN _ (by omega), T.run_leN _ (by simp [cat_eq]; omega), T.run_obl (idx_ok hk), T.run_bind_of hd, T.run_leN _ (by simp [cat_eq]; omega), T.run_leN _ (by simp [cat_eq]; omega), T.run_ret, ix1 k _ hk (by omega)]
    have e : cat (cat (cat (cat b x.1) [32]) (printS (norm x.2.1))) [10] = b ++ itemS x := by
      simp only [cat_eq, itemS, List.append_assoc]
    rw [e]
  · unfold ref21_Encode_R0
    dsimp only
    rw [T.run_ite_f (lt_f _), T.run_ret]; rfl
theorem item_run (t : Str) (ht : t.length ≤ 100000) : ∃ x b, (ref21_item t).run = some (x, b) ∧ ((b = true ∧ itemO t = some x) ∨ (b = false ∧ itemO t = none)) := by
  have key : ∃ z, (ref21_item_L0 t (0, ([], (false, [], [], ()), ()))).run = some z ∧
      ((∃ v, z = .inl v ∧ itemO t = none) ∨ (∃ b x, z = .inr (b, x) ∧ ((b = true ∧ itemO t = some x) ∨ (b = false ∧ itemO t = none)))) := by
    refine T.loop_post (r := ref21_item_R0 t) (fun st : Int × ItT => ∃ k : Nat, st.1 = (k : Int) ∧ k ≤ t.length ∧ (32 : UInt8) ∉ t.take k) (fun st => t.length - st.1.toNat) _ (fun st hst => ?_) ⟨0, rfl, by omega, by simp⟩
    obtain ⟨i, v⟩ := st
    obtain ⟨k, rfl, hk, hno⟩ := hst
    by_cases c : k < t.length
    · have hb : byteAt t (k : Int) = (t[k].toNat : Int) := byteAt_get c
      have hsplit : t = t.take k ++ t[k] :: t.drop (k + 1) := by rw [← List.drop_eq_getElem_cons c, List.take_append_drop]
      by_cases q : t[k] = 32
      · right
        have e1 : ((t[k].toNat : Int) == 32) = true := by rw [q]; rfl
        rw [q] at hsplit
        have hcut : cutSt t [32] = (t.take k, t.drop (k + 1), true) := by
          conv => lhs; rw [hsplit]
          exact cutSt_at 32 _ _ hno
        have hitem : itemO t = match numO (t.drop (k + 1)) with | some r => if nameOk (t.take k) = true then some (t.take k, r, ()) else none | none => none := by unfold itemO; rw [hcut] <;> rfl
        have s1 : cutS (w64 ((k : Int) + 1)) (t.length : Int) t = t.drop (k + 1) := by
          rw [ix1 k _ c (by omega)]
          unfold cutS
          rw [Int.toNat_natCast, Int.toNat_natCast, List.take_length]
        have s2 : cutS 0 (k : Int) t = t.take k := by
          unfold cutS
          rw [Int.toNat_natCast]; rfl
        obtain ⟨r, e, hp, hcase⟩ := ref_numO (t.drop (k + 1)) (by rw [List.length_drop]; omega)
        have hn := ref5_Name_run (t.take k)
        unfold ref21_item_R0
        dsimp only
        rw [T.run_ite_t (lt_t c), T.run_obl (idx_ok c), hb, T.run_ite_t e1, T.run_obl (by rw [ix1 k _ c (by omega)]; exact ⟨by omega, by omega, by omega⟩), s1, T.run_bind_of hp]
        dsimp only
        rw [T.run_obl ⟨by omega, by omega, by omega⟩, s2]
        rcases hcase with ⟨rfl, hno2⟩ | ⟨he, hno2⟩
        · rw [T.run_ite_t (by rfl), T.run_obl ⟨by omega, by omega, by omega⟩, T.run_bind_of hn, T.run_ret]
          refine ⟨_, rfl, .inr ⟨_, _, rfl, ?_⟩⟩
          rw [hitem, hno2]
          dsimp only
          cases nameOk (t.take k) with
          | true => exact .inl ⟨rfl, rfl⟩
          | false => exact .inr ⟨rfl, rfl⟩
        · rw [T.run_ite_f (by simpa using he), T.run_ret]
          refine ⟨_, rfl, .inr ⟨_, _, rfl, .inr ⟨rfl, ?_⟩⟩⟩
          rw [hitem, hno2]
      · left
        have e1 : ((t[k].toNat : Int) == 32) = false := by
          have : ¬ t[k].toNat = 32 := fun z => q (UInt8.toNat_inj.1 z)
          simp; omega
        refine ⟨(((k + 1 : Nat) : Int), v), ?_, ⟨k + 1, rfl, c, ?_⟩, by dsimp only; omega⟩
        · unfold ref21_item_R0
          dsimp only
          rw [T.run_ite_t (lt_t c), T.run_obl (idx_ok c), hb, T.run_ite_f e1, T.run_ret, ix1 k _ c (by omega)]
        · rw [List.take_succ_eq_append_getElem c]
          intro hm
          rcases List.mem_append.1 hm with hm | hm
          · exact hno hm
          · rw [List.mem_singleton] at hm
            exact q hm.symm
    · right
      have hk2 : k = t.length := by omega
      rw [hk2, List.take_length] at hno
      refine ⟨.inl v, ?_, .inl ⟨v, rfl, ?_⟩⟩
      · unfold ref21_item_R0
        dsimp only
        rw [T.run_ite_f (decide_eq_false (by omega)), T.run_ret]
      · unfold itemO
        rw [cutSt_none 32 t hno]; rfl
  obtain ⟨z, hz, hc⟩ := key
  have hz : (ref21_item_L0 t ((0 : Int), (([] : Str), ((false, (([] : List Int), (([] : List Int), ()))), ())))).run = some z := hz
  unfold ref21_item
  rw [T.run_bind_of hz]
  rcases hc with ⟨v, rfl, h⟩ | ⟨b, x, rfl, h⟩
  · exact ⟨_, false, rfl, .inr ⟨rfl, h⟩⟩
  · exact ⟨x, b, rfl, h⟩
theorem refdec_loop (s : Str) (hs : s.length ≤ 100000) : ∃ z, (ref21_Decode_L0 s (0, 0, [])).run = some z ∧
    ((∃ ys, itemsO (splitL s).1 = some ys ∧ z = .inl ys ∧ ys.length ≤ s.length ∧ ∀ x ∈ ys, smallIt x) ∨ (itemsO (splitL s).1 = none ∧ ∃ t, z = .inr (2, t))) := by
  refine T.loop_post (r := ref21_Decode_R0 s) (fun st : Int × Int × List ItT => ∃ a cur tail : Str, s = a ++ cur ++ tail ∧ st.1 = (a.length : Int) ∧ st.2.1 = ((a.length + cur.length : Nat) : Int) ∧ (10 : UInt8) ∉ cur ∧ itemsO (splitL s).1 = (itemsO (splitL (cur ++ tail)).1).map (st.2.2 ++ ·) ∧
    st.2.2.length ≤ a.length ∧ ∀ x ∈ st.2.2, smallIt x) (fun st => s.length - st.2.1.toNat) _ (fun st hst => ?_) ⟨[], [], s, rfl, rfl, rfl, by simp, by simp, by simp, by simp⟩
  obtain ⟨fr, i, xs⟩ := st
  obtain ⟨a, cur, tail, hsp, rfl, rfl, hno, h1, h2, h3⟩ := hst
  dsimp only at h1 h2 h3
  have hlen : s.length = a.length + cur.length + tail.length := by rw [hsp]; simp; omega
  cases tail with
  | nil =>
    right
    rw [List.append_nil, splitL_none cur hno] at h1
    refine ⟨.inl xs, ?_, .inl ⟨xs, by simpa [itemsO] using h1, rfl, by omega, h3⟩⟩
    unfold ref21_Decode_R0
    dsimp only
    rw [T.run_ite_f (decide_eq_false (by simp at hlen; omega)), T.run_cur _ rfl rfl rfl, T.run_same, T.run_ret]
  | cons b tail =>
    simp only [List.length_cons] at hlen
    have hlt : a.length + cur.length < s.length := by omega
    have hget : s[a.length + cur.length] = b := by
      have : s[a.length + cur.length]? = some b := by rw [hsp, List.getElem?_append_right (by simp)]; simp
      rw [List.getElem?_eq_getElem hlt] at this
      exact Option.some.inj this
    have hb : byteAt s ((a.length + cur.length : Nat) : Int) = (b.toNat : Int) := by rw [byteAt_get hlt, hget]
    by_cases q : b = 10
    · subst q
      have e1 : (((10 : UInt8).toNat : Int) != 10) = false := rfl
      have hcutS : cutS (a.length : Int) ((a.length + cur.length : Nat) : Int) s = cur := by
        unfold cutS
        rw [Int.toNat_natCast, Int.toNat_natCast, hsp, List.take_append_of_le_length (by simp), List.take_of_length_le (by simp), List.drop_left]
      obtain ⟨x, ok, hit, hcase⟩ := item_run cur (by omega)
      rw [splitL_at cur tail hno] at h1
      have step : (ref21_Decode_R0 s ((a.length : Int), ((a.length + cur.length : Nat) : Int), xs)).run = (.ite (!ok)
              (.obl ((List.length xs) = (List.length xs)) <|
                .ret (.inr (.inr ((2 : Int), xs))))
              (.obl (appOk (List.length xs) (List.length xs) (0 : Nat) (List.length xs) (List.length xs) (1 : Nat) (72 : Nat)) <|
                .obl (curOk ((List.length xs) + (1 : Nat)) (0 : Nat) ((List.length xs) + (1 : Nat)) (List.length (xs ++ ([x] : List ItT)))) <|
                .obl (((List.length xs) + (1 : Nat)) = (List.length (xs ++ ([x] : List ItT)))) <|
                .ret (.inl ((w64 (((a.length + cur.length : Nat) : Int) + (1 : Int))), ((w64 (((a.length + cur.length : Nat) : Int) + (1 : Int))), (xs ++ ([x] : List ItT)))))) : T ((Int × Int × (List ItT)) ⊕ ((List ItT) ⊕ (Int × (List ItT))))).run := by
        unfold ref21_Decode_R0
        dsimp only
        rw [T.run_ite_t (lt_t hlt), T.run_obl (idx_ok hlt), hb, T.run_ite_f e1, T.run_obl (by refine ⟨by omega, by omega, by omega⟩), hcutS, T.run_bind_of hit]
      rw [step]
      rcases hcase with ⟨rfl, hi⟩ | ⟨rfl, hi⟩
      · left
        have hsx := itemO_ok hi
        refine ⟨(((a.length + cur.length + 1 : Nat) : Int), ((a.length + cur.length + 1 : Nat) : Int), xs ++ [x]), ?_, ⟨a ++ cur ++ [10], [], tail, by rw [hsp]; simp, by simp; omega, by simp; omega, by simp, ?_, by simp; omega, ?_⟩, by dsimp only; omega⟩
        · rw [T.run_ite_f (by rfl), T.run_app _ rfl rfl rfl (by omega), T.run_cur _ (by simp) rfl (by simp), T.run_obl (by simp), T.run_ret, ix1 _ _ hlt (by omega)]
        · rw [h1]
          conv => lhs; rw [itemsO, hi]
          dsimp only
          rw [List.nil_append]
          cases itemsO (splitL tail).1 with
          | none => rfl
          | some ys => simp
        · intro y hy
          rcases List.mem_append.1 hy with hy | hy
          · exact h3 y hy
          · rw [List.mem_singleton] at hy
            subst hy; exact hsx
      · right
        refine ⟨.inr (2, xs), ?_, .inr ⟨?_, xs, rfl⟩⟩
        · rw [T.run_ite_t (by rfl), T.run_same, T.run_ret]
        · rw [h1]
          unfold itemsO
          rw [hi]; rfl
    · left
      have e1 : ((b.toNat : Int) != 10) = true := by
        have : ¬ b.toNat = 10 := fun z => q (UInt8.toNat_inj.1 z)
        simp; omega
      refine ⟨((a.length : Int), ((a.length + (cur ++ [b]).length : Nat) : Int), xs), ?_, ⟨a, cur ++ [b], tail, by rw [hsp]; simp, rfl, rfl, ?_, by rw [h1]; simp, h2, h3⟩, by dsimp only; simp; omega⟩
      · unfold ref21_Decode_R0
        dsimp only
        rw [T.run_ite_t (lt_t hlt), T.run_obl (idx_ok hlt), hb, T.run_ite_t e1, T.run_cur _ rfl rfl rfl, T.run_same, T.run_ret, ix1 _ _ hlt (by omega)]
        have : a.length + cur.length + 1 = a.length + (cur ++ [b]).length := by simp; omega
        rw [this]
      · intro hm
        rcases List.mem_append.1 hm with hm | hm
        · exact hno hm
        · rw [List.mem_singleton] at hm
          exact q hm.symm
theorem ref21_Decode_run (s : Str) (hs : s.length ≤ 100000) : (ref21_Decode s).run = some (decS s) := by
  obtain ⟨z, hz, hc⟩ := refdec_loop s hs
  have hz : (ref21_Decode_L0 s ((0 : Int), ((0 : Int), []))).run = some z := hz
  unfold ref21_Decode
  rw [T.run_cur _ rfl rfl rfl, T.run_same, T.run_bind_of hz]
  unfold decS
  rcases hc with ⟨ys, h1, rfl, h2, h3⟩ | ⟨h1, t, rfl⟩
  · have he := ref21_Encode_run ys (fun x hx => smallIt_ok (h3 x hx)) (by omega)
    dsimp only [Sum.elim_inl]
    rw [T.run_same]
    simp only [Nat.zero_add, List.take_length, List.drop_zero]
    rw [T.run_bind_of he, h1]
    dsimp only
    by_cases heq : encE ys = s
    · rw [if_pos heq, T.run_ite_f (by rw [strEq_iff, decide_eq_true heq]; rfl), T.run_true, T.run_ret]
    · rw [if_neg heq, T.run_ite_t (by rw [strEq_iff, decide_eq_false heq]; rfl), T.run_ret]
  · dsimp only [Sum.elim_inr]
    rw [T.run_ret, h1]
theorem own_run (l : List ItT) (hl : l.length ≤ 1000000) : (law21_own l).run = some l := by
  have key := T.loop_fold (r := law21_own_R0 l) l (dflt tyIt) (fun (b : List ItT) i => (i, b)) (fun k b => b.length = k) (fun b x => b ++ [x]) id (fun k b x hk hx hm hI => ?_) (fun b hI => ?_) (b := []) rfl
  · obtain ⟨k1, k2⟩ := key
    rw [foldl_snoc (fun x => x), List.nil_append] at k1
    simp only [List.map_id'] at k1
    have k1 : (law21_own_L0 l ((0 : Int), [])).run = some l := k1
    unfold law21_own
    rw [T.run_cur _ rfl rfl rfl, T.run_same, T.run_bind_of k1, T.run_same, T.run_ret, Nat.zero_add, List.take_length, List.drop_zero]
  · refine ⟨?_, by simp; omega⟩
    unfold law21_own_R0
    dsimp only
    rw [T.run_ite_t (lt_t hk), T.run_obl (idx_ok hk), hx, T.run_app _ rfl rfl rfl (by omega), T.run_cur _ (by simp) rfl (by simp), T.run_obl (by simp), T.run_ret, ix1 k _ hk (by omega)]
  · unfold law21_own_R0
    dsimp only
    rw [T.run_ite_f (lt_f _), T.run_cur _ rfl rfl rfl, T.run_same, T.run_ret]; rfl
theorem items_run (a b : List ItT) (hl : a.length ≤ 1000000) (hab : a.length = b.length) (h : ∀ k (h1 : k < a.length) (h2 : k < b.length), a[k].1 = b[k].1 ∧ ratOk 100000 a[k].2.1 ∧ ratOk 100000 b[k].2.1 ∧ val a[k].2.1 = val b[k].2.1) : (law21_items a b).run = some true := by
  have key : (law21_items_L0 a b 0).run = some (.inl ()) := by
    refine T.loop_scan (r := law21_items_R0 a b) a (dflt tyIt) (fun (_ : Unit) i => i) (fun _ _ => True) (fun _ _ => (.inl () : Unit ⊕ Bool)) (fun k _ x xs hk hx hm hd hI => ?_) (fun _ _ => ?_) (b := ()) trivial
    · left
      have hkb : k < b.length := by omega
      obtain ⟨q1, q2, q3, q4⟩ := h k hk hkb
      refine ⟨(), ?_, trivial, rfl⟩
      have inner : ((.obl (idxOk (k : Int) (List.length a)) <| .obl (idxOk (k : Int) (List.length b)) <| .ite (!(strEq (nth a (k : Int) (dflt tyIt)).1 (nth b (k : Int) (dflt tyIt)).1)) (.ret true)
              (.obl (idxOk (k : Int) (List.length a)) <| .obl (idxOk (k : Int) (List.length b)) <| T.bind (ref2_Same (nth a (k : Int) (dflt tyIt)).2.1 (nth b (k : Int) (dflt tyIt)).2.1) fun r => .ret (!r))) : T Bool).run = some false := by
        rw [T.run_obl (idx_ok hk), T.run_obl (idx_ok hkb), nth_at hk, nth_at hkb, q1, strEq_refl, T.run_ite_f (by rfl), T.run_obl (idx_ok hk), T.run_obl (idx_ok hkb), T.run_bind_of (Same_run _ _ q2 q3 q4), T.run_ret]; rfl
      unfold law21_items_R0
      rw [T.run_ite_t (lt_t hk)]
      refine (T.run_bind_of inner _).trans ?_
      rw [T.run_ite_false, T.run_ret, ix1 k _ hk (by omega)]
    · unfold law21_items_R0
      rw [T.run_ite_f (lt_f _), T.run_ret]
  unfold law21_items
  rw [T.run_ite_f (by rw [hab]; simp), T.run_bind_of key]; rfl
theorem long21_run (l : List ItT) (hl : l.length ≤ 4000000000) : ∃ b, (law21_long l).run = some b ∧ (b = false → l.length ≤ 31 ∧ ∀ x ∈ l, x.1.length ≤ 60 ∧ x.2.1.2.1.length ≤ 3 ∧ x.2.1.2.2.1.length ≤ 3) := by
  have := T.loop_post (r := law21_long_R0 l) (fun i : Int => ∃ k : Nat, i = (k : Int) ∧ k ≤ l.length ∧ k ≤ 31 ∧ ∀ x ∈ l.take k, x.1.length ≤ 60 ∧ x.2.1.2.1.length ≤ 3 ∧ x.2.1.2.2.1.length ≤ 3) (fun i => l.length - i.toNat)
    (fun z : Unit ⊕ Bool => z = .inr true ∨ (z = .inl () ∧ l.length ≤ 31 ∧ ∀ x ∈ l, x.1.length ≤ 60 ∧ x.2.1.2.1.length ≤ 3 ∧ x.2.1.2.2.1.length ≤ 3)) (fun i hs => ?_) (s := 0) ⟨0, rfl, by omega, by omega, by simp⟩
  · obtain ⟨z, h1, h2⟩ := this
    have h1 : (law21_long_L0 l 0).run = some z := h1
    unfold law21_long
    rw [T.run_bind_of h1]
    rcases h2 with rfl | ⟨rfl, h2⟩
    · exact ⟨true, rfl, fun h => by cases h⟩
    · exact ⟨false, rfl, fun _ => h2⟩
  · obtain ⟨k, rfl, hk, hk2, hI⟩ := hs
    by_cases c : k < l.length
    · unfold law21_long_R0
      rw [T.run_ite_t (lt_t c), T.run_obl (fun _ => ⟨idx_ok c, fun _ => ⟨idx_ok c, fun _ => idx_ok c⟩⟩), nth_at c]
      cases hb : (decide ((30 : Int) < (k : Int)) || (decide ((60 : Int) < ((l[k]).1.length : Int)) || (decide ((3 : Int) < ((l[k]).2.1.2.1.length : Int)) || decide ((3 : Int) < ((l[k]).2.1.2.2.1.length : Int))))) with
      | true => right; exact ⟨_, rfl, .inl rfl⟩
      | false =>
        simp only [Bool.or_eq_false_iff, decide_eq_false_iff_not] at hb
        left
        refine ⟨_, rfl, ⟨k + 1, ix1 k _ c (by omega), c, by omega, fun x hx => ?_⟩, ?_⟩
        · rw [List.take_succ_eq_append_getElem c] at hx
          rcases List.mem_append.1 hx with hx | hx
          · exact hI x hx
          · have : x = l[k] := by simpa using hx
            subst this; exact ⟨by omega, by omega, by omega⟩
        · rw [ix1 k _ c (by omega)]; omega
    · have hkl : k = l.length := by omega
      right
      refine ⟨.inl (), ?_, .inr ⟨rfl, by omega, ?_⟩⟩
      · unfold law21_long_R0
        rw [T.run_ite_f (decide_eq_false (by omega)), T.run_ret]
      · rw [hkl, List.take_length] at hI; exact hI
theorem law21_RecordTexts_all (l : List ItT) (s : Str) (hl : l.length ≤ 1048576) (hr : ∀ x ∈ l, limbs x.2.1.2.1 ∧ limbs x.2.1.2.2.1) : (law21_RecordTexts l s).run = some true := by
  obtain ⟨b, hb, hB⟩ := long21_run l (by omega)
  have head : ((T.bind (law21_long l) fun r => .ite r (.ret true) (.ret (decide ((1500 : Int) < (s.length : Int))))) : T Bool).run = some (b || decide ((1500 : Int) < (s.length : Int))) := by
    rw [T.run_bind_of hb]
    cases b <;> rfl
  unfold law21_RecordTexts
  rw [T.run_bind_of head]
  cases hq : (b || decide ((1500 : Int) < (s.length : Int))) with
  | true => rfl
  | false =>
    simp only [Bool.or_eq_false_iff, decide_eq_false_iff_not] at hq
    obtain ⟨hn, hx⟩ := hB hq.1
    have hok : ∀ x ∈ l, itemOk x := fun x h => ⟨by have := (hx x h).1; omega, (hr x h).1, (hr x h).2, by have := (hx x h).2; omega, by have := (hx x h).2; omega⟩
    obtain ⟨d1, d2⟩ := record_Decode_run s (by omega)
    have d3 := ref21_Decode_run s (by omega)
    have e1 : (record_Encode l).run = some (encE l) := encode_run l hok (by omega)
    have e2 := ref21_Encode_run l hok (by omega)
    have dl : (decS s).1.length ≤ 1000000 := by
      unfold decS
      cases hm : itemsO (splitL s).1 with
      | none => simp
      | some ys =>
        dsimp only
        split
        · obtain ⟨z, hz, hc⟩ := refdec_loop s (by omega)
          rcases hc with ⟨ys', h1, _, h2, _⟩ | ⟨h1, _⟩
          · rw [hm] at h1; cases h1; dsimp only; omega
          · rw [hm] at h1; cases h1
        · simp
    have hit := items_run (decS s).1 (decS s).1 dl rfl (fun k h1 h2 => ⟨rfl, ok_up (d2 _ (List.getElem_mem h1)).2 (by omega), ok_up (d2 _ (List.getElem_mem h1)).2 (by omega), rfl⟩)
    rw [T.run_ite_false, T.run_bind_of d1]
    generalize decS s = D at *
    obtain ⟨m, e⟩ := D
    dsimp only at hit ⊢
    rw [T.run_bind_of d3]
    dsimp only
    rw [T.run_bind_of e1, T.run_bind_of (own_run l (by omega)), T.run_bind_of e2, T.run_ite_t (strEq_refl (encE l)), T.run_bind_of hit, T.run_ite_true, T.run_ite_t (by simp), T.run_bind_of known21_run, T.run_ret]
theorem law21_RecordTexts_law (x : denL [.sl tyIt, .str]) (hw : wfL [.sl tyIt, .str] x) (hb : bkL [.sl tyIt, .str] x ≤ 1048576) : (law21_RecordTexts (toPs [.sl tyIt, .str] x).1 (toPs [.sl tyIt, .str] x).2).run = some true := by
  obtain ⟨l, s, u⟩ := x
  have e : bkL [.sl tyIt, .str] (l, s, u) = (sumB (bk tyIt) l + 1) + (bk .str s + 0) := rfl
  have e2 : ∀ x, bk tyIt x = (x.1.length + 1) + (bk tyRat x.2.1 + 1) := fun _ => rfl
  have k := sumB_len (bk tyIt) l (fun x => by rw [e2]; omega)
  exact law21_RecordTexts_all l s (by omega) (fun x hx => by
    have hwx : wf tyIt x := hw.1 x hx
    exact rat_wf hwx.2.1)
end Go.AM.Lf
