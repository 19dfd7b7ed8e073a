/-
  Plain laws of the lifted program, part 1.
-/
import Derived.Test.YtgfadkdgifpddaaGreatDoorLf0
import Derived.Test.YtgfadkdgifpddaaGreatDoorAmA
import Derived.Test.YtgfadkdgifpddaaGreatDoorAmD
import Derived.Test.YtgfadkdgifpddaaGreatDoorQ0
set_option linter.unusedVariables false
namespace Go.AM.PL
def decT (t : Str) : Option (Nat × Nat) :=
  if t.takeWhile isD = [] then none else match t.dropWhile isD with
  | [] => some (dval (t.takeWhile isD), 1)
  | c :: q => if q = [] ∨ digs q = false then none else if c = 46 then some (dval (t.takeWhile isD) * 10 ^ q.length + dval q, 10 ^ q.length)
    else if c = 47 then (if dval q = 0 then none else some (dval (t.takeWhile isD), dval q)) else none
theorem takeWhile_digs {u : Str} (h : digs u = true) (r : Str) (hr : ∀ c q, r = c :: q → isD c = false) : (u ++ r).takeWhile isD = u ∧ (u ++ r).dropWhile isD = r := by
  induction u with
  | nil =>
    cases r with
    | nil => exact ⟨rfl, rfl⟩
    | cons c q => have := hr c q rfl; simp [this]
  | cons b u ih =>
    rw [digs_cons, Bool.and_eq_true] at h
    obtain ⟨i1, i2⟩ := ih h.2
    simp [h.1, i1, i2]
theorem decT_all {u : Str} (h : digs u = true) : decT u = if u = [] then none else some (dval u, 1) := by
  have := takeWhile_digs h [] (fun c q z => by cases z)
  rw [List.append_nil] at this
  unfold decT
  rw [this.1, this.2]
theorem decT_cut {u : Str} (h : digs u = true) (c : UInt8) (q : Str) (hc : isD c = false) : decT (u ++ c :: q) = if u = [] then none else if q = [] ∨ digs q = false then none else if c = 46 then some (dval u * 10 ^ q.length + dval q, 10 ^ q.length)
    else if c = 47 then (if dval q = 0 then none else some (dval u, dval q)) else none := by
  have := takeWhile_digs h (c :: q) (fun c' q' z => by cases z; exact hc)
  unfold decT
  rw [this.1, this.2]
theorem decT_bad {u : Str} (h : digs u = true) (c : UInt8) (q : Str) (hc : isD c = false) (h1 : c ≠ 46) (h2 : c ≠ 47) : decT (u ++ c :: q) = none := by
  rw [decT_cut h c q hc, if_neg h1, if_neg h2]
  split
  · rfl
  · split <;> rfl
theorem split_nondig {w : Str} (h : digs w = false) : ∃ u c v, w = u ++ c :: v ∧ digs u = true ∧ isD c = false := by
  induction w with
  | nil => cases h
  | cons b w ih =>
    cases hb : isD b with
    | false => exact ⟨[], b, w, rfl, rfl, hb⟩
    | true =>
      rw [digs_cons, hb, Bool.true_and] at h
      obtain ⟨u, c, v, rfl, h1, h2⟩ := ih h
      exact ⟨b :: u, c, v, rfl, by rw [digs_cons, hb, h1]; rfl, h2⟩
theorem split_at {c : UInt8} {s : Str} (h : c ∈ s) : ∃ w q, s = w ++ c :: q ∧ c ∉ w := by
  induction s with
  | nil => cases h
  | cons b s ih =>
    by_cases hb : b = c
    · subst hb; exact ⟨[], s, rfl, by simp⟩
    · obtain ⟨w, q, rfl, h2⟩ := ih (by rcases List.mem_cons.1 h with h | h; exact absurd h.symm hb; exact h)
      exact ⟨b :: w, q, rfl, by simp [h2]; exact fun z => hb z.symm⟩
theorem idxS_at (c : UInt8) (w q : Str) (h : c ∉ w) : idxS (w ++ c :: q) [c] = (w.length : Int) := by
  induction w with
  | nil => simp [idxS]
  | cons b w ih =>
    have hb : c ≠ b := fun z => h (by simp [z])
    have hw := ih (fun z => h (List.mem_cons_of_mem _ z))
    rw [List.cons_append]
    unfold idxS
    rw [hw]
    have e1 : List.isPrefixOf [c] (b :: (w ++ c :: q)) = false := by simp [List.isPrefixOf, hb]
    rw [e1]
    have e2 : ((w.length : Int) == -1) = false := by simp
    rw [e2]
    simp
theorem idxS_none (c : UInt8) (s : Str) (h : c ∉ s) : idxS s [c] = -1 := by
  induction s with
  | nil => rfl
  | cons b w ih =>
    have hb : c ≠ b := fun z => h (by simp [z])
    unfold idxS
    rw [ih (fun z => h (List.mem_cons_of_mem _ z))]
    have e1 : List.isPrefixOf [c] (b :: w) = false := by simp [List.isPrefixOf, hb]
    rw [e1]; rfl
theorem cutSt_at (c : UInt8) (w q : Str) (h : c ∉ w) : cutSt (w ++ c :: q) [c] = (w, q, true) := by
  unfold cutSt
  rw [idxS_at c w q h, if_pos (by omega)]
  simp
theorem cutSt_none (c : UInt8) (s : Str) (h : c ∉ s) : cutSt s [c] = (s, [], false) := by
  unfold cutSt
  rw [idxS_none c s h, if_neg (by omega)]
theorem natO_some {s : Str} {n : Nat} (h : natO s = some n) : s ≠ [] ∧ s.length ≤ 400 ∧ digs s = true ∧ n = dval s := by
  unfold natO at h
  split at h
  · cases h
  · rename_i hc
    cases h
    simp only [not_or] at hc
    exact ⟨hc.1, by omega, by simpa using hc.2.2, rfl⟩
theorem natO_of {s : Str} (h1 : s ≠ []) (h2 : s.length ≤ 400) (h3 : digs s = true) : natO s = some (dval s) := by
  unfold natO
  rw [if_neg (by simp [h1, h3]; omega)]
theorem natO_no {s : Str} (h : s = [] ∨ digs s = false) : natO s = none := by
  unfold natO
  rw [if_pos (by rcases h with h | h; exact .inl h; exact .inr (.inr h))]
end Go.AM.PL
namespace Go.AM.Lf
open PL
def zeroR : Rat := (false, [], [], ())
def decP (s : Str) : Option (Nat × Nat) := decT (trimPre s [45])
theorem trimPre_len (s p : Str) : (trimPre s p).length ≤ s.length := by unfold trimPre; split <;> simp
theorem parse_core (t : Str) (ht : t.length ≤ 400) (neg : Bool) :
    (T.bind (strings_Cut t ([46] : Str)) fun (whole, part, ok) =>
      .ite ok
        (T.bind (nat_Parse part) fun (r, is) =>
          .obl (((List.length whole) + (List.length part)) ≤ (4611686018427387904 : Nat)) <|
          T.bind (nat_Parse (cat whole part)) fun (n, both) =>
          .ite ((strEq whole ([] : Str)) || ((!is) || (!both)))
            (.ret ((false, (([] : List Int), (([] : List Int), ()))), (2 : Int)))
            (T.bind (dec_ten (Nat.cast (List.length part) : Int)) fun r1 =>
              T.bind (rat_Of neg n r1) fun r2 =>
              .ret (r2, (0 : Int))))
        (T.bind (strings_Cut t ([47] : Str)) fun (num, den, ok1) =>
          T.bind (nat_Parse num) fun (n1, is1) =>
          T.bind (nat_Parse (bif (!ok1) then ([49] : Str) else den)) fun (d, both1) =>
          .ite ((!is1) || ((!both1) || ((Nat.cast (List.length d) : Int) == (0 : Int))))
            (.ret ((false, (([] : List Int), (([] : List Int), ()))), (2 : Int)))
            (T.bind (rat_Of neg n1 d) fun r3 =>
              .ret (r3, (0 : Int)))) : T (Rat × Int)).run = some (match decT t with | some (n, d) => (ratN neg n d, (0 : Int)) | none => (zeroR, (2 : Int))) := by
  have hcut : ∀ c : UInt8, (strings_Cut t [c]).run = some (cutSt t [c]) := fun c => by
    unfold strings_Cut; rw [T.run_obl (by omega), T.run_ret]
  rw [T.run_bind_of (hcut 46)]
  have h46 : isD 46 = false := by decide
  have h47 : isD 47 = false := by decide
  by_cases c1 : (46 : UInt8) ∈ t
  · obtain ⟨w, p, rfl, hw⟩ := split_at c1
    rw [cutSt_at 46 w p hw]
    have hl : w.length + p.length + 1 ≤ 400 := by simp at ht; omega
    dsimp only
    rw [T.run_ite_true, T.run_bind_of (nat_Parse_run p (by omega))]
    have hwp := nat_Parse_run (cat w p) (by rw [len_cat]; omega)
    by_cases d1 : digs w = true
    · rw [decT_cut d1 46 p h46]
      by_cases d2 : w = []
      · subst d2
        rw [if_pos rfl]
        generalize natO p = o at *
        cases o <;> (dsimp only; rw [T.run_leN _ (by simp; omega), T.run_bind_of hwp]; generalize natO (cat [] p) = o2; cases o2 <;> rfl)
      · rw [if_neg d2]
        by_cases d3 : p = [] ∨ digs p = false
        · rw [if_pos d3, natO_no d3]
          dsimp only
          rw [T.run_leN _ (by omega), T.run_bind_of hwp]
          generalize natO (cat w p) = o2
          cases o2 <;> (dsimp only; rw [T.run_ite_t (by simp), T.run_ret]; rfl)
        · rw [if_neg d3, if_pos rfl]
          have d4 : p ≠ [] := fun z => d3 (.inl z)
          have d5 : digs p = true := by cases h : digs p with | true => rfl | false => exact absurd (.inr h) d3
          have d6 : digs (cat w p) = true := by rw [cat_eq, digs_app, d1, d5]; rfl
          have d7 : cat w p ≠ [] := by rw [cat_eq]; simp [d2]
          rw [natO_of d4 (by omega) d5]
          rw [natO_of d7 (by rw [len_cat]; omega) d6] at hwp
          dsimp only at hwp ⊢
          have e1 : strEq w [] = false := by rw [strEq_iff]; simpa using d2
          have h10 := ten_len p.length
          have hn := dval_len d6
          have ho := rat_Of_run neg (ofN (dval (cat w p))) (ofN (10 ^ p.length)) (limbs_ofN _) (limbs_ofN _) (by rw [len_cat] at hn; omega) (by omega)
          rw [nv_ofN, nv_ofN] at ho
          rw [T.run_leN _ (by omega), T.run_bind_of hwp]
          dsimp only
          rw [T.run_ite_f (by rw [e1]; rfl), T.run_bind_of (dec_ten_run p.length (by omega)), T.run_bind_of ho, T.run_ret, cat_eq, dval_app]
    · have d1 : digs w = false := by simpa using d1
      obtain ⟨u, c, v, rfl, g1, g2⟩ := split_nondig d1
      have hc46 : c ≠ 46 := fun z => hw (by simp [z])
      have e : decT (u ++ c :: v ++ 46 :: p) = none := by
        rw [List.append_assoc, List.cons_append, decT_cut g1 c _ g2]
        have : digs (v ++ 46 :: p) = false := by rw [digs_app, digs_cons, h46]; simp
        rw [if_pos (show v ++ 46 :: p = [] ∨ digs (v ++ 46 :: p) = false from .inr this)]; split <;> rfl
      rw [e]
      have hno : natO (cat (u ++ c :: v) p) = none := natO_no (.inr (by rw [cat_eq, digs_app, d1]; rfl))
      rw [hno] at hwp
      generalize natO p = o at *
      cases o <;> (dsimp only; rw [T.run_leN _ (by omega), T.run_bind_of hwp]; dsimp only; rw [T.run_ite_t (by simp), T.run_ret]; rfl)
  · rw [cutSt_none 46 t c1]
    dsimp only
    rw [T.run_ite_false, T.run_bind_of (hcut 47)]
    have fin : ∀ (num den : Str) (x : Bool), num.length ≤ 400 → den.length ≤ 400 → (T.bind (nat_Parse num) fun (n1, is1) =>
          T.bind (nat_Parse (bif (!x) then ([49] : Str) else den)) fun (d, both1) =>
          .ite ((!is1) || ((!both1) || ((Nat.cast (List.length d) : Int) == (0 : Int))))
            (.ret ((false, (([] : List Int), (([] : List Int), ()))), (2 : Int)))
            (T.bind (rat_Of neg n1 d) fun r3 => .ret (r3, (0 : Int))) : T (Rat × Int)).run =
          some (match natO num, natO (bif (!x) then ([49] : Str) else den) with | some n, some d => if d = 0 then (zeroR, (2 : Int)) else (ratN neg n d, (0 : Int)) | _, _ => (zeroR, (2 : Int))) := by
      intro num den x hn hd
      have hd2 : (bif (!x) then ([49] : Str) else den).length ≤ 400 := by cases x <;> simp [hd]
      generalize (bif (!x) then ([49] : Str) else den) = dd at *
      rw [T.run_bind_of (nat_Parse_run num (by omega))]
      have hdd := nat_Parse_run dd (by omega)
      cases h1 : natO num with
      | none =>
        dsimp only
        rw [T.run_bind_of hdd]
        generalize natO dd = o
        cases o <;> rfl
      | some n =>
        dsimp only
        rw [T.run_bind_of hdd]
        cases h2 : natO dd with
        | none => rfl
        | some d =>
          obtain ⟨a1, a2, a3, rfl⟩ := natO_some h1
          obtain ⟨b1, b2, b3, rfl⟩ := natO_some h2
          dsimp only
          have l1 := dval_len a3
          have l2 := dval_len b3
          by_cases z : dval dd = 0
          · rw [z, ofN_zero, if_pos rfl]; rfl
          · rw [if_neg z]
            have : (ofN (dval dd)).length ≠ 0 := fun h => z (ofN_eq_nil.1 (List.eq_nil_of_length_eq_zero h))
            have ho := rat_Of_run neg (ofN (dval num)) (ofN (dval dd)) (limbs_ofN _) (limbs_ofN _) (by omega) (by omega)
            rw [nv_ofN, nv_ofN] at ho
            rw [T.run_ite_f (by simp; exact fun h => z (ofN_eq_nil.1 h)), T.run_bind_of ho, T.run_ret]
    by_cases c2 : (47 : UInt8) ∈ t
    · obtain ⟨w, q, rfl, hw⟩ := split_at c2
      rw [cutSt_at 47 w q hw]
      have hl : w.length + q.length + 1 ≤ 400 := by simp at ht; omega
      rw [fin w q true (by omega) (by omega)]
      rw [show (bif (!true) then ([49] : Str) else q) = q from rfl]
      by_cases d1 : digs w = true
      · rw [decT_cut d1 47 q h47]
        by_cases d2 : w = []
        · rw [if_pos d2, natO_no (.inl d2)]
        · rw [if_neg d2, natO_of d2 (by omega) d1]
          by_cases d3 : q = [] ∨ digs q = false
          · rw [if_pos d3, natO_no d3]
          · have d4 : q ≠ [] := fun z => d3 (.inl z)
            have d5 : digs q = true := by cases h : digs q with | true => rfl | false => exact absurd (.inr h) d3
            rw [if_neg d3, if_neg (by decide), if_pos rfl, natO_of d4 (by omega) d5]
            dsimp only
            split <;> rfl
      · have d1 : digs w = false := by simpa using d1
        obtain ⟨u, c, v, rfl, g1, g2⟩ := split_nondig d1
        rw [natO_no (.inr d1)]
        have hc47 : c ≠ 47 := fun z => hw (by simp [z])
        have hc46 : c ≠ 46 := fun z => c1 (by simp [z])
        rw [List.append_assoc, List.cons_append, decT_bad g1 c _ g2 hc46 hc47]
    · rw [cutSt_none 47 t c2]
      rw [fin t [] false ht (by simp)]
      rw [show (bif (!false) then ([49] : Str) else []) = [49] from rfl]
      have h1 : natO [49] = some 1 := by decide
      rw [h1]
      by_cases d1 : digs t = true
      · rw [decT_all d1]
        by_cases d2 : t = []
        · rw [if_pos d2, natO_no (.inl d2)]
        · rw [if_neg d2, natO_of d2 ht d1]; rfl
      · have d1 : digs t = false := by simpa using d1
        rw [natO_no (.inr d1)]
        obtain ⟨u, c, v, rfl, g1, g2⟩ := split_nondig d1
        have hc47 : c ≠ 47 := fun z => c2 (by simp [z])
        have hc46 : c ≠ 46 := fun z => c1 (by simp [z])
        rw [decT_bad g1 c _ g2 hc46 hc47]
theorem dec_Parse_run (s : Str) (hs : s.length ≤ 1000000000) : (dec_Parse s).run = some (if 400 < s.length then (zeroR, (3 : Int)) else match decP s with | some (n, d) => (ratN (List.isPrefixOf [45] s) n d, (0 : Int)) | none => (zeroR, (2 : Int))) := by
  unfold dec_Parse
  by_cases c : 400 < s.length
  · rw [T.run_ite_t (decide_eq_true (by omega)), if_pos c, T.run_ret]; rfl
  · have hp : (strings_CutPrefix s [45]).run = some (trimPre s [45], List.isPrefixOf [45] s) := rfl
    have hl := trimPre_len s [45]
    rw [T.run_ite_f (decide_eq_false (by omega)), if_neg c, T.run_bind_of hp]
    exact parse_core _ (by omega) _
end Go.AM.Lf
namespace Go.AM.PL
theorem runLen (t : Str) : ∃ u r, t = u ++ r ∧ digs u = true ∧ (∀ c q, r = c :: q → isD c = false) := by
  induction t with
  | nil => exact ⟨[], [], rfl, rfl, fun c q h => by cases h⟩
  | cons b t ih =>
    cases hb : isD b with
    | false => exact ⟨[], b :: t, rfl, rfl, fun c q h => by cases h; exact hb⟩
    | true =>
      obtain ⟨u, r, rfl, h1, h2⟩ := ih
      exact ⟨b :: u, r, rfl, by rw [digs_cons, hb, h1]; rfl, h2⟩
theorem byte_dig {b : UInt8} : (decide ((48 : Int) ≤ (b.toNat : Int)) && decide ((b.toNat : Int) ≤ 57)) = isD b := by
  unfold isD
  rw [Bool.eq_iff_iff]; simp; omega
theorem byte_nodig {b : UInt8} : (decide ((b.toNat : Int) < (48 : Int)) || decide ((57 : Int) < (b.toNat : Int))) = !(isD b) := by
  unfold isD
  rw [Bool.eq_iff_iff]; simp; omega
end Go.AM.PL
namespace Go.AM.Lf
open PL
theorem run_run {u r : Str} (hu : digs u = true) (hr : ∀ c q, r = c :: q → isD c = false) (hl : (u ++ r).length ≤ 1000000000) : (ref3_run (u ++ r)).run = some (u.length : Int) := by
  have hL : (ref3_run_L0 (u ++ r) 0).run = some (u.length : Int) := by
    have := T.loop_run (r := ref3_run_R0 (u ++ r)) (fun i : Int => ∃ k : Nat, i = (k : Int) ∧ k ≤ u.length) (fun i => u.length - i.toNat) (fun _ => (u.length : Int)) (fun i hi => ?_) (s := 0) ⟨0, rfl, by omega⟩
    · exact this
    · obtain ⟨k, rfl, hk⟩ := hi
      unfold ref3_run_R0
      dsimp only
      by_cases c : k < u.length
      · left
        have hlt : k < (u ++ r).length := by simp; omega
        have hg : (u ++ r)[k] = u[k] := List.getElem_append_left c
        have hd : isD u[k] = true := List.all_eq_true.1 hu _ (List.getElem_mem c)
        refine ⟨((k + 1 : Nat) : Int), ?_, ⟨k + 1, rfl, c⟩, by simp only [Int.toNat_natCast]; omega, rfl⟩
        rw [T.run_obl (fun _ => ⟨idx_ok hlt, fun _ => idx_ok hlt⟩), byteAt_get hlt, hg, byte_dig, hd, lt_t hlt, T.run_ite_t (by rfl), T.run_ret, ix1 k _ hlt (by omega)]
      · right
        have hk : k = u.length := by omega
        subst hk
        cases r with
        | nil =>
          have hf : decide ((u.length : Int) < (((u ++ ([] : Str)).length : Nat) : Int)) = false := decide_eq_false (by simp)
          rw [hf, T.run_obl (fun h => by cases h), T.run_ite_f (by rfl), T.run_ret]
        | cons c q =>
          have hlt : u.length < (u ++ c :: q).length := by simp
          have hg : (u ++ c :: q)[u.length] = c := by simp
          rw [T.run_obl (fun _ => ⟨idx_ok hlt, fun _ => idx_ok hlt⟩), byteAt_get hlt, hg, byte_dig, hr c q rfl, lt_t hlt, T.run_ite_f (by rfl), T.run_ret]
  unfold ref3_run
  rw [T.run_bind_of hL, T.run_ret]
theorem ref1_Parse_run {u : Str} (h1 : u ≠ []) (h2 : u.length ≤ 400) (h3 : digs u = true) : (ref1_Parse u).run = some (ofN (dval u), true) := by
  have hL : (ref1_Parse_L0 u ([], 0)).run = some (.inl (ofN (dval u))) := by
    have := T.loop_run (r := ref1_Parse_R0 u) (fun st : List Int × Int => ∃ k : Nat, st = (ofN (dval (u.take k)), (k : Int)) ∧ k ≤ u.length) (fun st => u.length - st.2.toNat) (fun _ => (.inl (ofN (dval u)) : List Int ⊕ Bool)) (fun st hst => ?_) (s := ([], 0)) ⟨0, by simp [dval, ofN_zero], by omega⟩
    · exact this
    · obtain ⟨k, rfl, hk⟩ := hst
      unfold ref1_Parse_R0
      dsimp only
      by_cases c : k < u.length
      · left
        have hb : isD u[k] = true := List.all_eq_true.1 h3 _ (List.getElem_mem c)
        have hbb := isD_iff.1 hb
        have ht : digs (u.take k) = true := List.all_eq_true.2 fun x hx => List.all_eq_true.1 h3 x (List.mem_of_mem_take hx)
        have hl := dval_len ht
        have hl' : (ofN (dval (u.take k))).length ≤ 500 := by rw [List.length_take] at hl; omega
        have hm := ref1_Mul_run (ofN (dval (u.take k))) [10] (limbs_ofN _) ten_limbs (by omega) (by simp)
        rw [nv_ofN, show nv [10] = 10 from rfl] at hm
        have hml := ofN_mul_len (dval (u.take k)) 10
        have h10 : (ofN 10).length ≤ 1 := ofN_len_le.2 (by decide)
        have hd : wu32 (wu8 ((u[k].toNat : Int) - 48)) = ((u[k].toNat - 48 : Nat) : Int) := by rw [wu8_in (by omega) (by omega), wu32_in (by omega) (by omega)]; omega
        have ha := ref1_Add_run (ofN (dval (u.take k) * 10)) [((u[k].toNat - 48 : Nat) : Int)] (limbs_ofN _) (by intro x hx; simp at hx; omega) (by omega) (by simp)
        rw [nv_ofN, show nv [((u[k].toNat - 48 : Nat) : Int)] = u[k].toNat - 48 by rw [nv_cons, nv_nil]; omega] at ha
        refine ⟨(ofN (dval (u.take (k + 1))), ((k + 1 : Nat) : Int)), ?_, ⟨k + 1, rfl, c⟩, by simp only [Int.toNat_natCast]; omega, rfl⟩
        rw [T.run_ite_t (lt_t c), T.run_obl ⟨idx_ok c, fun _ => idx_ok c⟩, byteAt_get c, byte_nodig, hb, T.run_ite_f (by rfl), T.run_bind_of hm, T.run_obl (idx_ok c), hd, T.run_bind_of ha, T.run_ret, ix1 k _ c (by omega),
          List.take_succ_eq_append_getElem c, dval_snoc]
      · have : k = u.length := by omega
        subst this
        right
        rw [T.run_ite_f (lt_f _), T.run_ret, List.take_length]
  have hlen : 0 < u.length := List.length_pos_iff.2 h1
  have hg : (decide ((u.length : Int) < 1) || decide ((400 : Int) < (u.length : Int))) = false := by rw [decide_eq_false (by omega), decide_eq_false (by omega)]; rfl
  unfold ref1_Parse
  rw [T.run_ite_f hg, T.run_bind_of hL]; rfl
theorem ref2_Int0_run : (ref2_Int 0).run = some (toR 0) := by
  have h := ref1_Of_run 0 (by omega)
  rw [ofN_zero] at h
  have h2 := ref2_Of_run false [] [1] limbs_nil one_limb (by simp) (by simp)
  rw [show nv [] = 0 from rfl, show nv [1] = 1 from rfl, ratN_toR, qv_zero_num] at h2
  unfold ref2_Int
  rw [show (bif (decide ((0 : Int) < 0)) then (wu64 ((0 : Int) - (wu64 0))) else (wu64 0)) = ((0 : Nat) : Int) from by decide, show decide ((0 : Int) < 0) = false from by decide, T.run_bind_of h, T.run_bind_of h2, T.run_ret]
theorem ratN_one (neg : Bool) (n : Nat) : ratN neg n 1 = ratN neg (nv (ofN n)) (nv [1]) := by rw [nv_ofN]; rfl
theorem ref_core (t : Str) (ht : t.length ≤ 400) (neg : Bool) :
    (T.bind (ref3_run t) fun k =>
      .obl (slOk (0 : Int) k (List.length t)) <|
      .obl (slOk k (Nat.cast (List.length t) : Int) (List.length t)) <|
      .ite (k == (0 : Int))
        (T.bind (ref2_Int (0 : Int)) fun r1 =>
          .ret (r1, (2 : Int)))
        (T.bind (ref1_Parse (cutS (0 : Int) k t)) fun (n, r2) =>
          .ite (strEq (cutS k (Nat.cast (List.length t) : Int) t) ([] : Str))
            (T.bind (ref2_Of neg n ([(1 : Int)] : List Int)) fun r3 =>
              .ret (r3, (0 : Int)))
            (.obl (slOk (1 : Int) (Nat.cast (List.length (cutS k (Nat.cast (List.length t) : Int) t)) : Int) (List.length (cutS k (Nat.cast (List.length t) : Int) t))) <|
              T.bind (ref3_run (cutS (1 : Int) (Nat.cast (List.length (cutS k (Nat.cast (List.length t) : Int) t)) : Int) (cutS k (Nat.cast (List.length t) : Int) t))) fun m =>
              .obl (((m == (0 : Int)) = false) → (((m != (w64 ((Nat.cast (List.length (cutS k (Nat.cast (List.length t) : Int) t)) : Int) - (1 : Int)))) = false) → ((idxOk (0 : Int) (List.length (cutS k (Nat.cast (List.length t) : Int) t))) ∧ ((((byteAt (cutS k (Nat.cast (List.length t) : Int) t) (0 : Int)) != (46 : Int)) = true) → (idxOk (0 : Int) (List.length (cutS k (Nat.cast (List.length t) : Int) t))))))) <|
              .ite ((m == (0 : Int)) || ((m != (w64 ((Nat.cast (List.length (cutS k (Nat.cast (List.length t) : Int) t)) : Int) - (1 : Int)))) || (((byteAt (cutS k (Nat.cast (List.length t) : Int) t) (0 : Int)) != (46 : Int)) && ((byteAt (cutS k (Nat.cast (List.length t) : Int) t) (0 : Int)) != (47 : Int)))))
                (T.bind (ref2_Int (0 : Int)) fun r4 =>
                  .ret (r4, (2 : Int)))
                (.obl (slOk (1 : Int) (Nat.cast (List.length (cutS k (Nat.cast (List.length t) : Int) t)) : Int) (List.length (cutS k (Nat.cast (List.length t) : Int) t))) <|
                  T.bind (ref1_Parse (cutS (1 : Int) (Nat.cast (List.length (cutS k (Nat.cast (List.length t) : Int) t)) : Int) (cutS k (Nat.cast (List.length t) : Int) t))) fun (x, r5) =>
                  .obl (idxOk (0 : Int) (List.length (cutS k (Nat.cast (List.length t) : Int) t))) <|
                  .ite ((byteAt (cutS k (Nat.cast (List.length t) : Int) t) (0 : Int)) == (47 : Int))
                    (.ite ((Nat.cast (List.length x) : Int) == (0 : Int))
                        (T.bind (ref2_Int (0 : Int)) fun r6 =>
                          .ret (r6, (2 : Int)))
                        (T.bind (ref2_Of neg n x) fun r7 =>
                          .ret (r7, (0 : Int))))
                    (T.bind (ref3_ten m) fun t =>
                      T.bind (ref1_Mul n t) fun r8 =>
                      T.bind (ref1_Add r8 x) fun r9 =>
                      T.bind (ref2_Of neg r9 t) fun r10 =>
                      .ret (r10, (0 : Int)))))) : T (Rat × Int)).run = some (match decT t with | some (n, d) => (ratN neg n d, (0 : Int)) | none => (toR 0, (2 : Int))) := by
  obtain ⟨u, r, rfl, h1, h2⟩ := runLen t
  have hl : u.length + r.length ≤ 400 := by simpa using ht
  have hlen : (u ++ r).length = u.length + r.length := by simp
  have c1 : cutS 0 (u.length : Int) (u ++ r) = u := by unfold cutS; simp
  have c2 : cutS (u.length : Int) (((u ++ r).length : Nat) : Int) (u ++ r) = r := by unfold cutS; rw [Int.toNat_natCast, Int.toNat_natCast, List.take_length]; simp
  rw [T.run_bind_of (run_run h1 h2 (by omega)), T.run_sl _ (by omega) (by omega) (by omega), T.run_sl _ (by omega) (by omega) (by omega), c1, c2]
  by_cases d2 : u = []
  · subst d2
    have e : decT ([] ++ r) = none := by
      cases r with
      | nil => rfl
      | cons c q => rw [decT_cut h1 c q (h2 c q rfl), if_pos rfl]
    rw [e, T.run_ite_t (by rfl), T.run_bind_of ref2_Int0_run, T.run_ret]
  · have hu0 : u.length ≠ 0 := fun z => d2 (List.eq_nil_of_length_eq_zero z)
    have hn := dval_len h1
    rw [T.run_ite_f (by simpa using d2), T.run_bind_of (ref1_Parse_run d2 (by omega) h1)]
    dsimp only
    cases r with
    | nil =>
      have ho := ref2_Of_run neg (ofN (dval u)) [1] (limbs_ofN _) one_limb (by omega) (by simp)
      rw [← ratN_one] at ho
      rw [T.run_ite_t (by rfl), T.run_bind_of ho, T.run_ret, List.append_nil, decT_all h1, if_neg d2]
    | cons c q =>
      have hc := h2 c q rfl
      have hq : (c :: q).length = q.length + 1 := rfl
      have e1 : strEq (c :: q) [] = false := by rw [strEq_iff]; simp
      have e2 : w64 (((c :: q).length : Int) - 1) = (q.length : Int) := by rw [hq, w64_in (by omega) (by omega)]; omega
      have e3 : byteAt (c :: q) 0 = (c.toNat : Int) := rfl
      obtain ⟨u2, r2, rfl, k1, k2⟩ := runLen q
      have hl2 : (u2 ++ r2).length = u2.length + r2.length := by simp
      rw [T.run_ite_f e1, T.run_sl _ (by omega) (by rw [hq]; omega) (by omega), cutS_drop1, T.run_bind_of (run_run k1 k2 (by omega)), e2, e3, decT_cut h1 c _ hc, if_neg d2]
      rw [T.run_obl (fun _ _ => ⟨⟨by omega, by rw [hq]; omega⟩, fun _ => ⟨by omega, by rw [hq]; omega⟩⟩)]
      by_cases d3 : u2 ++ r2 = [] ∨ digs (u2 ++ r2) = false
      · rw [if_pos d3]
        have hg : (((u2.length : Int) == 0) || (((u2.length : Int) != (((u2 ++ r2).length : Nat) : Int)) || (((c.toNat : Int) != 46) && ((c.toNat : Int) != 47)))) = true := by
          rcases d3 with d3 | d3
          · have : u2 = [] := (List.append_eq_nil_iff.1 d3).1
            subst this; rfl
          · cases r2 with
            | nil => rw [List.append_nil, k1] at d3; cases d3
            | cons a b => rw [hl2, show ((a :: b).length) = b.length + 1 from rfl]; simp; omega
        rw [T.run_ite_t hg, T.run_bind_of ref2_Int0_run, T.run_ret]
      · rw [if_neg d3]
        have d4 : u2 ++ r2 ≠ [] := fun z => d3 (.inl z)
        have d5 : digs (u2 ++ r2) = true := by cases h : digs (u2 ++ r2) with | true => rfl | false => exact absurd (.inr h) d3
        have d6 : r2 = [] := by
          cases r2 with
          | nil => rfl
          | cons a b =>
            rw [digs_app, digs_cons, k2 a b rfl] at d5; simp at d5
        subst d6
        rw [List.append_nil] at *
        have hu2 : u2.length ≠ 0 := fun z => d4 (List.eq_nil_of_length_eq_zero z)
        have hcn : ∀ x : UInt8, ((c.toNat : Int) == (x.toNat : Int)) = decide (c = x) := fun x => by
          by_cases z : c = x
          · subst z; simp
          · rw [decide_eq_false z]
            have : c.toNat ≠ x.toNat := fun h => z (UInt8.toNat_inj.1 h)
            simp; omega
        have hg : (((u2.length : Int) == 0) || (((u2.length : Int) != (u2.length : Int)) || (((c.toNat : Int) != 46) && ((c.toNat : Int) != 47)))) = (!decide (c = 46) && !decide (c = 47)) := by
          have a1 : ((c.toNat : Int) == 46) = decide (c = 46) := hcn 46
          have a2 : ((c.toNat : Int) == 47) = decide (c = 47) := hcn 47
          have a3 : ((u2.length : Int) == 0) = false := by simp; exact d4
          rw [a3, bne_self_eq_false, Bool.false_or, Bool.false_or]
          unfold bne
          rw [a1, a2]
        rw [hg]
        have hx := dval_len k1
        have hp := ref1_Parse_run d4 (by omega) k1
        by_cases f1 : c = 46
        · rw [if_pos f1, T.run_ite_f (by simp [f1]), T.run_sl _ (by omega) (by rw [hq]; omega) (by omega), T.run_bind_of hp]
          dsimp only
          have h10 := ten_len u2.length
          have hm := ref1_Mul_ofN (dval u) (10 ^ u2.length) (by omega) (by omega)
          have hml := ofN_mul_len (dval u) (10 ^ u2.length)
          have ha := ref1_Add_ofN (dval u * 10 ^ u2.length) (dval u2) (by omega) (by omega)
          have hal := ofN_add_len (dval u * 10 ^ u2.length) (dval u2) 5000 (by omega) (by omega)
          have ho := ref2_Of_run neg (ofN (dval u * 10 ^ u2.length + dval u2)) (ofN (10 ^ u2.length)) (limbs_ofN _) (limbs_ofN _) (by omega) (by omega)
          rw [nv_ofN, nv_ofN] at ho
          rw [T.run_idx _ (by omega) (by rw [hq]; omega), T.run_ite_f (by rw [f1]; rfl), T.run_bind_of (ref3_ten_run _ (by omega)), T.run_bind_of hm, T.run_bind_of ha, T.run_bind_of ho, T.run_ret]
        · rw [if_neg f1]
          by_cases f2 : c = 47
          · rw [if_pos f2, T.run_ite_f (by simp [f2]), T.run_sl _ (by omega) (by rw [hq]; omega) (by omega), T.run_bind_of hp]
            dsimp only
            rw [T.run_idx _ (by omega) (by rw [hq]; omega), T.run_ite_t (by rw [f2]; rfl), len_zero]
            by_cases z : dval u2 = 0
            · rw [if_pos z, T.run_ite_t (decide_eq_true z), T.run_bind_of ref2_Int0_run, T.run_ret]
            · have ho := ref2_Of_run neg (ofN (dval u)) (ofN (dval u2)) (limbs_ofN _) (limbs_ofN _) (by omega) (by omega)
              rw [nv_ofN, nv_ofN] at ho
              rw [if_neg z, T.run_ite_f (decide_eq_false z), T.run_bind_of ho, T.run_ret]
          · rw [if_neg f2, T.run_ite_t (by simp [f1, f2]), T.run_bind_of ref2_Int0_run, T.run_ret]
theorem ref3_Parse_run (s : Str) (hs : s.length ≤ 1000000000) : (ref3_Parse s).run = some (if 400 < s.length then (toR 0, (3 : Int)) else match decP s with | some (n, d) => (ratN (List.isPrefixOf [45] s) n d, (0 : Int)) | none => (toR 0, (2 : Int))) := by
  unfold ref3_Parse
  by_cases c : 400 < s.length
  · rw [T.run_ite_t (decide_eq_true (by omega)), if_pos c, T.run_bind_of ref2_Int0_run, T.run_ret]
  · rw [T.run_ite_f (decide_eq_false (by omega)), if_neg c]
    have hneg : ((!(strEq s ([] : Str))) && ((byteAt s (0 : Int)) == (45 : Int))) = List.isPrefixOf [45] s := by
      cases s with
      | nil => rfl
      | cons b l =>
        have e1 : strEq (b :: l) [] = false := by rw [strEq_iff]; simp
        have e2 : byteAt (b :: l) 0 = (b.toNat : Int) := rfl
        rw [e1, e2]
        show (true && _) = ((45 : UInt8) == b && true)
        rw [Bool.true_and, Bool.and_true, Bool.eq_iff_iff]
        simp only [beq_iff_eq]
        constructor
        · intro h; exact (UInt8.toNat_inj.1 (by show (45 : UInt8).toNat = b.toNat; rw [show (45 : UInt8).toNat = 45 from rfl]; omega))
        · intro h; subst h; rfl
    have hcut : (bif ((!(strEq s ([] : Str))) && ((byteAt s (0 : Int)) == (45 : Int))) then (cutS (1 : Int) (Nat.cast (List.length s) : Int) s) else s) = trimPre s [45] := by
      rw [hneg]
      unfold trimPre
      cases h : List.isPrefixOf [45] s with
      | false => rfl
      | true =>
        cases s with
        | nil => cases h
        | cons b l => rw [if_pos rfl]; exact cutS_drop1 b l
    have hl := trimPre_len s [45]
    have core := ref_core (trimPre s [45]) (by omega) (List.isPrefixOf [45] s)
    have o1 : ((!(strEq s ([] : Str))) = true) → (idxOk (0 : Int) (List.length s)) := fun h => by
      cases s with
      | nil => cases h
      | cons b l => exact ⟨by omega, by simp⟩
    have o2 : (((!(strEq s ([] : Str))) && ((byteAt s (0 : Int)) == (45 : Int))) = true) → (slOk (1 : Int) (Nat.cast (List.length s) : Int) (List.length s)) := fun h => by
      cases s with
      | nil => cases h
      | cons b l => exact ⟨by omega, by simp; omega, by omega⟩
    rw [T.run_obl o1, T.run_obl o2]
    simp only [hcut]
    simp only [hneg]
    exact core
end Go.AM.Lf
namespace Go.AM.Lf
open PL
theorem zeroR_ok : ratOk 100000 zeroR := ⟨limbs_nil, limbs_nil, by simp [zeroR], by simp [zeroR]⟩
theorem val_zeroR : val zeroR = 0 := by unfold val zeroR; exact qv_zero_num _ _
theorem decT_len {t : Str} {n d : Nat} (h : decT t = some (n, d)) : (ofN n).length ≤ 3 * t.length + 5 ∧ (ofN d).length ≤ 3 * t.length + 5 := by
  obtain ⟨u, r, rfl, h1, h2⟩ := runLen t
  have hu := dval_len h1
  cases r with
  | nil =>
    rw [List.append_nil, decT_all h1] at h
    split at h
    · cases h
    · cases h
      rw [List.append_nil]
      exact ⟨by omega, by rw [ofN_one]; simp⟩
  | cons c q =>
    rw [decT_cut h1 c q (h2 c q rfl)] at h
    split at h
    · cases h
    · split at h
      · cases h
      · rename_i hq
        have hd : digs q = true := by cases hh : digs q with | true => rfl | false => exact absurd (.inr hh) hq
        have l1 := dval_len hd
        have l2 := ten_len q.length
        have l3 := ofN_mul_len (dval u) (10 ^ q.length)
        have hl : (u ++ c :: q).length = u.length + q.length + 1 := by simp; omega
        split at h
        · cases h
          have l4 := ofN_add_len (dval u * 10 ^ q.length) (dval q) (u.length + 2 * q.length + 3) (by omega) (by omega)
          omega
        · split at h
          · split at h
            · cases h
            · cases h; omega
          · cases h
theorem parse_ok {s : Str} {n d : Nat} (neg : Bool) (hs : s.length ≤ 400) (h : decP s = some (n, d)) : ratOk 100000 (ratN neg n d) := by
  have hl := trimPre_len s [45]
  obtain ⟨h1, h2⟩ := decT_len h
  exact ratN_ok _ _ _ _ (by omega) (by omega) (by omega)
theorem bytes_rep (n k : Nat) : bytesStr (List.replicate n ((48 + k : Nat) : Int)) = List.replicate n (UInt8.ofNat (48 + k)) := by
  unfold bytesStr
  rw [List.map_replicate]
  congr 1
theorem law3_DecLong_all (n k : Int) : (law3_DecLong n k).run = some true := by
  unfold law3_DecLong
  by_cases hg : n < 1 ∨ 450 < n ∨ k < 0 ∨ 9 < k
  · rw [T.run_ite_t (by rcases hg with h | h | h | h <;> simp [h]), T.run_ret]
  · simp only [not_or] at hg
    obtain ⟨g1, g2, g3, g4⟩ := hg
    rw [T.run_ite_f (by simp; omega), T.run_cur _ rfl rfl rfl, T.run_eqN _ rfl]
    obtain ⟨m, rfl⟩ := Int.eq_ofNat_of_zero_le (show 0 ≤ n by omega)
    obtain ⟨j, rfl⟩ := Int.eq_ofNat_of_zero_le (show 0 ≤ k by omega)
    have hL : (law3_DecLong_L0 (m : Int) (j : Int) (0, [])).run = some (List.replicate m ((48 + j : Nat) : Int)) := by
      have := T.loop_run (r := law3_DecLong_R0 (m : Int) (j : Int)) (fun st : Int × List Int => ∃ i : Nat, st = ((i : Int), List.replicate i ((48 + j : Nat) : Int)) ∧ i ≤ m) (fun st => m - st.1.toNat) (fun _ => List.replicate m ((48 + j : Nat) : Int)) (fun st hst => ?_) (s := (0, [])) ⟨0, rfl, by omega⟩
      · exact this
      · obtain ⟨i, rfl, hi⟩ := hst
        unfold law3_DecLong_R0
        dsimp only
        by_cases c : i < m
        · left
          refine ⟨(((i + 1 : Nat) : Int), List.replicate (i + 1) ((48 + j : Nat) : Int)), ?_, ⟨i + 1, rfl, c⟩, by simp only [Int.toNat_natCast]; omega, rfl⟩
          have e : wu8 (w64 (48 + (j : Int))) = ((48 + j : Nat) : Int) := by rw [w64_in (by omega) (by omega), wu8_in (by omega) (by omega)]; omega
          rw [T.run_ite_t (lt_t c), T.run_app _ rfl rfl rfl (by simp; omega), T.run_cur _ (by simp) rfl (by simp), T.run_eqN _ (by simp), T.run_ret, e, ix1 i _ c (by omega), List.replicate_succ']
        · have : i = m := by omega
          subst this
          right
          rw [T.run_ite_f (lt_f _), T.run_cur _ rfl rfl rfl, T.run_eqN _ rfl, T.run_ret]
    have es : bytesStr (List.drop 0 (List.take (0 + (List.replicate m ((48 + j : Nat) : Int)).length) (List.replicate m ((48 + j : Nat) : Int)))) = List.replicate m (UInt8.ofNat (48 + j)) := by
      rw [Nat.zero_add, List.take_length, List.drop_zero, bytes_rep]
    have hl : (List.replicate m (UInt8.ofNat (48 + j))).length = m := by simp
    have hpar := dec_Parse_run (List.replicate m (UInt8.ofNat (48 + j))) (by omega)
    rw [T.run_bind_of hL, T.run_eqN _ rfl]
    simp only [es]
    rw [T.run_bind_of hpar, hl]
    by_cases c : 400 < m
    · have hz : (ref2_Zero zeroR).run = some true := by
        unfold ref2_Zero
        rw [T.run_bind_of (ref2_norm zeroR (ok_up zeroR_ok (by omega))), norm_toR, val_zeroR, T.run_ret]
        rw [toR_num, Rat.zero_num]
        show some ((((ofN 0).length : Int) == 0)) = _
        rw [ofN_zero]; rfl
      rw [if_pos c]
      dsimp only
      rw [T.run_ite_t (decide_eq_true (by omega)), T.run_ite_t (by rfl), T.run_bind_of hz, T.run_ite_true, T.run_bind_of known_run, T.run_ret]
    · rw [if_neg c]
      have hr := ref3_Parse_run (List.replicate m (UInt8.ofNat (48 + j))) (by omega)
      rw [hl, if_neg c] at hr
      have hdig : digs (List.replicate m (UInt8.ofNat (48 + j))) = true := List.all_eq_true.2 fun x hx => by
        rw [(List.mem_replicate.1 hx).2]
        refine isD_iff.2 ?_
        rw [UInt8.toNat_ofNat']; omega
      have hpre : List.isPrefixOf [45] (List.replicate m (UInt8.ofNat (48 + j))) = false := by
        obtain ⟨m', rfl⟩ : ∃ m', m = m' + 1 := ⟨m - 1, by omega⟩
        rw [List.replicate_succ]
        have : (45 : UInt8) ≠ UInt8.ofNat (48 + j) := fun z => by
          have := congrArg UInt8.toNat z
          rw [UInt8.toNat_ofNat'] at this
          have e : (45 : UInt8).toNat = 45 := rfl
          omega
        show ((45 : UInt8) == UInt8.ofNat (48 + j) && true) = false
        rw [Bool.and_true]; exact beq_eq_false_iff_ne.2 this
      have hdp : decP (List.replicate m (UInt8.ofNat (48 + j))) = some (dval (List.replicate m (UInt8.ofNat (48 + j))), 1) := by
        unfold decP trimPre
        rw [hpre, if_neg (by simp), decT_all hdig, if_neg (by intro z; have := congrArg List.length z; rw [hl] at this; simp at this; omega)]
      rw [hdp] at hr ⊢
      dsimp only at hr ⊢
      have hok := parse_ok (List.isPrefixOf [45] (List.replicate m (UInt8.ofNat (48 + j)))) (by omega) hdp
      rw [T.run_ite_f (decide_eq_false (by omega)), T.run_true, T.run_bind_of hr]
      dsimp only
      rw [T.run_ite_t (by rfl), T.run_bind_of (law3_one_refl _ (ok_up hok (by omega))), T.run_ite_true, T.run_bind_of known_run, T.run_ret]
theorem law3_DecLong_law (x : denL [i64, i64]) (hw : wfL [i64, i64] x) (hb : bkL [i64, i64] x ≤ 1048576) : (law3_DecLong (toPs [i64, i64] x).1 (toPs [i64, i64] x).2).run = some true := by
  obtain ⟨n, k, u⟩ := x
  exact law3_DecLong_all n k
end Go.AM.Lf
