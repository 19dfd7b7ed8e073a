/-
  Plain laws of the lifted program, part 1.
-/
import Derived.Test.YtehllfdnkcoehaaGreatLf0
import Derived.Test.YtehllfdnkcoehaaGreatAmA
import Derived.Test.YtehllfdnkcoehaaGreatAmD
import Derived.Test.YtehllfdnkcoehaaGreatQ0
set_option linter.unusedVariables false
namespace Go.AM.T
theorem run_same {α β : Type} (a : β) (t : T α) : (obl (a = a) t).run = t.run := run_obl rfl t
end Go.AM.T
namespace Go.AM.Lf
open PL
theorem bytesOf_len (s : Str) : (bytesOf s).length = s.length := by unfold bytesOf; simp
theorem bytesOf_app (s t : Str) : bytesOf (s ++ t) = bytesOf s ++ bytesOf t := by unfold bytesOf; simp
theorem bytesStr_of (s : Str) : bytesStr (bytesOf s) = s := by
  unfold bytesStr bytesOf
  rw [List.map_map]
  conv => rhs; rw [← List.map_id s]
  refine List.map_congr_left fun b _ => ?_
  simp [byteOf]
theorem bytesOf_range (s : Str) : ∀ n ∈ bytesOf s, (0 : Int) ≤ n ∧ n < 256 := by
  intro n hn
  unfold bytesOf at hn
  obtain ⟨b, _, rfl⟩ := List.mem_map.1 hn
  have := b.toNat_lt
  omega
theorem writeString_run (s b : Str) (h : b.length + s.length ≤ 140737488355328) : (strings_Builder_WriteString_S s () (bytesOf b)).run = some ((s.length : Int), (), bytesOf (b ++ s)) := by
  unfold strings_Builder_WriteString_S bld_copyCheck
  simp only [T.bind]
  rw [T.run_cur _ rfl rfl rfl, T.run_true, T.run_app _ rfl rfl rfl (by simp only [bytesOf_len]; omega), T.run_cur _ (by simp) rfl (by simp), T.run_obl (by simp), T.run_ret, bytesOf_app]
theorem bldString_run (b : Str) (h : b.length ≤ 140737488355328) : (bld_String () (bytesOf b)).run = some (b, ()) := by
  unfold bld_String strT
  rw [T.run_obl ⟨bytesOf_range b, by rw [bytesOf_len]; exact h⟩, T.run_ret, bytesStr_of]
def itemS (x : Param) : Str := x.1 ++ [32] ++ printS (norm x.2.1) ++ [10]
def itemOk (x : Param) : Prop := x.1.length ≤ 100000 ∧ ratOk 1000 x.2.1
theorem itemS_len {x : Param} (h : itemOk x) : (itemS x).length ≤ 140003 := by
  have := printS_len _ h.2
  have := h.1
  unfold itemS
  simp only [List.length_append, List.length_cons, List.length_nil]
  omega
theorem encode_run (l : List Param) (h : ∀ x ∈ l, itemOk x) (hl : l.length ≤ 1000000) : (record_Encode l).run = some (l.flatMap itemS) := by
  have key := T.loop_fold (r := record_Encode_R0 l (l.length : Int)) l (dflt tyParam) (fun (b : Str) i => (i, (), bytesOf b)) (fun k b => b.length ≤ k * 140003) (fun b x => b ++ itemS x) (fun b => ((), bytesOf b)) (fun k b x hk hx hm hI => ?_) (fun b hI => ?_) (b := []) (by simp)
  · obtain ⟨k1, k2⟩ := key
    rw [foldl_cat, List.nil_append] at k1 k2
    have k1 : (record_Encode_L0 l (l.length : Int) ((0 : Int), ((), ([] : List Int)))).run = some ((), bytesOf (l.flatMap itemS)) := k1
    unfold record_Encode
    rw [T.run_cur _ rfl rfl rfl, T.run_same, T.run_bind_of k1]
    dsimp only
    rw [T.run_cur _ rfl rfl rfl, T.run_same, T.run_bind_of (bldString_run _ (by omega))]
    rfl
  · have h1 := printS_len _ (h x hm).2
    have h2 := itemS_len (h x hm)
    have h3 := (h x hm).1
    have h4 := mul_mono (c := 140003) (show k + 1 ≤ l.length from hk)
    rw [Nat.add_mul, Nat.one_mul] at h4
    have hd : (dec_Print (x.2.1.1, (x.2.1.2.1, (x.2.1.2.2.1, ())))).run = some (printS (norm x.2.1)) := dec_Print_run x.2.1 (h x hm).2
    have hw := writeString_run (itemS x) b (by omega)
    refine ⟨?_, by rw [List.length_append, Nat.add_mul, Nat.one_mul]; omega⟩
    unfold record_Encode_R0
    dsimp only
    rw [T.run_ite_t (lt_t hk), T.run_obl (idx_ok hk), hx, T.run_leN _ (by simp; omega), T.run_bind_of hd, T.run_leN _ (by simp [cat_eq]; omega), T.run_leN _ (by simp [cat_eq]; omega), T.run_cur _ rfl rfl rfl, T.run_same]
    have e : cat (cat (cat x.1 [32]) (printS (norm x.2.1))) [10] = itemS x := rfl
    rw [e, T.run_bind_of hw]
    dsimp only
    rw [T.run_cur _ rfl rfl rfl, T.run_same, T.run_ret, ix1 k _ hk (by omega)]
  · unfold record_Encode_R0
    dsimp only
    rw [T.run_ite_f (lt_f _), T.run_cur _ rfl rfl rfl, T.run_same, T.run_ret]
theorem known21_run : (law21_known).run = some true := by
  have l3 : limbs [(3 : Int)] := by intro x hx; simp at hx; omega
  have h1 := encode_run [(([97] : Str), ((false, (([(1 : Int)] : List Int), (([(3 : Int)] : List Int), ()))), ()))] (fun x hx => by
    rw [List.mem_singleton] at hx; subst hx; exact ⟨by simp, one_limb, l3, by simp, by simp⟩) (by simp)
  have n1 : norm (false, [1], [3], ()) = (false, ofN 1, ofN 3, ()) := by
    show ratN false (nv [1]) (nv [3]) = _
    rw [show nv [1] = 1 from rfl, show nv [3] = 3 from rfl]; rfl
  have e : ([(([97] : Str), ((false, (([(1 : Int)] : List Int), (([(3 : Int)] : List Int), ()))), ()))] : List Param).flatMap itemS = [97, 32, 49, 47, 51, 10] := by
    simp only [List.flatMap_cons, List.flatMap_nil, List.append_nil]
    unfold itemS
    dsimp only
    rw [n1]
    unfold printS
    simp only [nv_ofN]
    rw [if_neg (by omega)]
    unfold pr
    rw [if_neg (by omega), if_neg (by omega), dgz_small 1 (by omega) (by omega), dgz_small 3 (by omega) (by omega)]; rfl
  rw [e] at h1
  unfold law21_known
  rw [T.run_bind_of h1, T.run_ret, strEq_refl]
theorem many21_run (l : List Rat) (hl : l.length ≤ 4000000000000) : ∃ b, (law21_many l).run = some b ∧ (b = false → ∀ x ∈ l, x.2.1.length ≤ 3 ∧ x.2.2.1.length ≤ 3) := by
  have := T.loop_post (r := law21_many_R0 l) (fun s : Int × Int => ∃ k : Nat, s.2 = (k : Int) ∧ k ≤ l.length ∧ ∀ x ∈ l.take k, x.2.1.length ≤ 3 ∧ x.2.2.1.length ≤ 3) (fun s => l.length - s.2.toNat)
    (fun z : Unit ⊕ Bool => z = .inr true ∨ (z = .inl () ∧ ∀ x ∈ l, x.2.1.length ≤ 3 ∧ x.2.2.1.length ≤ 3)) (fun s hs => ?_) (s := (0, 0)) ⟨0, rfl, by omega, by simp⟩
  · obtain ⟨z, h1, h2⟩ := this
    have h1 : (law21_many_L0 l (0, 0)).run = some z := h1
    unfold law21_many
    rw [T.run_bind_of h1]
    rcases h2 with rfl | ⟨rfl, h2⟩
    · exact ⟨true, rfl, fun h => by cases h⟩
    · exact ⟨false, rfl, fun _ => h2⟩
  · obtain ⟨n, i⟩ := s
    obtain ⟨k, rfl, hk, hI⟩ := hs
    by_cases c : k < l.length
    · unfold law21_many_R0
      simp only
      rw [T.run_ite_t (lt_t c), T.run_obl (idx_ok c), T.run_obl (idx_ok c), T.run_obl (fun _ => ⟨idx_ok c, fun _ => idx_ok c⟩)]
      have hx : nth l (k : Int) (dflt tyRat) = l[k] := by simp [nth, c]
      rw [hx]
      generalize decide ((100 : Int) < w64 (w64 (w64 (n + 1) + ((l[k]).2.1.length : Int)) + ((l[k]).2.2.1.length : Int))) = b
      cases hb : (b || (decide ((3 : Int) < ((l[k]).2.1.length : Int)) || decide ((3 : Int) < ((l[k]).2.2.1.length : Int)))) with
      | true => right; exact ⟨_, rfl, .inl rfl⟩
      | false =>
        simp only [Bool.or_eq_false_iff, decide_eq_false_iff_not] at hb
        left
        refine ⟨_, rfl, ⟨k + 1, ix1 k _ c hl, c, fun x hx => ?_⟩, ?_⟩
        · rw [List.take_succ_eq_append_getElem c] at hx
          rcases List.mem_append.1 hx with hx | hx
          · exact hI x hx
          · have : x = l[k] := by simpa using hx
            subst this; omega
        · simp only [ix1 k _ c hl]; omega
    · have hkl : k = l.length := by omega
      right
      refine ⟨.inl (), ?_, .inr ⟨rfl, ?_⟩⟩
      · unfold law21_many_R0
        simp only
        rw [T.run_ite_f (decide_eq_false (by omega)), T.run_ret]
      · rw [hkl, List.take_length] at hI; exact hI
theorem clone_rat_run (a : List Rat) (hl : a.length ≤ 1000000000000) : (slices_Clone_sl_Rat a).run = some a := by
  unfold slices_Clone_sl_Rat
  rw [T.run_obl]
  · cases a with
    | nil => simp
    | cons x a => simp only [List.length_cons] at hl; simp (disch := omega)
  · rintro rfl r hr; simpa [T.leads] using hr
theorem fieldsN_run (f : Form) (hl : f.2.2.2.1.length ≤ 1000000000) : (elab_Fields f).run = some (f.2.2.2.1.map (·.1)) := by
  have key := T.loop_fold (r := elab_Fields_R0 f.2.2.2.1 (f.2.2.2.1.length : Int)) f.2.2.2.1 (dflt tyField) (fun (b : List Str) i => (i, b)) (fun k b => b.length = k) (fun b x => b ++ [x.1]) id (fun k b x hk hx hm hI => ?_) (fun b hI => ?_) (b := []) rfl
  · obtain ⟨k1, k2⟩ := key
    rw [foldl_snoc, List.nil_append] at k1 k2
    have k1 : (elab_Fields_L0 f.2.2.2.1 (f.2.2.2.1.length : Int) ((0 : Int), ([] : List Str))).run = some (f.2.2.2.1.map (·.1)) := k1
    unfold elab_Fields
    rw [T.run_cur _ rfl rfl rfl, T.run_same, T.run_bind_of k1, T.run_same, T.run_ret, Nat.zero_add, List.take_length, List.drop_zero]
  · refine ⟨?_, by simp; omega⟩
    unfold elab_Fields_R0
    dsimp only
    rw [T.run_ite_t (lt_t hk), T.run_obl (idx_ok hk), hx, T.run_app _ rfl rfl rfl (by omega), T.run_cur _ (by simp) rfl (by simp), T.run_obl (by simp), T.run_ret, ix1 k _ hk (by omega)]
  · unfold elab_Fields_R0
    dsimp only
    rw [T.run_ite_f (lt_f _), T.run_cur _ rfl rfl rfl, T.run_same, T.run_ret]; rfl
theorem env_run (f : Form) (ps : List Rat) (hl : f.2.2.2.1.length ≤ 1000000000) (hp : f.2.1.length ≤ 1000000000) (hps : ps.length ≤ 1000000000) :
    (elab_Env f ps).run = some (f.2.2.2.1.map (·.1), f.2.1.map (·.1), ps, ()) := by
  have key := T.loop_fold (r := elab_Env_R0 f.2.1 (f.2.1.length : Int)) f.2.1 (dflt tyParam) (fun (b : List Str) i => (i, (([] : List Rat), ()), (f.2.2.2.1.map (·.1), ps, ()), [], [], b)) (fun k b => b.length = k) (fun b x => b ++ [x.1])
    (fun b => ((([] : List Rat), ()), (f.2.2.2.1.map (·.1), ps, ()), [], [], b)) (fun k b x hk hx hm hI => ?_) (fun b hI => ?_) (b := []) rfl
  · obtain ⟨k1, k2⟩ := key
    rw [foldl_snoc, List.nil_append] at k1 k2
    have k1 : (elab_Env_L0 f.2.1 (f.2.1.length : Int) ((0 : Int), ((([] : List Rat), ()), ((f.2.2.2.1.map (·.1), (ps, ())), (([] : List Str), (([] : List Str), ([] : List Str))))))).run = some ((([] : List Rat), ()), (f.2.2.2.1.map (·.1), ps, ()), [], [], f.2.1.map (·.1)) := k1
    unfold elab_Env
    rw [T.run_bind_of (fieldsN_run f hl), T.run_bind_of (clone_rat_run ps (by omega)), T.run_cur _ rfl rfl rfl, T.run_cur _ rfl rfl rfl, T.run_cur _ rfl rfl rfl, T.run_same, T.run_same, T.run_same, T.run_bind_of k1, T.run_same, T.run_ret, Nat.zero_add, List.take_length, List.drop_zero]
  · refine ⟨?_, by simp; omega⟩
    unfold elab_Env_R0
    dsimp only
    rw [T.run_ite_t (lt_t hk), T.run_obl (idx_ok hk), hx, T.run_app _ rfl rfl rfl (by omega), T.run_cur _ rfl rfl rfl, T.run_cur _ rfl rfl rfl, T.run_cur _ (by simp) rfl (by simp), T.run_same, T.run_same, T.run_obl (by simp), T.run_ret, ix1 k _ hk (by omega)]
  · unfold elab_Env_R0
    dsimp only
    rw [T.run_ite_f (lt_f _), T.run_cur _ rfl rfl rfl, T.run_cur _ rfl rfl rfl, T.run_cur _ rfl rfl rfl, T.run_same, T.run_same, T.run_same, T.run_ret]
end Go.AM.Lf
namespace Go.AM.Lf
open PL
theorem foldl_catL {α β : Type} (f : α → List β) (l : List α) (s : List β) : l.foldl (fun s x => s ++ f x) s = s ++ l.flatMap f := by
  induction l generalizing s with
  | nil => simp
  | cons x r ih => rw [List.foldl_cons, ih, List.flatMap_cons, List.append_assoc]
theorem flat_filter {α β : Type} (p : α → Bool) (f : α → β) (l : List α) : (l.flatMap fun x => if p x = true then [f x] else []) = (l.filter p).map f := by
  induction l with
  | nil => rfl
  | cons x r ih =>
    rw [List.flatMap_cons, List.filter_cons, ih]
    by_cases h : p x = true
    · rw [if_pos h, if_pos h]; rfl
    · rw [if_neg h, if_neg h]; rfl
theorem miss1_run (f : Form) (d : doc_Doc) (i : Int) (x3 : List Bool) (x4 x5 : Int) (l : List Field) (v : aff_Env) (xs : List Str) (c : Bool) (hl : l.length ≤ 1000000000) (hx : xs.length ≤ 1000000000000)
    (hc : ∀ k < l.length, (decide ((d.2.2.2.2.2.1.length : Int) ≤ (k : Int)) || (!(nth d.2.2.2.2.2.1 (k : Int) (dflt .bool)))) = c) :
    (record_Missing_L1 f d i x3 x4 x5 l (l.length : Int) (0, v, xs)).run = some (v, xs ++ (l.filter fun x => x.2.1 == i && (x.2.2.1 && c)).map (·.1)) := by
  have key := T.loop_fold (r := record_Missing_R1 f d i x3 x4 x5 l (l.length : Int)) l (dflt tyField) (fun (b : List Str) i => (i, v, b)) (fun k b => b.length ≤ xs.length + k) (fun b x => b ++ if (x.2.1 == i && (x.2.2.1 && c)) = true then [x.1] else [])
    (fun b => (v, b)) (fun k b x hk hx hm hI => ?_) (fun b hI => ?_) (b := xs) (by simp)
  · rw [foldl_catL, flat_filter] at key
    exact key.1
  · have hci := hc k hk
    unfold record_Missing_R1
    dsimp only
    rw [T.run_ite_t (lt_t hk), T.run_obl (idx_ok hk), hx, T.run_obl (fun _ _ h => by have := of_decide_eq_false h; exact ⟨by omega, by omega⟩), hci]
    by_cases q : (x.2.1 == i && (x.2.2.1 && c)) = true
    · rw [if_pos q, T.run_ite_t q, T.run_app _ rfl rfl rfl (by omega), T.run_cur _ (by simp) rfl (by simp), T.run_obl (by simp), T.run_ret, ix1 k _ hk (by omega)]
      exact ⟨rfl, by simp; omega⟩
    · rw [if_neg q, T.run_ite_f (by simpa using q), T.run_cur _ rfl rfl rfl, T.run_same, T.run_ret, ix1 k _ hk (by omega), List.append_nil]
      exact ⟨rfl, by omega⟩
  · unfold record_Missing_R1
    dsimp only
    rw [T.run_ite_f (lt_f _), T.run_cur _ rfl rfl rfl, T.run_same, T.run_ret]
theorem miss2_run (f : Form) (d : doc_Doc) (i : Int) (x3 : List Bool) (x4 x5 : Int) (l : List Check) (v : aff_Env) (xs : List Str) (p : Check → Bool) (hl : l.length ≤ 1000000000) (hx : xs.length ≤ 1000000000000)
    (hp : ∀ c ∈ l, (record_fails c v d.2.2.1).run = some (p c)) :
    (record_Missing_L2 f d i x3 x4 x5 l (l.length : Int) (0, v, xs)).run = some (v, xs ++ (l.filter fun x => x.2.1 == i && p x).map (·.1)) := by
  have key := T.loop_fold (r := record_Missing_R2 f d i x3 x4 x5 l (l.length : Int)) l (dflt tyCheck) (fun (b : List Str) i => (i, v, b)) (fun k b => b.length ≤ xs.length + k) (fun b x => b ++ if (x.2.1 == i && p x) = true then [x.1] else [])
    (fun b => (v, b)) (fun k b x hk hx hm hI => ?_) (fun b hI => ?_) (b := xs) (by simp)
  · rw [foldl_catL, flat_filter] at key
    exact key.1
  · have hpx := hp x hm
    unfold record_Missing_R2
    dsimp only
    rw [T.run_ite_t (lt_t hk), T.run_obl (idx_ok hk), hx]
    have inner : (T.ite (x.2.1 == i) ((record_fails x v d.2.2.1).bind fun r2 => .obl (curOk (List.length b) (0 : Nat) (List.length b) (List.length b)) <| .obl ((List.length b) = (List.length b)) <| .ret (r2, (v, (b, x))))
        (.obl (curOk (List.length b) (0 : Nat) (List.length b) (List.length b)) <| .obl ((List.length b) = (List.length b)) <| .ret (false, (v, (b, x)))) : T (Bool × aff_Env × List Str × Check)).run = some (x.2.1 == i && p x, v, b, x) := by
      cases q : (x.2.1 == i) with
      | true => rw [T.run_ite_true, T.run_bind_of hpx, T.run_cur _ rfl rfl rfl, T.run_same, T.run_ret, Bool.true_and]
      | false => rw [T.run_ite_false, T.run_cur _ rfl rfl rfl, T.run_same, T.run_ret, Bool.false_and]
    rw [T.run_bind_of inner]
    dsimp only
    by_cases q : (x.2.1 == i && p x) = true
    · rw [if_pos q, T.run_ite_t q, T.run_app _ rfl rfl rfl (by omega), T.run_cur _ (by simp) rfl (by simp), T.run_obl (by simp), T.run_ret, ix1 k _ hk (by omega)]
      exact ⟨rfl, by simp; omega⟩
    · rw [if_neg q, T.run_ite_f (by simpa using q), T.run_cur _ rfl rfl rfl, T.run_same, T.run_ret, ix1 k _ hk (by omega), List.append_nil]
      exact ⟨rfl, by omega⟩
  · unfold record_Missing_R2
    dsimp only
    rw [T.run_ite_f (lt_f _), T.run_cur _ rfl rfl rfl, T.run_same, T.run_ret]
def missP (f : Form) (c : Bool) (p : Check → Bool) (i : Int) : List Str := (f.2.2.2.1.filter fun x => x.2.1 == i && (x.2.2.1 && c)).map (·.1) ++ (f.2.2.2.2.2.1.filter fun x => x.2.1 == i && p x).map (·.1)
theorem missP_len (f : Form) (c : Bool) (p : Check → Bool) (i : Int) : (missP f c p i).length ≤ f.2.2.2.1.length + f.2.2.2.2.2.1.length := by
  unfold missP
  rw [List.length_append, List.length_map, List.length_map]
  exact Nat.add_le_add (List.length_filter_le _ _) (List.length_filter_le _ _)
theorem missing_run (f : Form) (d : doc_Doc) (c : Bool) (p : Check → Bool) (h1 : f.1.length ≤ 100000) (h2 : f.2.1.length ≤ 100000) (h3 : f.2.2.1.length ≤ 100000) (h4 : f.2.2.2.1.length ≤ 100000) (h5 : f.2.2.2.2.2.1.length ≤ 100000) (h6 : d.1.length ≤ 100000)
    (hc : ∀ k < f.2.2.2.1.length, (decide ((d.2.2.2.2.2.1.length : Int) ≤ (k : Int)) || (!(nth d.2.2.2.2.2.1 (k : Int) (dflt .bool)))) = c)
    (hp : ∀ x ∈ f.2.2.2.2.2.1, (record_fails x (f.2.2.2.1.map (·.1), f.2.1.map (·.1), d.1, ()) d.2.2.1).run = some (p x)) :
    (record_Missing f d).run = some ((f.2.2.1.map (relP f.1 d.2.1)).zipIdx.flatMap fun x => if x.1 = true then missP f c p (x.2 : Int) else []) := by
  have hv := env_run f d.1 (by omega) (by omega) (by omega)
  have hr := relevant_run f d.2.1 (by omega) (by omega)
  have hrl : (f.2.2.1.map (relP f.1 d.2.1)).length ≤ 100000 := by rw [List.length_map]; exact h3
  generalize hV : ((f.2.2.2.1.map (·.1), f.2.1.map (·.1), d.1, ()) : aff_Env) = v at *
  generalize f.2.2.1.map (relP f.1 d.2.1) = rel at *
  unfold record_Missing
  rw [T.run_bind_of hv, T.run_bind_of hr, T.run_cur _ rfl rfl rfl, T.run_same]
  have key := T.loop_fold (r := record_Missing_R0 f d rel (rel.length : Int)) rel.zipIdx (false, 0) (fun (b : List Str) i => (i, v, b)) (fun k b => b.length ≤ k * 200000) (fun b x => b ++ if x.1 = true then missP f c p (x.2 : Int) else [])
    (fun b => (v, b)) (fun k b x hk hx hm hI => ?_) (fun b hI => ?_) (b := []) (by simp)
  · rw [foldl_catL, List.nil_append] at key
    have k1 : (record_Missing_L0 f d rel (rel.length : Int) ((0 : Int), (v, ([] : List Str)))).run = some (v, rel.zipIdx.flatMap fun x => if x.1 = true then missP f c p (x.2 : Int) else []) := key.1
    rw [T.run_bind_of k1]
    dsimp only
    rw [T.run_same, T.run_ret, Nat.zero_add, List.take_length, List.drop_zero]
  · rw [List.length_zipIdx] at hk
    have hx1 : x = (rel[k], k) := by
      rw [← hx]
      unfold nth
      rw [Int.toNat_natCast, List.getD_eq_getElem?_getD, List.getElem?_zipIdx, List.getElem?_eq_getElem hk]
      simp
    have hn : nth rel (k : Int) (dflt .bool) = rel[k] := by simp [nth, hk]
    have hkk : k * 200000 ≤ 100000 * 200000 := mul_mono (by omega)
    subst hx1
    unfold record_Missing_R0
    dsimp only
    rw [T.run_ite_t (lt_t hk), T.run_obl (idx_ok hk), hn]
    cases q : rel[k] with
    | false =>
      rw [T.run_ite_t (by rfl), T.run_cur _ rfl rfl rfl, T.run_same, T.run_ret, ix1 k _ hk (by omega), if_neg (by simp), List.append_nil]
      exact ⟨rfl, Nat.le_trans hI (Nat.mul_le_mul_right _ (Nat.le_succ k))⟩
    | true =>
      have m1 := miss1_run f d (k : Int) rel (rel.length : Int) (k : Int) f.2.2.2.1 v b c (by omega) (by omega) hc
      have hb1 : (b ++ (f.2.2.2.1.filter fun x => x.2.1 == (k : Int) && (x.2.2.1 && c)).map (·.1)).length ≤ k * 200000 + 100000 := by
        rw [List.length_append, List.length_map]
        exact Nat.add_le_add hI (Nat.le_trans (List.length_filter_le _ _) h4)
      have m2 := miss2_run f d (k : Int) rel (rel.length : Int) (k : Int) f.2.2.2.2.2.1 v _ p (by omega) (by omega : (b ++ (f.2.2.2.1.filter fun x => x.2.1 == (k : Int) && (x.2.2.1 && c)).map (·.1)).length ≤ 1000000000000) hp
      have hlen := missP_len f c p (k : Int)
      rw [T.run_ite_f (by rfl), T.run_cur _ rfl rfl rfl, T.run_same, T.run_bind_of m1]
      dsimp only
      rw [T.run_cur _ rfl rfl rfl, T.run_same, T.run_bind_of m2]
      dsimp only
      rw [T.run_cur _ rfl rfl rfl, T.run_same, T.run_ret, ix1 k _ hk (by omega), if_pos rfl, List.append_assoc]
      exact ⟨rfl, by rw [List.length_append]; omega⟩
  · rw [List.length_zipIdx] at hI ⊢
    unfold record_Missing_R0
    dsimp only
    rw [T.run_ite_f (lt_f _), T.run_cur _ rfl rfl rfl, T.run_same, T.run_ret]
end Go.AM.Lf
namespace Go.AM.Lf
open PL
def isL (b : UInt8) : Bool := decide (97 ≤ (b.toNat : Int)) && decide ((b.toNat : Int) ≤ 122)
def isIn (b : UInt8) : Bool := isL b || ((decide (48 ≤ (b.toNat : Int)) && decide ((b.toNat : Int) ≤ 57)) || ((b.toNat : Int) == 95))
def nameOk (s : Str) : Bool := match s with | [] => false | b :: _ => decide (s.length ≤ 24) && (isL b && s.all isIn)
theorem isInner_run (b : UInt8) : (expr_isInner (b.toNat : Int)).run = some (isIn b) := by
  have h1 : (expr_isLetter (b.toNat : Int)).run = some (isL b) := rfl
  have h2 : (expr_isDigit (b.toNat : Int)).run = some (decide (48 ≤ (b.toNat : Int)) && decide ((b.toNat : Int) ≤ 57)) := rfl
  unfold expr_isInner isIn
  rw [T.run_bind_of h1]
  cases isL b with
  | true => rw [T.run_ite_true, T.run_ret]; rfl
  | false =>
    rw [T.run_ite_false, T.run_bind_of h2]
    cases (decide (48 ≤ (b.toNat : Int)) && decide ((b.toNat : Int) ≤ 57)) with
    | true => rw [T.run_ite_true, T.run_ret]; rfl
    | false => rw [T.run_ite_false, T.run_ret]; rfl
theorem Name_run (s : Str) : (expr_Name s).run = some (nameOk s) := by
  unfold expr_Name
  cases s with
  | nil => rfl
  | cons b r =>
    have e0 : strEq (b :: r) [] = false := by rw [strEq_iff]; simp
    rw [e0]
    by_cases c : 24 < (b :: r).length
    · have : (T.ite false (.ret true) (.ite (decide ((24 : Int) < ((b :: r).length : Int))) (.ret true) (.obl (idxOk (0 : Int) (List.length (b :: r))) <| T.bind (expr_isLetter (byteAt (b :: r) (0 : Int))) fun r => .ret (!r))) : T Bool).run = some true := by
        rw [T.run_ite_false, T.run_ite_t (decide_eq_true (by omega)), T.run_ret]
      rw [T.run_bind_of this, T.run_ite_true, T.run_ret]
      unfold nameOk
      rw [decide_eq_false (by omega)]; rfl
    · have hb : byteAt (b :: r) (0 : Int) = (b.toNat : Int) := byteAt_get (s := b :: r) (k := 0) (by simp)
      have h1 : (expr_isLetter (b.toNat : Int)).run = some (isL b) := rfl
      have : (T.ite false (.ret true) (.ite (decide ((24 : Int) < ((b :: r).length : Int))) (.ret true) (.obl (idxOk (0 : Int) (List.length (b :: r))) <| T.bind (expr_isLetter (byteAt (b :: r) (0 : Int))) fun r => .ret (!r))) : T Bool).run = some (!isL b) := by
        rw [T.run_ite_false, T.run_ite_f (decide_eq_false (by omega)), T.run_obl (by refine ⟨by omega, ?_⟩; simp only [List.length_cons]; omega), hb, T.run_bind_of h1, T.run_ret]
      rw [T.run_bind_of this]
      unfold nameOk
      dsimp only
      rw [decide_eq_true (by omega), Bool.true_and]
      cases isL b with
      | false => rw [T.run_ite_t (by rfl), T.run_ret]; rfl
      | true =>
        rw [T.run_ite_f (by rfl), Bool.true_and]
        have key : (expr_Name_L0 (b :: r) ((b :: r).length : Int) 0).run = some (if (b :: r).all isIn = true then .inl () else .inr false) := by
          refine T.loop_scan (r := expr_Name_R0 (b :: r) ((b :: r).length : Int)) (b :: r) (0 : UInt8) (fun (_ : Unit) i => i) (fun _ _ => True) (fun l _ => (if l.all isIn = true then .inl () else .inr false : Unit ⊕ Bool)) (fun k _ x xs hk hx hm hd hI => ?_) (fun _ _ => ?_) (b := ()) trivial
          · have hxk : (b :: r)[k] = x := by rw [← hx]; unfold nth; rw [Int.toNat_natCast, List.getD_eq_getElem?_getD, List.getElem?_eq_getElem hk]; rfl
            have hbk : byteAt (b :: r) (k : Int) = (x.toNat : Int) := by rw [byteAt_get hk, hxk]
            cases hin : isIn x with
            | true =>
              left
              refine ⟨(), ?_, trivial, ?_⟩
              · unfold expr_Name_R0
                rw [T.run_ite_t (lt_t hk), T.run_obl (idx_ok hk), hbk, T.run_bind_of (isInner_run x), hin, T.run_ite_f (by rfl), T.run_ret, ix1 k _ hk (by omega)]
              · rw [List.all_cons, hin, Bool.true_and]
            | false =>
              right
              unfold expr_Name_R0
              rw [T.run_ite_t (lt_t hk), T.run_obl (idx_ok hk), hbk, T.run_bind_of (isInner_run x), hin, T.run_ite_t (by rfl), T.run_ret, List.all_cons, hin]
              rfl
          · unfold expr_Name_R0
            rw [T.run_ite_f (lt_f _), T.run_ret]; rfl
        rw [T.run_bind_of key]
        cases h : (b :: r).all isIn with
        | true => rfl
        | false => rfl
theorem index_str_run (l : List Str) (v : Str) (hl : l.length ≤ 1000000000) : (slices_Index_sl_string l v).run = some (PL.ixF (fun s => strEq v s) 0 l) := by
  have key : (slices_Index_sl_string_L0 l v (l.length : Int) 0).run = some (if PL.ixF (fun s => strEq v s) 0 l = -1 then .inl () else .inr (PL.ixF (fun s => strEq v s) 0 l)) := by
    refine PL.ix_loop (r := slices_Index_sl_string_R0 l v (l.length : Int)) l (dflt .str) _ (fun i h0 h hp => ?_) (fun i h0 h hp => ?_) (fun i h => ?_)
    · unfold slices_Index_sl_string_R0
      rw [T.run_ite_t (decide_eq_true h), T.run_obl ⟨h0, h⟩, T.run_ite_t hp, T.run_ret]
    · unfold slices_Index_sl_string_R0
      rw [T.run_ite_t (decide_eq_true h), T.run_obl ⟨h0, h⟩, T.run_ite_f hp, T.run_ret, w64_in (by omega) (by omega)]
    · unfold slices_Index_sl_string_R0
      rw [T.run_ite_f (decide_eq_false h), T.run_ret]
  unfold slices_Index_sl_string
  rw [T.run_bind_of key]
  split <;> rename_i h
  · rw [h]; rfl
  · rfl
def nameE (s : Str) : AM.Expr := Expr.mk (2 : Int) (false, (([] : List Int), (([] : List Int), ()))) s []
theorem is_name (s : Str) (h : nameOk s = true) : (expr_Is (nameE s)).run = some true := by
  have hnode : (expr_isNode (nameE s)).run = some true := by
    unfold expr_isNode
    have h1 : (expr_kids (Expr.kind (nameE s))).run = some 0 := rfl
    have h2 : (expr_isNone (Expr.num (nameE s))).run = some true := rfl
    have h3 : (expr_Name (Expr.name (nameE s))).run = some true := by rw [show Expr.name (nameE s) = s from rfl, Name_run, h]
    rw [T.run_bind_of h1, T.run_ite_f (by rfl), T.run_ite_f (by rfl), T.run_ite_t (by rfl), T.run_bind_of h2, T.run_ite_true, T.run_bind_of h3, T.run_ret]
  have hmay : (expr_may_S (nameE s) 0 256).run = some (true, 255) := by
    unfold expr_may_S
    refine T.fix_run (fun x : AM.Expr × Int × Int => x = (nameE s, 0, 256)) (fun _ => 0) (fun _ => (true, 255)) (fun x hx g hg => ?_) (x := (nameE s, 0, 256)) rfl
    subst hx
    unfold expr_may_S_B
    dsimp only
    have e1 : w64 ((256 : Int) - 1) = 255 := rfl
    rw [e1]
    have inner : (T.ite (decide ((255 : Int) < (0 : Int))) (.ret (true, 255)) (.ite (decide ((32 : Int) ≤ 0)) (.ret (true, 255)) (T.bind (expr_isNode (nameE s)) fun r => .ret ((!r), 255))) : T (Bool × Int)).run = some (false, 255) := by
      rw [T.run_ite_f (by rfl), T.run_ite_f (by rfl), T.run_bind_of hnode, T.run_ret]; rfl
    rw [T.run_bind_of inner]
    dsimp only
    rw [T.run_ite_false]
    have hk : (slices_ContainsFunc_sl_Expr_expr_may_f1_S (fun y0 y1 y2 => g (y0, y1, y2)) (Expr.kids (nameE s)) ((0 : Int), ()) 255).run = some (false, 255) := by
      have hl : (slices_IndexFunc_sl_Expr_expr_may_f1_S_L0 (fun y0 y1 y2 => g (y0, y1, y2)) [] (([] : List AM.Expr).length : Int) (((0 : Int), ()), ((0 : Int), (255 : Int)))).run = some (.inl 255) := T.loop_done rfl
      have hi : (slices_IndexFunc_sl_Expr_expr_may_f1_S (fun y0 y1 y2 => g (y0, y1, y2)) [] ((0 : Int), ()) 255).run = some (-1, 255) := by
        unfold slices_IndexFunc_sl_Expr_expr_may_f1_S
        rw [T.run_bind_of hl]; rfl
      unfold slices_ContainsFunc_sl_Expr_expr_may_f1_S
      rw [show Expr.kids (nameE s) = [] from rfl, T.run_bind_of hi]; rfl
    rw [T.run_bind_of hk]; rfl
  unfold expr_Is
  rw [T.run_bind_of hmay]; rfl
theorem aff_value_run (l : List Rat) (k : Nat) (h : k < l.length) (hr : ratOk 100000000 l[k]) : (aff_value l (k : Int)).run = some (norm l[k]) := by
  unfold aff_value
  have e : (decide ((k : Int) < 0) || decide ((l.length : Int) ≤ (k : Int))) = false := by
    rw [decide_eq_false (by omega), decide_eq_false (by omega)]; rfl
  rw [T.run_ite_f e, T.run_obl (idx_ok h), show nth l (k : Int) (dflt tyRat) = l[k] by simp [nth, h], T.run_bind_of (rat_norm _ hr), T.run_ret]
theorem value_name (s : Str) (a b : Rat) (k : Nat) (hk : k < 2) (hn : nameOk s = true) (hi : PL.ixF (fun x => strEq s x) 0 ([[120], [121]] : List Str) = (k : Int)) (ha : ratOk 100000000 a) (hb : ratOk 100000000 b) :
    (aff_Value (nameE s) (([] : List Str), (([[120], [121]] : List Str), ([a, b], ()))) []).run = some (norm ([a, b][k]'(by simpa using hk)), 0) := by
  have hr : ratOk 100000000 ([a, b][k]'(by simpa using hk)) := by
    match k, hk with
    | 0, _ => exact ha
    | 1, _ => exact hb
  have told : (aff_told s (([] : List Str), (([[120], [121]] : List Str), ([a, b], ()))) []).run = some (norm ([a, b][k]'(by simpa using hk)), 0) := by
    unfold aff_told
    dsimp only
    have i1 := index_str_run [] s (by simp)
    have i2 := index_str_run [[120], [121]] s (by simp)
    rw [hi] at i2
    rw [T.run_bind_of i1, T.run_ite_f (by rfl), T.run_bind_of i2, T.run_ite_f (decide_eq_false (by omega)), T.run_bind_of (aff_value_run [a, b] k (by simpa using hk) hr), T.run_ret]
  have hnum : (aff_number (nameE s) (([] : List Str), (([[120], [121]] : List Str), ([a, b], ()))) []).run = some (norm ([a, b][k]'(by simpa using hk)), 0) := by
    unfold aff_number
    refine T.fix_run (fun x : AM.Expr × aff_Env × List Rat => x = (nameE s, (([] : List Str), (([[120], [121]] : List Str), ([a, b], ()))), [])) (fun _ => 0) (fun _ => (norm ([a, b][k]'(by simpa using hk)), 0)) (fun x hx g hg => ?_) rfl
    subst hx
    unfold aff_number_B
    dsimp only
    rw [T.run_ite_f (by rfl), T.run_ite_t (by rfl), show Expr.name (nameE s) = s from rfl, T.run_bind_of told, T.run_ret]
  unfold aff_Value
  rw [T.run_bind_of (is_name s hn), T.run_ite_f (by rfl), T.run_bind_of hnum, T.run_ret]
theorem texts21_refl (a : List Str) (hl : a.length ≤ 1000000000) : (law21_texts a a).run = some true := by
  have key : (law21_texts_L0 a a 0).run = some (.inl ()) := by
    refine T.loop_scan (r := law21_texts_R0 a a) a (dflt .str) (fun (_ : Unit) i => i) (fun _ _ => True) (fun _ _ => (.inl () : Unit ⊕ Bool)) (fun k _ x xs hk hx hm hd hI => ?_) (fun _ _ => ?_) (b := ()) trivial
    · left
      refine ⟨(), ?_, trivial, rfl⟩
      unfold law21_texts_R0
      rw [T.run_ite_t (lt_t hk), T.run_obl (idx_ok hk), T.run_obl (idx_ok hk), strEq_refl, T.run_ite_f (by rfl), T.run_ret, ix1 k _ hk (by omega)]
    · unfold law21_texts_R0
      rw [T.run_ite_f (lt_f _), T.run_ret]
  unfold law21_texts
  rw [T.run_ite_f (by simp), T.run_bind_of key]; rfl
theorem law21_RecordChecks_all (a b : Rat) (cmp : Int) (ha : limbs a.2.1 ∧ limbs a.2.2.1) (hb : limbs b.2.1 ∧ limbs b.2.2.1) : (law21_RecordChecks a b cmp).run = some true := by
  unfold law21_RecordChecks
  obtain ⟨r, hr, hm⟩ := many21_run [a, b] (by simp)
  rw [T.run_bind_of hr]
  cases r with
  | true => rw [T.run_ite_true, T.run_ret]
  | false =>
    have hm := hm rfl
    obtain ⟨a1, a2⟩ := hm a (by simp)
    obtain ⟨b1, b2⟩ := hm b (by simp)
    have oa : ratOk 3 a := ⟨ha.1, ha.2, a1, a2⟩
    have ob : ratOk 3 b := ⟨hb.1, hb.2, b1, b2⟩
    rw [T.run_ite_false]
    by_cases c : cmp < 0 ∨ 2 < cmp
    · have e : (decide (cmp < (0 : Int)) || decide ((2 : Int) < cmp)) = true := by
        rcases c with c | c
        · rw [decide_eq_true c]; rfl
        · rw [decide_eq_true c, Bool.or_true]
      rw [T.run_ite_t e, T.run_bind_of known21_run, T.run_ret]
    · have e : (decide (cmp < (0 : Int)) || decide ((2 : Int) < cmp)) = false := by
        rw [decide_eq_false (by omega), decide_eq_false (by omega)]; rfl
      rw [T.run_ite_f e, T.run_bind_of (ref2_Cmp_run a b (ok_up oa (by omega)) (ok_up ob (by omega)))]
      have vx := value_name [120] a b 0 (by omega) (by decide) (by decide) (ok_up oa (by omega)) (ok_up ob (by omega))
      have vy := value_name [121] a b 1 (by omega) (by decide) (by decide) (ok_up oa (by omega)) (ok_up ob (by omega))
      have hcmp := rat_Cmp_run (norm a) (norm b) (norm_ok (by omega) (ok_up oa (by omega))) (norm_ok (by omega) (ok_up ob (by omega)))
      rw [norm_val, norm_val] at hcmp
      have hq : cmpQ (val a) (val b) = -1 ∨ cmpQ (val a) (val b) = 0 ∨ cmpQ (val a) (val b) = 1 := by
        unfold cmpQ
        split
        · exact .inl rfl
        · split
          · exact .inr (.inl rfl)
          · exact .inr (.inr rfl)
      generalize cmpQ (val a) (val b) = n at *
      obtain ⟨good, hgood⟩ : ∃ good, (bif (cmp == (1 : Int)) then (decide (n < (0 : Int))) else ((n == (0 : Int)) || ((cmp != (0 : Int)) && (decide (n < (0 : Int)))))) = good := ⟨_, rfl⟩
      have hfail : ∀ ck : Check, ck.2.2.1 = cmp → ck.2.2.2.1 = nameE [120] → ck.2.2.2.2.1 = nameE [121] → (record_fails ck (([] : List Str), (([[120], [121]] : List Str), ([a, b], ()))) []).run = some (!good) := by
        intro ck h1 h2 h3
        unfold record_fails
        rw [h2, h3, T.run_bind_of vx]
        dsimp only
        rw [T.run_bind_of vy]
        dsimp only
        rw [T.run_ite_f (by rfl)]
        have hcmp : (rat_Cmp ([a, b][0]'(by simp) |> norm) ([a, b][1]'(by simp) |> norm)).run = some n := hcmp
        rw [T.run_bind_of hcmp, h1, ← hgood]
        rcases (by omega : cmp = 0 ∨ cmp = 1 ∨ cmp = 2) with rfl | rfl | rfl <;> rcases hq with rfl | rfl | rfl <;> rfl
      have hmiss := missing_run (([] : List Switch), (([(([120] : Str), ((false, (([] : List Int), (([] : List Int), ()))), ())), (([121] : Str), ((false, (([] : List Int), (([] : List Int), ()))), ()))] : List Param), (([(([112] : Str), (([] : Str), ()))] : List Page), (([] : List Field), (([] : List Rule), (([(([99] : Str), ((0 : Int), (cmp, (nameE [120], (nameE [121], ())))))] : List Check), ()))))))
        (([a, b] : List Rat), (([] : List Bool), (([] : List Rat), (([] : List Int), (([] : List doc_Pin), (([] : List Bool), ())))))) true (fun _ => !good) (by simp) (by simp) (by simp) (by simp) (by simp) (by simp) (by simp)
        (fun ck hck => by
          have : ck = (([99] : Str), ((0 : Int), (cmp, (nameE [120], (nameE [121], ()))))) := by simpa using hck
          subst this
          exact hfail _ rfl rfl rfl)
      unfold nameE at hmiss
      rw [T.run_bind_of hmiss, hgood]
      have hone : (law21_one good).run = some (if good = true then 1 else 0) := by
        unfold law21_one
        cases good <;> rfl
      rw [T.run_bind_of hone]
      cases good with
      | true =>
        rw [if_pos rfl, T.run_obl (by refine ⟨by omega, ?_, ?_⟩ <;> decide)]
        have ht := texts21_refl [] (by simp)
        have e2 : (cutL (e := .str) (0 : Int) (w64 ((1 : Int) - 1)) ([([99] : Str)] : List Str)) = [] := rfl
        rw [e2]
        refine (T.run_bind_of (a := true) ?_ _).trans ?_
        · exact ht
        · rw [T.run_ite_true, T.run_bind_of known21_run, T.run_ret]
      | false =>
        rw [if_neg (by simp), T.run_obl (by refine ⟨by omega, ?_, ?_⟩ <;> decide)]
        have ht := texts21_refl [[99]] (by simp)
        have e2 : (cutL (e := .str) (0 : Int) (w64 ((1 : Int) - 0)) ([([99] : Str)] : List Str)) = [[99]] := rfl
        rw [e2]
        refine (T.run_bind_of (a := true) ?_ _).trans ?_
        · exact ht
        · rw [T.run_ite_true, T.run_bind_of known21_run, T.run_ret]
theorem law21_RecordChecks_law (x : denL [tyRat, tyRat, i64]) (hw : wfL [tyRat, tyRat, i64] x) (hb : bkL [tyRat, tyRat, i64] x ≤ 1048576) : (law21_RecordChecks (toPs [tyRat, tyRat, i64] x).1 (toPs [tyRat, tyRat, i64] x).2.1 (toPs [tyRat, tyRat, i64] x).2.2).run = some true := by
  obtain ⟨a, b, c, u⟩ := x
  exact law21_RecordChecks_all a b c (rat_wf hw.1) (rat_wf hw.2.1)
end Go.AM.Lf
