/-
  The abstract machine, part B: texts of our own, the same for each claim.
-/
import Derived.Test.YtalglafbfldajaaGreatDoorAmA
import Derived.Lib.AppendStr
import Derived.WideLaws
import Derived.Laws.BytesArg
import Derived.Laws.CopyRow
import Derived.Laws.IdiomCopy
set_option linter.unusedVariables false
namespace Go.AM
set_option linter.unusedSectionVars false
variable [Glob]
section
variable {c : Ctx} {κ κ' : KS}
theorem BlkRel.mono (x : Ext κ κ') {b : Nat} (hp : κ'.ph[b]? = κ.ph[b]?) (hh : ∀ blk n, κ.ph[b]? = some (some (blk, n)) → κ'.w.heap[blk]? = κ.w.heap[blk]?) {y : Blk} (h : BlkRel κ b y) : BlkRel κ' b y := by
 cases y with
 | dead => trivial
 | var d =>
  obtain ⟨blk, n, cs, t, h1, h2, h3, h4, h5⟩ := h
  exact ⟨blk, n, cs, t, hp.trans h1, (hh blk n h1).trans h2, h3, h4.mono x, h5⟩
 | arr ver e xs =>
  obtain ⟨h0, h⟩ := h
  refine ⟨h0, orMap h (fun h => ⟨h.1, hp.trans h.2⟩) ?_⟩
  rintro ⟨blk, n, cs, t, h1, h2, h3, h4, hr, f, h5⟩
  exact ⟨blk, n, cs, t, hp.trans h1, (hh blk n h1).trans h2, h3, h4, hr, f, fun i hi => ⟨(h5 i hi).1.mono x.same, (h5 i hi).2⟩⟩
def KS.imm (κ : KS) (w' : World) : KS := { κ with w := w', ok := fun k => κ.ok k ∨ k = κ.w.heap.size }
structure Grew (w w' : World) (o : Obj) : Prop where
 os : w'.os = w.os
 tape : w'.tape = w.tape
 output : w'.output = w.output
 heap : w'.heap = w.heap.push o
theorem Grew.size {w w' : World} {o : Obj} (g : Grew w w' o) : w'.heap.size = w.heap.size + 1 := by rw [g.heap]; simp
theorem Grew.old {w w' : World} {o : Obj} (g : Grew w w' o) {k : Nat} (h : k < w.heap.size) : w'.heap[k]? = w.heap[k]? := by
 rw [g.heap, Array.getElem?_push, if_neg (by omega)]
theorem Grew.new {w w' : World} {o : Obj} (g : Grew w w' o) : w'.heap[w.heap.size]? = some o := by rw [g.heap]; simp
theorem Grew.alloc (w : World) (o : Obj) : Grew w (w.alloc o) o := ⟨rfl, rfl, rfl, rfl⟩
theorem Grew.drew (w : World) (o : Obj) : Grew w (w.drew.alloc o) o := ⟨rfl, rfl, rfl, rfl⟩
theorem imm_ext {w' : World} {o : Obj} (hI : Inv κ) (g : Grew κ.w w' o) : Ext κ (κ.imm w') := by
 refine ⟨g.os, g.tape, g.output, by show κ.w.heap.size ≤ w'.heap.size; rw [g.size]; omega, fun k hk => ⟨.inl hk, g.old (hI.okLt k hk)⟩, ?_, fun _ _ _ h => .inl h, fun b d h => ⟨⟨d, h⟩, rfl⟩,
  fun b v0 e xs h => .inr ⟨v0, xs, h, Nat.le_refl _, fun _ => ⟨rfl, rfl⟩⟩, fun _ h => h, Nat.le_refl _, fun k hk _ => g.old hk⟩
 rintro k (hk | hk)
 ·exact .inl hk
 ·exact .inr (.inl (by omega))
theorem imm_inv {w' : World} {o : Obj} (hI : Inv κ) (g : Grew κ.w w' o) : Inv (κ.imm w') := by
 refine ⟨hI.len, ?_, ?_, hI.inj, ?_, hI.gl.mono (imm_ext hI g).same⟩
 ·rintro k (hk | hk)
  ·have := hI.okLt k hk; show k < w'.heap.size; rw [g.size]; omega
  ·show k < w'.heap.size; rw [g.size]; omega
 ·intro b blk n h
  obtain ⟨h1, h2⟩ := hI.apart b blk n h
  refine ⟨by show blk < w'.heap.size; rw [g.size]; omega, ?_⟩
  rintro (hk | hk)
  ·exact h2 hk
  ·omega
 ·intro b x hx
  exact (hI.blk b x hx).mono (imm_ext hI g) rfl fun blk n h => g.old (hI.apart b blk n h).1
def KS.add (κ : KS) (w' : World) (n : Nat) (x : Blk) : KS := { κ with w := w', ph := κ.ph ++ [some (κ.w.heap.size, n)], st := κ.st ++ [x] }
theorem add_ext {w' : World} {o : Obj} {n : Nat} {x : Blk} (hI : Inv κ) (g : Grew κ.w w' o) : Ext κ (κ.add w' n x) := by
 have hst : ∀ b y, κ.st[b]? = some y → (κ.st ++ [x])[b]? = some y := fun b y h => by rw [List.getElem?_append_left (List.getElem?_eq_some_iff.1 h).1]; exact h
 have hph : ∀ b y, κ.st[b]? = some y → (κ.ph ++ [some (κ.w.heap.size, n)])[b]? = κ.ph[b]? := fun b y h => by
  rw [List.getElem?_append_left]; rw [hI.len]; exact (List.getElem?_eq_some_iff.1 h).1
 refine ⟨g.os, g.tape, g.output, by show κ.w.heap.size ≤ w'.heap.size; rw [g.size]; omega, fun k hk => ⟨hk, g.old (hI.okLt k hk)⟩, fun k hk => .inl hk, ?_, fun b d h => ⟨⟨d, hst b _ h⟩, hph b _ h⟩,
  fun b v0 e xs h => .inr ⟨v0, xs, hst b _ h, Nat.le_refl _, fun _ => ⟨hph b _ h, rfl⟩⟩, fun b h => hst b _ h, by simp [KS.add], fun k hk _ => g.old hk⟩
 intro b blk m h
 simp only [KS.add] at h
 by_cases hb : b < κ.ph.length
 ·rw [List.getElem?_append_left hb] at h; exact .inl h
 ·rw [List.getElem?_append_right (by omega)] at h
  have := List.mem_of_getElem? h
  simp at this
  exact .inr (by omega)
theorem add_ph (hI : Inv κ) {w' : World} {n : Nat} {x : Blk} : (κ.add w' n x).ph[κ.st.length]? = some (some (κ.w.heap.size, n)) := by
 simp [KS.add, ← hI.len]
theorem add_st {w' : World} {n : Nat} {x : Blk} : (κ.add w' n x).st[κ.st.length]? = some x := by simp [KS.add]
theorem add_inv {w' : World} {o : Obj} {n : Nat} {x : Blk} (hI : Inv κ) (g : Grew κ.w w' o) (hx : BlkRel (κ.add w' n x) κ.st.length x) : Inv (κ.add w' n x) := by
 have hold : ∀ (b blk m : Nat), (κ.ph ++ [some (κ.w.heap.size, n)])[b]? = some (some (blk, m)) → κ.ph[b]? = some (some (blk, m)) ∨ (b = κ.ph.length ∧ blk = κ.w.heap.size) := by
  intro b blk m h
  by_cases hb : b < κ.ph.length
  ·rw [List.getElem?_append_left hb] at h; exact .inl h
  ·have hb' := (List.getElem?_eq_some_iff.1 h).1
   simp at hb'
   have : b = κ.ph.length := by omega
   subst this
   simp at h
   exact .inr ⟨rfl, h.1.symm⟩
 refine ⟨by simp [KS.add, hI.len], ?_, ?_, ?_, ?_, hI.gl.mono (add_ext hI g).same⟩
 ·intro k hk; have := hI.okLt k hk; show k < w'.heap.size; rw [g.size]; omega
 ·intro b blk m h
  rcases hold b blk m h with h | ⟨rfl, rfl⟩
  ·obtain ⟨h1, h2⟩ := hI.apart b blk m h
   exact ⟨by show blk < w'.heap.size; rw [g.size]; omega, h2⟩
  ·exact ⟨by show κ.w.heap.size < w'.heap.size; rw [g.size]; omega, fun hk => absurd (hI.okLt _ hk) (Nat.lt_irrefl _)⟩
 ·intro b b' blk m m' h h'
  rcases hold b blk m h with h | ⟨rfl, rfl⟩ <;> rcases hold b' _ m' h' with h' | ⟨rfl, h''⟩
  ·exact hI.inj b b' blk m m' h h'
  ·have := (hI.apart b blk m h).1; omega
  ·have := (hI.apart b' _ m' h').1; omega
  ·rfl
 ·intro b y hy
  simp only [KS.add] at hy
  by_cases hb : b < κ.st.length
  ·rw [List.getElem?_append_left hb] at hy
   refine (hI.blk b y hy).mono (add_ext hI g) ?_ fun blk m h => g.old (hI.apart b blk m h).1
   simp only [KS.add]
   rw [List.getElem?_append_left (by rw [hI.len]; exact hb)]
  ·have hb' := (List.getElem?_eq_some_iff.1 hy).1
   simp at hb'
   have : b = κ.st.length := by omega
   subst this
   simp at hy
   subst hy
   exact hx
theorem new_var {d : D} {v : Value} {t : TypeId} (hI : Inv κ) (hd : RD κ d v) (ht : d.isTup = false) (hty : ∀ T, d.typed = some T → t = T) :
  ∃ κ' : KS, κ'.w = κ.w.alloc (.cells v.cells t) ∧ κ'.st = κ.st ++ [.var d] ∧ Inv κ' ∧ Ext κ κ' ∧ RD κ' (.ptr κ.st.length 0) (.pointer (some ⟨κ.w.heap.size, 0, none⟩)) := by
 have g := Grew.alloc κ.w (.cells v.cells t)
 have hx := add_ext (n := v.cells.size) (x := .var d) hI g
 refine ⟨κ.add _ v.cells.size (.var d), rfl, rfl, add_inv hI g ?_, hx, .ptr _ 0 _ v.cells.size d add_st (add_ph hI)⟩
 exact ⟨κ.w.heap.size, v.cells.size, v.cells, t, add_ph hI, g.new, rfl, (flatD_rds hd ht).mono hx, flatD_one hd, hty⟩
theorem box_does {t : Nat} {x : Option D} {v : Value} {d : Option D} {st' : St} (hI : Inv κ) (hx : ∀ z, x = some z → RD κ z v)
  (h : (runCls (boxOp x) κ.st).leads (d, st')) :
  Does c.P (do Pure.pure (.value (← Instr.box t v))) κ d st' := by
 cases x with
 | none => exact absurd h leads_bad
 | some y =>
  simp only [boxOp] at h
  cases ht : y.isTup || y.typed.isSome with
  | true => rw [ht] at h; exact absurd h leads_bad
  | false =>
   rw [ht, cond_false] at h
   simp only [Bool.or_eq_false_iff] at ht
   obtain ⟨ht, hty⟩ := ht
   have hty' : ∀ T, y.typed = some T → t = T := fun T e => by rw [e] at hty; cases hty
   simp only [runCls, T.leads, Prod.mk.injEq] at h
   obtain ⟨rfl, rfl⟩ := h
   obtain ⟨κ', h1, h2, h3, h4, h5⟩ := new_var (t := t) hI (hx _ rfl) ht hty'
   refine ⟨κ', _, _, ?_, .inl rfl, h2, h3, h4, fun _ he => by cases he; exact h5⟩
   simp [Instr.box, newVar, newRow, h1]
theorem new_ro {d : D} {τ : Ty} {x : den τ} {v : Value} {t : TypeId} (hI : Inv κ) (hd : RD κ d v) (hx : coe0 τ d = some x) :
  ∃ κ' : KS, κ'.w = κ.w.alloc (.cells v.cells t) ∧ κ'.st = κ.st ∧ Inv κ' ∧ Ext κ κ' ∧ RD κ' (.rptr τ x) (.pointer (some ⟨κ.w.heap.size, 0, none⟩)) := by
 have g := Grew.alloc κ.w (.cells v.cells t)
 have hx' := imm_ext hI g
 obtain ⟨cs, h1, h2⟩ := RD.imm_inv (coe0_rd hd hx)
 have hc := pk_cells h1.len h1.one
 rw [← h2] at hc
 have hn : (κ.w.alloc (.cells v.cells t)).heap[κ.w.heap.size]? = some (.cells v.cells t (0, 0)) := g.new
 have hcell : ∀ j u, cs[j]? = some u → (κ.w.alloc (.cells v.cells t)).cell? ⟨κ.w.heap.size, 0 + j, none⟩ = some u := by
  intro j u hj
  simp only [World.cell?, hn, Nat.zero_add]
  rw [← hc] at hj
  simpa using hj
 exact ⟨κ.imm _, rfl, rfl, imm_inv hI g, hx', .rptr τ x cs κ.w.heap.size 0 (.inr rfl) (h1.mono hx'.same) hcell⟩
theorem boxRo_does {t : Nat} {x : Option D} {v : Value} {d : Option D} {st' : St} (hI : Inv κ) (hx : ∀ z, x = some z → RD κ z v)
  (h : (runCls (boxRo c t x) κ.st).leads (d, st')) : Does c.P (do Pure.pure (.value (← Instr.box t v))) κ d st' := by
 have key : ∀ (y : D) (τ : Ty) (z : den τ), x = some y → coe0 τ y = some z → (runCls (val (.rptr τ z)) κ.st).leads (d, st') → Does c.P (do Pure.pure (.value (← Instr.box t v))) κ d st' := by
  intro y τ z hy hz h
  rw [leads_vl] at h
  obtain ⟨rfl, rfl⟩ := h
  obtain ⟨κ', h1, h2, h3, h4, h5⟩ := new_ro (t := t) hI (hx y hy) hz
  refine ⟨κ', _, _, ?_, .inl rfl, h2, h3, h4, fun _ he => by cases he; exact h5⟩
  simp [Instr.box, newVar, newRow, h1]
 unfold boxRo at h
 split at h
 ·rename_i τ z
  exact key _ τ z rfl (by simp [coe0, castTy]) h
 ·split at h
  ·split at h
   ·rename_i hz
    exact key _ _ _ rfl hz h
   ·exact absurd h leads_bad
  ·exact absurd h leads_bad
 ·exact absurd h leads_bad
theorem boxAt_does {t : Nat} {dst : Option Nat} {x : Option D} {v : Value} {d : Option D} {st' : St} (hI : Inv κ) (hx : ∀ z, x = some z → RD κ z v)
  (h : (runCls (boxAt c t dst x) κ.st).leads (d, st')) : Does c.P (do Pure.pure (.value (← Instr.box t v))) κ d st' := by
 unfold boxAt at h
 cases hb : roAt c dst with
 | true => rw [hb] at h; exact boxRo_does hI hx h
 | false => rw [hb] at h; exact box_does hI hx h
theorem ofVal1_rd {v : Value} {d : D} (h : ofVal1 v = some d) : RD κ d v ∧ d.one = true ∧ d.isTup = false ∧ (∀ cs, v ≠ .agg cs) := by
 unfold ofVal1 at h
 split at h <;> cases h <;> refine ⟨?_, rfl, rfl, fun _ => nofun⟩
 ·exact .int
 ·exact .bool
 ·rename_i s; have := RD.str (κ := κ) (s := s.data.toList); simpa using this
 ·exact .nilsl
 ·exact .nilp
 ·exact .nilclo
 ·exact .niface
 ·exact .nilmap
theorem ofVal_rd {v : Value} {d : D} (h : ofVal v = some d) : RD κ d v ∧ d.isTup = false := by
 unfold ofVal at h
 split at h
 ·rename_i cs
  split at h
  ·rename_i l hl
   cases h
   have hlen : l.length = cs.toList.length := by have := congrArg List.length (allSome_spec hl); simpa using this.symm
   have hone : ∀ x ∈ l, x.one = true := by
    intro x hx
    have : some x ∈ cs.toList.map ofVal1 := by rw [allSome_spec hl]; exact List.mem_map.2 ⟨x, hx, rfl⟩
    obtain ⟨u, _, hu⟩ := List.mem_map.1 this
    exact (ofVal1_rd (κ := κ) hu).2.1
   have hr := rds_of_opts (κ := κ) (vs := cs.toList) hl (by simp) (fun i d v hd hv => by
    simp only [List.getElem?_map, hv, Option.map_some, Option.some.injEq] at hd
    exact (ofVal1_rd hd).1)
   refine ⟨?_, rfl⟩
   have := RD.agg l cs.toList hr.1 hone hr.2
   simpa using this
  ·cases h
 ·exact ⟨(ofVal1_rd h).1, (ofVal1_rd (κ := κ) h).2.2.1⟩
theorem ofVal1_typed {v : Value} {d : D} (h : ofVal1 v = some d) : (∀ l, d ≠ .agg l) ∧ (∀ T, d ≠ .bnil T) ∧ ∀ b T, d ≠ .optp b T := by
 unfold ofVal1 at h
 split at h <;> cases h <;> exact ⟨nofun, nofun, nofun⟩
theorem ofVal_typed {v : Value} {d : D} (h : ofVal v = some d) : d.typed = none := by
 unfold ofVal at h
 split at h
 ·rename_i cs
  split at h
  ·rename_i l hl
   cases h
   have hz := allSome_spec hl
   cases l with
   | nil => rfl
   | cons x r =>
    have : some x ∈ cs.toList.map ofVal1 := by rw [hz]; simp
    obtain ⟨u, _, hu⟩ := List.mem_map.1 this
    obtain ⟨_, h1, h2⟩ := ofVal1_typed hu
    cases x <;> first | rfl | exact absurd rfl (h1 _) | exact absurd rfl (h2 _ _)
  ·cases h
 ·have := (ofVal1_typed h).1
  cases d <;> first | rfl | exact absurd rfl (this _)
structure ZD (t : Nat) (d : D) (z : Value) : Prop where
 rd : ∀ κ : KS, RD κ d z
 tup : d.isTup = false
 ty : ∀ T, d.typed = some T → t = T
theorem markZ_zd {t : Nat} {d : D} {z : Value} (h : ofVal z = some d) : ZD t (markZ c t d) z := by
 have h0 : ∀ κ : KS, RD κ d z := fun κ => (ofVal_rd h).1
 have h1 : d.isTup = false := (ofVal_rd (κ := ⟨default, fun _ => False, [], []⟩) h).2
 have h2 := ofVal_typed h
 have same : ZD t d z := ⟨h0, h1, fun T e => by rw [h2] at e; cases e⟩
 unfold markZ
 split
 ·rename_i r
  cases hs : selfT c t with
  | false => exact same
  | true =>
   refine ⟨fun κ => ?_, rfl, fun T e => by cases e; rfl⟩
   cases h0 κ with
   | agg _ vs hl ho hh =>
    have hR : RDs κ (.nilp :: r) vs := ⟨hl, hh⟩
    obtain ⟨v, us, rfl, g1, g2⟩ := hR.cons_inv
    have hR2 : RDs κ (.bnil t :: r) (v :: us) := .cons (by cases g1; exact .bnil t) g2
    exact .agg _ _ hR2.1 (fun x hx => by
     rcases List.mem_cons.1 hx with rfl | hx
     ·rfl
     ·exact ho x (List.mem_cons_of_mem _ hx)) hR2.2
 ·exact same
theorem zeroD_spec {t : Nat} {d : D} (h : zeroD c t = some d) : ∃ i z, c.P.info? t = some i ∧ i.zero = some z ∧ ZD t d z := by
 unfold zeroD at h
 split at h
 ·rename_i i hi
  split at h
  ·rename_i z hz
   split at h
   ·rename_i d0 hd0
    cases h
    exact ⟨i, z, hi, hz, markZ_zd hd0⟩
   ·cases h
  ·cases h
 ·cases h
theorem alloc_does {t : Nat} {d : Option D} {st' : St} (hI : Inv κ)
  (h : (runCls (allocOp c t) κ.st).leads (d, st')) :
  Does c.P (do Pure.pure (.value (← Instr.alloc t true (.tuple #[])))) κ d st' := by
 unfold allocOp at h
 split at h
 ·rename_i y hy
  obtain ⟨i, z, h1, h2, h3⟩ := zeroD_spec hy
  simp only [runCls, T.leads, Prod.mk.injEq] at h
  obtain ⟨rfl, rfl⟩ := h
  obtain ⟨κ', g1, g2, g3, g4, g5⟩ := new_var (t := t) hI (h3.rd κ) h3.tup h3.ty
  refine ⟨κ', _, _, ?_, .inl rfl, g2, g3, g4, fun _ he => by cases he; exact g5⟩
  simp [Instr.alloc, zeroValue, typeInfo, h1, h2, newVar, newRow, g1]
 ·exact absurd h leads_bad
end
end Go.AM
namespace Go.AM
set_option linter.unusedSectionVars false
variable [Glob]
section
variable {c : Ctx} {κ : KS}
def KS.upd (κ : KS) (b blk : Nat) (cs : Array Value) (x : Blk) : KS := { κ with w := κ.w.setRow blk cs, st := κ.st.set b x }
def Alike : Blk → Blk → Prop
 | .var _, .var _ => True
 | .arr v e xs, .arr v' e' xs' => e = e' ∧ v ≤ v' ∧ (v = v' → xs.length = xs'.length)
 | _, _ => False
theorem upd_ext {b blk n : Nat} {cs : Array Value} {x y : Blk} (hI : Inv κ) (hp : κ.ph[b]? = some (some (blk, n))) (hy : κ.st[b]? = some y) (ha : Alike y x) : Ext κ (κ.upd b blk cs x) := by
 have hlt : b < κ.st.length := (List.getElem?_eq_some_iff.1 hy).1
 have hne : ∀ k, κ.ok k → k ≠ blk := fun k hk e => (hI.apart b blk n hp).2 (e ▸ hk)
 refine ⟨rfl, rfl, rfl, by simp [KS.upd], fun k hk => ⟨hk, setRow_other _ _ _ _ (hne k hk)⟩, fun k hk => .inl hk, fun _ _ _ h => .inl h, ?_, ?_, ?_, by simp [KS.upd], ?_⟩
 ·intro b' d hd
  refine ⟨?_, rfl⟩
  simp only [KS.upd, List.getElem?_set]
  split
  ·rename_i e
   subst e
   rw [hy] at hd; cases hd
   cases x <;> simp [Alike] at ha
   rename_i d'
   exact ⟨d', rfl⟩
  ·exact ⟨d, hd⟩
 ·intro b' v0 e xs0 hd
  refine .inr ?_
  simp only [KS.upd, List.getElem?_set]
  split
  ·rename_i e'
   subst e'
   rw [hy] at hd; cases hd
   cases x <;> simp [Alike] at ha
   rename_i v1 e1 xs1
   obtain ⟨rfl, h1, h2⟩ := ha
   exact ⟨v1, xs1, rfl, h1, fun h => ⟨trivial, h2 h⟩⟩
  ·exact ⟨v0, xs0, hd, Nat.le_refl _, fun _ => ⟨trivial, rfl⟩⟩
 ·intro b' hd
  simp only [KS.upd, List.getElem?_set]
  split
  ·rename_i e
   subst e
   rw [hy] at hd; cases hd
   simp [Alike] at ha
  ·exact hd
 ·intro k hk hn
  exact setRow_other _ _ _ _ (fun e => hn b n (e ▸ hp))
theorem upd_inv {b blk n : Nat} {cs : Array Value} {x y : Blk} (hI : Inv κ) (hp : κ.ph[b]? = some (some (blk, n))) (hy : κ.st[b]? = some y) (ha : Alike y x)
  (hx : BlkRel (κ.upd b blk cs x) b x) : Inv (κ.upd b blk cs x) := by
 refine ⟨by simp [KS.upd, hI.len], ?_, ?_, hI.inj, ?_, hI.gl.mono (upd_ext hI hp hy ha).same⟩
 ·intro k hk; show k < (κ.w.setRow blk cs).heap.size; rw [setRow_size]; exact hI.okLt k hk
 ·intro b' blk' m h
  obtain ⟨h1, h2⟩ := hI.apart b' blk' m h
  exact ⟨by show blk' < (κ.w.setRow blk cs).heap.size; rw [setRow_size]; exact h1, h2⟩
 ·intro b' z hz
  by_cases hb : b = b'
  ·subst hb
   simp only [KS.upd, List.getElem?_set, if_pos] at hz
   split at hz
   ·cases hz; exact hx
   ·cases hz
  ·simp only [KS.upd, List.getElem?_set, if_neg hb] at hz
   refine (hI.blk b' z hz).mono (upd_ext hI hp hy ha) rfl fun blk' m h => ?_
   refine setRow_other _ _ _ _ fun e => ?_
   subst e
   exact hb (hI.inj b b' _ n m hp h)
theorem okTyped_spec {d d' : D} {t : Nat} (h : okTyped d d' = true) (hd : ∀ T, d.typed = some T → t = T) : ∀ T, d'.typed = some T → t = T := by
 intro T hT
 unfold okTyped at h
 rw [hT] at h
 simp only at h
 cases hd0 : d.typed with
 | none => rw [hd0] at h; cases h
 | some T' =>
  rw [hd0] at h
  have e := Nat.eq_of_beq_eq_true h
  exact (hd T' hd0).trans e.symm
theorem run_storeVar_at {t : Nat} {n blk o : Nat} {v : Value} {cs : Array Value} {T : TypeId} (hn : sizeT c t = some n) (hv : v.cells.toList.length = n) (h1 : ∀ u ∈ v.cells.toList, u.oneCell' = true)
  (hg : κ.w.heap[blk]? = some (.cells cs T (0, 0))) (hle : o + n ≤ cs.size) :
  (storeVar t ⟨blk, o, none⟩ v).run c.P κ.w = .ok () (κ.w.setRow blk (cs.toList.take o ++ v.cells.toList ++ cs.toList.drop (o + n)).toArray) := by
 have hs : v.cells.size = n := by simpa using hv
 have := run_storeCells_at c.P blk o T v.cells.toList 0 cs κ.w hg (by simp [hs]; omega) h1
 simp only [Nat.add_zero, hv] at this
 simp [storeVar, run_sizeOf hn, hs, this]
theorem take_drop_rds {l : List D} {vs us : List Value} {x : List D} (h : RDs κ l vs) (hx : RDs κ x us) (o n : Nat) :
  RDs κ (l.take o ++ x ++ l.drop (o + n)) (vs.take o ++ us ++ vs.drop (o + n)) := ((h.take o).append hx).append (h.drop (o + n))
theorem splice_get {cs us : List Value} {o n : Nat} (hu : us.length = n) (ho : o + n ≤ cs.length) (p : Nat) :
  (cs.take o ++ us ++ cs.drop (o + n))[p]? = if p < o then cs[p]? else if p < o + n then us[p - o]? else cs[p]? := by
 have hto : (cs.take o).length = o := by simp; omega
 by_cases h1 : p < o
 ·rw [if_pos h1, List.append_assoc, List.getElem?_append_left (by omega), List.getElem?_take, if_pos h1]
 ·rw [if_neg h1, List.append_assoc, List.getElem?_append_right (by omega), hto]
  by_cases h2 : p < o + n
  ·rw [if_pos h2, List.getElem?_append_left (by omega)]
  ·rw [if_neg h2, List.getElem?_append_right (by omega), List.getElem?_drop, hu]
   congr 1; omega
theorem putD_spec {t : Nat} {d x r : D} {off : Nat} (h : putD c t d off x = some r) : ∃ n, sizeT c t = some n ∧ 0 < n ∧ (flatD x).length = n ∧ off + n ≤ (flatD d).length ∧
  flatD r = (flatD d).take off ++ flatD x ++ (flatD d).drop (off + n) ∧ ((∀ y ∈ flatD d, y.one = true) → (∀ y ∈ flatD x, y.one = true) → ∀ y ∈ flatD r, y.one = true) ∧ x.isTup = false := by
 unfold putD at h
 split at h
 ·cases h
 ·rename_i n hn
  cases hb : Nat.blt 0 n && Nat.beq n (flatD x).length && Nat.ble (off + n) (flatD d).length with
  | false => rw [hb] at h; cases h
  | true =>
   rw [hb, cond_true] at h
   simp only [Bool.and_eq_true] at hb
   obtain ⟨⟨h0, h1⟩, h2⟩ := hb
   have h0' : 0 < n := Nat.le_of_ble_eq_true h0
   have h1' : n = (flatD x).length := Nat.eq_of_beq_eq_true h1
   have h2' := Nat.le_of_ble_eq_true h2
   have htup : x.isTup = false := by
    cases x with
    | tup l => simp [flatD] at h1'; omega
    | _ => rfl
   cases hw : Nat.beq n (flatD d).length with
   | true =>
    rw [hw, cond_true] at h
    cases h
    have h3 : n = (flatD d).length := Nat.eq_of_beq_eq_true hw
    have h4 : off = 0 := by omega
    subst h4
    refine ⟨n, hn, h0', h1'.symm, h2', ?_, fun _ h => h, htup⟩
    simp [h3]
   | false =>
    rw [hw, cond_false] at h
    cases h
    refine ⟨n, hn, h0', h1'.symm, h2', rfl, fun hd hx y hy => ?_, htup⟩
    simp only [flatD, List.mem_append] at hy
    rcases hy with (hy | hy) | hy
    ·exact hd y (List.mem_of_mem_take hy)
    ·exact hx y hy
    ·exact hd y (List.mem_of_mem_drop hy)
theorem rc_of_flatD {τ : Ty} {r : D} {x : den τ} {vs : List Value} (h : coe0 τ r = some x) (hr : RDs κ (flatD r) vs) (hone : ∀ y ∈ flatD r, y.one = true) (ht : r.isTup = false) : Rc κ.w κ.ok τ x vs := by
 cases r with
 | imm σ y => obtain ⟨rfl, rfl⟩ := castTy_some h; exact flat_rc _ _ hr
 | agg l =>
  have := coe0_rd (RD.agg l vs hr.1 hone hr.2) h
  obtain ⟨cs, h1, h2⟩ := RD.imm_inv this
  have hc := pk_cells h1.len h1.one
  rw [← h2] at hc
  simp only [Value.cells] at hc
  rw [← hc] at h1
  simpa using h1
 | tup l => cases ht
 | _ =>
  obtain ⟨v, r', rfl, h1, h2⟩ := RDs.cons_inv hr
  have e2 := h2.nil_inv
  subst e2
  have h3 := coe0_rd h1 h
  obtain ⟨cs, h4, h5⟩ := RD.imm_inv h3
  have hag : τ.isAgg = false := by
   cases hta : τ.isAgg with
   | false => rfl
   | true => simp [coe0, D.isAgg, hta] at h
  obtain ⟨u, rfl⟩ := h4.single hag
  rw [pk_one hag] at h5
  rwa [h5]
theorem store_does {t : Nat} {a x : Option D} {v u : Value} {d : Option D} {st' : St} (hI : Inv κ) (ha : ∀ z, a = some z → RD κ z v) (hx : ∀ z, x = some z → RD κ z u)
  (h : (runCls (storeOp c t a x) κ.st).leads (d, st')) : Does c.P (do Instr.storeAt t v u; Pure.pure .skip) κ d st' := by
 unfold storeOp at h
 split at h
 ·rename_i b off y
  simp only [runCls] at h
  split at h
  ·rename_i d0 hb
   split at h
   ·rename_i r hr
    cases hok : okTyped d0 r with
    | false => rw [hok] at h; exact h.elim
    | true =>
    rw [hok, cond_true] at h
    simp only [T.leads, Prod.mk.injEq] at h
    obtain ⟨rfl, rfl⟩ := h
    obtain ⟨n, hn, h0, hfl, hle, hflat, hone, htup⟩ := putD_spec hr
    cases ha _ rfl with
    | ptr _ _ blk m d1 hd hp =>
     obtain ⟨blk', m', cs, T, g1, g2, g3, g4, g5⟩ := hI.blk b _ hb
     rw [hp] at g1
     cases g1
     have hy := hx _ rfl
     have hfy := flatD_rds hy htup
     have hvl : u.cells.toList.length = n := by rw [← hfy.1]; exact hfl
     have hsz : off + n ≤ cs.size := by have := g4.1; simp at this; omega
     have h1 : ∀ z ∈ u.cells.toList, z.oneCell' = true := by
      intro z hz
      obtain ⟨i, hi, rfl⟩ := List.getElem_of_mem hz
      exact (hfy.2 i (hfy.1 ▸ hi) hi).oneCell (flatD_one hy _ (List.getElem_mem _))
     have hrun := run_storeVar_at (c := c) (κ := κ) hn hvl h1 g2 hsz
     have hal : Alike (.var d0) (.var r) := trivial
     let cs' := (cs.toList.take off ++ u.cells.toList ++ cs.toList.drop (off + n)).toArray
     have hex := upd_ext (cs := cs') (x := .var r) hI hp hb hal
     refine ⟨κ.upd b blk cs' (.var r), .skip, undef, ?_, .inr ⟨rfl, rfl⟩, rfl, upd_inv hI hp hb hal ?_, hex, fun _ he => by cases he⟩
     ·simp only [Sem.run_bind, Instr.storeAt, Instr.sureAddr, Sem.run_pure, Result.andThen_ok, hrun]; rfl
     ·refine ⟨blk, m, cs', T, hp, setRow_heap _ _ _ _ _ _ g2, ?_, ?_, hone g5.1 (flatD_one hy), okTyped_spec hok g5.2⟩
      ·have hc : cs.toList.length = cs.size := by simp
       simp [cs', hvl, ← g3]; omega
      ·rw [hflat]; exact (take_drop_rds g4 hfy off n).mono hex
   ·exact h.elim
  ·exact h.elim
 ·rename_i b ver e idx off y
  simp only [runCls] at h
  split at h
  ·rename_i ver' e' xs hb
   cases he : decide (e' = e) with
   | false => rw [he] at h; exact h.elim
   | true =>
    rw [he, cond_true] at h
    have he' : e' = e := of_decide_eq_true he
    subst he'
    obtain ⟨⟨rfl, hlt⟩, h⟩ := h
    split at h
    ·rename_i r hr
     split at h
     ·rename_i z hz
      simp only [T.leads, Prod.mk.injEq] at h
      obtain ⟨rfl, rfl⟩ := h
      obtain ⟨n, hn, h0, hfl, hle, hflat, hone, htup⟩ := putD_spec hr
      cases ha _ rfl with
      | eptr _ _ _ _ _ blk o hold hp =>
       obtain ⟨m, p1, rfl⟩ := hp xs hb hlt
       obtain ⟨hsz, ⟨hnil, _⟩ | ⟨blk', n', cs, T, g1, g2, g3, g4, gr, f, g5⟩⟩ := hI.blk b _ hb
       ·subst hnil; cases hlt
       ·rw [p1] at g1
        cases g1
        rw [getD_lt hlt] at hr hflat hle hone
        have hy := hx _ rfl
        have hfy := flatD_rds hy htup
        have hvl : u.cells.toList.length = n := by rw [← hfy.1]; exact hfl
        obtain ⟨k1, k2⟩ := g5 idx hlt
        have hfi := k1.len
        have hle' : off + n ≤ e'.size := by simpa [flatD, flat_len] using hle
        have hidx : idx * e'.size + e'.size ≤ xs.length * e'.size := by rw [← Nat.succ_mul]; exact Nat.mul_le_mul_right _ hlt
        have hsz' : idx * e'.size + off + n ≤ cs.size := by omega
        have h1 : ∀ z ∈ u.cells.toList, z.oneCell' = true := by
         intro z hz
         obtain ⟨i, hi, rfl⟩ := List.getElem_of_mem hz
         exact (hfy.2 i (hfy.1 ▸ hi) hi).oneCell (flatD_one hy _ (List.getElem_mem _))
        have hrun := run_storeVar_at (c := c) (κ := κ) hn hvl h1 g2 hsz'
        have hal : Alike (.arr ver e' xs) (.arr ver e' (xs.set idx z)) := ⟨rfl, Nat.le_refl _, fun _ => by simp⟩
        let cs' := (cs.toList.take (idx * e'.size + off) ++ u.cells.toList ++ cs.toList.drop (idx * e'.size + off + n)).toArray
        have hex := upd_ext (cs := cs') (x := .arr ver e' (xs.set idx z)) hI p1 hb hal
        refine ⟨κ.upd b blk cs' (.arr ver e' (xs.set idx z)), .skip, undef, ?_, .inr ⟨rfl, rfl⟩, rfl, upd_inv hI p1 hb hal ?_, hex, fun _ he => by cases he⟩
        ·simp only [Sem.run_bind, Instr.storeAt, Instr.sureAddr, Sem.run_pure, Result.andThen_ok, hrun]; rfl
        ·have hlen : cs'.size = cs.size := by simp [cs', hvl]; omega
         refine ⟨hsz, .inr ⟨blk, m, cs', T, p1, setRow_heap _ _ _ _ _ _ g2, by rw [hlen]; exact g3, by simpa using g4, ?_⟩⟩
         -- cells of the element that is written
         let fi := (f idx).take off ++ u.cells.toList ++ (f idx).drop (off + n)
         have hfl' : RDs κ (flatD r) fi := by
          rw [hflat]
          exact take_drop_rds (flat_rds k1) hfy off n
         have hrt : r.isTup = false := by
          cases r with
          | tup l =>
           have h6 := congrArg List.length hflat
           rw [List.length_append, List.length_append, hfl] at h6
           have h7 : (flatD (D.tup l)).length = 0 := rfl
           omega
          | _ => rfl
         have hrc := rc_of_flatD hz hfl' (hone (flat_one _ _) (flatD_one hy)) hrt
         have hcs' : ∀ p, cs'[p]? = if p < idx * e'.size + off then cs[p]? else if p < idx * e'.size + off + n then u.cells.toList[p - (idx * e'.size + off)]? else cs[p]? := by
          intro p
          have := splice_get (cs := cs.toList) (us := u.cells.toList) hvl (by simpa using hsz') p
          simpa only [cs', List.getElem?_toArray, Array.getElem?_toList] using this
         have hfi' : ∀ j, fi[j]? = if j < off then (f idx)[j]? else if j < off + n then u.cells.toList[j - off]? else (f idx)[j]? := fun j => splice_get hvl (by omega) j
         refine ⟨gr, fun i => if i = idx then fi else f i, fun i hi => ?_⟩
         rw [List.length_set] at hi
         by_cases hii : i = idx
         ·subst hii
          simp only [if_true, List.getElem_set_self]
          refine ⟨hrc.mono hex.same, fun j w hj => ?_⟩
          rw [hfi'] at hj
          rw [hcs']
          split at hj
          ·rw [if_pos (by omega)]; exact k2 j w hj
          ·split at hj
           ·rw [if_neg (by omega), if_pos (by omega)]; rw [← hj]; congr 1; omega
           ·rw [if_neg (by omega), if_neg (by omega)]; exact k2 j w hj
         ·simp only [if_neg hii]
          obtain ⟨q1, q2⟩ := g5 i hi
          refine ⟨by rw [List.getElem_set_ne (fun e => hii e.symm)]; exact q1.mono hex.same, fun j w hj => ?_⟩
          have hjl : j < e'.size := by rw [← q1.len]; exact (List.getElem?_eq_some_iff.1 hj).1
          rw [hcs']
          rcases Nat.lt_or_gt_of_ne hii with hlt' | hgt'
          ·have : i * e'.size + e'.size ≤ idx * e'.size := by rw [← Nat.succ_mul]; exact Nat.mul_le_mul_right _ hlt'
           rw [if_pos (by omega)]; exact q2 j w hj
          ·have : idx * e'.size + e'.size ≤ i * e'.size := by rw [← Nat.succ_mul]; exact Nat.mul_le_mul_right _ hgt'
           rw [if_neg (by omega), if_neg (by omega)]; exact q2 j w hj
     ·exact h.elim
    ·exact h.elim
  ·exact h.elim
 ·exact absurd h leads_bad
end
end Go.AM
namespace Go.AM
set_option linter.unusedSectionVars false
variable [Glob]
section
variable {c : Ctx} {κ : KS}
theorem fold_splice : ∀ (vs : List Value) (cells : Array Value) (off k : Nat), off + k + vs.length ≤ cells.size →
  ((vs.zipIdx k).foldl (fun (cs : Array Value) (p : Value × Nat) => cs.setIfInBounds (off + p.2) p.1) cells).toList = cells.toList.take (off + k) ++ vs ++ cells.toList.drop (off + k + vs.length)
 | [], cells, off, k, _ => by simp
 | v :: vs, cells, off, k, h => by
  simp only [List.length_cons] at h
  simp only [List.zipIdx_cons, List.foldl_cons]
  rw [fold_splice vs _ off (k + 1) (by simp; omega)]
  have hlt : off + k < cells.toList.length := by simp; omega
  simp only [Array.toList_setIfInBounds, List.length_cons]
  have e1 : (cells.toList.set (off + k) v).take (off + (k + 1)) = cells.toList.take (off + k) ++ [v] := by
   rw [show off + (k + 1) = off + k + 1 by omega, List.take_succ_eq_append_getElem (by simpa using hlt)]
   rw [List.take_set_of_le (Nat.le_refl _)]
   simp
  have e2 : (cells.toList.set (off + k) v).drop (off + (k + 1) + vs.length) = cells.toList.drop (off + k + (vs.length + 1)) := by
   rw [List.drop_set_of_lt (by omega)]
   congr 1; omega
  rw [e1, e2]
  simp
theorem fill_one {place : Nat → Option (Nat × Nat)} {cells : Array Value} {i off size : Nat} {v : Value} {rest : List (Nat × Value)} (hp : place i = some (off, size)) (hs : v.cells.toList.length = size) (hle : off + size ≤ cells.size) :
  Instr.fill place cells ((i, v) :: rest) = Instr.fill place (cells.toList.take off ++ v.cells.toList ++ cells.toList.drop (off + size)).toArray rest := by
 have hs' : v.cells.size = size := by simpa using hs
 have hf := fold_splice v.cells.toList cells off 0 (by simp [hs']; omega)
 simp only [Nat.add_zero, hs] at hf
 conv => lhs; unfold Instr.fill
 simp only [hp]
 rw [if_neg (by simp [hs']; omega)]
 congr 1
 apply Array.ext'
 rw [← Array.foldl_toList, Array.toList_zipIdx]
 exact hf
theorem imm_cells {e : Ty} {x : den e} {v : Value} (h : RD κ (.imm e x) v) : Rc κ.w κ.ok e x v.cells.toList := by
 obtain ⟨cs, h1, rfl⟩ := RD.imm_inv h
 rw [pk_cells h1.len h1.one]; exact h1
theorem fill_spec {e : Ty} {F : Operand → Option D} {G : Operand → Value} (hF : ∀ x d, F x = some d → RD κ d (G x)) : ∀ (L : List (Nat × Operand)) (k : Nat) (cells : Array Value) (l : List (den e)),
  fillL e k (L.map fun p => (p.1, F p.2)) = some l → (k + L.length) * e.size ≤ cells.size →
  ∃ cells', Instr.fill (fun i => some (i * e.size, e.size)) cells (L.map fun p => (p.1, G p.2)) = some cells' ∧ cells'.size = cells.size ∧ (∀ p, p < k * e.size → cells'[p]? = cells[p]?) ∧ l.length = L.length ∧
   ∃ f : Nat → List Value, ∀ i (hi : i < l.length), Rc κ.w κ.ok e l[i] (f i) ∧ ∀ j v, (f i)[j]? = some v → cells'[(k + i) * e.size + j]? = some v
 | [], k, cells, l, h, _ => by
  simp only [List.map_nil, fillL, Option.some.injEq] at h
  subst h
  exact ⟨cells, rfl, rfl, fun _ _ => rfl, rfl, fun _ => [], fun i hi => absurd hi (Nat.not_lt_zero i)⟩
 | (i, x) :: L, k, cells, l, h, hle => by
  simp only [List.map_cons] at h
  cases hx : F x with
  | none => rw [hx] at h; simp [fillL] at h
  | some d =>
   rw [hx] at h
   simp only [fillL] at h
   cases hb : Nat.beq k i with
   | false => rw [hb] at h; cases h
   | true =>
    have hik : k = i := Nat.eq_of_beq_eq_true hb
    subst hik
    rw [hb, cond_true] at h
    split at h
    ·rename_i y l' hy hl'
     cases h
     have hr := imm_cells (coe0_rd (hF x d hx) hy)
     have hlen := hr.len
     simp only [List.length_cons] at hle
     have hk1 : (k + (L.length + 1)) * e.size = k * e.size + e.size + L.length * e.size := by rw [Nat.add_mul, Nat.add_mul]; omega
     have hcell : k * e.size + e.size ≤ cells.size := by omega
     let c1 := (cells.toList.take (k * e.size) ++ (G x).cells.toList ++ cells.toList.drop (k * e.size + e.size)).toArray
     have hc1 : c1.size = cells.size := by simp only [c1, List.size_toArray, List.length_append, List.length_take, List.length_drop, hlen, Array.length_toList]; omega
     have hg : ∀ p, c1[p]? = if p < k * e.size then cells[p]? else if p < k * e.size + e.size then (G x).cells.toList[p - k * e.size]? else cells[p]? := by
      intro p
      have := splice_get (cs := cells.toList) (us := (G x).cells.toList) hlen (by simpa using hcell) p
      simpa only [c1, List.getElem?_toArray, Array.getElem?_toList] using this
     obtain ⟨cells', h1, h2, h3, h4, f, h5⟩ := fill_spec hF L (k + 1) c1 l' hl' (by rw [hc1, show k + 1 + L.length = k + (L.length + 1) by omega]; exact hle)
     refine ⟨cells', ?_, h2.trans hc1, ?_, by simp [h4], fun i => match i with | 0 => (G x).cells.toList | i + 1 => f i, ?_⟩
     ·simp only [List.map_cons]
      rw [fill_one rfl hlen hcell]
      exact h1
     ·intro p hp
      rw [h3 p (by rw [Nat.add_mul]; omega), hg, if_pos hp]
     ·intro i hi
      cases i with
      | zero =>
       refine ⟨hr, fun j v hj => ?_⟩
       have hjl : j < e.size := by rw [← hlen]; exact (List.getElem?_eq_some_iff.1 hj).1
       have hk2 : (k + 1) * e.size = k * e.size + e.size := by rw [Nat.add_mul]; omega
       rw [Nat.add_zero, h3 _ (by omega), hg, if_neg (by omega), if_pos (by omega), Nat.add_sub_cancel_left]
       exact hj
      | succ i =>
       have := h5 i (by simpa using hi)
       rw [show k + 1 + i = k + (i + 1) by omega] at this
       exact this
    ·cases h
theorem bytesT_info {t n : Nat} (h : bytesT c t = some n) : ∃ i, c.P.info? t = some i ∧ i.bytes = n := by
 unfold bytesT at h
 cases hi : c.P.info? t with
 | none => simp [hi] at h
 | some i => exact ⟨i, rfl, by simpa [hi] using h⟩
theorem zeroOf_spec {et : Nat} {e : Ty} {z : den e} (h : zeroOf c et e = some z) : ∃ i v, c.P.info? et = some i ∧ i.zero = some v ∧ Rc κ.w κ.ok e z v.cells.toList := by
 unfold zeroOf at h
 split at h
 ·rename_i d hd
  obtain ⟨i, v, h1, h2, h3⟩ := zeroD_spec hd
  exact ⟨i, v, h1, h2, imm_cells (coe0_rd (h3.rd κ) h)⟩
 ·cases h
theorem buildSlice_does {t n : Nat} {L : List (Nat × Operand)} {F : Operand → Option D} {G : Operand → Value} {d : Option D} {st' : St} (hI : Inv κ) (hF : ∀ x d, F x = some d → RD κ d (G x))
  (h : (runCls (buildSliceOp c t n (L.map fun p => (p.1, F p.2))) κ.st).leads (d, st')) :
  Does c.P (do Pure.pure (.value (← Instr.buildSlice t n (L.map fun p => (p.1, G p.2)).toArray))) κ d st' := by
 unfold buildSliceOp at h
 split at h
 ·exact absurd h leads_bad
 ·rename_i et het
  have hu := elemT_spec het
  split at h
  ·rename_i e hty
   cases hb : okTy c et e && Nat.beq n (L.map fun p => (p.1, F p.2)).length && Nat.ble n 1000 && Nat.ble e.size 100 && (zeroOf c et e).isSome with
   | false => rw [hb] at h; exact absurd h leads_bad
   | true =>
    rw [hb, cond_true] at h
    simp only [Bool.and_eq_true] at hb
    obtain ⟨⟨⟨⟨hok, hn⟩, h1⟩, h2⟩, h3⟩ := hb
    have hn' : n = L.length := by have := Nat.eq_of_beq_eq_true hn; simpa using this
    have h1' := Nat.le_of_ble_eq_true h1
    have h2' := Nat.le_of_ble_eq_true h2
    obtain ⟨hs, _⟩ := okTy_spec hok
    obtain ⟨z, hz⟩ := Option.isSome_iff_exists.1 h3
    obtain ⟨i, zv, hi1, hi2, hi3⟩ := zeroOf_spec (κ := κ) hz
    split at h
    ·rename_i l hl
     cases hz0 : Nat.beq n 0 && Nat.blt 0 e.size with
     | true =>
     rw [hz0, cond_true] at h
     simp only [Bool.and_eq_true] at hz0
     obtain ⟨hz0, hsz⟩ := hz0
     have hsz' : 0 < e.size := Nat.le_of_ble_eq_true hsz
     have hn0 := Nat.eq_of_beq_eq_true hz0
     have hL : L = [] := List.eq_nil_of_length_eq_zero (hn'.symm.trans hn0)
     subst hL
     subst hn0
     simp only [runCls, T.leads, Prod.mk.injEq] at h
     obtain ⟨rfl, rfl⟩ := h
     have g := Grew.alloc κ.w (.cells #[] et)
     have hex := add_ext (n := 0) (x := .arr 0 e ([] : List (den e))) hI g
     have hrun : (Instr.buildSlice t 0 (([] : List (Nat × Operand)).map fun p => (p.1, G p.2)).toArray).run c.P κ.w = .ok (.slice (some ⟨κ.w.heap.size, 0, none⟩) 0 0) (κ.w.alloc (.cells #[] et)) := by
      simp [Instr.buildSlice, Sem.run_bind, run_underlying hu, Result.andThen_ok, run_sizeOf hs, Instr.fill, newRow]
      have e0 : ∀ g : Nat → Value, (Array.range 0).map g = #[] := fun g => by simp
      rw [e0]
     refine ⟨κ.add _ 0 (.arr 0 e []), _, .slice (some ⟨κ.w.heap.size, 0, none⟩) 0 0, by simp only [Sem.run_bind, hrun, Result.andThen_ok]; rfl, .inl rfl, rfl, add_inv hI g ?_, hex, ?_⟩
     ·exact ⟨hsz', .inr ⟨κ.w.heap.size, 0, #[], et, add_ph hI, g.new, rfl, by simp, okTy_row hok, fun _ => [], fun i hi => absurd hi (Nat.not_lt_zero i)⟩⟩
     ·intro d' hd'
      cases hd'
      refine .ms _ 0 e 0 0 0 _ (.inr ⟨0, e, _, add_st, Nat.le_refl _⟩) (by omega) nofun (fun p hp => by cases hp; rfl) fun xs hxs => ?_
      rw [add_st] at hxs
      cases hxs
      exact ⟨by simp, .inr ⟨κ.w.heap.size, 0, 0, 0, add_ph hI, rfl, by omega, by simp, .inl rfl⟩⟩
     | false =>
     rw [hz0, cond_false, leads_vl] at h
     obtain ⟨rfl, rfl⟩ := h
     subst hn'
     have hle : L.length * e.size ≤ 100000 := Nat.le_trans (Nat.mul_le_mul h1' h2') (by decide)
     have hzs : zv.cells.size = e.size := by have := hi3.len; simpa using this
     let cells : Array Value := (Array.range (L.length * e.size)).map ((if L.length * e.size = 0 then #[] else zv.cells)[· % (if L.length * e.size = 0 then #[] else zv.cells).size]!)
     have hcs : cells.size = L.length * e.size := by simp [cells]
     obtain ⟨cells', g1, g2, _, g4, f, g5⟩ := fill_spec hF L 0 cells l hl (by rw [hcs]; simp)
     have g := Grew.alloc κ.w (.cells cells' et)
     have hex := imm_ext hI g
     refine ⟨κ.imm _, _, .slice (some ⟨κ.w.heap.size, 0, none⟩) L.length L.length, ?_, .inl rfl, rfl, imm_inv hI g, hex, ?_⟩
     ·have hfill : Instr.fill (fun i => some (i * e.size, e.size)) cells (L.map fun p => (p.1, G p.2)) = some cells' := g1
      simp only [cells] at hfill
      simp only [Instr.buildSlice, Sem.run_bind, run_underlying hu, Result.andThen_ok, run_sizeOf hs, gt_iff_lt, if_neg (show ¬ 2 ^ 24 < L.length * e.size by omega)]
      by_cases h0 : L.length * e.size = 0
      ·simp only [if_pos h0] at hfill ⊢
       simp only [Sem.run_bind, Sem.run_pure, Result.andThen_ok, hfill]
       simp [newRow, KS.imm]
      ·simp only [if_neg h0] at hfill ⊢
       simp only [Sem.run_bind, Sem.run_pure, Result.andThen_ok, zeroValue, typeInfo, run_program, hi1, hi2, hfill]
       simp [newRow, KS.imm]
     ·intro d' hd'
      cases hd'
      have hcell : ∀ i, i < l.length → ∀ j v, (f i)[j]? = some v → (κ.imm (κ.w.alloc (.cells cells' et))).w.cell? ⟨κ.w.heap.size, 0 + i * e.size + j, none⟩ = some v := by
       intro i hi j v hj
       have := (g5 i hi).2 j v hj
       simp only [Nat.zero_add] at this ⊢
       rw [ofBlock (κ := κ.imm (κ.w.alloc (.cells cells' et))) g.new]
       exact this
      rw [← g4]
      refine .tight e l _ κ.w.heap.size 0 f ?_ (.inr rfl) (fun i hi => (g5 i hi).1.mono hex.same) hcell
      intro hne hnil
      subst hnil
      simp at g4
      simp [← g4] at hne
    ·exact absurd h leads_bad
  ·exact absurd h leads_bad
end
end Go.AM
namespace Go.AM
set_option linter.unusedSectionVars false
variable [Glob]
section
variable {c : Ctx} {κ : KS}
theorem make_does {t : Nat} {x y : Option D} {v u : Value} {d : Option D} {st' : St} (hI : Inv κ) (hx : ∀ z, x = some z → RD κ z v) (hy : ∀ z, y = some z → RD κ z u)
  (h : (runCls (makeOp c t x y) κ.st).leads (d, st')) : Does c.P (do Pure.pure (.value (← Instr.makeSlice t v u))) κ d st' := by
 unfold makeOp at h
 split at h
 ·rename_i et k n k' m het hn hm
  have hu := elemT_spec het
  have := asInt_rd hn hx
  subst this
  have := asInt_rd hm hy
  subst this
  split at h
  ·rename_i e bytes hty hby
   split at h
   ·rename_i z hz
    cases hb : okTy c et e && Nat.blt 0 e.size with
    | false => rw [hb] at h; exact absurd h leads_bad
    | true =>
     rw [hb, cond_true] at h
     simp only [Bool.and_eq_true] at hb
     obtain ⟨hok, hsz⟩ := hb
     have hsz' : 0 < e.size := Nat.le_of_ble_eq_true hsz
     obtain ⟨hs, _⟩ := okTy_spec hok
     simp only [runCls, T.leads, Prod.mk.injEq] at h
     obtain ⟨⟨h0, h1, h2, h3⟩, rfl, rfl⟩ := h
     obtain ⟨i, zv, hi1, hi2, hi3⟩ := zeroOf_spec (κ := κ) hz
     obtain ⟨ib, hib1, hib2⟩ := bytesT_info hby
     obtain ⟨i', hi1', hi2'⟩ := sizeT_info hs
     rw [hi1] at hib1 hi1'
     cases hib1
     cases hi1'
     have hzs : zv.cells.size = e.size := by have := hi3.len; simpa using this
     let N := m.toNat * e.size
     let cells : Array Value := (Array.range N).map (zv.cells[· % zv.cells.size]!)
     have hcs : cells.size = N := by simp [cells]
     have hrun : (Instr.makeSlice t (.int k n) (.int k' m)).run c.P κ.w = .ok (.slice (some ⟨κ.w.heap.size, 0, none⟩) n.toNat m.toNat) (κ.w.alloc (.cells cells et)) := by
      have w1 : IntKind.i64.wrap n = n := IntWalk.i64_in _ (by omega)
      have w2 : IntKind.i64.wrap m = m := IntWalk.i64_in _ (by omega)
      have hmb : ¬ ((2 : Int) ^ 48 < bytes * m) := by
       have e1 : (m * bytes : Int) = bytes * m := Int.mul_comm _ _
       omega
      have ai : ∀ k n w, (Go.asInt (.int k n)).run c.P w = .ok n w := fun k n w => by simp [Go.asInt, asIntOf]
      have hm0 : ¬ (m < 0) := by omega
      have hn0 : ¬ (n < 0) := by omega
      have hnm : ¬ (m < n) := by omega
      simp only [Instr.makeSlice, Sem.run_bind, run_underlying hu, Result.andThen_ok, ai, typeInfo, run_program, hi1, hib2, w1, w2, Sem.run_pure, gt_iff_lt, hm0, hn0, hnm, hmb, decide_false, Bool.or_self, Bool.false_eq_true, if_false, run_askRoom, run_sizeOf hs]
      by_cases hz0 : m.toNat * e.size = 0
      ·have hce : cells = #[] := Array.eq_empty_of_size_eq_zero (by rw [hcs]; exact hz0)
       have e2 : ∀ g : Nat → Value, (Array.range (m.toNat * e.size)).map g = #[] := fun g => by rw [hz0]; simp
       simp only [if_pos hz0, Sem.run_bind, Sem.run_pure, Result.andThen_ok, newRow, run_newObj, e2]
       rw [hce]
       rfl
      ·simp only [if_neg hz0, Sem.run_bind, Sem.run_pure, Result.andThen_ok, newRow, run_newObj, zeroValue, typeInfo, run_program, hi1, hi2]
       rfl
     have g := Grew.alloc κ.w (.cells cells et)
     have hex := add_ext (n := N) (x := .arr n.toNat e (List.replicate n.toNat z)) hI g
     refine ⟨κ.add _ N (.arr n.toNat e (List.replicate n.toNat z)), _, .slice (some ⟨κ.w.heap.size, 0, none⟩) n.toNat m.toNat, by simp only [Sem.run_bind, hrun, Result.andThen_ok]; rfl, .inl rfl, rfl, add_inv hI g ?_, hex, ?_⟩
     ·refine ⟨hsz', .inr ⟨κ.w.heap.size, N, cells, et, add_ph hI, g.new, hcs, ?_, okTy_row hok, fun _ => zv.cells.toList, fun i hi => ?_⟩⟩
      ·rw [List.length_replicate]; exact Nat.mul_le_mul_right _ (by omega)
      ·rw [List.length_replicate] at hi
       refine ⟨by rw [List.getElem_replicate]; exact hi3.mono hex.same, fun j w hj => ?_⟩
       have hjl : j < e.size := by rw [← hi3.len]; exact (List.getElem?_eq_some_iff.1 hj).1
       have hlt : i * e.size + j < N := by
        have : i * e.size + e.size ≤ N := by rw [← Nat.succ_mul]; exact Nat.mul_le_mul_right _ (by omega)
        omega
       have hmod : (i * e.size + j) % e.size = j := by rw [Nat.mul_comm, Nat.mul_add_mod, Nat.mod_eq_of_lt hjl]
       simp only [cells, Array.getElem?_map, Array.getElem?_range, if_pos hlt, Option.map_some, hzs, hmod]
       have hj' : zv.cells[j]? = some w := by simpa using hj
       simp [getElem!_def, hj']
     ·intro d' hd'
      cases hd'
      refine .ms _ n.toNat e 0 n.toNat m.toNat _ (.inr ⟨n.toNat, e, _, add_st, Nat.le_refl _⟩) (by omega) nofun (fun p hp => by cases hp; rfl) fun xs hxs => ?_
      rw [add_st] at hxs
      cases hxs
      refine ⟨by simp, .inr ⟨κ.w.heap.size, N, 0, m.toNat, add_ph hI, rfl, by omega, by simp [N], .inr (by simp)⟩⟩
   ·exact absurd h leads_bad
  ·exact absurd h leads_bad
 ·exact absurd h leads_bad
end
end Go.AM
namespace Go.AM
set_option linter.unusedSectionVars false
variable [Glob]
section
variable {c : Ctx} {κ : KS}
def flatF (f : Nat → List Value) : Nat → List Value
 | 0 => []
 | n + 1 => flatF f n ++ f n
theorem flatF_len {f : Nat → List Value} {s : Nat} : ∀ {n : Nat}, (∀ i, i < n → (f i).length = s) → (flatF f n).length = n * s
 | 0, _ => by simp [flatF]
 | n + 1, h => by rw [flatF, List.length_append, flatF_len (fun i hi => h i (by omega)), h n (by omega), Nat.add_mul]; omega
theorem flatF_get {f : Nat → List Value} {s : Nat} : ∀ {n : Nat}, (∀ i, i < n → (f i).length = s) → ∀ i j, i < n → j < s → (flatF f n)[i * s + j]? = (f i)[j]?
 | 0, _, i, _, hi, _ => absurd hi (Nat.not_lt_zero i)
 | n + 1, h, i, j, hi, hj => by
  have hl := flatF_len (f := f) (n := n) (fun i hi => h i (by omega))
  rw [flatF]
  by_cases hin : i < n
  ·have : i * s + s ≤ n * s := by rw [← Nat.succ_mul]; exact Nat.mul_le_mul_right _ hin
   rw [List.getElem?_append_left (by omega)]
   exact flatF_get (fun i hi => h i (by omega)) i j hin hj
  ·have : i = n := by omega
   subst this
   rw [List.getElem?_append_right (by omega)]
   congr 1; omega
theorem flatF_one {f : Nat → List Value} : ∀ {n : Nat}, (∀ i, i < n → ∀ v ∈ f i, v.oneCell' = true) → ∀ v ∈ flatF f n, v.oneCell' = true
 | 0, _, v, hv => by simp [flatF] at hv
 | n + 1, h, v, hv => by
  rw [flatF, List.mem_append] at hv
  rcases hv with hv | hv
  ·exact flatF_one (fun i hi => h i (by omega)) v hv
  ·exact h n (by omega) v hv
theorem flatF_at {f : Nat → List Value} {s : Nat} {n p : Nat} {v : Value} (hs : 0 < s) (h : ∀ i, i < n → (f i).length = s) (hp : (flatF f n)[p]? = some v) : ∃ i j, i < n ∧ j < s ∧ p = i * s + j ∧ (f i)[j]? = some v := by
 have hlt := (List.getElem?_eq_some_iff.1 hp).1
 rw [flatF_len h] at hlt
 have hi : p / s < n := (Nat.div_lt_iff_lt_mul hs).2 hlt
 have hj := Nat.mod_lt p hs
 have he : p / s * s + p % s = p := Nat.div_add_mod' p s
 refine ⟨p / s, p % s, hi, hj, he.symm, ?_⟩
 rw [← flatF_get h _ _ hi hj, he]; exact hp
def okS (κ : KS) : Nat → Prop := fun k => κ.ok k ∨ ∃ b n : Nat, κ.ph[b]? = some (some (k, n))
structure Src (κ : KS) (e : Ty) (ys : List (den e)) (v : Value) : Prop where
 ex : ∃ (a : Option Addr) (cap : Nat) (f : Nat → List Value), v = .slice a ys.length cap ∧ ys.length ≤ cap ∧ (a = none → ys = [] ∧ cap = 0) ∧ (∀ i (hi : i < ys.length), Rc κ.w κ.ok e ys[i] (f i)) ∧
  ∀ p, a = some p → (ys = [] ∧ cap = 0) ∨ (p.spot = none ∧ okS κ p.block ∧ ∀ i, i < ys.length → ∀ j u, (f i)[j]? = some u → κ.w.cell? ⟨p.block, p.off + i * e.size + j, none⟩ = some u)
theorem src_imm {e : Ty} {ys : List (den e)} {v : Value} (h : RD κ (.imm (.sl e) ys) v) : Src κ e ys v := by
 rcases (h.imm_one rfl).sl_inv with ⟨rfl, a0, he⟩ | ⟨blk, off, cap, f, he, hok, hcap, h1, h2⟩
 ·cases he; exact ⟨⟨a0, 0, fun _ => [], rfl, Nat.le_refl _, fun _ => ⟨rfl, rfl⟩, fun i hi => absurd hi (Nat.not_lt_zero i), fun _ _ => .inl ⟨rfl, rfl⟩⟩⟩
 ·cases he; exact ⟨⟨some ⟨blk, off, none⟩, cap, f, rfl, hcap, nofun, h1, fun p hp => by cases hp; exact .inr ⟨rfl, .inl hok, h2⟩⟩⟩
theorem src_tight {e : Ty} {ys : List (den e)} {ne : Bool} {v : Value} (h : RD κ (.tight e ys ne) v) : Src κ e ys v := by
 cases h with
 | tightNil _ a0 => exact ⟨⟨a0, 0, fun _ => [], rfl, Nat.le_refl _, fun _ => ⟨rfl, rfl⟩, fun i hi => absurd hi (Nat.not_lt_zero i), fun _ _ => .inl ⟨rfl, rfl⟩⟩⟩
 | tight _ _ _ blk off f hne hok h1 h2 => exact ⟨⟨some ⟨blk, off, none⟩, _, f, rfl, Nat.le_refl _, nofun, h1, fun p hp => by cases hp; exact .inr ⟨rfl, .inl hok, h2⟩⟩⟩
theorem src_nil {e : Ty} {v : Value} (h : RD κ .nilsl v) : Src κ e [] v := by
 cases h; exact ⟨⟨none, 0, fun _ => [], rfl, Nat.le_refl _, fun _ => ⟨rfl, rfl⟩, fun i hi => absurd hi (Nat.not_lt_zero i), nofun⟩⟩
theorem src_ms {b ver off len : Nat} {e : Ty} {xs : List (den e)} {v : Value} (hI : Inv κ) (h : RD κ (.ms b ver e off len) v) (hb : κ.st[b]? = some (.arr ver e xs)) : Src κ e ((xs.take (off + len)).drop off) v ∧ off + len ≤ xs.length := by
 cases h with
 | ms _ _ _ _ _ cap a hold hcap ha hsp hm =>
  obtain ⟨hle, hm⟩ := hm xs hb
  have hl : ((xs.take (off + len)).drop off).length = len := by simp; omega
  have hg : ∀ i (hi : i < ((xs.take (off + len)).drop off).length), ∃ h : off + i < xs.length, ((xs.take (off + len)).drop off)[i] = xs[off + i] := fun i hi => ⟨by omega, by simp [List.getElem_drop, List.getElem_take]⟩
  refine ⟨?_, hle⟩
  rcases hm with ⟨rfl, rfl, hv, hp⟩ | ⟨blk, n, o, cap', h3, h4, h5, h6, h7⟩
  ·cases hv
   have : (xs.take (0 + 0)).drop 0 = [] := by simp
   rw [this]
   exact ⟨⟨none, 0, fun _ => [], rfl, Nat.le_refl _, fun _ => ⟨rfl, rfl⟩, fun i hi => absurd hi (Nat.not_lt_zero i), nofun⟩⟩
  ·cases h4
   obtain ⟨hsz, ⟨hnil, _⟩ | ⟨blk', n', cs, T, g1, g2, g3, g4, gr, f, g5⟩⟩ := hI.blk b _ hb
   ·subst hnil
    have e0 : off = 0 := by simp at hle; omega
    have e1 : len = 0 := by simp at hle; omega
    subst e0 e1
    refine ⟨⟨some ⟨blk, o, none⟩, cap, fun _ => [], rfl, by simp, nofun, fun i hi => absurd hi (by simp), fun p hp => by cases hp; exact .inr ⟨rfl, .inr ⟨b, n, h3⟩, fun i hi => absurd hi (by simp)⟩⟩⟩
   ·rw [h3] at g1
    cases g1
    refine ⟨⟨some ⟨blk, o, none⟩, cap, fun i => f (off + i), by rw [hl], by rw [hl]; exact hcap, nofun, fun i hi => ?_, fun p hp => ?_⟩⟩
    ·obtain ⟨k1, k2⟩ := hg i hi
     rw [k2]; exact (g5 _ k1).1
    ·cases hp
     refine .inr ⟨rfl, .inr ⟨b, n, h3⟩, fun i hi j u hj => ?_⟩
     obtain ⟨k1, _⟩ := hg i hi
     have := (g5 _ k1).2 j u hj
     rw [ofBlock g2]
     rcases h7 with h7 | h7
     ·omega
     ·rw [h7, ← Nat.add_mul]; exact this
theorem src_cells {e : Ty} {ys : List (den e)} {v : Value} (h : Src κ e ys v) (hsz : 0 < e.size) : ∃ (news : List Value) (f : Nat → List Value), news = flatF f ys.length ∧ (∀ i (hi : i < ys.length), Rc κ.w κ.ok e ys[i] (f i)) ∧
  (∀ P, (Builtin.lenOf v).run P κ.w = .ok ys.length κ.w) ∧ (∀ P, (Builtin.firstCells e.size ys.length v).run P κ.w = .ok news.toArray κ.w) ∧ (∀ P, (Builtin.firstCells e.size ys.length v).run P κ.w.drew = .ok news.toArray κ.w.drew) := by
 obtain ⟨a, cap, f, rfl, _, hn, h1, h2⟩ := h.ex
 have hf : ∀ i, i < ys.length → (f i).length = e.size := fun i hi => (h1 i hi).len
 refine ⟨flatF f ys.length, f, rfl, h1, fun P => rfl, fun P => ?_, fun P => ?_⟩
 all_goals
  cases a with
  | none => have := (hn rfl).1; subst this; simp [Builtin.firstCells, flatF]
  | some p =>
   rcases h2 p rfl with ⟨rfl, _⟩ | ⟨hp, _, hc⟩
   ·simp [Builtin.firstCells, flatF, loadCells, loadCellsFrom]
   obtain ⟨blk, o, sp⟩ := p
   simp only at hp
   subst hp
   refine run_firstCells_some (P := P) _ e.size ys.length ⟨blk, o, none⟩ ys.length cap (flatF f ys.length) (flatF_len hf) fun j u hj => ?_
   obtain ⟨i, k, hi, hk, rfl, hu⟩ := flatF_at hsz hf hj
   rw [addr_add]
   try rw [World.cell?_drew]
   have := hc i hi k u hu
   rwa [Nat.add_assoc] at this
structure Cel (κ : KS) (e : Ty) (ys : List (den e)) (v : Value) : Prop where
 ex : ∃ (news : List Value) (f : Nat → List Value), news = flatF f ys.length ∧ (∀ i (hi : i < ys.length), Rc κ.w κ.ok e ys[i] (f i)) ∧
  (∀ P, (Builtin.lenOf v).run P κ.w = .ok ys.length κ.w) ∧ (∀ P, (Builtin.firstCells e.size ys.length v).run P κ.w = .ok news.toArray κ.w) ∧ (∀ P, (Builtin.firstCells e.size ys.length v).run P κ.w.drew = .ok news.toArray κ.w.drew)
theorem src_cel {e : Ty} {ys : List (den e)} {v : Value} (h : Src κ e ys v) (hsz : 0 < e.size) : Cel κ e ys v := ⟨src_cells h hsz⟩
def SecT (c : Ctx) (t2 : TypeId) : Prop := (∃ e, c.P.underlying t2 = some (.slice e)) ∨ c.P.underlying t2 = some .string
section run
variable {t t2 e : TypeId} {i : TypeInfo} {z : Value} {sLen sCap n : Nat} {base : Option Addr} {x : Value} {news olds : List Value} {ty : TypeId}
theorem run_append_fits (ht : c.P.underlying t = some (.slice e)) (ht2 : SecT c t2) (hi : c.P.info? e = some i) (hlen : ∀ P, (Builtin.lenOf x).run P κ.w = .ok n κ.w) (hf : ∀ P, (Builtin.firstCells i.size n x).run P κ.w = .ok news.toArray κ.w)
  (hroom : sLen + n ≤ sCap) {w' : World} (hst : (match base with | some a => storeCells (a.add (sLen * i.size)) news | none => pure ()).run c.P κ.w = .ok () w') :
  (Builtin.append_ #[t, t2] ty #[.slice base sLen sCap, x]).run c.P κ.w = .ok (.slice base (sLen + n) sCap) w' := by
 rcases ht2 with ⟨e2, ht2⟩ | ht2
 all_goals cases base with
 | none => simp at hst; subst hst; simp [Builtin.append_, run_underlying ht, run_underlying ht2, sizeOf, typeInfo, hi, hlen, hroom, hf]
 | some a => simp only at hst; simp [Builtin.append_, run_underlying ht, run_underlying ht2, sizeOf, typeInfo, hi, hlen, hroom, hf, hst]
theorem run_append_new (ht : c.P.underlying t = some (.slice e)) (ht2 : SecT c t2) (hi : c.P.info? e = some i) (hz : i.zero = some z) (hlen : ∀ P, (Builtin.lenOf x).run P κ.w = .ok n κ.w) (hf : ∀ P, (Builtin.firstCells i.size n x).run P κ.w.drew = .ok news.toArray κ.w.drew)
  (ho : ∀ P, (Builtin.firstCells i.size sLen (.slice base sLen sCap)).run P κ.w.drew = .ok olds.toArray κ.w.drew)
  (hg : sCap < sLen + n) (h63 : ((sLen + n : Nat) : Int) ≤ 9223372036854775807) (hb : (sLen + n) * i.bytes ≤ 140737488355328) :
  (Builtin.append_ #[t, t2] ty #[.slice base sLen sCap, x]).run c.P κ.w = .ok (.slice (some ⟨κ.w.heap.size, 0, none⟩) (sLen + n) (grownCap κ.w (sLen + n) sCap e))
   (κ.w.drew.alloc (.cells (olds.toArray ++ news.toArray ++ Builtin.zeroCells z.cells (grownCap κ.w (sLen + n) sCap e - (sLen + n))) e)) := by
 have h1 : ¬ (sLen + n ≤ sCap) := by omega
 have h2 : ¬ (9223372036854775807 < ((sLen + n : Nat) : Int)) := by omega
 have h3 := growslice_fits (bytes := i.bytes) hg hb
 have h4 : ¬ (281474976710656 < Builtin.nextslicecap (sLen + n) sCap * i.bytes) := by omega
 have h5 : IntKind.i64.max = 9223372036854775807 := by decide
 rcases ht2 with ⟨e2, ht2⟩ | ht2
 all_goals
  simp [Builtin.append_, run_underlying ht, run_underlying ht2, sizeOf, typeInfo, zeroValue, hi, hz, hlen, h1, h5, h2, h4, hf, ho, Question.forced, newRow, grownCap]
  rw [if_neg (by omega), ← Array.append_assoc]
  simp
end run
theorem zeroCells_size (z : Array Value) (n : Nat) : (Builtin.zeroCells z n).size = n * z.size := by simp [Builtin.zeroCells]
theorem join_get {e : Ty} {l ys : List (den e)} {f g : Nat → List Value} (hl : ∀ i (hi : i < l.length), Rc κ.w κ.ok e l[i] (f i)) (hy : ∀ i (hi : i < ys.length), Rc κ.w κ.ok e ys[i] (g i)) (zs : List Value) :
  ∀ i (hi : i < (l ++ ys).length), Rc κ.w κ.ok e (l ++ ys)[i] (if i < l.length then f i else g (i - l.length)) ∧
   ∀ j v, (if i < l.length then f i else g (i - l.length))[j]? = some v → (flatF f l.length ++ flatF g ys.length ++ zs)[i * e.size + j]? = some v := by
 have hfl : ∀ i, i < l.length → (f i).length = e.size := fun i hi => (hl i hi).len
 have hgl : ∀ i, i < ys.length → (g i).length = e.size := fun i hi => (hy i hi).len
 have h1 := flatF_len hfl
 have h2 := flatF_len hgl
 intro i hi
 by_cases hil : i < l.length
 ·simp only [if_pos hil]
  refine ⟨by rw [List.getElem_append_left hil]; exact hl i hil, fun j v hj => ?_⟩
  have hjl : j < e.size := by rw [← hfl i hil]; exact (List.getElem?_eq_some_iff.1 hj).1
  have : i * e.size + e.size ≤ l.length * e.size := by rw [← Nat.succ_mul]; exact Nat.mul_le_mul_right _ hil
  rw [List.append_assoc, List.getElem?_append_left (by omega), flatF_get hfl i j hil hjl]
  exact hj
 ·simp only [if_neg hil]
  simp only [List.length_append] at hi
  have hil' : i - l.length < ys.length := by omega
  refine ⟨by rw [List.getElem_append_right (by omega)]; exact hy _ hil', fun j v hj => ?_⟩
  have hjl : j < e.size := by rw [← hgl _ hil']; exact (List.getElem?_eq_some_iff.1 hj).1
  have e1 : i * e.size = l.length * e.size + (i - l.length) * e.size := by rw [← Nat.add_mul]; congr 1; omega
  have : (i - l.length) * e.size + e.size ≤ ys.length * e.size := by rw [← Nat.succ_mul]; exact Nat.mul_le_mul_right _ hil'
  rw [List.append_assoc, List.getElem?_append_right (by omega), h1, List.getElem?_append_left (by omega)]
  rw [show i * e.size + j - l.length * e.size = (i - l.length) * e.size + j by omega, flatF_get hgl _ j hil' hjl]
  exact hj
theorem append_new {t t2 et : Nat} {e : Ty} {l ys : List (den e)} {sv v : Value} {bytes : Nat} {ty : Nat} (hI : Inv κ) (hu : c.P.underlying t = some (.slice et)) (hu2 : SecT c t2) (hok : okTy c et e = true) (hsz : 0 < e.size) (hby : bytesT c et = some bytes) (hz : ∃ y, zeroOf c et e = some y)
  (hs : Src κ e l sv) (hcap : ∃ a, sv = .slice a l.length l.length) (hv : Cel κ e ys v) (hne : ys ≠ []) (hb : (l.length + ys.length) * bytes ≤ 140737488355328) (hn : l.length + ys.length ≤ 9223372036854775807) :
  ∃ (κ' : KS) (r : Value), (Builtin.append_ #[t, t2] ty #[sv, v]).run c.P κ.w = .ok r κ'.w ∧ κ'.st = κ.st ++ [.arr (l.length + ys.length) e (l ++ ys)] ∧ Inv κ' ∧ Ext κ κ' ∧ RD κ' (.ms κ.st.length (l.length + ys.length) e 0 (l.length + ys.length)) r := by
 obtain ⟨hs1, _⟩ := okTy_spec hok
 obtain ⟨i, hi1, hi2⟩ := sizeT_info hs1
 obtain ⟨y, hy⟩ := hz
 obtain ⟨i', zv, g1, g2, g3⟩ := zeroOf_spec (κ := κ) hy
 obtain ⟨i'', k1, k2⟩ := bytesT_info hby
 rw [hi1] at g1 k1
 cases g1
 cases k1
 obtain ⟨olds, f, ho1, ho2, ho3, ho4, ho5⟩ := src_cells hs hsz
 obtain ⟨news, g, hn1, hn2, hn3, hn4, hn5⟩ := hv.ex
 obtain ⟨a, hsv⟩ := hcap
 subst hsv
 have hpos : 0 < ys.length := List.length_pos_iff.2 hne
 have hrun := run_append_new (c := c) (κ := κ) (t := t) (t2 := t2) (e := et) (ty := ty) (base := a) (sLen := l.length) (sCap := l.length) (n := ys.length) (x := v) (news := news) (olds := olds) hu hu2 hi1 g2 hn3
  (by intro P; rw [hi2]; exact hn5 P) (by intro P; rw [hi2]; exact ho5 P) (by omega) (by omega) (by rw [k2]; exact hb)
 let C := grownCap κ.w (l.length + ys.length) l.length et
 have hC : l.length + ys.length ≤ C := grownCap_ge _ _ _ _
 let zs := Builtin.zeroCells zv.cells (C - (l.length + ys.length))
 let cells := olds.toArray ++ news.toArray ++ zs
 have hzs : zs.size = (C - (l.length + ys.length)) * e.size := by have := g3.len; simp only [Array.length_toList] at this; simp [zs, zeroCells_size, this]
 have hol : olds.length = l.length * e.size := by rw [ho1]; exact flatF_len fun i hi => (ho2 i hi).len
 have hnl : news.length = ys.length * e.size := by rw [hn1]; exact flatF_len fun i hi => (hn2 i hi).len
 have hcs : cells.size = C * e.size := by
  simp only [cells, Array.size_append, List.size_toArray, hol, hnl, hzs, ← Nat.add_mul]
  congr 1; omega
 have gr := Grew.drew κ.w (.cells cells et)
 have hex := add_ext (n := cells.size) (x := .arr (l.length + ys.length) e (l ++ ys)) hI gr
 refine ⟨κ.add _ cells.size (.arr (l.length + ys.length) e (l ++ ys)), _, hrun, rfl, add_inv hI gr ?_, hex, ?_⟩
 ·refine ⟨hsz, .inr ⟨κ.w.heap.size, cells.size, cells, et, add_ph hI, gr.new, rfl, ?_, okTy_row hok, fun i => if i < l.length then f i else g (i - l.length), fun i hi => ?_⟩⟩
  ·rw [hcs, List.length_append]; exact Nat.mul_le_mul_right _ hC
  ·obtain ⟨q1, q2⟩ := join_get ho2 hn2 zs.toList i hi
   refine ⟨q1.mono hex.same, fun j v hj => ?_⟩
   have := q2 j v hj
   rw [← ho1, ← hn1] at this
   rw [← Array.getElem?_toList]
   simpa [cells] using this
 ·refine .ms _ (l.length + ys.length) e 0 _ C _ (.inr ⟨l.length + ys.length, e, _, add_st, Nat.le_refl _⟩) hC nofun (fun p hp => by cases hp; rfl) fun xs hxs => ?_
  rw [add_st] at hxs
  cases hxs
  exact ⟨by simp, .inr ⟨κ.w.heap.size, cells.size, 0, C, add_ph hI, rfl, hC, by rw [hcs]; simp, .inr (by simp)⟩⟩
def KS.re (κ : KS) (w' : World) (b n : Nat) (x : Blk) : KS := { κ with w := w', ph := κ.ph.set b (some (κ.w.heap.size, n)), st := κ.st.set b x }
theorem re_ext {w' : World} {o : Obj} {b n v0 v1 : Nat} {e : Ty} {xs ys : List (den e)} (hI : Inv κ) (g : Grew κ.w w' o) (hb : κ.st[b]? = some (.arr v0 e xs)) (hv : v0 < v1) : Ext κ (κ.re w' b n (.arr v1 e ys)) := by
 have hlt : b < κ.st.length := (List.getElem?_eq_some_iff.1 hb).1
 have hlt' : b < κ.ph.length := by rw [hI.len]; exact hlt
 refine ⟨g.os, g.tape, g.output, by show κ.w.heap.size ≤ w'.heap.size; rw [g.size]; omega, fun k hk => ⟨hk, g.old (hI.okLt k hk)⟩, fun k hk => .inl hk, ?_, ?_, ?_, ?_, by simp [KS.re], fun k hk _ => g.old hk⟩
 ·intro b' blk m h
  simp only [KS.re, List.getElem?_set] at h
  split at h
  ·cases h
   exact .inr (Nat.le_refl _)
  ·exact .inl h
 ·intro b' d hd
  have hne : b ≠ b' := fun e => by subst e; rw [hb] at hd; cases hd
  simp only [KS.re, List.getElem?_set, if_neg hne]
  exact ⟨⟨d, hd⟩, trivial⟩
 ·intro b' u0 e' zs hd
  refine .inr ?_
  simp only [KS.re, List.getElem?_set]
  split
  ·rename_i e1
   subst e1
   rw [hb] at hd
   cases hd
   exact ⟨v1, ys, rfl, by omega, fun h => absurd h (by omega)⟩
  ·exact ⟨u0, zs, hd, Nat.le_refl _, fun _ => ⟨rfl, rfl⟩⟩
 ·intro b' hd
  have hne : b ≠ b' := fun e => by subst e; rw [hb] at hd; cases hd
  simp only [KS.re, List.getElem?_set, if_neg hne]
  exact hd
theorem re_inv {w' : World} {o : Obj} {b n v0 v1 : Nat} {e : Ty} {xs ys : List (den e)} (hI : Inv κ) (g : Grew κ.w w' o) (hb : κ.st[b]? = some (.arr v0 e xs)) (hv : v0 < v1)
  (hx : BlkRel (κ.re w' b n (.arr v1 e ys)) b (.arr v1 e ys)) : Inv (κ.re w' b n (.arr v1 e ys)) := by
 have hlt : b < κ.st.length := (List.getElem?_eq_some_iff.1 hb).1
 have hlt' : b < κ.ph.length := by rw [hI.len]; exact hlt
 have hold : ∀ (b' blk m : Nat), (κ.ph.set b (some (κ.w.heap.size, n)))[b']? = some (some (blk, m)) → (b ≠ b' ∧ κ.ph[b']? = some (some (blk, m))) ∨ (b = b' ∧ blk = κ.w.heap.size) := by
  intro b' blk m h
  simp only [List.getElem?_set] at h
  split at h
  ·rename_i e1
   cases h
   exact .inr ⟨e1, rfl⟩
  ·rename_i e1
   exact .inl ⟨e1, h⟩
 refine ⟨by simp [KS.re, hI.len], ?_, ?_, ?_, ?_, hI.gl.mono (re_ext (n := n) (ys := ys) hI g hb hv).same⟩
 ·intro k hk; have := hI.okLt k hk; show k < w'.heap.size; rw [g.size]; omega
 ·intro b' blk m h
  rcases hold b' blk m h with ⟨_, h⟩ | ⟨rfl, rfl⟩
  ·obtain ⟨h1, h2⟩ := hI.apart b' blk m h
   exact ⟨by show blk < w'.heap.size; rw [g.size]; omega, h2⟩
  ·exact ⟨by show κ.w.heap.size < w'.heap.size; rw [g.size]; omega, fun hk => absurd (hI.okLt _ hk) (Nat.lt_irrefl _)⟩
 ·intro b1 b2 blk m m' h h'
  rcases hold b1 blk m h with ⟨_, h⟩ | ⟨rfl, rfl⟩ <;> rcases hold b2 _ m' h' with ⟨_, h'⟩ | ⟨rfl, h''⟩
  ·exact hI.inj b1 b2 blk m m' h h'
  ·have := (hI.apart b1 blk m h).1; omega
  ·have := (hI.apart b2 _ m' h').1; omega
  ·rfl
 ·intro b' y hy
  simp only [KS.re, List.getElem?_set] at hy
  split at hy
  ·rename_i e1
   subst e1
   cases hy
   exact hx
  ·rename_i e1
   refine (hI.blk b' y hy).mono (re_ext hI g hb hv) ?_ fun blk m h => g.old (hI.apart b' blk m h).1
   simp only [KS.re, List.getElem?_set, if_neg e1]
theorem set_same {α : Type} {l : List α} {i : Nat} {a : α} (h : l[i]? = some a) : l.set i a = l := by
 apply List.ext_getElem?
 intro j
 rw [List.getElem?_set]
 split
 ·rename_i e
  subst e
  rw [if_pos (List.getElem?_eq_some_iff.1 h).1, h]
 ·rfl
theorem append_ms {t t2 et b ver len : Nat} {e : Ty} {xs ys : List (den e)} {sv v : Value} {bytes : Nat} {ty : Nat} (hI : Inv κ) (hu : c.P.underlying t = some (.slice et)) (hu2 : SecT c t2) (hok : okTy c et e = true) (hsz : 0 < e.size) (hby : bytesT c et = some bytes)
  (hz : ∃ y, zeroOf c et e = some y) (hs : RD κ (.ms b ver e 0 len) sv) (hb : κ.st[b]? = some (.arr ver e xs)) (hlen : len = xs.length) (hv : Cel κ e ys v) (hbb : (xs.length + ys.length) * bytes ≤ 140737488355328)
  (hn : xs.length + ys.length ≤ 9223372036854775807) :
  ∃ (κ' : KS) (r : Value), (Builtin.append_ #[t, t2] ty #[sv, v]).run c.P κ.w = .ok r κ'.w ∧ κ'.st = κ.st.set b (.arr (ver + ys.length) e (xs ++ ys)) ∧ Inv κ' ∧ Ext κ κ' ∧ RD κ' (.ms b (ver + ys.length) e 0 (len + ys.length)) r := by
 subst hlen
 have hlt : b < κ.st.length := (List.getElem?_eq_some_iff.1 hb).1
 have hlt' : b < κ.ph.length := by rw [hI.len]; exact hlt
 obtain ⟨hs1, _⟩ := okTy_spec hok
 obtain ⟨i, hi1, hi2⟩ := sizeT_info hs1
 obtain ⟨y, hy⟩ := hz
 obtain ⟨i', zv, g1, g2, g3⟩ := zeroOf_spec (κ := κ) hy
 obtain ⟨i'', k1, k2⟩ := bytesT_info hby
 rw [hi1] at g1 k1
 cases g1
 cases k1
 have hsrc := (src_ms hI hs hb).1
 simp only [Nat.zero_add, List.take_length, List.drop_zero] at hsrc
 obtain ⟨olds, f, ho1, ho2, ho3, ho4, ho5⟩ := src_cells hsrc hsz
 obtain ⟨news, g, hn1, hn2, hn3, hn4, hn5⟩ := hv.ex
 have hol : olds.length = xs.length * e.size := by rw [ho1]; exact flatF_len fun i hi => (ho2 i hi).len
 have hnl : news.length = ys.length * e.size := by rw [hn1]; exact flatF_len fun i hi => (hn2 i hi).len
 have hnone : ∀ u ∈ news, u.oneCell' = true := by rw [hn1]; exact flatF_one fun i hi => (hn2 i hi).one
 cases hs with
 | ms _ _ _ _ _ cap a hold hcap ha hsp hm =>
  obtain ⟨hle, hm⟩ := hm xs hb
  by_cases hroom : xs.length + ys.length ≤ cap
  ·-- there is room
   rcases hm with ⟨h1, _, hv', hp⟩ | ⟨blk, n, o, cap', h3, h4, h5, h6, h7⟩
   ·simp only [Value.slice.injEq] at hv'
    obtain ⟨rfl, hxl, rfl⟩ := hv'
    have hx0 : xs = [] := List.eq_nil_of_length_eq_zero h1
    have hy0 : ys = [] := List.eq_nil_of_length_eq_zero (by omega)
    subst hx0 hy0
    refine ⟨κ, .slice none 0 0, ?_, ?_, hI, Ext.refl κ, .ms b ver e 0 0 0 none hold (Nat.le_refl _) (fun _ => rfl) nofun fun zs hzs => ?_⟩
    ·have hn0 : news = [] := List.eq_nil_of_length_eq_zero (by simpa using hnl)
     subst hn0
     exact run_append_fits (c := c) (κ := κ) (t := t) (t2 := t2) (e := et) (ty := ty) (base := none) (sLen := 0) (sCap := 0) (n := 0) (x := v) (news := []) hu hu2 hi1 hn3 (by intro P; rw [hi2]; exact hn4 P) (by omega) rfl
    ·simp only [List.length_nil, Nat.add_zero, List.append_nil]
     rw [set_same hb]
    ·rw [hb] at hzs
     cases hzs
     exact ⟨Nat.le_refl _, .inl ⟨rfl, rfl, rfl, hp⟩⟩
   ·cases h4
    obtain ⟨_, ⟨hnil, hpn⟩ | ⟨blk', n', cs, T, p1, p2, p3, p4, pr, F, p5⟩⟩ := hI.blk b _ hb
    ·rw [h3] at hpn; cases hpn
    ·rw [h3] at p1
     cases p1
     have ho : xs.length + ys.length = 0 ∨ o = 0 := by
      rcases h7 with h7 | h7
      ·exact .inl (by omega)
      ·exact .inr (by simpa using h7)
     have hcapn : cap * e.size ≤ cs.size := by rw [p3]; simpa using h6
     have hfit : xs.length * e.size + ys.length * e.size ≤ cs.size := by
      rw [← Nat.add_mul]; exact Nat.le_trans (Nat.mul_le_mul_right _ hroom) hcapn
     let cs' := (cs.toList.take (xs.length * e.size) ++ news ++ cs.toList.drop (xs.length * e.size + news.length)).toArray
     have hcl : cs.toList.length = cs.size := by simp
     have hcs' : cs'.size = cs.size := by simp only [cs', List.size_toArray, List.length_append, List.length_take, List.length_drop, hnl, hcl]; omega
     have hoa : ∀ m, (⟨blk, o, none⟩ : Addr).add (xs.length * e.size) = ⟨blk, xs.length * e.size, none⟩ ∨ m = 0 ∨ xs.length + ys.length = 0 := by
      intro m
      rcases ho with h | h
      ·exact .inr (.inr h)
      ·subst h; rw [addr_add, Nat.zero_add]; exact .inl rfl
     have hst : (storeCells ((⟨blk, o, none⟩ : Addr).add (xs.length * i.size)) news).run c.P κ.w = .ok () (κ.w.setRow blk cs') := by
      rw [hi2]
      rcases hoa 1 with h | h | h
      ·rw [h]
       have := run_storeCells_at c.P blk (xs.length * e.size) T news 0 cs κ.w p2 (by rw [hnl]; omega) hnone
       simpa only [Nat.add_zero] using this
      ·cases h
      ·have hn0 : news = [] := List.eq_nil_of_length_eq_zero (by rw [hnl, show ys.length = 0 by omega]; simp)
       have hx0 : xs.length = 0 := by omega
       have hce : cs' = cs := by simp [cs', hn0, hx0]
       rw [hn0, hce, setRow_self _ _ _ _ _ p2]
       rfl
     have hal : Alike (.arr ver e xs) (.arr (ver + ys.length) e (xs ++ ys)) := ⟨rfl, by omega, fun h => by rw [List.length_append]; omega⟩
     have hex := upd_ext (cs := cs') (x := .arr (ver + ys.length) e (xs ++ ys)) hI h3 hb hal
     refine ⟨κ.upd b blk cs' (.arr (ver + ys.length) e (xs ++ ys)), .slice (some ⟨blk, o, none⟩) (xs.length + ys.length) cap, ?_, rfl, upd_inv hI h3 hb hal ?_, hex, ?_⟩
     ·exact run_append_fits (c := c) (κ := κ) (t := t) (t2 := t2) (e := et) (ty := ty) (base := some ⟨blk, o, none⟩) (sLen := xs.length) (sCap := cap) (n := ys.length) (x := v) (news := news) hu hu2 hi1 hn3 (by intro P; rw [hi2]; exact hn4 P) hroom hst
     ·refine ⟨hsz, .inr ⟨blk, n, cs', T, h3, setRow_heap _ _ _ _ _ _ p2, by rw [hcs']; exact p3, ?_, pr, fun i => if i < xs.length then F i else g (i - xs.length), fun i hi => ?_⟩⟩
      ·rw [List.length_append]; exact Nat.le_trans (Nat.mul_le_mul_right _ hroom) (by simpa using h6)
      ·have hF : ∀ i (hi : i < xs.length), Rc κ.w κ.ok e xs[i] (F i) := fun i hi => (p5 i hi).1
       have hlenF : ∀ i, i < xs.length → (F i).length = e.size := fun i hi => (hF i hi).len
       have htake : cs.toList.take (xs.length * e.size) = flatF F xs.length := by
        apply List.ext_getElem?
        intro p
        rw [List.getElem?_take]
        have hfl := flatF_len hlenF
        split
        ·rename_i hp
         obtain ⟨q, hq⟩ : ∃ q, (flatF F xs.length)[p]? = some q := ⟨_, List.getElem?_eq_getElem (by rw [hfl]; exact hp)⟩
         obtain ⟨i', j', a1, a2, a3, a4⟩ := flatF_at hsz hlenF hq
         rw [hq]
         have := (p5 i' a1).2 j' q a4
         rw [a3, Array.getElem?_toList]; exact this
        ·rename_i hp
         rw [List.getElem?_eq_none (by rw [hfl]; omega)]
       obtain ⟨q1, q2⟩ := join_get hF hn2 (cs.toList.drop (xs.length * e.size + news.length)) i hi
       refine ⟨q1.mono hex.same, fun j w hj => ?_⟩
       have := q2 j w hj
       rw [← hn1, ← htake] at this
       simpa only [cs', List.getElem?_toArray] using this
     ·refine .ms b _ e 0 _ cap _ (.inr ⟨ver + ys.length, e, xs ++ ys, by simp [KS.upd, hlt], Nat.le_refl _⟩) hroom nofun (fun p hp => by cases hp; rfl) fun zs hzs => ?_
      have : zs = xs ++ ys := by simp only [KS.upd, List.getElem?_set_self hlt] at hzs; cases hzs; rfl
      subst this
      refine ⟨by simp, .inr ⟨blk, n, o, cap, h3, rfl, hroom, by simpa using h6, ?_⟩⟩
      rcases h7 with h7 | h7
      ·exact .inl h7
      ·exact .inr (by simpa using h7)
  ·-- it grows
   have hpos : 0 < ys.length := by omega
   have hrun := run_append_new (c := c) (κ := κ) (t := t) (t2 := t2) (e := et) (ty := ty) (base := a) (sLen := xs.length) (sCap := cap) (n := ys.length) (x := v) (news := news) (olds := olds) hu hu2 hi1 g2 hn3
    (by intro P; rw [hi2]; exact hn5 P) (by intro P; rw [hi2]; exact ho5 P) (by omega) (by omega) (by rw [k2]; exact hbb)
   let C := grownCap κ.w (xs.length + ys.length) cap et
   have hC : xs.length + ys.length ≤ C := grownCap_ge _ _ _ _
   let zs := Builtin.zeroCells zv.cells (C - (xs.length + ys.length))
   let cells := olds.toArray ++ news.toArray ++ zs
   have hzs : zs.size = (C - (xs.length + ys.length)) * e.size := by have := g3.len; simp only [Array.length_toList] at this; simp [zs, zeroCells_size, this]
   have hcs : cells.size = C * e.size := by
    simp only [cells, Array.size_append, List.size_toArray, hol, hnl, hzs, ← Nat.add_mul]
    congr 1; omega
   have gr := Grew.drew κ.w (.cells cells et)
   have hlt1 : ver < ver + ys.length := by omega
   have hex := re_ext (n := cells.size) (ys := xs ++ ys) hI gr hb hlt1
   refine ⟨κ.re _ b cells.size (.arr (ver + ys.length) e (xs ++ ys)), _, hrun, rfl, re_inv hI gr hb hlt1 ?_, hex, ?_⟩
   ·refine ⟨hsz, .inr ⟨κ.w.heap.size, cells.size, cells, et, by simp [KS.re, hlt'], gr.new, rfl, ?_, okTy_row hok, fun i => if i < xs.length then f i else g (i - xs.length), fun i hi => ?_⟩⟩
    ·rw [hcs, List.length_append]; exact Nat.mul_le_mul_right _ hC
    ·obtain ⟨q1, q2⟩ := join_get ho2 hn2 zs.toList i hi
     refine ⟨q1.mono hex.same, fun j v hj => ?_⟩
     have := q2 j v hj
     rw [← ho1, ← hn1] at this
     rw [← Array.getElem?_toList]
     simpa [cells] using this
   ·refine .ms b _ e 0 _ C _ (.inr ⟨ver + ys.length, e, xs ++ ys, by simp [KS.re, hlt], Nat.le_refl _⟩) hC nofun (fun p hp => by cases hp; rfl) fun us hus => ?_
    have : us = xs ++ ys := by simp only [KS.re, List.getElem?_set_self hlt] at hus; cases hus; rfl
    subst this
    exact ⟨by simp, .inr ⟨κ.w.heap.size, cells.size, 0, C, by simp [KS.re, hlt'], rfl, hC, by rw [hcs]; simp, .inr (by simp)⟩⟩
end
end Go.AM
namespace Go.AM
set_option linter.unusedSectionVars false
variable [Glob]
section
variable {c : Ctx} {κ : KS}
theorem snap1_spec {x y : D} {v : Value} (hI : Inv κ) (hx : RD κ x v) (h : (snap1 κ.st x).leads y) : (y = x ∧ ∀ b ver e off len, x ≠ .ms b ver e off len) ∨ ∃ (e : Ty) (ys : List (den e)), y = .imm (.sl e) ys ∧ Src κ e ys v ∧ ∃ b ver off len, x = .ms b ver e off len := by
 cases x with
 | ms b ver e off len =>
  simp only [snap1] at h
  split at h
  ·rename_i ver' e' xs hb
   split at h
   ·rename_i he
    subst he
    obtain ⟨rfl, h⟩ := h
    refine .inr ⟨e', _, h.symm, (src_ms hI hx hb).1, b, ver, off, len, rfl⟩
   ·exact h.elim
  ·exact h.elim
 | _ => exact .inl ⟨h.symm, fun _ _ _ _ _ => nofun⟩
theorem appendTo_does {t t2 et : Nat} {e : Ty} {s : D} {ys : List (den e)} {ne : Bool} {sv v : Value} {bytes ty : Nat} {d : Option D} {st' : St} (hI : Inv κ) (hu : c.P.underlying t = some (.slice et)) (hu2 : SecT c t2) (hok : okTy c et e = true) (hsz : 0 < e.size)
  (hby : bytesT c et = some bytes) (hb0 : 0 < bytes) (hz : ∃ y, zeroOf c et e = some y) (hs : RD κ s sv) (hv : Cel κ e ys v) (hne : ne = true → ys ≠ [])
  (h : (appendTo e s ys ne bytes κ.st).leads (d, st')) :
  ∃ (κ' : KS) (r : Value), (Builtin.append_ #[t, t2] ty #[sv, v]).run c.P κ.w = .ok r κ'.w ∧ κ'.st = st' ∧ Inv κ' ∧ Ext κ κ' ∧ ∀ d', d = some d' → RD κ' d' r := by
 have hlen : ∀ n, n * bytes ≤ 140737488355328 → n ≤ 9223372036854775807 := fun n hn => Nat.le_trans (Nat.le_mul_of_pos_right n hb0) (Nat.le_trans hn (by decide))
 -- nothing is appended
 have same : ∀ (a : Option Addr) (n cap : Nat), sv = .slice a n cap → n ≤ cap → ys = [] → d = some s → st' = κ.st →
   ∃ (κ' : KS) (r : Value), (Builtin.append_ #[t, t2] ty #[sv, v]).run c.P κ.w = .ok r κ'.w ∧ κ'.st = st' ∧ Inv κ' ∧ Ext κ κ' ∧ ∀ d', d = some d' → RD κ' d' r := by
  rintro a n cap rfl hcap rfl rfl rfl
  obtain ⟨hs1, _⟩ := okTy_spec hok
  obtain ⟨i, hi1, hi2⟩ := sizeT_info hs1
  obtain ⟨news, g, hn1, hn2, hn3, hn4, hn5⟩ := hv.ex
  have hn0 : news = [] := hn1
  subst hn0
  refine ⟨κ, .slice a n cap, ?_, rfl, hI, Ext.refl κ, fun d' he => by cases he; exact hs⟩
  have := run_append_fits (c := c) (κ := κ) (t := t) (t2 := t2) (e := et) (ty := ty) (base := a) (sLen := n) (sCap := cap) (n := 0) (x := v) (news := []) (i := i) hu hu2 hi1 hn3 (by intro P; rw [hi2]; exact hn4 P) (by omega) (w' := κ.w) (by cases a <;> rfl)
  simpa using this
 have new : ∀ l : List (den e), Src κ e l sv → (∃ a, sv = .slice a l.length l.length) → ys ≠ [] → (appendNew e l ys bytes κ.st).leads (d, st') →
   ∃ (κ' : KS) (r : Value), (Builtin.append_ #[t, t2] ty #[sv, v]).run c.P κ.w = .ok r κ'.w ∧ κ'.st = st' ∧ Inv κ' ∧ Ext κ κ' ∧ ∀ d', d = some d' → RD κ' d' r := by
  intro l hl hcap hne h
  obtain ⟨hb, h⟩ := h
  cases h
  obtain ⟨κ', r, h1, h2, h3, h4, h5⟩ := append_new (ty := ty) hI hu hu2 hok hsz hby hz hl hcap hv hne hb (hlen _ hb)
  exact ⟨κ', r, h1, h2, h3, h4, fun d' he => by cases he; exact h5⟩
 unfold appendTo at h
 split at h
 ·have hsv : sv = .slice none 0 0 := by cases hs; rfl
  cases hn : ne with
  | true => rw [hn, cond_true] at h; exact new [] (src_nil hs) ⟨none, hsv⟩ (hne hn) h
  | false =>
   rw [hn, cond_false] at h
   rcases h with ⟨hy, h⟩ | ⟨hy, h⟩
   ·cases h; exact same none 0 0 hsv (Nat.le_refl _) (List.isEmpty_iff.1 hy) rfl rfl
   ·exact new [] (src_nil hs) ⟨none, hsv⟩ (fun e => by rw [e] at hy; cases hy) h
 ·rename_i e' l ne'
  split at h
  ·rename_i l' hl'
   obtain ⟨he, hl''⟩ := castTy_some hl'
   cases he
   simp only at hl''
   subst hl''
   have hsv : ∃ a, sv = .slice a l'.length l'.length := by
    cases hs with
    | tightNil => exact ⟨_, rfl⟩
    | tight => exact ⟨_, rfl⟩
   cases hn : ne with
   | true => rw [hn, cond_true] at h; exact new l' (src_tight hs) hsv (hne hn) h
   | false =>
    rw [hn, cond_false] at h
    rcases h with ⟨hy, h⟩ | ⟨hy, h⟩
    ·cases h
     obtain ⟨a, ha⟩ := hsv
     exact same a _ _ ha (Nat.le_refl _) (List.isEmpty_iff.1 hy) rfl rfl
    ·exact new l' (src_tight hs) hsv (fun e => by rw [e] at hy; cases hy) h
  ·exact h.elim
 ·rename_i b ver e' off len
  split at h
  ·rename_i ver' e'' xs hb
   split at h
   ·rename_i xs' hx'
    obtain ⟨he, hx''⟩ := castTy_some hx'
    cases he
    simp only at hx''
    subst hx''
    cases hde : decide (e' = _) with
    | false => rw [hde] at h; exact h.elim
    | true =>
     rw [hde, cond_true] at h
     have := of_decide_eq_true hde
     subst this
     obtain ⟨⟨rfl, rfl, hl, hbb⟩, h⟩ := h
     cases h
     obtain ⟨κ', r, h1, h2, h3, h4, h5⟩ := append_ms (ty := ty) hI hu hu2 hok hsz hby hz hs hb hl hv hbb (hlen _ hbb)
     exact ⟨κ', r, h1, h2, h3, h4, fun d' he => by cases he; exact h5⟩
   ·exact h.elim
  ·exact h.elim
 ·exact h.elim
theorem append_does {t ty : Nat} {s x : Option D} {sv v : Value} {d : Option D} {st' : St} (hI : Inv κ) (hs : ∀ z, s = some z → RD κ z sv) (hx : ∀ z, x = some z → RD κ z v)
  (h : (runCls (appendOp c t s x) κ.st).leads (d, st')) : Does c.P (do Pure.pure (.value (← Builtin.append_ #[t, t] ty #[sv, v]))) κ d st' := by
 unfold appendOp at h
 split at h
 ·exact absurd h leads_bad
 ·rename_i et het
  have hu := elemT_spec het
  split at h
  ·rename_i e bytes hty hby
   cases hb : okTy c et e && Nat.blt 0 e.size && Nat.blt 0 bytes && (zeroOf c et e).isSome with
   | false => rw [hb] at h; exact absurd h leads_bad
   | true =>
    rw [hb, cond_true] at h
    simp only [Bool.and_eq_true] at hb
    obtain ⟨⟨⟨hok, h1⟩, h2⟩, h3⟩ := hb
    have hsz : 0 < e.size := Nat.le_of_ble_eq_true h1
    have hb0 : 0 < bytes := Nat.le_of_ble_eq_true h2
    have hz := Option.isSome_iff_exists.1 h3
    split at h
    ·rename_i s x
     simp only [runCls, T.leads_bind] at h
     obtain ⟨y, hy, h⟩ := h
     have fin : ∀ (ys : List (den e)) (ne : Bool), Src κ e ys v → (ne = true → ys ≠ []) → (appendTo e s ys ne bytes κ.st).leads (d, st') → Does c.P (do Pure.pure (.value (← Builtin.append_ #[t, t] ty #[sv, v]))) κ d st' := by
      intro ys ne hv hne h
      obtain ⟨κ', r, g1, g2, g3, g4, g5⟩ := appendTo_does (t2 := t) (ty := ty) hI hu (.inl ⟨et, hu⟩) hok hsz hby hb0 hz (hs _ rfl) (src_cel hv hsz) hne h
      exact ⟨κ', .value r, r, by simp only [Sem.run_bind, g1, Result.andThen_ok]; rfl, .inl rfl, g2, g3, g4, g5⟩
     have hxv := hx _ rfl
     rcases snap1_spec hI hxv hy with ⟨rfl, hnm⟩ | ⟨e', ys, rfl, hsrc, _⟩
     ·split at h
      ·rename_i σ z
       split at h
       ·rename_i ys hys
        obtain ⟨he, hz'⟩ := castTy_some hys
        cases he
        simp only at hz'
        subst hz'
        exact fin _ false (src_imm hxv) nofun h
       ·exact h.elim
      ·rename_i σ z ne
       split at h
       ·rename_i ys hys
        obtain ⟨he, hz'⟩ := castTy_some hys
        cases he
        simp only at hz'
        subst hz'
        refine fin _ ne (src_tight hxv) (fun hne => ?_) h
        cases hxv with
        | tightNil => cases hne
        | tight _ _ _ _ _ _ q => exact q hne
       ·exact h.elim
      ·exact fin [] false (src_nil hxv) nofun h
      ·exact h.elim
     ·simp only at h
      split at h
      ·rename_i ys' hys
       obtain ⟨he, hz'⟩ := castTy_some hys
       cases he
       simp only at hz'
       subst hz'
       exact fin _ false hsrc nofun h
      ·exact h.elim
    ·exact absurd h leads_bad
  ·exact absurd h leads_bad
theorem str_cel {l : Str} {v : Value} (h : RD κ (.imm .str l) v) : Cel κ (.int .u8) (bytesOf l) v := by
 have hv := h.str_inv
 subst hv
 have hl : (bytesOf l).length = l.length := by simp [bytesOf]
 have hsz : (⟨l.toArray⟩ : ByteArray).size = l.length := List.size_toArray
 refine ⟨Lib.strCells ⟨l.toArray⟩, fun i => [.int .u8 ((bytesOf l)[i]?.getD 0)], ?_, fun i hi => ?_, fun P => ?_, fun P => ?_, fun P => ?_⟩
 ·have gen : ∀ (n : Nat), n ≤ l.length → flatF (fun i => [Value.int .u8 ((bytesOf l)[i]?.getD 0)]) n = (l.take n).map fun b => Value.int .u8 b.toNat := by
   intro n
   induction n with
   | zero => intro _; rfl
   | succ n ih =>
    intro hn
    have hlt : n < l.length := hn
    rw [flatF, ih (by omega), List.take_succ_eq_append_getElem hlt, List.map_append]
    simp [bytesOf, List.getElem?_eq_getElem hlt]
  rw [hl, gen _ (Nat.le_refl _), List.take_length]
  rfl
 ·have : (bytesOf l)[i]?.getD 0 = (bytesOf l)[i] := by rw [List.getElem?_eq_getElem hi]; rfl
  show Rc κ.w κ.ok (.int .u8) (bytesOf l)[i] [Value.int .u8 ((bytesOf l)[i]?.getD 0)]
  rw [this]
  exact .int .u8 _
 ·show (pure (⟨l.toArray⟩ : ByteArray).size : Sem Nat).run P κ.w = _
  rw [hsz, hl]; rfl
 ·rw [hl, ← hsz]; exact Lib.run_firstCells_string _ _ _
 ·rw [hl, ← hsz]; exact Lib.run_firstCells_string _ _ _
theorem appendStr_does {t t2 ty : Nat} {s x : Option D} {sv v : Value} {d : Option D} {st' : St} (hI : Inv κ) (hs : ∀ z, s = some z → RD κ z sv) (hx : ∀ z, x = some z → RD κ z v)
  (h : (runCls (appendStr c t t2 s x) κ.st).leads (d, st')) : Does c.P (do Pure.pure (.value (← Builtin.append_ #[t, t2] ty #[sv, v]))) κ d st' := by
 unfold appendStr at h
 split at h
 ·exact absurd h leads_bad
 ·rename_i et het
  have hu := elemT_spec het
  split at h
  ·rename_i bytes hty hby hu2
   cases hb : okTy c et (.int .u8) && Nat.blt 0 bytes && (zeroOf c et (.int .u8)).isSome with
   | false => rw [hb] at h; exact absurd h leads_bad
   | true =>
    rw [hb, cond_true] at h
    simp only [Bool.and_eq_true] at hb
    obtain ⟨⟨hok, h2⟩, h3⟩ := hb
    have hb0 : 0 < bytes := Nat.le_of_ble_eq_true h2
    have hz := Option.isSome_iff_exists.1 h3
    split at h
    ·rename_i s l
     simp only [runCls] at h
     obtain ⟨κ', r, g1, g2, g3, g4, g5⟩ := appendTo_does (t2 := t2) (ty := ty) hI hu (.inr hu2) hok (by decide) hby hb0 hz (hs _ rfl) (ne := false) (str_cel (hx _ rfl)) (fun e => by cases e) h
     exact ⟨κ', .value r, r, by simp only [Sem.run_bind, g1, Result.andThen_ok]; rfl, .inl rfl, g2, g3, g4, g5⟩
    ·exact absurd h leads_bad
  ·exact absurd h leads_bad
end
end Go.AM
namespace Go.AM
set_option linter.unusedSectionVars false
variable [Glob]
section
variable {c : Ctx} {κ : KS}
theorem place_spec {places : List (Nat × Nat)} {pf : Nat → Option (Nat × Nat)} (hpf : ∀ (i : Nat) p, places[i]? = some p → pf i = some p) {F : Operand → Option D} {G : Operand → Value} (hF : ∀ x d, F x = some d → RD κ d (G x)) : ∀ (L : List (Nat × Operand)) (cells r : List D) (cs : Array Value),
  placeAll places (L.map fun p => (p.1, F p.2)) cells = some r → RDs κ cells cs.toList → (∀ d ∈ cells, d.one = true) →
  ∃ cs', Instr.fill pf cs (L.map fun p => (p.1, G p.2)) = some cs' ∧ RDs κ r cs'.toList ∧ ∀ d ∈ r, d.one = true
 | [], cells, r, cs, h, hr, ho => by
  simp only [List.map_nil, placeAll, Option.some.injEq] at h
  subst h
  exact ⟨cs, rfl, hr, ho⟩
 | (i, x) :: L, cells, r, cs, h, hr, ho => by
  simp only [List.map_cons] at h
  cases hx : F x with
  | none => rw [hx] at h; simp [placeAll] at h
  | some d =>
   rw [hx] at h
   simp only [placeAll] at h
   split at h
   ·rename_i off n hp
    cases hb : !d.isTup && Nat.beq n (flatD d).length && Nat.ble (off + n) cells.length with
    | false => rw [hb] at h; cases h
    | true =>
     rw [hb, cond_true] at h
     simp only [Bool.and_eq_true, Bool.not_eq_true'] at hb
     obtain ⟨⟨h1, h2⟩, h3⟩ := hb
     have h2' : n = (flatD d).length := Nat.eq_of_beq_eq_true h2
     have h3' := Nat.le_of_ble_eq_true h3
     have hd := hF x d hx
     have hfd := flatD_rds hd h1
     have hvl : (G x).cells.toList.length = n := by rw [← hfd.1]; exact h2'.symm
     have hle : off + n ≤ cs.size := by have := hr.1; simp only [Array.length_toList] at this; omega
     have hn := take_drop_rds hr hfd off n
     obtain ⟨cs', g1, g2, g3⟩ := place_spec hpf hF L _ r (cs.toList.take off ++ (G x).cells.toList ++ cs.toList.drop (off + n)).toArray h (by simpa using hn) (by
      intro y hy
      simp only [List.mem_append] at hy
      rcases hy with (hy | hy) | hy
      ·exact ho y (List.mem_of_mem_take hy)
      ·exact flatD_one hd y hy
      ·exact ho y (List.mem_of_mem_drop hy))
     refine ⟨cs', ?_, g2, g3⟩
     simp only [List.map_cons]
     rw [fill_one (hpf _ _ hp) hvl hle]
     exact g1
   ·cases h
theorem build_does {t : Nat} {L : List (Nat × Operand)} {F : Operand → Option D} {G : Operand → Value} {d : Option D} {st' : St} (hI : Inv κ) (hF : ∀ x d, F x = some d → RD κ d (G x))
  (h : (runCls (buildOp c t (L.map fun p => (p.1, F p.2))) κ.st).leads (d, st')) : Does c.P (do Pure.pure (.value (← Instr.build t (L.map fun p => (p.1, G p.2)).toArray))) κ d st' := by
 unfold buildOp at h
 split at h
 ·rename_i fs hu
  split at h
  ·rename_i z places hz hp
   split at h
   ·rename_i l hl
    rw [leads_vl] at h
    obtain ⟨rfl, rfl⟩ := h
    obtain ⟨i, zv, h1, h2, h3⟩ := zeroD_spec hz
    have hzr := h3.rd κ
    obtain ⟨cs', g1, g2, g3⟩ := place_spec (pf := (places.toArray[·]?)) (fun i p hp => by simpa using hp) hF L z l zv.cells hl (flatD_rds hzr rfl) (flatD_one hzr)
    have hb : c.P.built t (L.map fun p => (p.1, G p.2)) = some cs' := by
     unfold Program.built
     simp only [h1, hu, h2, hp]
     exact g1
    refine Does.pure hI (run_build κ.w t _ cs' (by simpa using hb)) ?_
    have := RD.agg l cs'.toList g2.1 g3 g2.2
    simpa using this
   ·exact absurd h leads_bad
  ·exact absurd h leads_bad
 ·rename_i k e hu
  split at h
  ·rename_i z ie hz hp
   split at h
   ·rename_i l hl
    rw [leads_vl] at h
    obtain ⟨rfl, rfl⟩ := h
    obtain ⟨i, zv, h1, h2, h3⟩ := zeroD_spec hz
    have hzr := h3.rd κ
    obtain ⟨cs', g1, g2, g3⟩ := place_spec (pf := fun i => some (i * ie.size, ie.size)) (fun i p hp => by
     rw [List.getElem?_map] at hp
     cases hr : (List.range k)[i]? with
     | none => rw [hr] at hp; cases hp
     | some j =>
      rw [hr] at hp
      obtain ⟨hlt, rfl⟩ := List.getElem?_eq_some_iff.1 hr
      simpa using hp) hF L z l zv.cells hl (flatD_rds hzr rfl) (flatD_one hzr)
    have hb : c.P.built t (L.map fun p => (p.1, G p.2)) = some cs' := by
     unfold Program.built
     simp only [h1, hu, h2, hp]
     exact g1
    refine Does.pure hI (run_build κ.w t _ cs' (by simpa using hb)) ?_
    have := RD.agg l cs'.toList g2.1 g3 g2.2
    simpa using this
   ·exact absurd h leads_bad
  ·exact absurd h leads_bad
 ·exact absurd h leads_bad
theorem nilCheck_does {a : Act} {o : Oper} {p : Operand} (ho : o.op = .nilCheck p) {x : Option D} {d : Option D} {st' : St} (hI : Inv κ) (hx : ∀ z, x = some z → RD κ z (a.eval p))
  (h : (runCls (nilCheckOp x) κ.st).leads (d, st')) : Does c.P (execOp a.eval o) κ d st' := by
 have key : ∀ z v, RD κ z v → a.eval p = v → (∀ b : Option Addr, v = .pointer b → b ≠ none) → ((∃ b, v = .pointer b) ∨ ∃ g q l, v = .func (.func g) q l) → Does c.P (execOp a.eval o) κ (some z) κ.st := by
  intro z v hz hv hn hc
  have : execOp a.eval o = Pure.pure (.value v) := by
   rcases hc with ⟨b, rfl⟩ | ⟨g, q, l, rfl⟩
   ·cases b with
    | none => exact absurd rfl (hn none rfl)
    | some b => simp only [execOp, ho, hv]
   ·simp only [execOp, ho, hv]
  rw [this]
  exact Does.val hI fun _ he => by cases he; exact hz
 unfold nilCheckOp at h
 split at h
 all_goals try exact absurd h leads_bad
 all_goals
  rw [leads_vl] at h; obtain ⟨rfl, rfl⟩ := h
  have hr := hx _ rfl
  generalize hv : a.eval p = v at hr
  refine key _ v hr hv ?_ ?_
  ·intro b hb; cases hr <;> first | (cases hb <;> nofun) | (rename_i f l vs _ _; obtain ⟨g, q, l', e⟩ := cloV_cases f vs; rw [e] at hb; cases hb)
  ·cases hr <;> first | exact .inl ⟨_, rfl⟩ | exact .inr (cloV_cases _ _)
theorem nilIf_does {op : BinOp} {t : Nat} {px : Operand} {x : Option D} {v : Value} {d : Option D} {st' : St} (hI : Inv κ) (hx : ∀ z, x = some z → RD κ z v)
  (h : (runCls (nilIfOp c op t x) κ.st).leads (d, st')) : Does c.P (do Pure.pure (.value (← (do eqGuard op t px (.const .nilIface) v .nilIface; binOp op t v .nilIface)))) κ d st' := by
 unfold nilIfOp at h
 split at h
 ·rename_i ms hu
  have hm : c.P.underlying t = some (.interface (c.P.methodsAt t)) := by unfold Program.methodsAt; rw [hu]
  have g1 : ∀ w, (eqGuard op t px (.const .nilIface) .nilIface .nilIface).run c.P w = .ok () w := fun w => by cases op <;> simp [eqGuard]
  have g2 : ∀ u y w, (eqGuard op t px (.const .nilIface) (.iface u y) .nilIface).run c.P w = .ok () w := fun u y w => by cases op <;> simp [eqGuard]
  split at h
  ·unfold bb at h
   rw [leads_vl] at h
   obtain ⟨rfl, rfl⟩ := h
   cases hx _ rfl
   exact Does.pure hI (by simp only [Sem.run_bind, g1, Result.andThen_ok, run_eql_nil_nil _ _ hm]) RD.bool
  ·unfold bb at h
   rw [leads_vl] at h
   obtain ⟨rfl, rfl⟩ := h
   cases hx _ rfl
   exact Does.pure hI (by simp only [Sem.run_bind, g2, Result.andThen_ok, run_eql_held_nil _ _ _ _ hm]) RD.bool
  ·unfold bb at h
   rw [leads_vl] at h
   obtain ⟨rfl, rfl⟩ := h
   cases hx _ rfl
   exact Does.pure hI (by simp only [Sem.run_bind, g1, Result.andThen_ok, run_neq_nil_nil _ _ hm]) RD.bool
  ·unfold bb at h
   rw [leads_vl] at h
   obtain ⟨rfl, rfl⟩ := h
   cases hx _ rfl
   exact Does.pure hI (by simp only [Sem.run_bind, g2, Result.andThen_ok, run_neq_held_nil _ _ _ _ hm]) RD.bool
  ·exact absurd h leads_bad
 ·exact absurd h leads_bad
theorem typeAssert_does {x : Option D} {v : Value} {xt at' : Nat} {ok : Bool} {d : Option D} {st' : St} (hI : Inv κ) (hx : ∀ z, x = some z → RD κ z v)
  (h : (runCls (typeAssertOp c x at' ok) κ.st).leads (d, st')) : Does c.P (do Pure.pure (.value (← Instr.typeAssert v xt at' ok))) κ d st' := by
 unfold typeAssertOp at h
 split at h
 ·exact absurd h leads_bad
 ·exact absurd h leads_bad
 ·rename_i ty hni hu
  split at h
  ·rename_i t e
   cases hb : Nat.beq t at' && ok with
   | false => rw [hb] at h; exact absurd h leads_bad
   | true =>
    rw [hb, cond_true, leads_vl] at h
    obtain ⟨rfl, rfl⟩ := h
    simp only [Bool.and_eq_true] at hb
    have := Nat.eq_of_beq_eq_true hb.1
    subst this
    obtain rfl := hb.2
    cases hx _ rfl with
    | iface _ _ u hu' =>
     refine Does.pure hI (v := .tuple #[u, .bool true]) ?_ ?_
     ·cases ty <;> first | (exact (hni _ rfl).elim) | (simp [Instr.typeAssert, run_underlying hu])
     ·have := RDs.cons hu' (RDs.cons (RD.bool (κ := κ) (b := true)) RDs.nil)
      exact .tup _ [u, .bool true] this.1 this.2
  ·exact absurd h leads_bad
theorem makeIface_does {t : Nat} {x : Option D} {v : Value} {d : Option D} {st' : St} (hI : Inv κ) (hx : ∀ z, x = some z → RD κ z v)
  (h : (runCls (makeIfaceOp c t x) κ.st).leads (d, st')) : Does c.P (do Pure.pure (.value (← Instr.makeInterface t v))) κ d st' := by
 unfold makeIfaceOp at h
 cases hu : c.P.underlying t with
 | none => rw [hu] at h; exact absurd h leads_bad
 | some u =>
  rw [hu] at h
  cases u <;> simp only at h
  all_goals try exact absurd h leads_bad
  all_goals
   split at h
   ·rw [leads_vl] at h; obtain ⟨rfl, rfl⟩ := h
    have hc : c.P.concrete t = true := by unfold Program.concrete; rw [hu]
    exact Does.pure hI (run_makeInterface κ.w t v hc) (.iface t _ v (hx _ rfl))
   ·exact absurd h leads_bad
theorem src_of {e : Ty} {x y : D} {v : Value} {l : List (den e)} (hI : Inv κ) (hx : RD κ x v) (h : (snap1 κ.st x).leads y) (hl : srcOf e y = some l) : Src κ e l v := by
 rcases snap1_spec hI hx h with ⟨rfl, _⟩ | ⟨e', ys, rfl, hs, _⟩
 ·cases y with
  | imm σ z =>
   obtain ⟨he, hz⟩ := castTy_some (a := σ) (b := .sl e) hl
   cases he
   cases hz
   exact src_imm hx
  | tight e' z ne =>
   obtain ⟨he, hz⟩ := castTy_some (a := .sl e') (b := .sl e) hl
   cases he
   cases hz
   exact src_tight hx
  | nilsl =>
   simp only [srcOf, Option.some.injEq] at hl
   subst hl
   exact src_nil hx
  | _ => simp [srcOf] at hl
 ·obtain ⟨he, hz⟩ := castTy_some (a := .sl e') (b := .sl e) hl
  cases he
  cases hz
  exact hs
theorem bytesStr_eq (l : List Int) : strOfNums l = ⟨(bytesStr l).toArray⟩ := rfl
theorem convBytes_does {s t e : Nat} {x : Option D} {v : Value} {d : Option D} {st' : St} (hI : Inv κ) (hx : ∀ z, x = some z → RD κ z v) (hs : c.P.underlying s = some (.slice e)) (ht : c.P.underlying t = some .string)
  (h : (runCls (convBytes c e x) κ.st).leads (d, st')) : Does c.P (do Pure.pure (.value (← convert s t v))) κ d st' := by
 unfold convBytes at h
 split at h
 ·rename_i z he
  rw [leads_rd] at h
  obtain ⟨h, rfl⟩ := h
  obtain ⟨y, h1, h2⟩ := T.leads_bind.1 h
  split at h2
  ·rename_i l hl
   cases h2
   have hsrc := src_of hI (hx _ rfl) h1 hl
   obtain ⟨a, cap, f, rfl, hcap, hn, g1, g2⟩ := hsrc.ex
   have hrun : (convert s t (.slice a l.length cap)).run c.P κ.w = .ok (.string (strOfNums l)) κ.w := by
    cases a with
    | none =>
     obtain ⟨rfl, rfl⟩ := hn rfl
     exact run_convert_bytes_nil κ.w s e hs he 0 0 t ht
    | some p =>
     rcases g2 p rfl with ⟨rfl, rfl⟩ | ⟨hp, _, hc⟩
     ·have h0 : (loadCells p 0).run c.P κ.w = .ok (([] : List Int).map (Value.int .u8)).toArray κ.w := by
       have := run_loadCells_list (P := c.P) κ.w p [] (fun j v hj => by simp at hj)
       simpa using this
      simp only [List.length_nil]
      rw [run_convert_bytes_string κ.w s t e _ 0 0 hs he ht, run_bytesToString κ.w _ 0 0 [] h0]
      rfl
     ·obtain ⟨blk, o, sp⟩ := p
      simp only at hp
      subst hp
      refine run_convert_bytes_arg κ.w s e hs he blk o l.length cap l rfl (fun i hi => ?_) t ht
      have hf := (g1 i hi).int_inv
      have := hc i hi 0 (.int .u8 l[i]) (by rw [hf]; rfl)
      have e1 : o + i * Ty.size (.int .u8) + 0 = o + i := by simp [Ty.size]
      rw [e1] at this
      rw [this]
      simp [List.getD, List.getElem?_eq_getElem hi]
   refine Does.pure hI hrun ?_
   rw [bytesStr_eq]
   exact .str
  ·exact h2.elim
 ·exact absurd h leads_bad
theorem convert_does {s t : Nat} {x : Option D} {v : Value} {d : Option D} {st' : St} (hI : Inv κ) (hx : ∀ z, x = some z → RD κ z v)
  (h : (runCls (convertOp c s t x) κ.st).leads (d, st')) : Does c.P (do Pure.pure (.value (← convert s t v))) κ d st' := by
 unfold convertOp at h
 split at h
 ·rename_i e hs ht
  exact convBytes_does hI hx hs ht h
 ·rename_i k0 k hs ht
  split at h
  ·rename_i k1 n hk
   have := asInt_rd hk hx
   subst this
   rw [leads_ib] at h
   obtain ⟨rfl, rfl⟩ := h
   exact Does.pure hI (by simp [convert, run_underlying hs, run_underlying ht, Conv.intToInt]) RD.int
  ·exact absurd h leads_bad
 ·rename_i hs ht
  split at h
  ·rename_i s' hk
   have := asStr_rd hk hx
   subst this
   rw [leads_vl] at h
   obtain ⟨rfl, rfl⟩ := h
   exact Does.pure hI (by simp [convert, run_underlying hs, run_underlying ht]) RD.str
  ·exact absurd h leads_bad
 ·exact absurd h leads_bad
end
end Go.AM
namespace Go.AM
set_option linter.unusedSectionVars false
variable [Glob]
section
variable {c : Ctx} {κ : KS}
theorem copy_does {ty t t' : Nat} {s x : Option D} {v u : Value} {d : Option D} {st' : St} (hI : Inv κ) (hs : ∀ z, s = some z → RD κ z v) (hx : ∀ z, x = some z → RD κ z u)
  (h : (runCls (copyOp c t s x) κ.st).leads (d, st')) : Does c.P (do Pure.pure (.value (← Builtin.copy_ #[t, t'] ty #[v, u]))) κ d st' := by
 unfold copyOp at h
 split at h
 ·rename_i et het
  split at h
  ·rename_i k b ver k' off len z hu hsz
   cases hk : decide (k' = k) with
   | false => rw [hk] at h; exact absurd h leads_bad
   | true =>
    rw [hk, cond_true] at h
    obtain rfl : k' = k := of_decide_eq_true hk
    simp only [runCls] at h
    obtain ⟨y, h1, h2⟩ := T.leads_bind.1 h
    split at h2
    ·rename_i l hl
     unfold copyTo at h2
     split at h2
     ·rename_i ver' e' xs0 hb
      split at h2
      ·rename_i xs hxs
       obtain ⟨he, hxx⟩ := castTy_some (a := .sl e') (b := .sl (.int k')) hxs
       cases he
       obtain rfl : xs = xs0 := hxx
       obtain ⟨⟨hver, hfit⟩, h2⟩ := h2
       cases h2
       subst hver
       have hsrc := src_of hI (hx _ rfl) h1 hl
       obtain ⟨a, cap, f, rfl, hcap, hn, g1, g2⟩ := hsrc.ex
       have hue := elemT_spec het
       have hsize : (c.P.info? et).map (·.size) = some 1 := hsz
       have hrd := hs _ rfl
       cases hrd with
       | ms _ _ _ _ _ cap0 a0 hb0 hcap0 ha0 hsp0 hh =>
       have hm := hh xs hb
       have hcl : ((List.take len l).map (Value.int k')).length = Nat.min l.length len := by rw [List.length_map, List.length_take]; exact Nat.min_comm _ _
       have hlenN : min len (List.length l) = Nat.min l.length len := Nat.min_comm _ _
       by_cases h0 : min len (List.length l) = 0
       ·-- nothing goes over
        have hrun := run_copy_none (P := c.P) κ.w t t' ty et a0 a len cap0 l.length cap hue hsize (by rw [← hlenN]; exact h0)
        have hsame : copyL off len xs l = xs := by
         unfold copyL
         have ht : List.take len l = [] := List.eq_nil_of_length_eq_zero (by rw [List.length_take]; exact h0)
         rw [ht, h0, List.append_nil, Nat.add_zero, List.take_append_drop]
        have hset : κ.st.set b (.arr ver (.int k') (copyL off len xs l)) = κ.st := by
         rw [hsame]
         obtain ⟨hlt, hge⟩ := List.getElem?_eq_some_iff.1 hb
         rw [← hge, List.set_getElem_self]
        rw [hset]
        refine ⟨κ, .value (goInt 0), goInt 0, by simp [hrun], .inl rfl, rfl, hI, Ext.refl κ, fun d' hd' => ?_⟩
        cases hd'
        rw [h0]
        exact RD.int
       ·obtain ⟨hle, hm⟩ := hm
        rcases hm with ⟨hz, _⟩ | ⟨blk, n, o, cap1, hp, hv, hc1, hc2, hc3⟩
        ·omega
        ·cases hv
         have ho : o = off := by
          rcases hc3 with h | h
          ·omega
          ·simpa [Ty.size] using h
         subst ho
         have hl0 : l ≠ [] := fun h => h0 (by rw [h]; simp)
         obtain ⟨p, rfl⟩ : ∃ p, a = some p := by
          cases a with
          | none => exact absurd (hn rfl).1 hl0
          | some p => exact ⟨p, rfl⟩
         rcases g2 p rfl with ⟨h, _⟩ | ⟨hsp, _, hc⟩
         ·exact absurd h hl0
         obtain ⟨pb, po, psp⟩ := p
         simp only at hsp
         subst hsp
         obtain ⟨_, hblk⟩ := hI.blk b _ hb
         rcases hblk with ⟨_, hpn⟩ | ⟨blk', n', cs0, T, k1, k2, k3, k4, kr, g, k5⟩
         ·rw [hp] at hpn; cases hpn
         rw [hp] at k1
         cases k1
         have hn' : List.length xs ≤ cs0.size := by rw [k3]; simpa [Ty.size] using k4
         have hcell : ∀ (i : Nat) (hi : i < List.length xs), cs0[i]? = some (.int k' xs[i]) := by
          intro i hi
          obtain ⟨q1, q2⟩ := k5 i hi
          have := q2 0 (.int k' xs[i]) (by rw [q1.int_inv]; rfl)
          simpa [Ty.size] using this
         have hmle : ((List.take len l).map (Value.int k')).length ≤ len := by simp; omega
         have hrun := run_copy_row c.P κ.w t t' ty et blk o len cap0 ⟨pb, po, none⟩ l.length cap cs0 T ((List.take len l).map (Value.int k')) hue hsize k2 hcl
          (fun j w hj => by
           have hj' : j < (List.take len l).length := by have := (List.getElem?_eq_some_iff.1 hj).1; simpa using this
           have hjl : j < l.length := by simp at hj'; omega
           have e1 : w = .int k' l[j] := by
            rw [List.getElem?_map, List.getElem?_take, if_pos (by simp at hj'; omega), List.getElem?_eq_getElem hjl] at hj
            exact (Option.some.inj hj).symm
           have := hc j hjl 0 (.int k' l[j]) (by rw [(g1 j hjl).int_inv]; rfl)
           have hadd : (⟨pb, po, none⟩ : Addr).add j = ⟨pb, po + j, none⟩ := by unfold Addr.add; split <;> simp_all
           rw [hadd, e1]
           simpa [Ty.size] using this)
          (by omega) (fun w hw => by obtain ⟨_, _, rfl⟩ := List.mem_map.1 hw; rfl)
         have hlen : List.length (copyL o len xs l) = List.length xs := by
          simp only [copyL, List.length_append, List.length_take, List.length_drop]
          omega
         have hal : Alike (.arr ver (.int k') xs) (.arr ver (.int k') (copyL o len xs l)) := ⟨rfl, Nat.le_refl _, fun _ => hlen.symm⟩
         let cs' : Array Value := (cs0.toList.take o ++ (List.take len l).map (Value.int k') ++ cs0.toList.drop (o + ((List.take len l).map (Value.int k')).length)).toArray
         have hcs' : cs'.size = n := by
          simp only [cs', List.size_toArray, List.length_append, List.length_take, List.length_drop, Array.length_toList, List.length_map] at *
          omega
         have hcopy : ∀ (i : Nat) (hi : i < List.length (copyL o len xs l)), cs'[i]? = some (.int k' (copyL o len xs l)[i]) := by
          intro i hi
          have h1 := splice_get (cs := cs0.toList) (us := (List.take len l).map (Value.int k')) (o := o) (n := ((List.take len l).map (Value.int k')).length) rfl (by simp; simp at hmle; omega) i
          have e1 : cs'[i]? = (cs0.toList.take o ++ (List.take len l).map (Value.int k') ++ cs0.toList.drop (o + ((List.take len l).map (Value.int k')).length))[i]? := by simp [cs']
          have hm2 : (List.map (Value.int k') (List.take len l)).length = min len (List.length l) := by simp
          rw [hm2] at h1 e1
          have e2 : (copyL o len xs l)[i]? = if i < o then xs[i]? else if i < o + min len (List.length l) then (List.take len l)[i - o]? else xs[i]? := by
           unfold copyL
           have hto : (List.take o xs).length = o := by simp; omega
           by_cases q1 : i < o
           ·rw [if_pos q1, List.append_assoc, List.getElem?_append_left (by omega), List.getElem?_take, if_pos q1]
           ·rw [if_neg q1, List.append_assoc, List.getElem?_append_right (by omega), hto]
            by_cases q2 : i < o + min len (List.length l)
            ·rw [if_pos q2, List.getElem?_append_left (by simp; omega)]
            ·rw [if_neg q2, List.getElem?_append_right (by simp; omega), List.getElem?_drop, List.length_take]
             congr 1; omega
          have e3 : (copyL o len xs l)[i]? = some (copyL o len xs l)[i] := List.getElem?_eq_getElem hi
          rw [e1, h1]
          rw [e2] at e3
          have hix : i < List.length xs := by rw [← hlen]; exact hi
          split
          ·rename_i q1
           rw [if_pos q1, List.getElem?_eq_getElem hix] at e3
           rw [Array.getElem?_toList, hcell i hix, Option.some.inj e3]
          ·rename_i q1
           rw [if_neg q1] at e3
           split
           ·rename_i q2
            rw [if_pos q2] at e3
            rw [List.getElem?_map, e3]
            rfl
           ·rename_i q2
            rw [if_neg q2, List.getElem?_eq_getElem hix] at e3
            rw [Array.getElem?_toList, hcell i hix, Option.some.inj e3]
         refine ⟨κ.upd b blk cs' (.arr ver (.int k') (copyL o len xs l)), .value (goInt (((List.take len l).map (Value.int k')).length : Nat)), goInt (((List.take len l).map (Value.int k')).length : Nat), (by rw [Sem.run_bind, hrun]; rfl), .inl rfl, rfl, upd_inv hI hp hb hal ?_, upd_ext hI hp hb hal, fun d' hd' => ?_⟩
         ·refine ⟨by simp [Ty.size], .inr ⟨blk, n, cs', T, hp, setRow_heap κ.w blk cs0 cs' T (0, 0) k2, hcs', by simp [Ty.size]; omega, kr, fun i => [.int k' ((copyL o len xs l).getD i 0)], fun i hi => ?_⟩⟩
          have hg : (copyL o len xs l).getD i 0 = (copyL o len xs l)[i] := by simp [List.getD_eq_getElem?_getD, List.getElem?_eq_getElem hi]
          show Rc _ _ (.int k') _ [Value.int k' ((copyL o len xs l).getD i 0)] ∧ ∀ (j : Nat) (v : Value), [Value.int k' ((copyL o len xs l).getD i 0)][j]? = some v → _
          rw [hg]
          refine ⟨.int k' _, fun j w hj => ?_⟩
          cases j with
          | zero =>
           simp at hj
           subst hj
           simpa [Ty.size] using hcopy i hi
          | succ j => simp at hj
         ·cases hd'
          rw [hlenN, ← hcl]
          exact RD.int
      ·exact h2.elim
     ·exact h2.elim
    ·exact h2.elim
  ·exact absurd h leads_bad
 ·exact absurd h leads_bad
end
end Go.AM
namespace Go.AM
set_option linter.unusedSectionVars false
variable [Glob]
def CallDoes (P : Program) (g : Nat) (args : Array Value) (w : World) (R : Ending → World → Prop) : Prop :=
 ((callFunc g args).run P w = .ok (.enter g args) w ∧ Calls P g args w R) ∨ ∃ v w', (callFunc g args).run P w = .ok (.value v) w' ∧ R (.returned v) w'
theorem CallDoes.mono {P : Program} {g : Nat} {args : Array Value} {w : World} {R R' : Ending → World → Prop} (h : CallDoes P g args w R) (hr : ∀ e w, R e w → R' e w) : CallDoes P g args w R' := by
 rcases h with ⟨h1, h2⟩ | ⟨v, w', h1, h2⟩
 ·exact .inl ⟨h1, h2.mono hr⟩
 ·exact .inr ⟨v, w', h1, hr _ _ h2⟩
def EndRel (κ : KS) : Res → Ending → Prop
 | .ret ds, e => ∃ v, e = .returned v ∧ RD κ (packRes ds) v
 | .pan d, e => ∃ v, e = .panicked [{ v, recovered := false }] ∧ RD κ d v
abbrev Doer := Nat → Array Value → World → (Ending → World → Prop) → Prop
def SndG (Dr : Doer) (g : Nat) (S : List D → St → T (Res × St)) : Prop :=
 ∀ (κ : KS) (args : List D) (cargs : List Value) (rs : Res) (st' : St), (S args κ.st).leads (rs, st') → Inv κ → RDs κ args cargs →
  Dr g cargs.toArray κ.w fun e w' => ∃ κ' : KS, κ'.w = w' ∧ κ'.st = st' ∧ Inv κ' ∧ Ext κ κ' ∧ EndRel κ' rs e
def Snd (P : Program) (g : Nat) (S : List D → St → T (Res × St)) : Prop :=
 ∀ (κ : KS) (args : List D) (cargs : List Value) (rs : Res) (st' : St), (S args κ.st).leads (rs, st') → Inv κ → RDs κ args cargs →
  CallDoes P g cargs.toArray κ.w fun e w' => ∃ κ' : KS, κ'.w = w' ∧ κ'.st = st' ∧ Inv κ' ∧ Ext κ κ' ∧ EndRel κ' rs e
section
variable {c : Ctx} {κ : KS}
theorem RD.weaken {ok' : Nat → Prop} (hs : ∀ k, κ.ok k → ok' k) {d : D} {v : Value} (h : RD κ d v) : RD { κ with ok := ok' } d v := by
 have hsame : Same κ.w κ.w κ.ok ok' := fun k hk => ⟨hs k hk, rfl⟩
 induction h with
 | imm τ y cs h => exact .imm τ y cs (h.mono hsame)
 | tightNil e a => exact .tightNil e a
 | tight e l ne blk off f hne hok h hc => exact .tight e l ne blk off f hne (hs _ hok) (fun i hi => (h i hi).mono hsame) hc
 | nilsl => exact .nilsl
 | nilp => exact .nilp
 | niface => exact .niface
 | nilclo => exact .nilclo
 | nilmap => exact .nilmap
 | unk v h => exact .unk v h
 | bnil T => exact .bnil T
 | optpN b T d hd => exact .optpN b T d hd
 | optpP b T blk n d hd h => exact .optpP b T blk n d hd h
 | ptr b off blk n d hd h => exact .ptr b off blk n d hd h
 | rptr τ y cs blk off hok h hc => exact .rptr τ y cs blk off (hs _ hok) (h.mono hsame) hc
 | eptr b ver e idx off blk o hb h => exact .eptr b ver e idx off blk o hb h
 | ms b ver e off len cap a hb hcap ha hsp h => exact .ms b ver e off len cap a hb hcap ha hsp h
 | clo f l vs hl h ih => exact .clo f l vs hl ih
 | agg l vs hl ho h ih => exact .agg l vs hl ho ih
 | tup l vs hl h ih => exact .tup l vs hl ih
 | iface t d v h ih => exact .iface t d v ih
theorem RD.free {κ' : KS} (hw : κ'.w = κ.w) (hok : κ'.ok = κ.ok) (hst : κ.st = []) {d : D} {v : Value} (h : RD κ d v) : RD κ' d v := by
 obtain ⟨w', ok', ph', st'⟩ := κ'
 simp only at hw hok
 subst hw hok
 induction h with
 | imm τ y cs h => exact .imm τ y cs h
 | tightNil e a => exact .tightNil e a
 | tight e l ne blk off f hne hok h hc => exact .tight e l ne blk off f hne hok h hc
 | nilsl => exact .nilsl
 | nilp => exact .nilp
 | niface => exact .niface
 | nilclo => exact .nilclo
 | nilmap => exact .nilmap
 | unk v h => exact .unk v h
 | bnil T => exact .bnil T
 | optpN b T d hd => rw [hst] at hd; simp at hd
 | optpP b T blk n d hd h => rw [hst] at hd; simp at hd
 | ptr b off blk n d hd h => rw [hst] at hd; simp at hd
 | rptr τ y cs blk off hok h hc => exact .rptr τ y cs blk off hok h hc
 | eptr b ver e idx off blk o hb h => rcases hb with hb | ⟨_, _, _, hb, _⟩ <;> · rw [hst] at hb; simp at hb
 | ms b ver e off len cap a hb hcap ha hsp h => rcases hb with hb | ⟨_, _, _, hb, _⟩ <;> · rw [hst] at hb; simp at hb
 | clo f l vs hl h ih => exact .clo f l vs hl ih
 | agg l vs hl ho h ih => exact .agg l vs hl ho ih
 | tup l vs hl h ih => exact .tup l vs hl ih
 | iface t d v h ih => exact .iface t d v ih
theorem Rc.scalar {w w' : World} {ok ok' : Nat → Prop} {τ : Ty} {x : den τ} {cs : List Value} (h : Rc w ok τ x cs) (ht : τ.scalar = true) : Rc w' ok' τ x cs := by
 induction h with
 | int k n => exact .int k n
 | bool b => exact .bool b
 | str s => exact .str s
 | slNil => cases ht
 | sl => cases ht
 | nil => exact .nil
 | cons a b x y c1 c2 h1 h2 i1 i2 => simp only [Ty.scalar, Bool.and_eq_true] at ht; exact .cons a b x y c1 c2 (i1 ht.1) (i2 ht.2)
 | expr => cases ht
theorem src_rc {e : Ty} {ys : List (den e)} {v : Value} (h : Src κ e ys v) : Rc κ.w (okS κ) (.sl e) ys [v] := by
 obtain ⟨a, cap, f, rfl, hcap, hn, h1, h2⟩ := h.ex
 cases a with
 | none => obtain ⟨rfl, rfl⟩ := hn rfl; exact .slNil e none
 | some p =>
  rcases h2 p rfl with ⟨rfl, rfl⟩ | ⟨hp, hok, hc⟩
  ·exact .slNil e _
  obtain ⟨blk, o, sp⟩ := p
  simp only at hp
  subst hp
  exact .sl e ys blk o cap f hok hcap (fun i hi => (h1 i hi).mono fun k hk => ⟨.inl hk, rfl⟩) hc
def KS.all (κ : KS) : KS := { κ with ok := okS κ }
theorem RD.all {d : D} {v : Value} (h : RD κ d v) : RD κ.all d v := h.weaken fun _ hk => .inl hk
theorem RDs.all {l : List D} {vs : List Value} (h : RDs κ l vs) : RDs κ.all l vs := ⟨h.1, fun i h1 h2 => (h.2 i h1 h2).all⟩
theorem snap1_all {x y : D} {v : Value} (hI : Inv κ) (hx : RD κ x v) (h : (snap1 κ.st x).leads y) : RD κ.all y v ∧ (x.one = true → y.one = true) ∧ (x.isTup = false → y.isTup = false) := by
 rcases snap1_spec hI hx h with ⟨rfl, _⟩ | ⟨e, ys, rfl, hs, _⟩
 ·exact ⟨hx.all, id, id⟩
 ·exact ⟨RD.imm1 rfl (src_rc hs), fun _ => rfl, fun _ => rfl⟩
theorem snaps_all (hI : Inv κ) : ∀ {l r : List D} {vs : List Value}, RDs κ l vs → (∀ d ∈ l, d.one = true) → (snaps κ.st l).leads r → RDs κ.all r vs ∧ ∀ d ∈ r, d.one = true
 | [], r, vs, h, _, hs => by cases hs; rw [h.nil_inv]; exact ⟨.nil, nofun⟩
 | d :: l, r, vs, h, ho, hs => by
  simp only [snaps, T.leads_bind] at hs
  obtain ⟨x, hx, l', hl, rfl⟩ := hs
  obtain ⟨v, us, rfl, h1, h2⟩ := h.cons_inv
  obtain ⟨g1, g2, _⟩ := snap1_all hI h1 hx
  obtain ⟨k1, k2⟩ := snaps_all hI h2 (fun d hd => ho d (List.mem_cons_of_mem _ hd)) hl
  refine ⟨.cons g1 k1, fun d hd => ?_⟩
  rcases List.mem_cons.1 hd with rfl | hd
  ·exact g2 (ho _ List.mem_cons_self)
  ·exact k2 d hd
theorem snap_all {x y : D} {v : Value} (hI : Inv κ) (hx : RD κ x v) (h : (snap κ.st x).leads y) : RD κ.all y v := by
 cases x with
 | agg l =>
  simp only [snap, T.leads_bind] at h
  obtain ⟨r, hr, rfl⟩ := h
  cases hx with
  | agg _ vs hl ho hh =>
   obtain ⟨g1, g2⟩ := snaps_all hI (⟨hl, hh⟩ : RDs κ l vs) ho hr
   exact .agg r vs g1.1 g2 g1.2
 | _ => exact (snap1_all hI hx h).1
theorem coeS_all {τ : Ty} {d : D} {x : den τ} {v : Value} (hI : Inv κ) (hd : RD κ d v) (h : (coeS κ.st τ d).leads x) : RD κ.all (.imm τ x) v := by
 simp only [coeS, T.leads_bind, T.leads_ofOpt] at h
 obtain ⟨y, h1, h2⟩ := h
 exact coe0_rd (snap_all hI hd h1) h2
theorem snap1_nil {x y : D} (h : (snap1 [] x).leads y) : y = x := by
 cases x with
 | ms => simp [snap1, T.leads] at h
 | _ => exact h.symm
theorem snaps_nil : ∀ {l r : List D}, (snaps [] l).leads r → r = l
 | [], _, h => h.symm
 | d :: l, r, h => by
  simp only [snaps, T.leads_bind] at h
  obtain ⟨x, hx, l', hl, rfl⟩ := h
  rw [snap1_nil hx, snaps_nil hl]
theorem snap_nil {x y : D} (h : (snap [] x).leads y) : y = x := by
 cases x with
 | agg l =>
  simp only [snap, T.leads_bind] at h
  obtain ⟨r, hr, rfl⟩ := h
  rw [snaps_nil hr]
 | _ => exact snap1_nil h
theorem coeS_nil {τ : Ty} {d : D} {x : den τ} {v : Value} (hd : RD κ d v) (h : (coeS [] τ d).leads x) : RD κ (.imm τ x) v := by
 simp only [coeS, T.leads_bind, T.leads_ofOpt] at h
 obtain ⟨y, h1, h2⟩ := h
 rw [snap_nil h1] at h2
 exact coe0_rd hd h2
def data1 : D → Bool | .imm .. | .rptr .. => true | _ => false
def dataD : D → Bool
 | .clo _ l => l.all data1
 | d => data1 d
theorem data1_D {d : D} (h : data1 d = true) : dataD d = true := by cases d <;> first | exact h | cases h
theorem coeRp_data {st : St} {τ : Ty} {d y : D} (h : (coeRp st τ d).leads y) : data1 y = true := by
 unfold coeRp at h
 split at h
 ·split at h
  ·cases h; rfl
  ·exact h.elim
 ·split at h
  ·split at h
   ·cases h; rfl
   ·exact h.elim
  ·exact h.elim
 ·exact h.elim
theorem coeRp_all {τ : Ty} {d y : D} {v : Value} (hI : Inv κ) (hd : RD κ d v) (h : (coeRp κ.st τ d).leads y) : RD κ.all y v := by
 unfold coeRp at h
 split at h
 ·split at h
  ·rename_i x z hz
   cases h
   obtain ⟨e, rfl⟩ := castTy_some hz
   cases e
   exact hd.all
  ·exact h.elim
 ·rename_i b off
  split at h
  ·rename_i d' hb
   split at h
   ·rename_i z hz
    cases h
    cases ho : Nat.beq off 0 with
    | false => rw [ho] at hz; cases hz
    | true =>
     rw [ho, cond_true] at hz
     have := Nat.eq_of_beq_eq_true ho
     subst this
     obtain ⟨blk, n, cs, t, g1, g2, g3, g4, g5⟩ := hI.blk b _ hb
     cases hd with
     | ptr _ _ blk' n' d1 hd1 hp =>
      rw [g1] at hp
      cases hp
      have hok : okS κ blk := .inr ⟨b, n, g1⟩
      have ht : d'.isTup = false := by
       cases d' with
       | tup l => simp [coe0, D.isTup] at hz
       | _ => rfl
      have hrc := rc_of_flatD hz g4 g5.1 ht
      refine .rptr τ z cs.toList blk 0 hok (hrc.mono fun k hk => ⟨.inl hk, rfl⟩) fun j v hj => ?_
      show κ.w.cell? _ = _
      rw [ofBlock g2, Nat.zero_add]
      simpa using hj
   ·exact h.elim
  ·exact h.elim
 ·exact h.elim
theorem coeRp_nil {τ : Ty} {d y : D} {v : Value} (hd : RD κ d v) (h : (coeRp [] τ d).leads y) : RD κ y v := by
 unfold coeRp at h
 split at h
 ·split at h
  ·rename_i x z hz
   cases h
   obtain ⟨e, rfl⟩ := castTy_some hz
   cases e
   exact hd
  ·exact h.elim
 ·rename_i b off
  split at h
  ·rename_i d' hb; simp at hb
  ·exact h.elim
 ·exact h.elim
theorem coeCap_data {st : St} {p : Cap} {d y : D} (h : (coeCap st p d).leads y) : data1 y = true := by
 cases p with
 | rp τ => exact coeRp_data h
 | im τ => simp only [coeCap, T.leads_bind] at h; obtain ⟨x, _, rfl⟩ := h; rfl
theorem coeCap_all {p : Cap} {d y : D} {v : Value} (hI : Inv κ) (hd : RD κ d v) (h : (coeCap κ.st p d).leads y) : RD κ.all y v := by
 cases p with
 | rp τ => exact coeRp_all hI hd h
 | im τ => simp only [coeCap, T.leads_bind] at h; obtain ⟨x, hx, rfl⟩ := h; exact coeS_all hI hd hx
theorem coeCap_nil {p : Cap} {d y : D} {v : Value} (hd : RD κ d v) (h : (coeCap [] p d).leads y) : RD κ y v := by
 cases p with
 | rp τ => exact coeRp_nil hd h
 | im τ => simp only [coeCap, T.leads_bind] at h; obtain ⟨x, hx, rfl⟩ := h; exact coeS_nil hd hx
theorem coeCaps_data {st : St} : ∀ {ps : List Cap} {ds r : List D}, (coeCaps st ps ds).leads r → ∀ d ∈ r, data1 d = true
 | [], [], r, hs => by cases hs; nofun
 | p :: ps, d :: ds, r, hs => by
  simp only [coeCaps, T.leads_bind] at hs
  obtain ⟨x, hx, l, hl, rfl⟩ := hs
  intro d' hd'
  rcases List.mem_cons.1 hd' with rfl | hd'
  ·exact coeCap_data hx
  ·exact coeCaps_data hl d' hd'
 | [], _ :: _, _, hs => hs.elim
 | _ :: _, [], _, hs => hs.elim
theorem coeCaps_all (hI : Inv κ) : ∀ {ps : List Cap} {ds r : List D} {vs : List Value}, RDs κ ds vs → (coeCaps κ.st ps ds).leads r → RDs κ.all r vs
 | [], [], r, vs, h, hs => by cases hs; rw [h.nil_inv]; exact .nil
 | p :: ps, d :: ds, r, vs, h, hs => by
  simp only [coeCaps, T.leads_bind] at hs
  obtain ⟨x, hx, l, hl, rfl⟩ := hs
  obtain ⟨v, us, rfl, h1, h2⟩ := h.cons_inv
  exact .cons (coeCap_all hI h1 hx) (coeCaps_all hI h2 hl)
 | [], _ :: _, _, _, _, hs => hs.elim
 | _ :: _, [], _, _, _, hs => hs.elim
theorem coeCaps_nil : ∀ {ps : List Cap} {ds r : List D} {vs : List Value}, RDs κ ds vs → (coeCaps [] ps ds).leads r → RDs κ r vs
 | [], [], r, vs, h, hs => by cases hs; rw [h.nil_inv]; exact .nil
 | p :: ps, d :: ds, r, vs, h, hs => by
  simp only [coeCaps, T.leads_bind] at hs
  obtain ⟨x, hx, l, hl, rfl⟩ := hs
  obtain ⟨v, us, rfl, h1, h2⟩ := h.cons_inv
  exact .cons (coeCap_nil h1 hx) (coeCaps_nil h2 hl)
 | [], _ :: _, _, _, _, hs => hs.elim
 | _ :: _, [], _, _, _, hs => hs.elim
theorem coeP_cases {st : St} {p : PSh} {d y : D} (h : (coeP st p d).leads y) : (∃ τ x, p = .ty τ ∧ (coeS st τ d).leads x ∧ y = .imm τ x) ∨ (∃ τ, p = .rp τ ∧ (coeRp st τ d).leads y) ∨
  ∃ f caps l l', p = .clo f caps ∧ d = .clo f l ∧ (coeCaps st caps l).leads l' ∧ y = .clo f l' := by
 cases p with
 | ty τ =>
  have h' : ((coeS st τ d).bind fun x => T.ret (D.imm τ x)).leads y := by cases d <;> exact h
  simp only [T.leads_bind] at h'
  obtain ⟨x, hx, rfl⟩ := h'
  exact .inl ⟨τ, x, rfl, hx, rfl⟩
 | rp τ => exact .inr (.inl ⟨τ, rfl, by cases d <;> exact h⟩)
 | clo f caps =>
  cases d with
  | clo f' l =>
   simp only [coeP] at h
   cases hb : Nat.beq f f' with
   | false => rw [hb] at h; exact h.elim
   | true =>
    rw [hb, cond_true, T.leads_bind] at h
    obtain ⟨l', hl, rfl⟩ := h
    have := Nat.eq_of_beq_eq_true hb
    subst this
    exact .inr (.inr ⟨f, caps, l, l', rfl, rfl, hl, rfl⟩)
  | _ => exact h.elim
theorem coeP_data {st : St} {p : PSh} {d y : D} (h : (coeP st p d).leads y) : dataD y = true := by
 rcases coeP_cases h with ⟨τ, x, _, _, rfl⟩ | ⟨τ, _, h⟩ | ⟨f, caps, l, l', _, _, h', rfl⟩
 ·rfl
 ·exact data1_D (coeRp_data h)
 ·exact List.all_eq_true.2 (coeCaps_data h')
theorem coeP_all {p : PSh} {d y : D} {v : Value} (hI : Inv κ) (hd : RD κ d v) (h : (coeP κ.st p d).leads y) : RD κ.all y v := by
 rcases coeP_cases h with ⟨τ, x, _, hx, rfl⟩ | ⟨τ, _, h⟩ | ⟨f, caps, l, l', _, rfl, h', rfl⟩
 ·exact coeS_all hI hd hx
 ·exact coeRp_all hI hd h
 ·cases hd with
  | clo _ _ vs hl hh =>
   have := coeCaps_all hI (⟨hl, hh⟩ : RDs κ l vs) h'
   exact .clo f l' vs this.1 this.2
theorem coeP_nil {p : PSh} {d y : D} {v : Value} (hd : RD κ d v) (h : (coeP [] p d).leads y) : RD κ y v := by
 rcases coeP_cases h with ⟨τ, x, _, hx, rfl⟩ | ⟨τ, _, h⟩ | ⟨f, caps, l, l', _, rfl, h', rfl⟩
 ·exact coeS_nil hd hx
 ·exact coeRp_nil hd h
 ·cases hd with
  | clo _ _ vs hl hh =>
   have := coeCaps_nil (⟨hl, hh⟩ : RDs κ l vs) h'
   exact .clo f l' vs this.1 this.2
theorem coePs_data {st : St} : ∀ {ps : List PSh} {ds r : List D}, (coePs st ps ds).leads r → ∀ d ∈ r, dataD d = true
 | [], [], r, hs => by cases hs; nofun
 | p :: ps, d :: ds, r, hs => by
  simp only [coePs, T.leads_bind] at hs
  obtain ⟨x, hx, l, hl, rfl⟩ := hs
  intro d' hd'
  rcases List.mem_cons.1 hd' with rfl | hd'
  ·exact coeP_data hx
  ·exact coePs_data hl d' hd'
 | [], _ :: _, _, hs => hs.elim
 | _ :: _, [], _, hs => hs.elim
theorem coePs_all (hI : Inv κ) : ∀ {ps : List PSh} {ds r : List D} {vs : List Value}, RDs κ ds vs → (coePs κ.st ps ds).leads r → RDs κ.all r vs
 | [], [], r, vs, h, hs => by cases hs; rw [h.nil_inv]; exact .nil
 | p :: ps, d :: ds, r, vs, h, hs => by
  simp only [coePs, T.leads_bind] at hs
  obtain ⟨x, hx, l, hl, rfl⟩ := hs
  obtain ⟨v, us, rfl, h1, h2⟩ := h.cons_inv
  exact .cons (coeP_all hI h1 hx) (coePs_all hI h2 hl)
 | [], _ :: _, _, _, _, hs => hs.elim
 | _ :: _, [], _, _, _, hs => hs.elim
theorem coePs_nil : ∀ {ps : List PSh} {ds r : List D} {vs : List Value}, RDs κ ds vs → (coePs [] ps ds).leads r → RDs κ r vs
 | [], [], r, vs, h, hs => by cases hs; rw [h.nil_inv]; exact .nil
 | p :: ps, d :: ds, r, vs, h, hs => by
  simp only [coePs, T.leads_bind] at hs
  obtain ⟨x, hx, l, hl, rfl⟩ := hs
  obtain ⟨v, us, rfl, h1, h2⟩ := h.cons_inv
  exact .cons (coeP_nil h1 hx) (coePs_nil h2 hl)
 | [], _ :: _, _, _, hs, h => h.elim
 | _ :: _, [], _, _, hs, h => h.elim
def KS.bare (κ : KS) (ok : Nat → Prop) : KS := ⟨κ.w, ok, [], []⟩
theorem bare_inv {ok : Nat → Prop} (hI : Inv κ) (hs : ∀ k, κ.ok k → ok k) (h : ∀ k, ok k → k < κ.w.heap.size) : Inv (κ.bare ok) :=
 ⟨rfl, h, fun b blk n h => by simp [KS.bare] at h, fun b b' blk n n' h => by simp [KS.bare] at h, fun b x h => by simp [KS.bare] at h, hI.gl.mono fun k hk => ⟨hs k hk, rfl⟩⟩
theorem data1_bare {ok : Nat → Prop} {d : D} {v : Value} (hi : data1 d = true) (h : RD { κ with ok := ok } d v) : RD (κ.bare ok) d v := by
 cases d with
 | imm τ x => obtain ⟨cs, h1, rfl⟩ := RD.imm_inv h; exact .imm τ x cs h1
 | rptr τ x => cases h with | rptr _ _ cs blk off hok h hc => exact .rptr τ x cs blk off hok h hc
 | _ => cases hi
theorem data_bare {ok : Nat → Prop} {d : D} {v : Value} (hi : dataD d = true) (h : RD { κ with ok := ok } d v) : RD (κ.bare ok) d v := by
 cases d with
 | clo f l =>
  cases h with
  | clo _ _ vs hl hh => exact .clo f l vs hl fun i h1 h2 => data1_bare (List.all_eq_true.1 hi _ (List.getElem_mem h1)) (hh i h1 h2)
 | imm τ x => exact data1_bare hi h
 | rptr τ x => exact data1_bare hi h
 | _ => cases hi
theorem back_ext {κ1 : KS} {ok : Nat → Prop} (hI : Inv κ) (hI1 : Inv κ1) (hst : κ1.st = []) (hx : Ext (κ.bare ok) κ1) (ok' : Nat → Prop) (h1 : ∀ k, κ.ok k → ok' k) (h2 : ∀ k, ok' k → κ.ok k ∨ κ.w.heap.size ≤ k) (h3 : ∀ k, ok' k → k < κ1.w.heap.size) :
  Ext κ { κ with w := κ1.w, ok := ok' } ∧ Inv { κ with w := κ1.w, ok := ok' } := by
 have hfr : ∀ k, k < κ.w.heap.size → κ1.w.heap[k]? = κ.w.heap[k]? := fun k hk => hx.frame k hk fun b n h => by simp [KS.bare] at h
 have hsz : κ.w.heap.size ≤ κ1.w.heap.size := hx.size
 have he : Ext κ { κ with w := κ1.w, ok := ok' } := ⟨hx.os, hx.tape, hx.output, hsz, fun k hk => ⟨h1 k hk, hfr k (hI.okLt k hk)⟩, fun k hk => (h2 k hk).elim .inl (fun h => .inr (.inl h)), fun _ _ _ h => .inl h, fun b d h => ⟨⟨d, h⟩, rfl⟩,
  fun b v0 e xs h => .inr ⟨v0, xs, h, Nat.le_refl _, fun _ => ⟨rfl, rfl⟩⟩, fun _ h => h, Nat.le_refl _, fun k hk _ => hfr k hk⟩
 refine ⟨he, hI.len, h3, fun b blk n h => ?_, hI.inj, fun b x h => (hI.blk b x h).mono he rfl fun blk n h => hfr _ (hI.apart b blk n h).1, hI.gl.mono he.same⟩
 obtain ⟨g1, g2⟩ := hI.apart b blk n h
 refine ⟨Nat.lt_of_lt_of_le g1 hsz, fun hk => ?_⟩
 rcases h2 blk hk with h | h
 ·exact g2 h
 ·exact absurd g1 (Nat.not_lt.2 h)
theorem call_does {g : Nat} {args : List D} {cargs : List Value} {d : Option D} {st' : St} (hs : Snd c.P g (c.fn g)) (hI : Inv κ) (ha : RDs κ args cargs)
  (h : (runCls (match c.sig g args with | some s => callPure c g s args | none => callRaw c g args) κ.st).leads (d, st')) :
  CallDoes c.P g cargs.toArray κ.w fun e w' => ∃ (κ' : KS) (v : Value), κ'.w = w' ∧ κ'.st = st' ∧ Inv κ' ∧ Ext κ κ' ∧ e = .returned v ∧ ∀ d', d = some d' → RD κ' d' v := by
 split at h
 ·rename_i s hsig
  unfold callPure at h
  cases hm : (!(args.any needSt)) with
  | true =>
   rw [hm, cond_true, leads_val] at h
   obtain ⟨h, rfl⟩ := h
   simp only [T.leads_bind] at h
   obtain ⟨l, hl, ⟨rs, st1⟩, hc, hr⟩ := h
   have hargs := coePs_nil ha hl
   have hb : RDs (κ.bare κ.ok) l cargs := ⟨hargs.1, fun i h1 h2 => data_bare (coePs_data hl _ (List.getElem_mem h1)) (hargs.2 i h1 h2)⟩
   refine (hs (κ.bare κ.ok) l cargs rs st1 hc (bare_inv hI (fun _ h => h) hI.okLt) hb).mono ?_
   rintro e w' ⟨κ1, rfl, hst, hI1, hx, he⟩
   unfold retOf at hr
   split at hr
   ·rename_i ds heq
    cases heq
    cases hr
    obtain ⟨v, rfl, hv⟩ := he
    obtain ⟨hE, hI'⟩ := back_ext hI hI1 hst hx κ1.ok (fun k hk => (hx.same k hk).1) (fun k hk => by
     rcases hx.fresh k hk with h | h | ⟨b, n, h⟩
     ·exact .inl h
     ·exact .inr h
     ·simp [KS.bare] at h) hI1.okLt
    exact ⟨{ κ with w := κ1.w, ok := κ1.ok }, v, rfl, rfl, hI', hE, rfl, fun d' hd' => by cases hd'; exact RD.free (κ := κ1) (κ' := { κ with w := κ1.w, ok := κ1.ok }) rfl rfl hst hv⟩
   ·exact hr.elim
  | false =>
   rw [hm, cond_false, leads_rd] at h
   obtain ⟨h, rfl⟩ := h
   simp only [T.leads_bind] at h
   obtain ⟨l, hl, ⟨rs, st1⟩, hc, hr⟩ := h
   have hargs := coePs_all hI ha hl
   have hb : RDs (κ.bare (okS κ)) l cargs := ⟨hargs.1, fun i h1 h2 => data_bare (coePs_data hl _ (List.getElem_mem h1)) (hargs.2 i h1 h2)⟩
   have hlt : ∀ k, okS κ k → k < κ.w.heap.size := by
    rintro k (hk | ⟨b, n, hk⟩)
    ·exact hI.okLt k hk
    ·exact (hI.apart b k n hk).1
   refine (hs (κ.bare (okS κ)) l cargs rs st1 hc (bare_inv hI (fun _ h => .inl h) hlt) hb).mono ?_
   rintro e w' ⟨κ1, rfl, hst, hI1, hx, he⟩
   unfold retScalar at hr
   split at hr
   ·rename_i ds heq
    cases heq
    cases hall : ds.all scalarD with
    | false => rw [hall] at hr; exact hr.elim
    | true =>
     rw [hall, cond_true] at hr
     cases hr
     obtain ⟨v, rfl, hv⟩ := he
     obtain ⟨hE, hI'⟩ := back_ext hI hI1 hst hx κ.ok (fun k hk => hk) (fun k hk => .inl hk) (fun k hk => Nat.lt_of_lt_of_le (hI.okLt k hk) hx.size)
     refine ⟨{ κ with w := κ1.w, ok := κ.ok }, v, rfl, rfl, hI', hE, rfl, fun d' hd' => ?_⟩
     cases hd'
     have one : ∀ d u, scalarD d = true → RD κ1 d u → RD { κ with w := κ1.w, ok := κ.ok } d u := by
      intro d u hd hu
      cases d <;> simp [scalarD] at hd
      obtain ⟨cs, h1, rfl⟩ := RD.imm_inv hu
      exact .imm _ _ cs (h1.scalar hd)
     have hmem := List.all_eq_true.1 hall
     unfold packRes at hv ⊢
     split at hv
     ·exact one _ _ (hmem _ (by simp)) hv
     ·rename_i hne
      cases hv with
      | tup _ vs hl hh => exact .tup ds vs hl fun i h1 h2 => one _ _ (hmem _ (List.getElem_mem h1)) (hh i h1 h2)
   ·exact hr.elim
 ·unfold callRaw at h
  simp only [runCls, T.leads_bind] at h
  obtain ⟨⟨rs, st1⟩, hc, hr⟩ := h
  refine (hs κ args cargs rs st1 hc hI ha).mono ?_
  rintro e w' ⟨κ1, rfl, hst, hI1, hx, he⟩
  cases rs with
  | pan p => exact hr.elim
  | ret ds =>
   cases hr
   obtain ⟨v, rfl, hv⟩ := he
   exact ⟨κ1, v, rfl, hst, hI1, hx, rfl, fun d' hd' => by cases hd'; exact hv⟩
end
end Go.AM