/-
  The abstract machine, part D: texts of our own, the same for each claim.
-/
import Derived.Test.YtalglafbfldajaaGreatDoorAmA
import Derived.Lib.LaidTab
import Derived.Shelf.Vars
import Derived.Test.YtalglafbfldajaaGreatDoorAmC
import Derived.OpenShut
import Derived.Test.YtalglafbfldajaaGreatDoorAmB
import Derived.Lib.LazyBuf
import Derived.Below
import Derived.Lib.Repeat
import Derived.Lib.ItoaNum
import Derived.Lib.IndexMore
import Derived.Lib.AsciiSet
import Derived.Lib.Strings
import Derived.Sort.Grow
import Derived.Deep.Draws
import Derived.Recover
set_option linter.unusedVariables false
namespace Go.AM
def isInt1 (k : IntKind) (o : Obj) : Prop := ∃ m t fr, o = .cells #[.int k m] t fr
theorem int1_cell {w : World} {k : IntKind} {g : Nat} (h : ∃ o, w.heap[g]? = some o ∧ isInt1 k o) : ∃ m, w.cell? ⟨g, 0, none⟩ = some (.int k m) := by
 obtain ⟨o, ho, m, t, fr, rfl⟩ := h
 exact ⟨m, by simp [World.cell?, ho]⟩
theorem int1_heap {P : Program} {w : World} {g : Nat} {t : TypeId} {zero : Array Value} {k : IntKind}
  (h : w.ShapedOpen P) (hg : g < P.globals.size)
  (h0 : ((begin P (fun _ _ => 0) default).world.heap[g]?).bind Obj.row? = some (zero, t)) (hz : zero.size = 1)
  (hb : P.buildable t = true) (hc : P.cellTypes P.depth t = some [t]) (hu : P.underlying t = some (.int k)) : g < w.heap.size ∧ ∃ o, w.heap[g]? = some o ∧ isInt1 k o := by
 obtain ⟨m, hm⟩ := Go.Proofs.cell_of_shapedOpen_int h hg h0 hz hb hc hu
 obtain ⟨cs, hh, hs, _⟩ := h.1 g zero t hg h0
 have hl : cs.size = 1 := hs.trans hz
 refine ⟨(Array.getElem?_eq_some_iff.1 hh).1, _, hh, m, t, (0, 0), ?_⟩
 have h1 : w.cell? ⟨g, 0, none⟩ = some cs[0] := by simp [World.cell?, hh, hl]
 rw [hm] at h1
 have h2 : cs[0] = .int k m := (Option.some.inj h1).symm
 have : cs = #[.int k m] := by
  apply Array.ext
  ·simpa using hl
  ·intro i hi hj
   have : i = 0 := by omega
   subst this
   simpa using h2
 rw [this]
end Go.AM
namespace Go.AM
open Go.RowKit
mutual
def bkE : Expr → Nat
 | .mk _ n s l => 1 + ((1 + ((List.length n.2.1 + 1) + ((List.length n.2.2.1 + 1) + 1))) + ((List.length s + 1) + ((bkEs l + 1) + 1)))
def bkEs : List Expr → Nat
 | [] => 0
 | e :: r => bkE e + bkEs r
end
def sumB {α : Type} (f : α → Nat) : List α → Nat
 | [] => 0
 | x :: r => f x + sumB f r
def bk : (τ : Ty) → den τ → Nat
 | .int _, _ => 1
 | .bool, _ => 1
 | .str, s => List.length s + 1
 | .sl e, l => sumB (bk e) l + 1
 | .nil, _ => 1
 | .cons a b, x => bk a x.1 + bk b x.2
 | .expr, x => bkE x
theorem sumB_one {α : Type} (l : List α) : sumB (fun _ => 1) l = l.length := by induction l with | nil => rfl | cons x r ih => simp [sumB, ih]; omega
theorem bkEs_eq (l : List Expr) : bkEs l = sumB (bk .expr) l := by induction l with | nil => rfl | cons x r ih => simp [bkEs, sumB, ih, bk]
theorem bk_flds (x : Expr) : bk exprF x.flds = bk .expr x := by
 cases x with | mk k n s l =>
 simp only [bk, Expr.flds, bkE, bkEs_eq, Expr.kind, Expr.num, Expr.name, Expr.kids, sumB_one]
mutual
def wfE : Expr → Prop
 | .mk k n s l => (IntKind.i64.min ≤ k ∧ k ≤ IntKind.i64.max) ∧ ((True ∧ ((∀ x ∈ n.2.1, IntKind.u32.min ≤ x ∧ x ≤ IntKind.u32.max) ∧ ((∀ x ∈ n.2.2.1, IntKind.u32.min ≤ x ∧ x ≤ IntKind.u32.max) ∧ True))) ∧ (List.length s ≤ maxLen ∧ (wfEs l ∧ True)))
def wfEs : List Expr → Prop
 | [] => True
 | e :: r => wfE e ∧ wfEs r
end
def wf : (τ : Ty) → den τ → Prop
 | .int k, n => k.min ≤ n ∧ n ≤ k.max
 | .bool, _ => True
 | .str, s => List.length s ≤ maxLen
 | .sl e, l => ∀ x ∈ l, wf e x
 | .nil, _ => True
 | .cons a b, x => wf a x.1 ∧ wf b x.2
 | .expr, x => wfE x
theorem wfEs_eq (l : List Expr) : wfEs l ↔ ∀ x ∈ l, wf .expr x := by induction l with | nil => simp [wfEs] | cons x r ih => simp [wfEs, ih, wf]
theorem wf_flds (x : Expr) : wf exprF x.flds ↔ wf .expr x := by
 cases x with | mk k n s l => simp only [wf, Expr.flds, wfE, wfEs_eq, Expr.kind, Expr.num, Expr.name, Expr.kids]
structure Bulk (H : Type) where
 b : DataW H → Nat
 bs : List (DataW H) → Nat
 str : ∀ s, b (.lit (.string s)) = s.length + 1
 bool : ∀ x, b (.lit (.bool x)) = 1
 int : ∀ k n, b (.lit (.int k n)) = 1
 nil : b .nil = 1
 slice : ∀ x y, b (.slice x y) = bs x + bs y + 1
 agg : ∀ x, b (.agg x) = bs x + 1
 zero : bs [] = 0
 cons : ∀ x r, bs (x :: r) = b x + bs r
section
variable (P : Program) (xid : Nat)
def offsB : Nat → List Field → Bool
 | _, [] => true
 | o, f :: r => Nat.beq f.offset o && offsB (o + P.cellsOf f.type) r
def endOf : Nat → List Field → Nat
 | o, [] => o
 | o, f :: r => endOf (o + P.cellsOf f.type) r
def ty2 : Nat → Nat → Option Ty
 | 0, _ => none
 | n + 1, t => bif Nat.beq t xid then some .expr else
  match P.underlying t with
  | some (.int k) => some (.int k)
  | some .bool => some .bool
  | some .string => some .str
  | some (.slice e) => match ty2 n e with | some a => bif Nat.beq (P.cellsOf e) a.size && Nat.blt 0 a.size then some (.sl a) else none | none => none
  | some (.struct fs) => bif offsB P 0 fs.toList && Nat.beq (endOf P 0 fs.toList) (P.cellsOf t) then tyCons (fs.toList.map fun f => ty2 n f.type) else none
  | _ => none
def xokB (m : Nat) : Bool := match P.underlying xid with
 | some (.struct fs) => offsB P 0 fs.toList && Nat.beq (endOf P 0 fs.toList) (P.cellsOf xid) && decide (tyCons (fs.toList.map fun f => ty2 P xid m f.type) = some exprF)
 | some _ => false
 | none => true
end
section
variable {H : Type} {enc : TypeId × Value → H} {P : Program} {w : World} {xid m : Nat} (B : Bulk H)
def Opens (w : World) (B : Bulk H) (τ : Ty) (cs : List Value) (k : Nat) : Prop := ∃ x : den τ, Rc w (fun k => k < w.heap.size) τ x cs ∧ wf τ x ∧ bk τ x ≤ k
theorem open_fields {fuel : Nat} {cs : List Value} (ih : ∀ n t τ cs d ps, ty2 P xid n t = some τ → DataW.trod enc P w 0 (fun _ => true) true fuel t cs = some (d, ps) → Opens w B τ cs (B.b d)) {n : Nat} :
  ∀ (fs : List Field) (o : Nat) (τ : Ty) (xs : List (DataW H × List MemPlace)), tyCons (fs.map fun f => ty2 P xid n f.type) = some τ → offsB P o fs = true → endOf P o fs = cs.length → xs.length = fs.length →
   (∀ (i : Nat) (f : Field), fs[i]? = some f → DataW.trod enc P w 0 (fun _ => true) true fuel f.type ((cs.drop f.offset).take (P.cellsOf f.type)) = xs[i]?) → Opens w B τ (cs.drop o) (B.bs (xs.map (·.1)) + 1)
 | [], o, τ, xs, ht, _, he, hl, _ => by
  cases ht
  simp only [endOf] at he
  obtain rfl : xs = [] := List.eq_nil_of_length_eq_zero hl
  refine ⟨(), ?_, trivial, by simp [bk]⟩
  rw [he, List.drop_length]; exact .nil
 | f :: r, o, τ, xs, ht, ho, he, hl, hx => by
  cases xs with
  | nil => simp at hl
  | cons x xs =>
  simp only [offsB, Bool.and_eq_true] at ho
  have ho1 : f.offset = o := Nat.eq_of_beq_eq_true ho.1
  simp only [List.map_cons] at ht
  cases h1 : ty2 P xid n f.type with
  | none => rw [h1] at ht; cases ht
  | some a =>
   rw [h1] at ht
   simp only [tyCons] at ht
   cases h2 : tyCons (r.map fun f => ty2 P xid n f.type) with
   | none => rw [h2] at ht; cases ht
   | some b =>
    rw [h2] at ht
    cases ht
    obtain ⟨x1, p1, p2, p3⟩ := ih n f.type a _ x.1 x.2 h1 (by have := hx 0 f rfl; simpa using this)
    obtain ⟨x2, q1, q2, q3⟩ := open_fields ih r (o + P.cellsOf f.type) b xs h2 ho.2 he (by simpa using hl) (fun i g hg => by have := hx (i + 1) g (by simpa using hg); simpa using this)
    refine ⟨(x1, x2), ?_, ⟨p2, q2⟩, ?_⟩
    ·have e : cs.drop o = (cs.drop o).take (P.cellsOf f.type) ++ cs.drop (o + P.cellsOf f.type) := by
      conv => lhs; rw [← List.take_append_drop (P.cellsOf f.type) (cs.drop o)]
      rw [List.drop_drop]
     rw [e]
     rw [ho1] at p1
     exact .cons _ _ _ _ _ _ p1 q1
    ·simp only [bk, List.map_cons, B.cons]; omega
theorem open_list {e : Ty} (k : Nat) : ∀ (n : Nat) (elems : List (DataW H × List MemPlace)) (g : Nat → List Value), elems.length = n → (∀ i, i < n → ∃ d, elems[i]? = some d ∧ Opens w B e (g i) (B.b d.1)) →
  ∃ l : List (den e), l.length = n ∧ (∀ i (hi : i < l.length), Rc w (fun k => k < w.heap.size) e l[i] (g i)) ∧ (∀ x ∈ l, wf e x) ∧ sumB (bk e) l ≤ B.bs (elems.map (·.1))
 | 0, elems, g, hl, _ => by
  obtain rfl : elems = [] := List.eq_nil_of_length_eq_zero hl
  exact ⟨[], rfl, fun i hi => absurd hi (Nat.not_lt_zero i), by simp, by simp [sumB]⟩
 | n + 1, elems, g, hl, h => by
  cases elems with
  | nil => simp at hl
  | cons y ys =>
   obtain ⟨d, h1, x, h2, h3, h4⟩ := h 0 (by omega)
   simp at h1
   subst h1
   obtain ⟨l, l1, l2, l3, l4⟩ := open_list k n ys (fun i => g (i + 1)) (by simpa using hl) fun i hi => by
    obtain ⟨d, h1, h2⟩ := h (i + 1) (by omega)
    exact ⟨d, by simpa using h1, h2⟩
   refine ⟨x :: l, by simp [l1], fun i hi => ?_, fun z hz => ?_, ?_⟩
   ·cases i with
    | zero => exact h2
    | succ i => exact l2 i (by simpa using hi)
   ·rcases List.mem_cons.1 hz with rfl | hz
    ·exact h3
    ·exact l3 z hz
   ·simp only [sumB, List.map_cons, B.cons]; omega
theorem open_trod (hx : xokB P xid m = true) : ∀ (fuel n t : Nat) (τ : Ty) (cs : List Value) (d : DataW H) (ps : List MemPlace), ty2 P xid n t = some τ → DataW.trod enc P w 0 (fun _ => true) true fuel t cs = some (d, ps) → Opens w B τ cs (B.b d) := by
 intro fuel
 induction fuel with
 | zero => intro n t τ cs d ps _ h; simp [DataW.trod] at h
 | succ fuel ih =>
  intro n t τ cs d ps ht h
  have struct : ∀ (fs : Array Field) (k : Nat) (σ : Ty), P.underlying t = some (.struct fs) → (offsB P 0 fs.toList && Nat.beq (endOf P 0 fs.toList) (P.cellsOf t)) = true → tyCons (fs.toList.map fun f => ty2 P xid k f.type) = some σ → Opens w B σ cs (B.b d) := by
   intro fs k σ hu ho hc
   simp only [Bool.and_eq_true] at ho
   obtain ⟨xs, n', hn, hd, hl, hlx, hxs⟩ := DataW.trod_struct hu h
   cases hn
   cases hd
   have := open_fields B (cs := cs) (ih := ih) fs.toList 0 σ xs hc ho.1 (by rw [Nat.eq_of_beq_eq_true ho.2, hl]) (by simpa using hlx) (fun i f hf => hxs i f (by simpa using hf))
   rw [B.agg]
   simpa using this
  cases n with
  | zero => cases ht
  | succ n =>
   unfold ty2 at ht
   cases hb : Nat.beq t xid with
   | true =>
    rw [hb, cond_true] at ht
    cases ht
    have := Nat.eq_of_beq_eq_true hb
    subst this
    unfold xokB at hx
    split at hx
    ·rename_i fs hu
     simp only [Bool.and_eq_true, decide_eq_true_eq] at hx
     obtain ⟨x, h1, h2, h3⟩ := struct fs m exprF hu (by simp [hx.1.1, hx.1.2]) hx.2
     refine ⟨Expr.ofFlds x, .expr _ _ _ _ _ h1, ?_, ?_⟩
     ·exact (wf_flds (Expr.ofFlds x)).1 h2
     ·rw [← bk_flds (Expr.ofFlds x)]; exact h3
    ·cases hx
    ·rename_i hu
     rw [DataW.trod_step] at h
     simp [DataW.trodStep, hu] at h
   | false =>
    rw [hb, cond_false] at ht
    split at ht
    ·rename_i k hu
     cases ht
     obtain ⟨n', rfl, h2, h3⟩ := DataW.trod_int hu h
     cases h2
     simp only [Lit.wf, Bool.and_eq_true, decide_eq_true_eq] at h3
     exact ⟨n', .int k n', h3, by simp [bk, B.int]⟩
    ·rename_i hu
     cases ht
     obtain ⟨b, rfl, h2⟩ := DataW.trod_bool hu h
     cases h2
     exact ⟨b, .bool b, trivial, by simp [bk, B.bool]⟩
    ·rename_i hu
     cases ht
     obtain ⟨s, rfl, h2, h3⟩ := DataW.trod_string hu h
     cases h2
     refine ⟨s.data.toList, ?_, ?_, ?_⟩
     ·have : s = ⟨s.data.toList.toArray⟩ := by cases s; simp
      conv => arg 4; rw [this]
      exact .str _
     ·simp only [wf, Array.length_toList]; exact h3
     ·simp [bk, B.str]
    ·rename_i e hu
     split at ht
     ·rename_i a ha
      cases hc : Nat.beq (P.cellsOf e) a.size && Nat.blt 0 a.size with
      | false => rw [hc] at ht; cases ht
      | true =>
       rw [hc, cond_true] at ht
       cases ht
       simp only [Bool.and_eq_true] at hc
       have hsz : P.cellsOf e = a.size := Nat.eq_of_beq_eq_true hc.1
       have hpos : 0 < a.size := Nat.le_of_ble_eq_true hc.2
       rcases DataW.trod_slice hu h with ⟨rfl, h2⟩ | ⟨p, len, cap, elems, rest, n', hn, rfl, hd, _, hcap, _, hlen, hel, hre, _⟩
       ·cases h2
        exact ⟨[], .slNil a none, by simp [wf], by simp [bk, sumB, B.nil]⟩
       ·cases hn
        cases hd
        by_cases h0 : cap = 0
        ·subst h0
         have : len = 0 := by omega
         subst this
         exact ⟨[], .slNil a (some p), by simp [wf], by simp [bk, sumB, B.slice]⟩
        ·rw [hsz] at hel hre
         -- the place lies in the heap
         have hplace : p.block < w.heap.size ∧ p.spot = none := by
          have first : ∃ x, (w.cells? 0 p a.size) = some x := by
           by_cases hl : len = 0
           ·have := (hre rfl).2 0 (by omega)
            rw [hl] at this
            have hr : (rest[0]?).isSome = true := by simp [(hre rfl).1]; omega
            cases hcc : w.cells? 0 p a.size with
            | some x => exact ⟨x, rfl⟩
            | none =>
             have e0 : p.add ((0 + 0) * a.size) = p := by simp [Addr.add]
             rw [e0, hcc] at this
             rw [← this] at hr
             simp at hr
           ·have := hel 0 (by omega)
            have hr : (elems[0]?).isSome = true := by simp; omega
            cases hcc : w.cells? 0 p a.size with
            | some x => exact ⟨x, rfl⟩
            | none =>
             have e0 : p.add (0 * a.size) = p := by simp [Addr.add]
             rw [e0, hcc] at this
             rw [← this] at hr
             simp at hr
          obtain ⟨x, hx⟩ := first
          refine ⟨World.cells?_block hx hpos, ?_⟩
          have h2 := (World.cells?_some hx).2
          have h3 := h2.2 0 hpos
          rw [List.getElem?_eq_getElem (by omega)] at h3
          have e0 : p.add 0 = p := rfl
          rw [e0] at h3
          cases hs : p.spot with
          | none => rfl
          | some q =>
           unfold World.cell? at h3
           split at h3
           ·rw [hs] at h3; simp at h3
           ·cases h3
         obtain ⟨blk, off, sp⟩ := p
         obtain ⟨hblk, hsp⟩ := hplace
         simp only at hsp hblk
         subst hsp
         have hg : ∀ i, ∃ c : List Value, i < len → ∃ d, elems[i]? = some d ∧ Opens w B a c (B.b d.1) ∧ w.cells? 0 ⟨blk, off + i * a.size, none⟩ a.size = some c := by
          intro i
          by_cases hi : i < len
          ·have := hel i hi
           rw [addr_add] at this
           cases hcc : w.cells? 0 ⟨blk, off + i * a.size, none⟩ a.size with
           | none =>
            rw [hcc] at this
            have hr : (elems[i]?).isSome = true := by simp; omega
            rw [← this] at hr
            simp at hr
           | some c =>
            rw [hcc] at this
            simp only [Option.bind_some] at this
            refine ⟨c, fun _ => ⟨elems[i]'(by omega), by simp, ?_, rfl⟩⟩
            exact ih n e a c _ _ ha (this.trans (by rw [List.getElem?_eq_getElem (by omega)]))
          ·exact ⟨[], fun h => absurd h hi⟩
         let g : Nat → List Value := fun i => Classical.choose (hg i)
         have hg' : ∀ i, i < len → ∃ d, elems[i]? = some d ∧ Opens w B a (g i) (B.b d.1) ∧ w.cells? 0 ⟨blk, off + i * a.size, none⟩ a.size = some (g i) := fun i hi => Classical.choose_spec (hg i) hi
         obtain ⟨l, l1, l2, l3, l4⟩ := open_list B (w := w) (e := a) 0 len elems g hlen fun i hi => by
          obtain ⟨d, h1, h2, _⟩ := hg' i hi
          exact ⟨d, h1, h2⟩
         refine ⟨l, ?_, l3, ?_⟩
         ·have := Rc.sl (w := w) (ok := fun k => k < w.heap.size) a l blk off cap g hblk (by omega) l2 fun i hi j v hj => by
           obtain ⟨d, _, _, h3⟩ := hg' i (by omega)
           obtain ⟨_, k2, k3⟩ := World.cells?_some h3
           have hjl : j < (g i).length := (List.getElem?_eq_some_iff.1 hj).1
           have := k3 j (by omega)
           rw [addr_add, hj] at this
           exact this
          rwa [l1] at this
         ·simp only [bk, B.slice]; omega
     ·cases ht
    ·rename_i fs hu
     cases hc : offsB P 0 fs.toList && Nat.beq (endOf P 0 fs.toList) (P.cellsOf t) with
     | false => rw [hc] at ht; cases ht
     | true =>
      rw [hc, cond_true] at ht
      exact struct fs n τ hu hc ht
    ·cases ht
end
end Go.AM
namespace Go.AM
set_option linter.unusedSectionVars false
variable [Glob]
open Go.RowKit Go.ChangeShapes
def denL : List Ty → Type
 | [] => Unit
 | τ :: r => den τ × denL r
def mkD : (τs : List Ty) → denL τs → List D
 | [], _ => []
 | τ :: r, x => .imm τ x.1 :: mkD r x.2
def wfL : (τs : List Ty) → denL τs → Prop
 | [], _ => True
 | τ :: r, x => wf τ x.1 ∧ wfL r x.2
def bkL : (τs : List Ty) → denL τs → Nat
 | [], _ => 0
 | τ :: r, x => bk τ x.1 + bkL r x.2
def okTypes (P : Program) (ts : List Nat) : Bool := ts.all fun t => P.readableRec t && decide (t < P.types.size)
section
variable {H : Type} {enc : TypeId × Value → H} {P : Program} {xid m n : Nat} {w : World}
theorem arg_pk {t : Nat} {τ : Ty} {v : Value} {base : Nat} (ht : ty2 P xid n t = some τ) (hx : xokB P xid m = true) (h : Value.okWide P w .any base t v) : pk τ v.cells.toList = v := by
 cases n with
 | zero => cases ht
 | succ n =>
  have agg : ∀ fs : Array Field, P.underlying t = some (.struct fs) → τ.isAgg = true → pk τ v.cells.toList = v := by
   intro fs hu ha
   unfold Value.okWide at h
   rw [hu] at h
   obtain ⟨cs, rfl, _⟩ := h
   simp [pk, ha, Value.cells]
  unfold ty2 at ht
  cases hb : Nat.beq t xid with
  | true =>
   rw [hb, cond_true] at ht
   cases ht
   have := Nat.eq_of_beq_eq_true hb
   subst this
   unfold xokB at hx
   split at hx
   ·rename_i fs hu; exact agg fs hu rfl
   ·cases hx
   ·rename_i hu
    unfold Value.okWide at h
    rw [hu] at h
    simp [Cell.okWide, Cell.ok, hu] at h
  | false =>
   rw [hb, cond_false] at ht
   split at ht
   ·rename_i k hu
    cases ht
    unfold Value.okWide at h
    rw [hu] at h
    simp only [Cell.okWide, hu, Cell.ok] at h
    split at h <;> simp_all [pk, Ty.isAgg, Value.cells]
   ·rename_i hu
    cases ht
    unfold Value.okWide at h
    rw [hu] at h
    simp only [Cell.okWide, hu, Cell.ok] at h
    split at h <;> simp_all [pk, Ty.isAgg, Value.cells]
   ·rename_i hu
    cases ht
    unfold Value.okWide at h
    rw [hu] at h
    simp only [Cell.okWide, hu, Cell.ok] at h
    split at h <;> simp_all [pk, Ty.isAgg, Value.cells]
   ·rename_i e hu
    have h1 : τ.isAgg = false := by
     split at ht
     ·rename_i a ha
      cases hc : Nat.beq (P.cellsOf e) a.size && Nat.blt 0 a.size with
      | false => rw [hc] at ht; cases ht
      | true => rw [hc, cond_true] at ht; cases ht; rfl
     ·cases ht
    unfold Value.okWide at h
    rw [hu] at h
    simp only [Cell.okWide, hu, Cell.ok] at h
    split at h <;> simp_all [pk, Value.cells]
   ·rename_i fs hu
    refine agg fs hu ?_
    cases hc : offsB P 0 fs.toList && Nat.beq (endOf P 0 fs.toList) (P.cellsOf t) with
    | false => rw [hc] at ht; cases ht
    | true =>
     rw [hc, cond_true] at ht
     have key : ∀ (l : List (Option Ty)), tyCons l = some τ → τ.isAgg = true := by
      intro l hl
      cases l with
      | nil => cases hl; rfl
      | cons a r =>
       cases a with
       | none => cases hl
       | some a =>
        simp only [tyCons] at hl
        cases h2 : tyCons r with
        | none => rw [h2] at hl; cases hl
        | some b => rw [h2] at hl; cases hl; rfl
     exact key _ ht
   ·cases ht
theorem open_all (B : Bulk H) (hx : xokB P xid m = true) {base : Nat} : ∀ (ts : List TypeId) (τs : List Ty) (vs : List Value) (ds : List (DataW H)) (ps : List MemPlace), ts.map (ty2 P xid n) = τs.map some →
  DataW.TrodAll enc P w 0 (fun _ => true) true ts vs ds ps → (∀ (j : Nat) t v, ts[j]? = some t → vs[j]? = some v → Value.okWide P w .any base t v) →
  ∃ x : denL τs, RDs ⟨w, fun k => k < w.heap.size, [], []⟩ (mkD τs x) vs ∧ wfL τs x ∧ bkL τs x ≤ B.bs ds ∧ ds.length = τs.length
 | [], τs, vs, ds, ps, ht, h, _ => by
  cases τs with
  | cons => cases ht
  | nil =>
   cases vs <;> cases ds <;> simp only [DataW.TrodAll] at h
   exact ⟨(), ⟨rfl, fun i h1 => absurd h1 (Nat.not_lt_zero i)⟩, trivial, Nat.zero_le _, rfl⟩
 | t :: ts, τs, vs, ds, ps, ht, h, hv => by
  cases τs with
  | nil => cases ht
  | cons τ τs =>
   simp only [List.map_cons, List.cons.injEq] at ht
   cases vs with
   | nil => simp [DataW.TrodAll] at h
   | cons v vs =>
    cases ds with
    | nil => simp [DataW.TrodAll] at h
    | cons d ds =>
     simp only [DataW.TrodAll] at h
     obtain ⟨p, q, ⟨fuel, h1⟩, h2, _⟩ := h
     obtain ⟨x, k1, k2, k3⟩ := open_trod B hx fuel n t τ _ d p ht.1 h1
     obtain ⟨y, g1, g2, g3, g4⟩ := open_all B hx ts τs vs ds q ht.2 h2 fun j t v a b => hv (j + 1) t v (by simpa using a) (by simpa using b)
     refine ⟨(x, y), ⟨by simp only [mkD, List.length_cons]; rw [g1.1], fun i h1 h2 => ?_⟩, ⟨k2, g2⟩, ?_, by simp [g4]⟩
     ·cases i with
      | zero =>
       have := RD.imm (κ := ⟨w, fun k => k < w.heap.size, [], []⟩) τ x _ k1
       rw [arg_pk ht.1 hx (hv 0 t v rfl rfl)] at this
       exact this
      | succ i => exact g1.2 i (by simpa [mkD] using h1) (by simpa using h2)
     ·simp only [bkL, B.cons]; omega
theorem below_all (hl : laidOutB P = true) {W W' : World} (hb : Below W.heap.size W W') : ∀ (ts : List TypeId) (vs : List Value) (ds : List (DataW H)) (ps : List MemPlace), okTypes P ts = true →
  DataW.TrodAll enc P W 0 (fun _ => true) true ts vs ds ps → (∀ x ∈ ps, x.block < W.heap.size) → DataW.TrodAll enc P W' 0 (fun b => decide (b < W.heap.size)) true ts vs ds ps
 | [], vs, ds, ps, _, h, _ => by cases vs <;> cases ds <;> simp_all [DataW.TrodAll]
 | t :: ts, vs, ds, ps, ht, h, hlt => by
  cases vs with
  | nil => simp [DataW.TrodAll] at h
  | cons v vs =>
   cases ds with
   | nil => simp [DataW.TrodAll] at h
   | cons d ds =>
    simp only [DataW.TrodAll] at h ⊢
    obtain ⟨p, q, h1, h2, rfl⟩ := h
    simp only [okTypes, List.all_cons, Bool.and_eq_true, decide_eq_true_eq] at ht
    exact ⟨p, q, Below.trod hl ht.1.1 ht.1.2 h1 hb fun x hx => hlt x (by simp [hx]), below_all hl hb ts vs ds q (by simpa [okTypes] using ht.2) h2 fun x hx => hlt x (by simp [hx]), rfl⟩
end
theorem law_calls {H : Type} {enc : TypeId × Value → H} {P : Program} {f : Nat} {fn : Func} {S : List D → St → T (Res × St)} (hS : Snd P f S) (hf : P.funcs[f]? = some fn) (hbd : fn.body.isNone = false) (hnm : (fn.name == "runtime.NumGoroutine") = false)
  (hl : laidOutB P = true) (xid m n : Nat) (τs : List Ty) (hts : okTypes P fn.params.toList = true) (hτ : fn.params.toList.map (ty2 P xid n) = τs.map some) (hx : xokB P xid m = true)
  {bt : TypeId} (hr : fn.resultTypes = #[bt]) (hbt : P.underlying bt = some .bool) {s : ChangeSpec} (hv : s.vars = []) (hs : ∀ ds : List (DataW H), ds.length = τs.length → s.fn H ds = { results := [.lit (.bool true)], args := ds })
  (B : Bulk H) {lim : Nat} (law : ∀ x : denL τs, wfL τs x → bkL τs x ≤ lim → (S (mkD τs x) []).leads (.ret [.imm .bool true], []))
  {fresh handsOn : Bool} {W : World} {base : Nat} {args : Array Value} {ds gs : List (DataW H)} {before : List MemPlace}
  (hval : ∀ (j : Nat) t v, fn.params[j]? = some t → args[j]? = some v → Value.okWide P W .any base t v)
  (hW : DataW.Whole enc P fn.params.toList s.vars false W args.toList ds gs before) (hk : B.bs (ds ++ gs) ≤ lim) (hG : GlobOk W fun k => k < W.heap.size) :
  Calls P f args W fun e W' => ∃ v, e = .returned v ∧ s.post enc P fn false fresh handsOn false W args v W' := by
 have hW' := hW
 obtain ⟨p, q, hA, hV, rfl, hfz, hnd⟩ := hW
 rw [hv] at hV
 obtain ⟨rfl, rfl⟩ := trodVars_none hV
 simp only [List.append_nil] at hk hW'
 obtain ⟨x, h1, h2, h3, h4⟩ := open_all (n := n) B hx fn.params.toList τs args.toList ds p hτ hA fun j t v a b => hval j t v (by simpa using a) (by simpa using b)
 have hI : Inv ⟨W, fun k => k < W.heap.size, [], []⟩ :=
  ⟨rfl, fun k hk => hk, fun b blk n h => by simp at h, fun b b' blk n n' h => by simp at h, fun b x h => by simp at h, hG⟩
 have hcall := hS ⟨W, fun k => k < W.heap.size, [], []⟩ (mkD τs x) args.toList _ _ (law x h2 (Nat.le_trans h3 hk)) hI h1
 rw [Array.toArray_toList] at hcall
 have key : Calls P f args W fun e w' => ∃ κ' : KS, κ'.w = w' ∧ κ'.st = [] ∧ Inv κ' ∧ Ext ⟨W, fun k => k < W.heap.size, [], []⟩ κ' ∧ EndRel κ' (.ret [.imm .bool true]) e := by
  rcases hcall with ⟨_, h⟩ | ⟨v, w', h, _⟩
  ·exact h
  ·have := callFunc_enter (args := args) hf hnm hbd W
   simp only at h
   rw [this] at h
   cases h
 refine key.mono fun e W' ⟨κ', e1, _, _, e4, v, e5, e6⟩ => ?_
 subst e1
 have hb : Below W.heap.size W κ'.w := ⟨e4.os, e4.tape, e4.output, e4.size, fun k hk => e4.frame k hk fun b n h => by simp at h⟩
 have hv' : v = .bool true := by
  obtain ⟨cs, g1, g2⟩ := RD.imm_inv (show RD κ' (.imm .bool true) v from e6)
  rw [g1.bool_inv] at g2
  exact g2
 subst hv'
 have hlt : ∀ x ∈ p, x.block < W.heap.size := fun x hx => by simpa using hW'.lt x hx
 refine ⟨_, e5, ds, [], p, [], p, [], hW', ?_, ?_, ?_, hb.frame _, fun h => by cases h⟩
 ·rw [List.append_nil, hs ds h4, hr]
  exact trodAll_cons_mk (shut_bool hbt _) trodAll_mk0
 ·rw [List.append_nil, hs ds h4]
  exact below_all hl hb _ _ _ _ hts hA hlt
 ·rw [List.append_nil, hs ds h4, hv]
  rfl
end Go.AM
namespace Go.AM
def Tup : List Ty → Type
 | [] => Unit
 | [τ] => den τ
 | τ :: σ :: r => den τ × Tup (σ :: r)
def Cap.ty : Cap → Ty | .rp τ => τ | .im τ => τ
def denCaps : List Cap → Type
 | [] => Unit
 | [p] => den p.ty
 | p :: q :: r => den p.ty × denCaps (q :: r)
def mkCap : (p : Cap) → den p.ty → D
 | .rp τ, x => .rptr τ x
 | .im τ, x => .imm τ x
def mkCaps : (l : List Cap) → denCaps l → List D
 | [], _ => []
 | [p], x => [mkCap p x]
 | p :: q :: r, x => mkCap p x.1 :: mkCaps (q :: r) x.2
def dfltCaps : (l : List Cap) → denCaps l
 | [] => ()
 | [p] => dflt p.ty
 | p :: q :: r => (dflt p.ty, dfltCaps (q :: r))
inductive Sk where
 | im (τ : Ty) | row (b : Nat) (e : Ty) | op (b T : Nat) | un
def denSks : List Sk → Type
 | [] => Unit
 | .im τ :: r => den τ × denSks r
 | .row _ _ :: r => denSks r
 | .op _ _ :: r => denSks r
 | .un :: r => denSks r
def dfltSks : (l : List Sk) → denSks l
 | [] => ()
 | .im τ :: r => (dflt τ, dfltSks r)
 | .row _ _ :: r => dfltSks r
 | .op _ _ :: r => dfltSks r
 | .un :: r => dfltSks r
inductive Mc where
 | im (τ : Ty) | rp (τ : Ty) | pt (b : Nat)
def denMcs : List Mc → Type
 | [] => Unit
 | .im τ :: r => den τ × denMcs r
 | .rp τ :: r => den τ × denMcs r
 | .pt _ :: r => denMcs r
def dfltMcs : (l : List Mc) → denMcs l
 | [] => ()
 | .im τ :: r => (dflt τ, dfltMcs r)
 | .rp τ :: r => (dflt τ, dfltMcs r)
 | .pt _ :: r => dfltMcs r
def mkMcs : (l : List Mc) → denMcs l → List D
 | [], _ => []
 | .im τ :: r, x => .imm τ x.1 :: mkMcs r x.2
 | .rp τ :: r, x => .rptr τ x.1 :: mkMcs r x.2
 | .pt b :: r, x => .ptr b 0 :: mkMcs r x
inductive Dk where
 | imm (τ : Ty) | rptr (τ : Ty) | sub (b : Nat) (e : Ty) | clo (f : Nat) (caps : List Cap) | st (ks : List Sk) | mclo (f : Nat) (ms : List Mc)
inductive Ck where
 | ptr (b off : Nat) | cur (b : Nat) (e : Ty) | nilsl | nilp | niface | clo (f : Nat) (l : List (Nat × Nat))
inductive Bk where
 | var (k : Dk) | cvar (k : Ck) | arr (e : Ty) | dead
def Dk.den : Dk → Type
 | .imm τ => AM.den τ
 | .rptr τ => AM.den τ
 | .sub _ _ => Nat × Nat
 | .clo _ caps => denCaps caps
 | .st ks => denSks ks
 | .mclo _ ms => denMcs ms
def Dk.dflt : (k : Dk) → k.den
 | .imm τ => AM.dflt τ
 | .rptr τ => AM.dflt τ
 | .sub _ _ => (0, 0)
 | .clo _ caps => dfltCaps caps
 | .st ks => dfltSks ks
 | .mclo _ ms => dfltMcs ms
inductive It where
 | s (t : Nat) (k : Dk) | v (k : Dk) | a (e : Ty)
def It.den : It → Type
 | .s _ k => k.den
 | .v k => k.den
 | .a e => List (AM.den e)
def It.dflt : (i : It) → i.den
 | .s _ k => k.dflt
 | .v k => k.dflt
 | .a _ => []
def denIts : List It → Type
 | [] => Unit
 | [i] => i.den
 | i :: j :: r => i.den × denIts (j :: r)
def verB : Blk → Nat
 | .arr v _ _ => v
 | _ => 0
def verAt (st : St) (b : Nat) : Nat := match st[b]? with | some x => verB x | none => 0
def mkSks (st : St) : (l : List Sk) → denSks l → List D
 | [], _ => []
 | .im τ :: r, x => AM.flat τ x.1 ++ mkSks st r x.2
 | .row b e :: r, x => .ms b (verAt st b) e 0 (verAt st b) :: mkSks st r x
 | .op b T :: r, x => .optp b T :: mkSks st r x
 | .un :: r, x => .unk :: mkSks st r x
def mkDk (st : St) : (k : Dk) → k.den → D
 | .imm τ, x => .imm τ x
 | .rptr τ, x => .rptr τ x
 | .sub b e, x => .ms b (verAt st b) e x.1 x.2
 | .clo f caps, x => .clo f (mkCaps caps x)
 | .st ks, x => .agg (mkSks st ks x)
 | .mclo f ms, x => .clo f (mkMcs ms x)
def mkCk (st : St) : Ck → D
 | .ptr b off => .ptr b off
 | .cur b e => .ms b (verAt st b) e 0 (verAt st b)
 | .nilsl => .nilsl
 | .nilp => .nilp
 | .niface => .niface
 | .clo f l => .clo f (l.map fun p => .ptr p.1 p.2)
def mkFr (st : St) : (l : List It) → denIts l → Fr
 | [], _ => []
 | [.s t k], x => [(t, some (mkDk st k x))]
 | [.v _], _ => []
 | [.a _], _ => []
 | .s t k :: j :: r, x => (t, some (mkDk st k x.1)) :: mkFr st (j :: r) x.2
 | .v _ :: j :: r, x => mkFr st (j :: r) x.2
 | .a _ :: j :: r, x => mkFr st (j :: r) x.2
def mkCs (st : St) (l : List (Nat × Ck)) : Fr := l.map fun p => (p.1, some (mkCk st p.2))
inductive Bd where
 | v (k : Dk) (x : k.den) | a (e : Ty) (x : List (AM.den e))
def mkBd : (l : List It) → denIts l → List Bd
 | [], _ => []
 | [.s _ _], _ => []
 | [.v k], x => [.v k x]
 | [.a e], x => [.a e x]
 | .s _ _ :: j :: r, x => mkBd (j :: r) x.2
 | .v k :: j :: r, x => .v k x.1 :: mkBd (j :: r) x.2
 | .a e :: j :: r, x => .a e x.1 :: mkBd (j :: r) x.2
def mkSt0 : List Bk → List Bd → St
 | [], _ => []
 | .arr _ :: r, .a e x :: d => .arr x.length e x :: mkSt0 r d
 | .var _ :: r, _ :: d => .dead :: mkSt0 r d
 | .cvar _ :: r, d => .dead :: mkSt0 r d
 | .dead :: r, d => .dead :: mkSt0 r d
 | _ :: _, _ => []
def mkSt1 (st : St) : List Bk → List Bd → St
 | [], _ => []
 | .arr _ :: r, .a e x :: d => .arr x.length e x :: mkSt1 st r d
 | .var _ :: r, .v k x :: d => .var (mkDk st k x) :: mkSt1 st r d
 | .cvar c :: r, d => .var (mkCk st c) :: mkSt1 st r d
 | .dead :: r, d => .dead :: mkSt1 st r d
 | _ :: _, _ => []
def mkSt (bs : List Bk) (d : List Bd) : St := mkSt1 (mkSt0 bs d) bs d
structure Shp where
 its : List It
 cs : List (Nat × Ck)
 bs : List Bk
def Shp.den (s : Shp) : Type := denIts s.its
def Shp.st (s : Shp) (x : s.den) : St := mkSt s.bs (mkBd s.its x)
def Shp.fr (s : Shp) (x : s.den) : Fr := mkFr (s.st x) s.its x ++ mkCs (s.st x) s.cs
def unCap : (p : Cap) → D → Option (den p.ty)
 | .rp τ, d => match d with | .rptr _ x => castTy x | _ => none
 | .im τ, d => coe0 τ d
def unCaps : (l : List Cap) → List D → Option (denCaps l)
 | [], [] => some ()
 | [p], [d] => unCap p d
 | p :: q :: r, d :: ds => (unCap p d).bind fun x => (unCaps (q :: r) ds).bind fun y => some (x, y)
 | _, _ => none
def lenAt (st : St) (b : Nat) : Nat := match st[b]? with | some (.arr _ _ xs) => xs.length | _ => 0
def opSk (st : St) (b T : Nat) (ds : List D) : Option (List D) := match st[b]? with
 | some (.var _) => match ds with
  | .bnil T' :: ds => bif Nat.beq T T' then some ds else none
  | .optp b' T' :: ds => bif Nat.beq b b' && Nat.beq T T' then some ds else none
  | _ => none
 | _ => none
def unSk (ds : List D) : Option (List D) := match ds with
 | d :: ds => bif d.one then some ds else none
 | _ => none
def unSks (st : St) : (l : List Sk) → List D → T (denSks l)
 | [], ds => match ds with | [] => .ret () | _ => .fail
 | .im τ :: r, ds => match uncell τ ds with | some p => (unSks st r p.2).bind fun y => .ret (p.1, y) | none => .fail
 | .row b e :: r, ds => match ds with
  | .ms b' ver e' off len :: ds => bif Nat.beq b b' && decide (e = e') then .obl (curOk ver off len (lenAt st b)) (unSks st r ds) else .fail
  | _ => .fail
 | .op b T :: r, ds => match opSk st b T ds with | some q => unSks st r q | none => .fail
 | .un :: r, ds => match unSk ds with | some q => unSks st r q | none => .fail
def unMcs : (l : List Mc) → List D → T (denMcs l)
 | [], ds => match ds with | [] => .ret () | _ => .fail
 | .im τ :: r, ds => match ds with
  | d :: ds => match coe0 τ d with | some y => (unMcs r ds).bind fun z => .ret (y, z) | none => .fail
  | _ => .fail
 | .rp τ :: r, ds => match ds with
  | .rptr _ x :: ds => match (castTy x : Option (AM.den τ)) with | some y => (unMcs r ds).bind fun z => .ret (y, z) | none => .fail
  | _ => .fail
 | .pt b :: r, ds => match ds with
  | .ptr b' off :: ds => bif Nat.beq b b' && Nat.beq off 0 then unMcs r ds else .fail
  | _ => .fail
def unDk (st : St) : (k : Dk) → D → T k.den
 | .imm τ, d => .ofOpt (coe0 τ d)
 | .rptr τ, d => match d with | .rptr _ x => .ofOpt (castTy x) | _ => .fail
 | .sub b e, d => match d with
  | .ms b' ver e' off len => bif Nat.beq b b' && decide (e = e') then .obl (ver = verAt st b) (.ret (off, len)) else .fail
  | _ => .fail
 | .clo f caps, d => match d with
  | .clo f' l => bif Nat.beq f f' then .ofOpt (unCaps caps l) else .fail
  | _ => .fail
 | .st ks, d => bif d.isAggV then unSks st ks (flatD d) else .fail
 | .mclo f ms, d => match d with
  | .clo f' l => bif Nat.beq f f' then unMcs ms l else .fail
  | _ => .fail
def samePs : List (Nat × Nat) → List D → Bool
 | [], [] => true
 | p :: r, .ptr b off :: ds => Nat.beq p.1 b && Nat.beq p.2 off && samePs r ds
 | _, _ => false
def unCk (st : St) : Ck → D → T Unit
 | .ptr b off, d => match d with | .ptr b' off' => bif Nat.beq b b' && Nat.beq off off' then .ret () else .fail | _ => .fail
 | .cur b e, d => match d with
  | .ms b' ver e' off len => bif Nat.beq b b' && decide (e = e') then .obl (curOk ver off len (lenAt st b)) (.ret ()) else .fail
  | _ => .fail
 | .nilsl, d => match d with | .nilsl => .ret () | _ => .fail
 | .nilp, d => match d with | .nilp => .ret () | _ => .fail
 | .niface, d => match d with | .niface => .ret () | _ => .fail
 | .clo f l, d => match d with | .clo f' l' => bif Nat.beq f f' && samePs l l' then .ret () else .fail | _ => .fail
def unCs (fr : Fr) (st : St) : List (Nat × Ck) → T Unit
 | [] => .ret ()
 | p :: r => match fr.get p.1 with
  | some d => (unCk st p.2 d).bind fun _ => unCs fr st r
  | none => .fail
def nextA (e : Ty) (b : Blk) : T (List (den e)) := match b with
 | .arr ver _ xs => match (castTy (a := .sl _) (b := .sl e) xs : Option (List (den e))) with
  | some ys => .obl (ver = ys.length) (.ret ys)
  | none => .fail
 | _ => .fail
def Dk.plain : Dk → Bool
 | .imm _ => true
 | .rptr _ => true
 | .st _ => true
 | _ => false
def nextV (st : St) (k : Dk) (b : Blk) : T k.den := match b with
 | .var d => bif k.plain then unDk st k d else .fail
 | _ => .fail
def isVarB : Blk → Bool | .var _ => true | _ => false
def unBs (st : St) : List Bk → List Blk → T (List Blk)
 | [], _ => .ret []
 | .arr _ :: r, b :: bl => (unBs st r bl).bind fun l => .ret (b :: l)
 | .var _ :: r, b :: bl => (unBs st r bl).bind fun l => .ret (b :: l)
 | .cvar c :: r, .var d :: bl => (unCk st c d).bind fun _ => unBs st r bl
 | .dead :: r, b :: bl => bif isVarB b then .fail else unBs st r bl
 | _, _ => .fail
def unIt (fr : Fr) (st : St) (bl : List Blk) : (i : It) → T (i.den × List Blk)
 | .s t k => match fr.get t with | some d => (unDk st k d).bind fun x => .ret (x, bl) | none => .fail
 | .v k => match bl with | b :: r => (nextV st k b).bind fun x => .ret (x, r) | [] => .fail
 | .a e => match bl with | b :: r => (nextA e b).bind fun x => .ret (x, r) | [] => .fail
def endIt {α : Type} (x : α × List Blk) : T α := match x.2 with | [] => .ret x.1 | _ => .fail
def unIts (fr : Fr) (st : St) : (l : List It) → List Blk → T (denIts l)
 | [], bl => endIt ((), bl)
 | [i], bl => (unIt fr st bl i).bind endIt
 | i :: j :: r, bl => (unIt fr st bl i).bind fun x => (unIts fr st (j :: r) x.2).bind fun y => .ret (x.1, y)
def rowAt (bs : List Bk) (b : Nat) : Bool := match bs[b]? with | some (.arr _) => true | _ => false
def varAt (bs : List Bk) (b : Nat) : Bool := match bs[b]? with | some (.var _) => true | some (.cvar _) => true | _ => false
def okSk (bs : List Bk) : Sk → Bool
 | .row b _ => rowAt bs b
 | .op b _ => varAt bs b
 | _ => true
def okMc (bs : List Bk) : Mc → Bool
 | .pt b => varAt bs b
 | _ => true
def okDk (bs : List Bk) : Dk → Bool
 | .mclo _ ms => ms.all (okMc bs)
 | .sub b _ => rowAt bs b
 | .st ks => ks.all (okSk bs)
 | _ => true
def okCk (bs : List Bk) : Ck → Bool
 | .ptr b _ => varAt bs b
 | .cur b _ => rowAt bs b
 | .clo _ l => l.all fun p => varAt bs p.1
 | _ => true
def okIt (bs : List Bk) : It → Bool
 | .s _ k => okDk bs k
 | .v k => okDk bs k
 | .a _ => true
def okBk (bs : List Bk) : Bk → Bool
 | .cvar c => okCk bs c
 | _ => true
def kinds : List It → List Bool
 | [] => []
 | .s _ _ :: r => kinds r
 | .v _ :: r => false :: kinds r
 | .a _ :: r => true :: kinds r
def okSeq2 : List Bk → List Bool → Bool
 | [], [] => true
 | .arr _ :: bs, b :: r => b && okSeq2 bs r
 | .var _ :: bs, b :: r => !b && okSeq2 bs r
 | .cvar _ :: bs, l => okSeq2 bs l
 | .dead :: bs, l => okSeq2 bs l
 | _, _ => false
def Shp.ok (s : Shp) : Bool := okSeq2 s.bs (kinds s.its) && s.its.all (okIt s.bs) && s.cs.all (fun p => okCk s.bs p.2) && s.bs.all (okBk s.bs)
def Shp.un (s : Shp) (fr : Fr) (st : St) : T s.den :=
 bif s.ok && (st.take s.bs.length).all (closedB s.bs.length) then (unCs fr st s.cs).bind fun _ => (unBs st s.bs st).bind fun bl => unIts fr st s.its bl
 else .fail
structure Way where
 ex : Ex
 sh : Shp
def denWs : List Way → Type
 | [] => Empty
 | [w] => w.sh.den
 | w :: v :: r => w.sh.den ⊕ denWs (v :: r)
def elimW {α : Type} : (l : List Way) → denWs l → (Ex → Fr → St → T α) → T α
 | [], x, _ => nomatch x
 | [w], x, k => k w.ex (w.sh.fr x) (w.sh.st x)
 | w :: v :: r, x, k => Sum.elim (fun a => k w.ex (w.sh.fr a) (w.sh.st a)) (fun b => elimW (v :: r) b k) x
def sameEx : Ex → Ex → Bool
 | .normal, .normal => true
 | .ret, .ret => true
 | .exit a, .exit b => Nat.beq a b
 | .pan (.iface t _), .pan (.iface t' _) => Nat.beq t t'
 | _, _ => false
def exFr : Ex → Fr → Fr
 | .pan (.iface _ d), _ => [(0, some d)]
 | _, fr => fr
def exOut : Ex → Fr → Option (Ex × Fr)
 | .pan (.iface t _), fr => match fr.get 0 with | some d => some (.pan (.iface t d), []) | none => none
 | .pan _, _ => none
 | e, fr => some (e, fr)
def injW : (l : List Way) → Ex → Fr → St → T (denWs l)
 | [], _, _, _ => .fail
 | [w], ex, fr, st => bif sameEx w.ex ex then w.sh.un fr st else .fail
 | w :: v :: r, ex, fr, st => bif sameEx w.ex ex then (w.sh.un fr st).bind fun x => .ret (.inl x) else (injW (v :: r) ex fr st).bind fun y => .ret (.inr y)
end Go.AM
namespace Go.AM
set_option linter.unusedSectionVars false
variable [Glob] [Dfs]
section
variable {c : Ctx} {n : Nat}
theorem get_mem : ∀ {l : Fr} {s : Nat} {d : D}, l.get s = some d → (s, some d) ∈ l
 | [], s, d, h => by cases h
 | (t, d') :: r, s, d, h => by
  simp only [Fr.get] at h
  cases ht : Nat.beq t s with
  | true =>
   rw [ht, cond_true] at h
   rw [Nat.eq_of_beq_eq_true ht, h]
   exact List.mem_cons_self
  | false => rw [ht, cond_false] at h; exact List.mem_cons_of_mem _ (get_mem h)
theorem get_append {l m : Fr} {s : Nat} {d : D} (h : (l ++ m).get s = some d) : (s, some d) ∈ l ∨ m.get s = some d := by
 induction l with
 | nil => exact .inr h
 | cons p r ih =>
  obtain ⟨t, d'⟩ := p
  simp only [List.cons_append, Fr.get] at h
  cases ht : Nat.beq t s with
  | true => rw [ht, cond_true] at h; rw [Nat.eq_of_beq_eq_true ht, h]; exact .inl List.mem_cons_self
  | false => rw [ht, cond_false] at h; exact orMap (ih h) (List.mem_cons_of_mem _) id
structure Wk (κ κ' : KS) : Prop where
 w : κ'.w = κ.w
 ok : κ'.ok = κ.ok
 ph : κ'.ph = κ.ph
 len : κ'.st.length = κ.st.length
 var : ∀ (b : Nat) (d : D), κ.st[b]? = some (Blk.var d) → ∃ d', κ'.st[b]? = some (Blk.var d')
 arr : ∀ (b v : Nat) (e : Ty) (xs : List (den e)), κ.st[b]? = some (Blk.arr v e xs) → κ'.st[b]? = some (Blk.arr v e xs) ∨ κ'.st[b]? = some Blk.dead
 arr' : ∀ (b v : Nat) (e : Ty) (xs : List (den e)), κ'.st[b]? = some (Blk.arr v e xs) → κ.st[b]? = some (Blk.arr v e xs)
 dead : ∀ (b : Nat), κ.st[b]? = some Blk.dead → κ'.st[b]? = some Blk.dead
theorem Wk.ext {κ κ' : KS} (h : Wk κ κ') : Ext κ κ' := by
 refine ⟨by rw [h.w], by rw [h.w], by rw [h.w], by rw [h.w]; exact Nat.le_refl _, fun k hk => ⟨by rw [h.ok]; exact hk, by rw [h.w]⟩, fun k hk => .inl (by rw [← h.ok]; exact hk),
  fun b blk m hb => .inl (by rw [← h.ph]; exact hb), fun b d hd => ⟨h.var b d hd, by rw [h.ph]⟩, fun b v0 e xs hb => ?_, h.dead, by rw [h.len]; exact Nat.le_refl _, fun k _ _ => by rw [h.w]⟩
 rcases h.arr b v0 e xs hb with g | g
 ·exact .inr ⟨v0, xs, g, Nat.le_refl _, fun _ => ⟨by rw [h.ph], rfl⟩⟩
 ·exact .inl g
theorem Wk.rd {κ κ' : KS} (h : Wk κ κ') {d : D} {v : Value} (hd : RD κ d v) : RD κ' d v := hd.mono h.ext
theorem Wk.inv {κ κ' : KS} (h : Wk κ κ') (hI : Inv κ) (hv : ∀ (b : Nat) (d : D), κ'.st[b]? = some (Blk.var d) → BlkRel κ' b (.var d)) : Inv κ' := by
 refine ⟨by rw [h.ph, h.len]; exact hI.len, fun k hk => by rw [h.w]; exact hI.okLt k (by rw [← h.ok]; exact hk), fun b blk m hb => ?_, fun b b' blk m m' hb hb' => hI.inj b b' blk m m' (by rw [← h.ph]; exact hb) (by rw [← h.ph]; exact hb'), fun b x hx => ?_, hI.gl.mono h.ext.same⟩
 ·obtain ⟨g1, g2⟩ := hI.apart b blk m (by rw [← h.ph]; exact hb)
  exact ⟨by rw [h.w]; exact g1, fun hk => g2 (by rw [← h.ok]; exact hk)⟩
 ·cases x with
  | dead => trivial
  | var d => exact hv b d hx
  | arr v e xs => exact (hI.blk b _ (h.arr' b v e xs hx)).mono h.ext (by rw [h.ph]) fun blk m _ => by rw [h.w]
theorem unCap_data {p : Cap} {d : D} {x : den p.ty} (h : unCap p d = some x) {κ : KS} {v : Value} (hd : RD κ d v) : RD κ (mkCap p x) v := by
 cases p with
 | rp τ =>
  cases d <;> simp only [unCap] at h <;> try (cases h; done)
  obtain ⟨e, hx⟩ := castTy_some h
  cases e
  cases hx
  exact hd
 | im τ => exact coe0_rd hd h
theorem unCaps_data {κ : KS} : ∀ (l : List Cap) (ds : List D) (x : denCaps l) (vs : List Value), unCaps l ds = some x → RDs κ ds vs → RDs κ (mkCaps l x) vs
 | [], [], x, vs, _, hd => by rw [hd.nil_inv]; exact .nil
 | [], _ :: _, _, _, h, _ => nomatch h
 | [p], [], _, _, h, _ => nomatch h
 | [p], [d], x, vs, h, hd => by
  obtain ⟨v, us, rfl, h1, h2⟩ := hd.cons_inv
  rw [h2.nil_inv]
  exact .cons (unCap_data h h1) .nil
 | [p], _ :: _ :: _, _, _, h, _ => nomatch h
 | p :: q :: r, [], _, _, h, _ => nomatch h
 | p :: q :: r, d :: ds, x, vs, h, hd => by
  obtain ⟨y, hy, h⟩ := Option.bind_eq_some_iff.1 h
  obtain ⟨z, hz, h⟩ := Option.bind_eq_some_iff.1 h
  cases h
  obtain ⟨v, us, rfl, h1, h2⟩ := hd.cons_inv
  exact .cons (unCap_data hy h1) (unCaps_data (q :: r) ds z us hz h2)
theorem aggV_val {κ : KS} {d : D} {v : Value} (hd : RD κ d v) (ha : d.isAggV = true) : ∃ c, v = .agg c := by
 cases hd with
 | imm τ x cs h => exact ⟨cs.toArray, by unfold pk; rw [show τ.isAgg = true from ha]; rfl⟩
 | agg l vs hl ho h => exact ⟨_, rfl⟩
 | _ => cases ha
theorem opSk_rd {κ : KS} {b T : Nat} {ds q : List D} {vs : List Value} (hd : RDs κ ds vs) (h : opSk κ.st b T ds = some q) : ∃ v us, vs = v :: us ∧ RD κ (.optp b T) v ∧ RDs κ q us := by
 unfold opSk at h
 split at h
 ·rename_i d0 hb0
  split at h
  ·rename_i T' ds
   cases hb : Nat.beq T T' with
   | false => rw [hb] at h; cases h
   | true =>
    rw [hb] at h
    cases h
    obtain ⟨v, us, rfl, g1, g2⟩ := hd.cons_inv
    exact ⟨v, us, rfl, by cases g1; exact .optpN b T d0 hb0, g2⟩
  ·rename_i b' T' ds
   cases hb : Nat.beq b b' && Nat.beq T T' with
   | false => rw [hb] at h; cases h
   | true =>
    rw [hb] at h
    cases h
    simp only [Bool.and_eq_true] at hb
    have e1 := Nat.eq_of_beq_eq_true hb.1
    have e2 := Nat.eq_of_beq_eq_true hb.2
    subst e1 e2
    obtain ⟨v, us, rfl, g1, g2⟩ := hd.cons_inv
    exact ⟨v, us, rfl, g1, g2⟩
  ·cases h
 ·cases h
theorem opSk_typed {st : St} {b T : Nat} {ds q : List D} (h : opSk st b T ds = some q) : typedL ds = some T := by
 unfold opSk at h
 split at h
 ·split at h
  ·rename_i T' ds
   cases hb : Nat.beq T T' with
   | false => rw [hb] at h; cases h
   | true => rw [Nat.eq_of_beq_eq_true hb]; rfl
  ·rename_i b' T' ds
   cases hb : Nat.beq b b' && Nat.beq T T' with
   | false => rw [hb] at h; cases h
   | true =>
    simp only [Bool.and_eq_true] at hb
    rw [Nat.eq_of_beq_eq_true hb.2]; rfl
  ·cases h
 ·cases h
theorem unSk_rd {κ : KS} {ds q : List D} {vs : List Value} (hd : RDs κ ds vs) (h : unSk ds = some q) : ∃ v us, vs = v :: us ∧ RD κ .unk v ∧ RDs κ q us := by
 unfold unSk at h
 split at h
 ·rename_i d ds
  cases hb : d.one with
  | false => rw [hb] at h; cases h
  | true =>
   rw [hb] at h
   cases h
   obtain ⟨v, us, rfl, g1, g2⟩ := hd.cons_inv
   exact ⟨v, us, rfl, .unk v (g1.oneCell hb), g2⟩
 ·cases h
theorem unSks_rds {κ : KS} {st' : St} {bs : List Bk} (hrow : ∀ b, rowAt bs b = true → verAt st' b = lenAt κ.st b) : ∀ (ks : List Sk) (ds : List D) (x : denSks ks) (vs : List Value), ks.all (okSk bs) = true → (unSks κ.st ks ds).leads x → RDs κ ds vs →
  RDs κ (mkSks st' ks x) vs ∧ ∀ d ∈ mkSks st' ks x, d.one = true
 | [], ds, x, vs, _, h, hd => by
  cases ds with
  | nil => exact ⟨hd, fun d hm => by cases hm⟩
  | cons d r => exact h.elim
 | .im τ :: r, ds, x, vs, ho, h, hd => by
  simp only [unSks] at h
  split at h
  ·rename_i p hp
   obtain ⟨y, h1, h2⟩ := T.leads_bind'.1 h
   cases h2
   obtain ⟨c1, c2, rfl, g1, g2⟩ := uncell_rc τ hd hp
   simp only [List.all_cons, Bool.and_eq_true] at ho
   obtain ⟨k1, k2⟩ := unSks_rds hrow r p.2 y c2 ho.2 h1 g2
   refine ⟨(flat_rds g1).append k1, fun d hm => ?_⟩
   rcases List.mem_append.1 (show d ∈ flat τ p.1 ++ mkSks st' r y from hm) with hm | hm
   ·exact flat_one τ _ d hm
   ·exact k2 d hm
  ·exact h.elim
 | .row b e :: r, ds, x, vs, ho, h, hd => by
  cases ds with
  | nil => exact h.elim
  | cons d ds =>
   cases d <;> simp only [unSks] at h <;> try (exact h.elim)
   rename_i b' ver e' off len
   cases hb : Nat.beq b b' && decide (e = e') with
   | false => rw [hb] at h; exact h.elim
   | true =>
    rw [hb, cond_true] at h
    simp only [Bool.and_eq_true, decide_eq_true_eq] at hb
    obtain ⟨⟨h1, h2, h3⟩, h⟩ := h
    have := Nat.eq_of_beq_eq_true hb.1
    obtain ⟨-, rfl⟩ := hb
    subst this
    obtain ⟨v, us, rfl, g1, g2⟩ := hd.cons_inv
    simp only [List.all_cons, Bool.and_eq_true] at ho
    obtain ⟨k1, k2⟩ := unSks_rds hrow r ds x us ho.2 h g2
    have e1 : mkSks st' (.row b e :: r) x = .ms b ver e off len :: mkSks st' r x := by
     show D.ms b (verAt st' b) e 0 (verAt st' b) :: _ = _
     rw [hrow b ho.1, h1, h2, h3]
    rw [e1]
    refine ⟨.cons g1 k1, fun d hm => ?_⟩
    rcases List.mem_cons.1 hm with rfl | hm
    ·rfl
    ·exact k2 d hm
 | .op b T :: r, ds, x, vs, ho, h, hd => by
  simp only [List.all_cons, Bool.and_eq_true] at ho
  simp only [unSks] at h
  split at h
  ·rename_i q hq
   obtain ⟨v, us, rfl, g0, g2⟩ := opSk_rd hd hq
   obtain ⟨k1, k2⟩ := unSks_rds hrow r q x us ho.2 h g2
   refine ⟨show RDs κ (D.optp b T :: mkSks st' r x) (v :: us) from .cons g0 k1, fun d hm => ?_⟩
   rcases List.mem_cons.1 (show d ∈ D.optp b T :: mkSks st' r x from hm) with rfl | hm
   ·rfl
   ·exact k2 d hm
  ·exact h.elim
 | .un :: r, ds, x, vs, ho, h, hd => by
  simp only [List.all_cons, Bool.and_eq_true] at ho
  simp only [unSks] at h
  split at h
  ·rename_i q hq
   obtain ⟨v, us, rfl, g0, g2⟩ := unSk_rd hd hq
   obtain ⟨k1, k2⟩ := unSks_rds hrow r q x us ho.2 h g2
   refine ⟨show RDs κ (D.unk :: mkSks st' r x) (v :: us) from .cons g0 k1, fun d hm => ?_⟩
   rcases List.mem_cons.1 (show d ∈ D.unk :: mkSks st' r x from hm) with rfl | hm
   ·rfl
   ·exact k2 d hm
  ·exact h.elim
theorem mkSks_eq {st st' : St} {bs : List Bk} (h : ∀ b, rowAt bs b = true → verAt st b = verAt st' b) : ∀ (ks : List Sk) (x : denSks ks), ks.all (okSk bs) = true → mkSks st ks x = mkSks st' ks x
 | [], _, _ => rfl
 | .im τ :: r, x, ho => by
  simp only [List.all_cons, Bool.and_eq_true] at ho
  show flat τ x.1 ++ mkSks st r x.2 = flat τ x.1 ++ mkSks st' r x.2
  rw [mkSks_eq h r x.2 ho.2]
 | .row b e :: r, x, ho => by
  simp only [List.all_cons, Bool.and_eq_true] at ho
  show D.ms b (verAt st b) e 0 (verAt st b) :: mkSks st r x = D.ms b (verAt st' b) e 0 (verAt st' b) :: mkSks st' r x
  rw [mkSks_eq h r x ho.2, h b ho.1]
 | .op b T :: r, x, ho => by
  simp only [List.all_cons, Bool.and_eq_true] at ho
  show D.optp b T :: mkSks st r x = D.optp b T :: mkSks st' r x
  rw [mkSks_eq h r x ho.2]
 | .un :: r, x, ho => by
  simp only [List.all_cons, Bool.and_eq_true] at ho
  show D.unk :: mkSks st r x = D.unk :: mkSks st' r x
  rw [mkSks_eq h r x ho.2]
theorem flat_imm : ∀ (τ : Ty) (x : den τ), ∀ y ∈ flat τ x, ∃ σ z, y = .imm σ z := by
 intro τ x y hy
 induction τ with
 | cons a b ia ib =>
  simp only [flat, List.mem_append] at hy
  rcases hy with hy | hy
  ·exact ia _ hy
  ·exact ib _ hy
 | nil => simp [flat] at hy
 | expr => simp [flat] at hy; rcases hy with rfl | rfl | rfl | rfl | rfl | rfl <;> exact ⟨_, _, rfl⟩
 | _ => simp [flat] at hy; subst hy; exact ⟨_, _, rfl⟩
theorem uncell_typed : ∀ (τ : Ty) {ds : List D} {p : den τ × List D}, uncell τ ds = some p → τ.size = 0 → p.2 = ds := by
 intro τ
 induction τ with
 | nil => intro ds p h _; simp only [uncell, Option.some.injEq] at h; subst h; rfl
 | cons a b ia ib =>
  intro ds p h hz
  simp only [Ty.size] at hz
  simp only [uncell] at h
  split at h
  ·rename_i q hq
   split at h
   ·rename_i q' hq'
    cases h
    have h1 := ia hq (by omega)
    have h2 := ib hq' (by omega)
    simp only at h1 h2 ⊢
    rw [h2, h1]
   ·cases h
  ·cases h
 | _ => intro ds p h hz; simp [Ty.size] at hz
theorem mkSks_typed {st st' : St} {tt : Nat} : ∀ (ks : List Sk) (ds : List D) (x : denSks ks), (unSks st ks ds).leads x → typedL (mkSks st' ks x) = some tt → typedL ds = some tt
 | [], ds, x, h, ht => by cases ht
 | .im τ :: r, ds, x, h, ht => by
  simp only [unSks] at h
  split at h
  ·rename_i p hp
   obtain ⟨y, h1, h2⟩ := T.leads_bind'.1 h
   cases h2
   have ht' : typedL (flat τ p.1 ++ mkSks st' r y) = some tt := ht
   cases hf : flat τ p.1 with
   | nil =>
    rw [hf] at ht'
    have hz : τ.size = 0 := by rw [← flat_len τ p.1, hf]; rfl
    have := uncell_typed τ hp hz
    rw [← this]
    exact mkSks_typed r p.2 y h1 ht'
   | cons z zs =>
    rw [hf] at ht'
    obtain ⟨σ, w, e⟩ := flat_imm τ p.1 z (by rw [hf]; simp)
    rw [e] at ht'
    cases ht'
  ·exact h.elim
 | .row b e :: r, ds, x, h, ht => by cases ht
 | .op b T' :: r, ds, x, h, ht => by
  simp only [unSks] at h
  split at h
  ·rename_i q hq
   cases ht
   exact opSk_typed hq
  ·exact h.elim
 | .un :: r, ds, x, h, ht => by cases ht
theorem typed_flatD {d : D} {T : Nat} (ha : d.isAggV = true) (h : typedL (flatD d) = some T) : d.typed = some T := by
 cases d with
 | imm τ x =>
  exfalso
  simp only [flatD] at h
  cases hf : flat τ x with
  | nil => rw [hf] at h; cases h
  | cons z zs =>
   obtain ⟨σ, w, e⟩ := flat_imm τ x z (by rw [hf]; simp)
   rw [hf, e] at h
   cases h
 | agg l => exact h
 | _ => cases ha
theorem flat_closed1 {m : Nat} (τ : Ty) (x : den τ) : ∀ d ∈ flat τ x, closed1 m d = true := fun d hd => by
 obtain ⟨σ, z, rfl⟩ := flat_imm τ x d hd
 rfl
theorem mkSks_closed {m : Nat} {st : St} {bs : List Bk} (hb : ∀ b, rowAt bs b = true → b < m) (hbv : ∀ b, varAt bs b = true → b < m) : ∀ (ks : List Sk) (x : denSks ks), ks.all (okSk bs) = true → ∀ d ∈ mkSks st ks x, closed1 m d = true
 | [], _, _, d, hd => by cases hd
 | .im τ :: r, x, ho, d, hd => by
  simp only [List.all_cons, Bool.and_eq_true] at ho
  rcases List.mem_append.1 (show d ∈ flat τ x.1 ++ mkSks st r x.2 from hd) with hd | hd
  ·exact flat_closed1 τ _ d hd
  ·exact mkSks_closed hb hbv r x.2 ho.2 d hd
 | .row b e :: r, x, ho, d, hd => by
  simp only [List.all_cons, Bool.and_eq_true] at ho
  rcases List.mem_cons.1 (show d ∈ D.ms b (verAt st b) e 0 (verAt st b) :: mkSks st r x from hd) with rfl | hd
  ·have := hb b ho.1
   simp only [closed1, Nat.blt, Nat.ble_eq]; exact this
  ·exact mkSks_closed hb hbv r x ho.2 d hd
 | .op b T :: r, x, ho, d, hd => by
  simp only [List.all_cons, Bool.and_eq_true] at ho
  rcases List.mem_cons.1 (show d ∈ D.optp b T :: mkSks st r x from hd) with rfl | hd
  ·have := hbv b ho.1
   simp only [closed1, Nat.blt, Nat.ble_eq]; exact this
  ·exact mkSks_closed hb hbv r x ho.2 d hd
 | .un :: r, x, ho, d, hd => by
  simp only [List.all_cons, Bool.and_eq_true] at ho
  rcases List.mem_cons.1 (show d ∈ D.unk :: mkSks st r x from hd) with rfl | hd
  ·rfl
  ·exact mkSks_closed hb hbv r x ho.2 d hd
theorem unMcs_rds {κ : KS} : ∀ (ms : List Mc) (ds : List D) (x : denMcs ms) (vs : List Value), (unMcs ms ds).leads x → RDs κ ds vs → RDs κ (mkMcs ms x) vs
 | [], ds, x, vs, h, hd => by
  cases ds with
  | nil => exact hd
  | cons d r => exact h.elim
 | .im τ :: r, ds, x, vs, h, hd => by
  cases ds with
  | nil => exact h.elim
  | cons d ds =>
   simp only [unMcs] at h
   split at h
   ·rename_i y hy
    obtain ⟨z, h1, h2⟩ := T.leads_bind'.1 h
    cases h2
    obtain ⟨v, us, rfl, g1, g2⟩ := hd.cons_inv
    exact .cons (coe0_rd g1 hy) (unMcs_rds r ds z us h1 g2)
   ·exact h.elim
 | .rp τ :: r, ds, x, vs, h, hd => by
  cases ds with
  | nil => exact h.elim
  | cons d ds =>
   cases d <;> simp only [unMcs] at h <;> try (exact h.elim)
   split at h
   ·rename_i y hy
    obtain ⟨e, hx⟩ := castTy_some hy
    cases e
    cases hx
    obtain ⟨z, h1, h2⟩ := T.leads_bind'.1 h
    cases h2
    obtain ⟨v, us, rfl, g1, g2⟩ := hd.cons_inv
    exact .cons g1 (unMcs_rds r ds z us h1 g2)
   ·exact h.elim
 | .pt b :: r, ds, x, vs, h, hd => by
  cases ds with
  | nil => exact h.elim
  | cons d ds =>
   cases d <;> simp only [unMcs] at h <;> try (exact h.elim)
   rename_i b' off
   cases hb : Nat.beq b b' && Nat.beq off 0 with
   | false => rw [hb] at h; exact h.elim
   | true =>
    rw [hb] at h
    replace h : (unMcs r ds).leads x := h
    simp only [Bool.and_eq_true] at hb
    have e1 := Nat.eq_of_beq_eq_true hb.1
    have e2 := Nat.eq_of_beq_eq_true hb.2
    subst e1 e2
    obtain ⟨v, us, rfl, g1, g2⟩ := hd.cons_inv
    exact .cons g1 (unMcs_rds r ds x us h g2)
theorem mkMcs_closed {m : Nat} {bs : List Bk} (hb : ∀ b, varAt bs b = true → b < m) : ∀ (ms : List Mc) (x : denMcs ms), ms.all (okMc bs) = true → ∀ d ∈ mkMcs ms x, closed1 m d = true
 | [], _, _, d, hd => by cases hd
 | .im τ :: r, x, ho, d, hd => by
  simp only [List.all_cons, Bool.and_eq_true] at ho
  rcases List.mem_cons.1 (show d ∈ D.imm τ x.1 :: mkMcs r x.2 from hd) with rfl | hd
  ·rfl
  ·exact mkMcs_closed hb r x.2 ho.2 d hd
 | .rp τ :: r, x, ho, d, hd => by
  simp only [List.all_cons, Bool.and_eq_true] at ho
  rcases List.mem_cons.1 (show d ∈ D.rptr τ x.1 :: mkMcs r x.2 from hd) with rfl | hd
  ·rfl
  ·exact mkMcs_closed hb r x.2 ho.2 d hd
 | .pt b :: r, x, ho, d, hd => by
  simp only [List.all_cons, Bool.and_eq_true] at ho
  rcases List.mem_cons.1 (show d ∈ D.ptr b 0 :: mkMcs r x from hd) with rfl | hd
  ·have := hb b ho.1
   simp only [closed1, Nat.blt, Nat.ble_eq]; exact this
  ·exact mkMcs_closed hb r x ho.2 d hd
theorem unDk_rd {κ κ' : KS} (hw : Wk κ κ') {k : Dk} {d : D} {x : k.den} {v : Value} {bs : List Bk} (hok : okDk bs k = true) (hrow : ∀ b, rowAt bs b = true → verAt κ'.st b = verAt κ.st b)
  {st' : St} (hst : ∀ b, rowAt bs b = true → verAt st' b = verAt κ'.st b) (hlen : ∀ b, rowAt bs b = true → verAt κ.st b = lenAt κ.st b) (h : (unDk κ.st k d).leads x) (hd : RD κ d v) : RD κ' (mkDk st' k x) v := by
 cases k with
 | imm τ => exact hw.rd (coe0_rd hd (T.leads_ofOpt.1 h))
 | rptr τ =>
  cases d <;> simp only [unDk] at h <;> try (exact h.elim)
  obtain ⟨e, hx⟩ := castTy_some (T.leads_ofOpt.1 h)
  cases e
  cases hx
  exact hw.rd hd
 | sub b e =>
  cases d <;> simp only [unDk] at h <;> try (exact h.elim)
  rename_i b' ver e' off len
  cases hb : Nat.beq b b' && decide (e = e') with
  | false => rw [hb] at h; exact h.elim
  | true =>
   rw [hb, cond_true] at h
   simp only [Bool.and_eq_true, decide_eq_true_eq] at hb
   obtain ⟨hv, h⟩ := h
   cases h
   have := Nat.eq_of_beq_eq_true hb.1
   obtain ⟨-, rfl⟩ := hb
   subst this
   simp only [mkDk]
   rw [hst b hok, hrow b hok, ← hv]
   exact hw.rd hd
 | clo f caps =>
  cases d <;> simp only [unDk] at h <;> try (exact h.elim)
  rename_i f' l
  cases hb : Nat.beq f f' with
  | false => rw [hb] at h; exact h.elim
  | true =>
   rw [hb, cond_true] at h
   have := Nat.eq_of_beq_eq_true hb
   subst this
   have hx := T.leads_ofOpt.1 h
   cases hd with
   | clo _ _ vs hl hh =>
    have := unCaps_data caps l x vs hx (⟨hl, hh⟩ : RDs κ l vs)
    exact hw.rd (.clo f _ vs this.1 this.2)
 | st ks =>
  simp only [unDk] at h
  cases ha : d.isAggV with
  | false => rw [ha] at h; exact h.elim
  | true =>
   rw [ha] at h
   replace h : (unSks κ.st ks (flatD d)).leads x := h
   have ht : d.isTup = false := by cases d <;> first | rfl | (simp [D.isAggV] at ha)
   obtain ⟨g1, g2⟩ := unSks_rds (st' := st') (fun b hb => (hst b hb).trans ((hrow b hb).trans (hlen b hb))) ks (flatD d) x _ hok h (flatD_rds hd ht)
   obtain ⟨c, hc⟩ := aggV_val hd ha
   subst hc
   have g1' : RDs κ (mkSks st' ks x) c.toList := g1
   have := RD.agg (κ := κ) _ c.toList g1'.1 g2 g1'.2
   exact hw.rd (show RD κ (.agg (mkSks st' ks x)) (.agg c) by simpa using this)
 | mclo f ms =>
  cases d <;> simp only [unDk] at h <;> try (exact h.elim)
  rename_i f' l
  cases hb : Nat.beq f f' with
  | false => rw [hb] at h; exact h.elim
  | true =>
   rw [hb] at h
   replace h : (unMcs ms l).leads x := h
   have := Nat.eq_of_beq_eq_true hb
   subst this
   cases hd with
   | clo _ _ vs hl hh =>
    have := unMcs_rds ms l x vs h (⟨hl, hh⟩ : RDs κ l vs)
    exact hw.rd (show RD κ (.clo f (mkMcs ms x)) _ from .clo f _ vs this.1 this.2)
theorem samePs_eq : ∀ {l : List (Nat × Nat)} {ds : List D}, samePs l ds = true → ds = l.map fun p => .ptr p.1 p.2
 | [], [], _ => rfl
 | [], _ :: _, h => by simp [samePs] at h
 | p :: r, [], h => by simp [samePs] at h
 | p :: r, d :: ds, h => by
  cases d <;> simp only [samePs] at h <;> try (cases h; done)
  simp only [Bool.and_eq_true] at h
  rw [samePs_eq h.2, ← Nat.eq_of_beq_eq_true h.1.1, ← Nat.eq_of_beq_eq_true h.1.2]
  rfl
theorem unCk_eq {st st' : St} {ck : Ck} {d : D} {bs : List Bk} (hok : okCk bs ck = true) (hrow : ∀ b, rowAt bs b = true → verAt st' b = lenAt st b) (h : (unCk st ck d).leads ()) : mkCk st' ck = d := by
 cases ck with
 | ptr b off =>
  cases d <;> simp only [unCk] at h <;> try (exact h.elim)
  rename_i b' off'
  cases hb : Nat.beq b b' && Nat.beq off off' with
  | false => rw [hb] at h; exact h.elim
  | true =>
   simp only [Bool.and_eq_true] at hb
   rw [← Nat.eq_of_beq_eq_true hb.1, ← Nat.eq_of_beq_eq_true hb.2]
   rfl
 | cur b e =>
  cases d <;> simp only [unCk] at h <;> try (exact h.elim)
  rename_i b' ver e' off len
  cases hb : Nat.beq b b' && decide (e = e') with
  | false => rw [hb] at h; exact h.elim
  | true =>
   rw [hb, cond_true] at h
   simp only [Bool.and_eq_true, decide_eq_true_eq] at hb
   obtain ⟨⟨h1, h2, h3⟩, _⟩ := h
   have := Nat.eq_of_beq_eq_true hb.1
   obtain ⟨-, rfl⟩ := hb
   subst this
   simp only [mkCk]
   rw [hrow b hok, h1, h2, h3]
 | nilsl => cases d <;> simp only [unCk] at h <;> first | rfl | exact h.elim
 | nilp => cases d <;> simp only [unCk] at h <;> first | rfl | exact h.elim
 | niface => cases d <;> simp only [unCk] at h <;> first | rfl | exact h.elim
 | clo f l =>
  cases d <;> simp only [unCk] at h <;> try (exact h.elim)
  rename_i f' l'
  cases hb : Nat.beq f f' && samePs l l' with
  | false => rw [hb] at h; exact h.elim
  | true =>
   simp only [Bool.and_eq_true] at hb
   rw [← Nat.eq_of_beq_eq_true hb.1, samePs_eq hb.2]
   rfl
theorem unCs_all {fr : Fr} {st : St} : ∀ {cs : List (Nat × Ck)}, (unCs fr st cs).leads () → ∀ p ∈ cs, ∃ d, fr.get p.1 = some d ∧ (unCk st p.2 d).leads ()
 | [], _, p, hp => by cases hp
 | q :: r, h, p, hp => by
  simp only [unCs] at h
  split at h
  ·rename_i d hd
   simp only [T.leads_bind] at h
   obtain ⟨⟨⟩, h1, h2⟩ := h
   rcases List.mem_cons.1 hp with rfl | hp
   ·exact ⟨d, hd, h1⟩
   ·exact unCs_all h2 p hp
  ·exact h.elim
def BdOk (p : Dk → Bool) (st : St) : List Blk → List Bd → Prop
 | [], [] => True
 | b :: bl, .a e xs :: r => b = .arr xs.length e xs ∧ BdOk p st bl r
 | b :: bl, .v k x :: r => (∃ d, b = .var d ∧ (k.plain = true ∧ p k = true) ∧ (unDk st k d).leads x) ∧ BdOk p st bl r
 | _, _ => False
theorem nextA_ok {e : Ty} {b : Blk} {x : List (den e)} (h : (nextA e b).leads x) : b = .arr x.length e x := by
 unfold nextA at h
 split at h
 ·split at h
  ·rename_i ys hy
   obtain ⟨h1, h2⟩ := h
   cases h2
   obtain ⟨he, hx⟩ := castTy_some hy
   cases he
   cases hx
   rw [h1]
  ·exact h.elim
 ·exact h.elim
theorem nextV_ok {st : St} {k : Dk} {b : Blk} {x : k.den} (h : (nextV st k b).leads x) : ∃ d, b = .var d ∧ k.plain = true ∧ (unDk st k d).leads x := by
 cases b with
 | var d =>
  simp only [nextV] at h
  cases hp : k.plain with
  | false => rw [hp] at h; exact h.elim
  | true => rw [hp] at h; exact ⟨d, rfl, rfl, h⟩
 | _ => exact h.elim
def frOf (st : St) : (i : It) → i.den → Fr
 | .s t k, x => [(t, some (mkDk st k x))]
 | .v _, _ => []
 | .a _, _ => []
def bdOf : (i : It) → i.den → List Bd
 | .s _ _, _ => []
 | .v k, x => [.v k x]
 | .a e, x => [.a e x]
theorem mkFr_one (st : St) (i : It) (x : i.den) : mkFr st [i] x = frOf st i x := by cases i <;> rfl
theorem mkFr_cons (st : St) (i j : It) (r : List It) (x : i.den × denIts (j :: r)) : mkFr st (i :: j :: r) x = frOf st i x.1 ++ mkFr st (j :: r) x.2 := by cases i <;> rfl
theorem mkBd_one (i : It) (x : i.den) : mkBd [i] x = bdOf i x := by cases i <;> rfl
theorem mkBd_cons (i j : It) (r : List It) (x : i.den × denIts (j :: r)) : mkBd (i :: j :: r) x = bdOf i x.1 ++ mkBd (j :: r) x.2 := by cases i <;> rfl
def ItOk (fr : Fr) (st st' : St) (l : List It) (p : Nat × Option D) : Prop := ∃ (k : Dk) (y : k.den) (d : D), (It.s p.1 k) ∈ l ∧ fr.get p.1 = some d ∧ (unDk st k d).leads y ∧ p.2 = some (mkDk st' k y)
theorem unIt_ok {p : Dk → Bool} {fr : Fr} {st st' : St} {bl : List Blk} {i : It} {x : i.den × List Blk} (hp : ∀ k, i = .v k → p k = true) (h : (unIt fr st bl i).leads x) :
  (∀ bd, BdOk p st x.2 bd → BdOk p st bl (bdOf i x.1 ++ bd)) ∧ ∀ p ∈ frOf st' i x.1, ItOk fr st st' [i] p := by
 cases i with
 | s t k =>
  simp only [unIt] at h
  split at h
  ·rename_i d hd
   rw [T.leads_bind] at h
   obtain ⟨y, h1, rfl⟩ := h
   refine ⟨fun bd hb => hb, fun p hp => ?_⟩
   simp only [frOf, List.mem_singleton] at hp
   subst hp
   exact ⟨k, y, d, by simp, hd, h1, rfl⟩
  ·exact h.elim
 | v k =>
  cases bl with
  | nil => exact h.elim
  | cons b r =>
   simp only [unIt] at h
   rw [T.leads_bind] at h
   obtain ⟨y, h1, rfl⟩ := h
   obtain ⟨d, q1, q2, q3⟩ := nextV_ok h1
   exact ⟨fun bd hb => ⟨⟨d, q1, ⟨q2, hp k rfl⟩, q3⟩, hb⟩, fun p hp => by cases hp⟩
 | a e =>
  cases bl with
  | nil => exact h.elim
  | cons b r =>
   simp only [unIt] at h
   rw [T.leads_bind] at h
   obtain ⟨y, h1, rfl⟩ := h
   exact ⟨fun bd hb => ⟨nextA_ok h1, hb⟩, fun p hp => by cases hp⟩
theorem endIt_ok {α : Type} {x : α × List Blk} {y : α} (h : (endIt x).leads y) : x = (y, []) := by
 obtain ⟨a, bl⟩ := x
 cases bl with
 | nil => cases h; rfl
 | cons => exact h.elim
theorem unIts_ok {p : Dk → Bool} {fr : Fr} {st st' : St} : ∀ (l : List It) (bl : List Blk) (x : denIts l), (∀ k, It.v k ∈ l → p k = true) → (unIts fr st l bl).leads x →
  BdOk p st bl (mkBd l x) ∧ ∀ p ∈ mkFr st' l x, ItOk fr st st' l p
 | [], bl, x, _, h => by
  have h' : (endIt ((), bl)).leads x := h
  have := endIt_ok h'
  cases this
  exact ⟨trivial, fun p hp => by cases hp⟩
 | [i], bl, x, hp, h => by
  have h' : ((unIt fr st bl i).bind endIt).leads x := h
  obtain ⟨y, h1, h2⟩ := T.leads_bind'.1 h'
  have := endIt_ok h2
  subst this
  obtain ⟨g1, g2⟩ := unIt_ok (p := p) (st' := st') (fun k hk => hp k (by simp [hk])) h1
  have e1 : mkBd [i] x = bdOf i x := mkBd_one i x
  have e2 : mkFr st' [i] x = frOf st' i x := mkFr_one st' i x
  rw [e1, e2]
  refine ⟨?_, g2⟩
  have := g1 [] trivial
  rwa [List.append_nil] at this
 | i :: j :: r, bl, x, hp, h => by
  have h' : ((unIt fr st bl i).bind fun x => (unIts fr st (j :: r) x.2).bind fun y => T.ret (x.1, y)).leads x := h
  obtain ⟨y, h1, h2⟩ := T.leads_bind'.1 h'
  obtain ⟨z, h3, h4⟩ := T.leads_bind'.1 h2
  cases h4
  obtain ⟨g1, g2⟩ := unIt_ok (p := p) (st' := st') (fun k hk => hp k (by simp [hk])) h1
  obtain ⟨k1, k2⟩ := unIts_ok (p := p) (st' := st') (j :: r) y.2 z (fun k hk => hp k (List.mem_cons_of_mem _ hk)) h3
  have e1 : mkBd (i :: j :: r) (y.1, z) = bdOf i y.1 ++ mkBd (j :: r) z := mkBd_cons i j r (y.1, z)
  have e2 : mkFr st' (i :: j :: r) (y.1, z) = frOf st' i y.1 ++ mkFr st' (j :: r) z := mkFr_cons st' i j r (y.1, z)
  rw [e1, e2]
  refine ⟨g1 _ k1, fun p hp => ?_⟩
  rcases List.mem_append.1 hp with hp | hp
  ·obtain ⟨k, w, d, q1, q2⟩ := g2 p hp
   exact ⟨k, w, d, by simp at q1; simp [q1], q2⟩
  ·obtain ⟨k, w, d, q1, q2⟩ := k2 p hp
   exact ⟨k, w, d, List.mem_cons_of_mem _ q1, q2⟩
inductive BlkWk (p : Dk → Bool) (st st' : St) : Bk → Blk → Blk → Prop
 | arr (e e' : Ty) (xs : List (den e)) : BlkWk p st st' (.arr e') (.arr xs.length e xs) (.arr xs.length e xs)
 | var (k k' : Dk) (d : D) (x : k.den) (hp : k.plain = true ∧ p k = true) (h : (unDk st k d).leads x) : BlkWk p st st' (.var k') (.var d) (.var (mkDk st' k x))
 | cvar (ck : Ck) (d : D) (h : (unCk st ck d).leads ()) : BlkWk p st st' (.cvar ck) (.var d) (.var (mkCk st' ck))
 | dead (b : Blk) (h : isVarB b = false) : BlkWk p st st' .dead b .dead
def bdKinds : List Bd → List Bool
 | [] => []
 | .v _ _ :: r => false :: bdKinds r
 | .a _ _ :: r => true :: bdKinds r
theorem mkBd_kinds : ∀ (l : List It) (x : denIts l), bdKinds (mkBd l x) = kinds l
 | [], _ => rfl
 | [.s _ _], _ => rfl
 | [.v _], _ => rfl
 | [.a _], _ => rfl
 | .s _ _ :: j :: r, x => mkBd_kinds (j :: r) x.2
 | .v _ :: j :: r, x => congrArg (false :: ·) (mkBd_kinds (j :: r) x.2)
 | .a _ :: j :: r, x => congrArg (true :: ·) (mkBd_kinds (j :: r) x.2)
theorem unBs_ok {p : Dk → Bool} {st st0 : St} : ∀ {bs : List Bk} {blocks bl : List Blk} {bd : List Bd}, (unBs st bs blocks).leads bl → BdOk p st bl bd → okSeq2 bs (bdKinds bd) = true →
  (mkSt1 st0 bs bd).length = bs.length ∧ (∀ b, rowAt bs b = true → verAt (mkSt0 bs bd) b = lenAt blocks b ∧ verAt (mkSt1 st0 bs bd) b = lenAt blocks b ∧ verAt blocks b = lenAt blocks b) ∧
  ∀ (i : Nat) (k : Bk), bs[i]? = some k → ∃ B B', blocks[i]? = some B ∧ (mkSt1 st0 bs bd)[i]? = some B' ∧ BlkWk p st st0 k B B'
 | [], blocks, bl, bd, h, hb, ho => by
  refine ⟨by simp [mkSt1], fun b hb => by simp [rowAt] at hb, fun i k hk => by simp at hk⟩
 | k :: r, [], bl, bd, h, hb, ho => by cases k <;> exact h.elim
 | .arr e :: r, b :: blocks, bl, bd, h, hb, ho => by
  simp only [unBs, T.leads_bind] at h
  obtain ⟨l, h1, rfl⟩ := h
  cases bd with
  | nil => exact hb.elim
  | cons q bd =>
   cases q with
   | v k x => simp [bdKinds, okSeq2] at ho
   | a e' xs =>
    obtain ⟨rfl, hb2⟩ := hb
    simp only [bdKinds, okSeq2, Bool.true_and] at ho
    obtain ⟨g1, g2, g3⟩ := unBs_ok (st0 := st0) h1 hb2 ho
    refine ⟨by simp [mkSt1, g1], fun b hb => ?_, fun i k hk => ?_⟩
    ·cases b with
     | zero => simp [mkSt0, mkSt1, verAt, verB, lenAt]
     | succ b => have := g2 b (by simpa [rowAt] using hb); simpa [mkSt0, mkSt1, verAt, lenAt] using this
    ·cases i with
     | zero => simp at hk; subst hk; exact ⟨_, _, rfl, rfl, .arr e' e xs⟩
     | succ i => simpa [mkSt1] using g3 i k (by simpa using hk)
 | .var k0 :: r, b :: blocks, bl, bd, h, hb, ho => by
  simp only [unBs, T.leads_bind] at h
  obtain ⟨l, h1, rfl⟩ := h
  cases bd with
  | nil => exact hb.elim
  | cons q bd =>
   cases q with
   | a e' xs => simp [bdKinds, okSeq2] at ho
   | v k x =>
    obtain ⟨⟨d, rfl, hp, hd⟩, hb2⟩ := hb
    simp only [bdKinds, okSeq2, Bool.not_false, Bool.true_and] at ho
    obtain ⟨g1, g2, g3⟩ := unBs_ok (st0 := st0) h1 hb2 ho
    refine ⟨by simp [mkSt1, g1], fun b hb => ?_, fun i k hk => ?_⟩
    ·cases b with
     | zero => simp [rowAt] at hb
     | succ b => have := g2 b (by simpa [rowAt] using hb); simpa [mkSt0, mkSt1, verAt, lenAt] using this
    ·cases i with
     | zero => simp at hk; subst hk; exact ⟨_, _, rfl, rfl, .var k k0 d x hp hd⟩
     | succ i => simpa [mkSt1] using g3 i k (by simpa using hk)
 | .cvar ck :: r, b :: blocks, bl, bd, h, hb, ho => by
  cases b with
  | var d =>
   simp only [unBs, T.leads_bind] at h
   obtain ⟨⟨⟩, h0, h1⟩ := h
   have ho' : okSeq2 r (bdKinds bd) = true := by cases bd <;> simpa [okSeq2] using ho
   obtain ⟨g1, g2, g3⟩ := unBs_ok (st0 := st0) h1 hb ho'
   have e1 : mkSt1 st0 (.cvar ck :: r) bd = .var (mkCk st0 ck) :: mkSt1 st0 r bd := by cases bd <;> rfl
   have e0 : mkSt0 (.cvar ck :: r) bd = .dead :: mkSt0 r bd := by cases bd <;> rfl
   rw [e0, e1]
   refine ⟨by simp [g1], fun b hb => ?_, fun i k hk => ?_⟩
   ·cases b with
    | zero => simp [rowAt] at hb
    | succ b => have := g2 b (by simpa [rowAt] using hb); simpa [verAt, lenAt] using this
   ·cases i with
    | zero => simp at hk; subst hk; exact ⟨_, _, rfl, rfl, .cvar ck d h0⟩
    | succ i => simpa using g3 i k (by simpa using hk)
  | _ => exact h.elim
 | .dead :: r, b :: blocks, bl, bd, h, hb, ho => by
  simp only [unBs] at h
  cases hv : isVarB b with
  | true => rw [hv] at h; exact h.elim
  | false =>
   rw [hv, cond_false] at h
   have ho' : okSeq2 r (bdKinds bd) = true := by cases bd <;> simpa [okSeq2] using ho
   obtain ⟨g1, g2, g3⟩ := unBs_ok (st0 := st0) h hb ho'
   have e1 : mkSt1 st0 (.dead :: r) bd = .dead :: mkSt1 st0 r bd := by cases bd <;> rfl
   have e0 : mkSt0 (.dead :: r) bd = .dead :: mkSt0 r bd := by cases bd <;> rfl
   rw [e0, e1]
   refine ⟨by simp [g1], fun b hb => ?_, fun i k hk => ?_⟩
   ·cases b with
    | zero => simp [rowAt] at hb
    | succ b => have := g2 b (by simpa [rowAt] using hb); simpa [verAt, lenAt] using this
   ·cases i with
    | zero => simp at hk; subst hk; exact ⟨_, _, rfl, rfl, .dead b hv⟩
    | succ i => simpa using g3 i k (by simpa using hk)
inductive Refs (m : Nat) : D → Prop
 | imm (τ : Ty) (x : AM.den τ) : Refs m (.imm τ x)
 | tight (e : Ty) (l : List (AM.den e)) (ne : Bool) : Refs m (.tight e l ne)
 | nilsl : Refs m .nilsl
 | nilp : Refs m .nilp
 | niface : Refs m .niface
 | nilclo : Refs m .nilclo
 | nilmap : Refs m .nilmap
 | unk : Refs m .unk
 | bnil (T : Nat) : Refs m (.bnil T)
 | optp (b T : Nat) (h : b < m) : Refs m (.optp b T)
 | ptr (b off : Nat) (h : b < m) : Refs m (.ptr b off)
 | rptr (τ : Ty) (x : AM.den τ) : Refs m (.rptr τ x)
 | eptr (b ver : Nat) (e : Ty) (idx off : Nat) (h : b < m) : Refs m (.eptr b ver e idx off)
 | ms (b ver : Nat) (e : Ty) (off len : Nat) (h : b < m) : Refs m (.ms b ver e off len)
 | clo (f : Nat) (l : List D) (h : ∀ i (hi : i < l.length), Refs m l[i]) : Refs m (.clo f l)
 | agg (l : List D) (h : ∀ i (hi : i < l.length), Refs m l[i]) : Refs m (.agg l)
 | tup (l : List D) (h : ∀ i (hi : i < l.length), Refs m l[i]) : Refs m (.tup l)
 | iface (t : Nat) (d : D) (h : Refs m d) : Refs m (.iface t d)
theorem Refs.mono {m m' : Nat} (hm : m ≤ m') {d : D} (h : Refs m d) : Refs m' d := by
 induction h with
 | ptr b off h => exact .ptr b off (by omega)
 | optp b T h => exact .optp b T (by omega)
 | eptr b ver e idx off h => exact .eptr b ver e idx off (by omega)
 | ms b ver e off len h => exact .ms b ver e off len (by omega)
 | clo f l h ih => exact .clo f l ih
 | agg l h ih => exact .agg l ih
 | tup l h ih => exact .tup l ih
 | iface t d h ih => exact .iface t d ih
 | _ => constructor
theorem rd_cutR {κ : KS} {m : Nat} {d : D} {v : Value} (h : RD κ d v) (hr : Refs m d) : RD (κ.cut m) d v := by
 induction h with
 | imm τ y cs h => exact .imm τ y cs h
 | tightNil e a => exact .tightNil e a
 | tight e l ne blk off f hne hok h hc => exact .tight e l ne blk off f hne hok h hc
 | nilsl => exact .nilsl
 | nilp => exact .nilp
 | niface => exact .niface
 | nilclo => exact .nilclo
 | nilmap => exact .nilmap
 | unk v h => exact .unk v h
 | bnil T => exact .bnil T
 | optpN b T d hb => cases hr with | optp _ _ hlt => exact rd_cut1 (.optpN b T d hb) (by simp only [closed1, Nat.blt, Nat.ble_eq]; exact hlt)
 | optpP b T blk n d hb h => cases hr with | optp _ _ hlt => exact rd_cut1 (.optpP b T blk n d hb h) (by simp only [closed1, Nat.blt, Nat.ble_eq]; exact hlt)
 | ptr b off blk n d hb h => cases hr with | ptr _ _ hlt => exact rd_cut1 (.ptr b off blk n d hb h) (by simp only [closed1, Nat.blt, Nat.ble_eq]; exact hlt)
 | rptr τ y cs blk off hok h hc => exact .rptr τ y cs blk off hok h hc
 | eptr b ver e idx off blk o hb h => cases hr with | eptr _ _ _ _ _ hlt => exact rd_cut1 (.eptr b ver e idx off blk o hb h) (by simp only [closed1, Nat.blt, Nat.ble_eq]; exact hlt)
 | ms b ver e off len cap a hb hcap ha hsp h => cases hr with | ms _ _ _ _ _ hlt => exact rd_cut1 (.ms b ver e off len cap a hb hcap ha hsp h) (by simp only [closed1, Nat.blt, Nat.ble_eq]; exact hlt)
 | clo f l vs hl h ih => cases hr with | clo _ _ hh => exact .clo f l vs hl fun i h1 h2 => ih i h1 h2 (hh i h1)
 | agg l vs hl ho h ih => cases hr with | agg _ hh => exact .agg l vs hl ho fun i h1 h2 => ih i h1 h2 (hh i h1)
 | tup l vs hl h ih => cases hr with | tup _ hh => exact .tup l vs hl fun i h1 h2 => ih i h1 h2 (hh i h1)
 | iface t d v h ih => cases hr with | iface _ _ hh => exact .iface t d v (ih hh)
theorem ble_of {a b : Nat} (h : a < b) : Nat.blt a b = true := by
 simp only [Nat.blt, Nat.ble_eq]; exact h
theorem cut_ext2 {κ κe : KS} {m : Nat} (hx : Ext κ κe) (hm : κ.st.length ≤ m) : Ext κ (κe.cut m) := by
 have hlt : ∀ b x, κ.st[b]? = some x → b < m := fun b x h => Nat.lt_of_lt_of_le (List.getElem?_eq_some_iff.1 h).1 hm
 have hph : ∀ b, b < m → (κe.cut m).ph[b]? = κe.ph[b]? := fun b hb => by simp only [KS.cut]; rw [List.getElem?_take, if_pos hb]
 refine ⟨hx.os, hx.tape, hx.output, hx.size, hx.same, hx.fresh, fun b blk n h => hx.phs b blk n (take_get h).1, fun b d h => ?_, fun b v0 e xs h => ?_, fun b h => getElem?_take' (hx.dead b h) (hlt b _ h), ?_, hx.frame⟩
 ·obtain ⟨⟨d', h1⟩, h2⟩ := hx.var b d h
  exact ⟨⟨d', getElem?_take' h1 (hlt b _ h)⟩, (hph b (hlt b _ h)).trans h2⟩
 ·rcases hx.arr b v0 e xs h with h1 | ⟨v1, x1, h1, h2, h3⟩
  ·exact .inl (getElem?_take' h1 (hlt b _ h))
  ·exact .inr ⟨v1, x1, getElem?_take' h1 (hlt b _ h), h2, fun he => ⟨(hph b (hlt b _ h)).trans (h3 he).1, (h3 he).2⟩⟩
 ·have := hx.stlen
  simp [KS.cut]; omega
theorem Shp.un_ok {κ0 κ : KS} {fr : Fr} {a : Act} {sh : Shp} {x : sh.den} (hx : Ext κ0 κ) (hI : Inv κ) (hR : Rel κ n fr.get a) (hl : κ0.st.length ≤ sh.bs.length) (h : (sh.un fr κ.st).leads x) :
  ∃ κ' : KS, κ'.w = κ.w ∧ κ'.st = sh.st x ∧ Inv κ' ∧ Ext κ0 κ' ∧ Rel κ' n (sh.fr x).get a ∧ ∀ (d : D) (v : Value), Refs sh.bs.length d → RD κ d v → RD κ' d v := by
 unfold Shp.un at h
 cases hc : sh.ok && (κ.st.take sh.bs.length).all (closedB sh.bs.length) with
 | false => rw [hc] at h; exact h.elim
 | true =>
  rw [hc, cond_true] at h
  simp only [Bool.and_eq_true, Shp.ok, List.all_eq_true] at hc
  obtain ⟨⟨⟨⟨hseq, hits⟩, hcs⟩, hbs⟩, hcl⟩ := hc
  obtain ⟨⟨⟩, h1, h⟩ := T.leads_bind'.1 h
  obtain ⟨bl, h2, h3⟩ := T.leads_bind'.1 h
  have hIc := cut_inv hI hcl
  -- the store cut
  let m := sh.bs.length
  obtain ⟨g1, g2⟩ := unIts_ok (p := okDk sh.bs) (st' := sh.st x) sh.its bl x (fun k hk => hits _ hk) h3
  obtain ⟨k1, k2, k3⟩ := unBs_ok (st0 := mkSt0 sh.bs (mkBd sh.its x)) h2 g1 ((congrArg (okSeq2 sh.bs) (mkBd_kinds sh.its x)).trans hseq)
  have hst : sh.st x = mkSt1 (mkSt0 sh.bs (mkBd sh.its x)) sh.bs (mkBd sh.its x) := rfl
  rw [← hst] at k1 k2 k3
  let κ' : KS := { κ.cut m with st := sh.st x }
  have hm : m ≤ κ.st.length := by
   rcases Nat.eq_zero_or_pos m with h0 | h0
   ·omega
   ·obtain ⟨B, B', q1, _⟩ := k3 (m - 1) (sh.bs[m - 1]'(by show m - 1 < m; omega)) (by simp)
    have := (List.getElem?_eq_some_iff.1 q1).1
    omega
  have hcutst : ∀ i B, κ.st[i]? = some B → i < m → (κ.cut m).st[i]? = some B := fun i B hB hi => getElem?_take' hB hi
  have hcl' : (κ.cut m).st.length = m := by simp [KS.cut]; omega
  have pair : ∀ i, i < m → ∃ k B B', sh.bs[i]? = some k ∧ (κ.cut m).st[i]? = some B ∧ κ'.st[i]? = some B' ∧ BlkWk (okDk sh.bs) κ.st (mkSt0 sh.bs (mkBd sh.its x)) k B B' := by
   intro i hi
   obtain ⟨B, B', q1, q2, q3⟩ := k3 i (sh.bs[i]'hi) (by simp)
   exact ⟨_, B, B', by simp, hcutst i B q1 hi, q2, q3⟩
  have lt : ∀ {i : Nat} {B : Blk}, (κ.cut m).st[i]? = some B → i < m := fun hB => by have := (List.getElem?_eq_some_iff.1 hB).1; omega
  have lt' : ∀ {i : Nat} {B : Blk}, κ'.st[i]? = some B → i < m := fun hB => by have := (List.getElem?_eq_some_iff.1 hB).1; have e : κ'.st.length = m := k1; omega
  have hw : Wk (κ.cut m) κ' := by
   refine ⟨rfl, rfl, rfl, by show (sh.st x).length = _; rw [k1, hcl'], fun b d hb => ?_, fun b v e xs hb => ?_, fun b v e xs hb => ?_, fun b hb => ?_⟩
   ·obtain ⟨k, B, B', q0, q1, q2, q3⟩ := pair b (lt hb)
    rw [hb] at q1; cases q1
    cases q3 with
    | var k' _ _ y _ hy => exact ⟨_, q2⟩
    | cvar ck _ hy => exact ⟨_, q2⟩
    | dead _ hv => cases hv
   ·obtain ⟨k, B, B', q0, q1, q2, q3⟩ := pair b (lt hb)
    rw [hb] at q1; cases q1
    cases q3 with
    | arr => exact .inl q2
    | dead => exact .inr q2
   ·obtain ⟨k, B, B', q0, q1, q2, q3⟩ := pair b (lt' hb)
    rw [hb] at q2; cases q2
    cases q3 with
    | arr => exact q1
   ·obtain ⟨k, B, B', q0, q1, q2, q3⟩ := pair b (lt hb)
    rw [hb] at q1; cases q1
    cases q3 with
    | dead => exact q2
  have hver : ∀ b, rowAt sh.bs b = true → verAt κ'.st b = lenAt κ.st b ∧ verAt (mkSt0 sh.bs (mkBd sh.its x)) b = lenAt κ.st b ∧ verAt κ.st b = lenAt κ.st b :=
   fun b hb => ⟨(k2 b hb).2.1, (k2 b hb).1, (k2 b hb).2.2⟩
  have hcutver : ∀ b, rowAt sh.bs b = true → verAt (κ.cut m).st b = verAt κ.st b := by
   intro b hb
   have hbm : b < m := by
    unfold rowAt at hb
    split at hb
    ·rename_i hh; exact (List.getElem?_eq_some_iff.1 hh).1
    ·cases hb
   unfold verAt
   simp only [KS.cut]
   rw [List.getElem?_take, if_pos hbm]
  have hbm : ∀ b, rowAt sh.bs b = true → b < m := by
   intro b hb
   unfold rowAt at hb
   split at hb
   ·rename_i hh; exact (List.getElem?_eq_some_iff.1 hh).1
   ·cases hb
  have hbv : ∀ b, varAt sh.bs b = true → b < m := by
   intro b hb
   unfold varAt at hb
   split at hb
   ·rename_i hh; exact (List.getElem?_eq_some_iff.1 hh).1
   ·rename_i hh; exact (List.getElem?_eq_some_iff.1 hh).1
   ·cases hb
  have dk : ∀ (k : Dk) (y : k.den) (d : D) (v : Value) (st' : St), okDk sh.bs k = true → (∀ b, rowAt sh.bs b = true → verAt st' b = lenAt κ.st b) → (unDk κ.st k d).leads y → RD κ d v → RD κ' (mkDk st' k y) v := by
   intro k y d v st' ho hv hy hd
   have hwk : Wk κ κ := ⟨rfl, rfl, rfl, rfl, fun b d h => ⟨d, h⟩, fun b v e xs h => .inl h, fun b v e xs h => h, fun b h => h⟩
   have h0 := unDk_rd hwk ho (fun _ _ => rfl) (st' := κ.st) (fun _ _ => rfl) (fun b hb => (hver b hb).2.2) hy hd
   have hclo : closedD m (mkDk κ.st k y) = true := by
    cases k with
    | sub b e => exact ble_of (hbm b ho)
    | clo f caps =>
     have : ∀ (l : List Cap) (z : denCaps l), (mkCaps l z).all (closed1 m) = true := by
      intro l
      induction l with
      | nil => intro z; rfl
      | cons p r ih =>
       intro z
       have hp : ∀ w : AM.den p.ty, closed1 m (mkCap p w) = true := fun w => by cases p <;> rfl
       cases r with
       | nil => simp only [mkCaps, List.all_cons, List.all_nil, Bool.and_true]; exact hp z
       | cons q r => simp only [mkCaps, List.all_cons, Bool.and_eq_true]; exact ⟨hp z.1, by simpa using ih z.2⟩
     exact this caps y
    | st ks => exact List.all_eq_true.2 (mkSks_closed hbm hbv ks y ho)
    | mclo f ms => exact List.all_eq_true.2 (mkMcs_closed hbv ms y ho)
    | _ => rfl
   have h1 := hw.rd (rd_cut h0 hclo)
   have he : mkDk κ.st k y = mkDk st' k y := by
    cases k with
    | sub b e => simp only [mkDk]; rw [hv b ho, (hver b ho).2.2]
    | st ks => simp only [mkDk]; rw [mkSks_eq (fun b hb => (hver b hb).2.2.trans (hv b hb).symm) ks y ho]
    | _ => rfl
   rwa [he] at h1
  have ck : ∀ (q : Ck) (d : D) (v : Value) (st' : St), okCk sh.bs q = true → (∀ b, rowAt sh.bs b = true → verAt st' b = lenAt κ.st b) → (unCk κ.st q d).leads () → mkCk st' q = d ∧ (RD κ d v → RD κ' d v) := by
   intro q d v st' ho hv hy
   have he := unCk_eq ho hv hy
   refine ⟨he, fun hd => hw.rd (rd_cut hd ?_)⟩
   rw [← he]
   cases q with
   | ptr b off => exact ble_of (hbv b ho)
   | cur b e => exact ble_of (hbm b ho)
   | nilsl => rfl
   | nilp => rfl
   | niface => rfl
   | clo f l =>
    simp only [okCk, List.all_eq_true] at ho
    simp only [mkCk, closedD, List.all_eq_true, List.mem_map]
    rintro _ ⟨p, hp, rfl⟩
    exact ble_of (hbv p.1 (ho p hp))
  have hI' : Inv κ' := by
   refine hw.inv hIc fun b d' hb => ?_
   obtain ⟨k, B, B', q0, q1, q2, q3⟩ := pair b (lt' hb)
   rw [hb] at q2
   cases q2
   cases q3 with
   | var kk k' d y hp hy =>
    obtain ⟨blk, n', cs, t, e1, e2, e3, e4, e5⟩ := hIc.blk b _ q1
    refine ⟨blk, n', cs, t, e1, e2, e3, ?_⟩
    cases kk with
    | imm τ =>
     have hco : coe0 τ d = some y := T.leads_ofOpt.1 hy
     have ht : d.isTup = false := by
      cases d with
      | tup l => simp [coe0, D.isTup] at hco
      | _ => rfl
     have hrc := rc_of_flatD hco e4 e5.1 ht
     exact ⟨(flat_rds hrc).mono hw.ext, flat_one τ y, nofun⟩
    | rptr τ =>
     cases d <;> simp only [unDk] at hy <;> try (exact hy.elim)
     obtain ⟨e, hyy⟩ := castTy_some (T.leads_ofOpt.1 hy)
     cases e
     cases hyy
     exact ⟨e4.mono hw.ext, e5.1, nofun⟩
    | st ks =>
     simp only [unDk] at hy
     cases ha : d.isAggV with
     | false => rw [ha] at hy; exact hy.elim
     | true =>
      rw [ha] at hy
      replace hy : (unSks κ.st ks (flatD d)).leads y := hy
      have hbm' : b < m := lt' hb
      have hb0 : κ.st[b]? = some (.var d) := (take_get q1).1
      obtain ⟨blk2, n2, cs2, t2, f1, f2, f3, f4, f5⟩ := hI.blk b _ hb0
      have hp1 := (take_get e1).1
      rw [f1] at hp1
      cases hp1
      rw [show (κ.cut m).w = κ.w from rfl, f2] at e2
      cases e2
      obtain ⟨g1, g2⟩ := unSks_rds (κ := κ) (st' := mkSt0 sh.bs (mkBd sh.its x)) (bs := sh.bs) (fun b hb => (hver b hb).2.1) ks (flatD d) y _ hp.2 hy f4
      refine ⟨(rds_cut g1 fun z hz => ?_).mono hw.ext, g2, fun T hT => ?_⟩
      rotate_left
      ·exact f5.2 T (typed_flatD ha (mkSks_typed ks (flatD d) y hy hT))
      have := mkSks_closed (m := m) hbm hbv ks y hp.2 z hz
      cases z <;> first | exact this | cases this
    | _ => cases hp.1
   | cvar q d hy =>
    obtain ⟨blk, n', cs, t, e1, e2, e3, e4, e5⟩ := hIc.blk b _ q1
    have hoq : okCk sh.bs q = true := hbs _ (List.mem_of_getElem? q0)
    obtain ⟨g, _⟩ := ck q d undef (mkSt0 sh.bs (mkBd sh.its x)) hoq (fun b hb => (hver b hb).2.1) hy
    rw [g]
    exact ⟨blk, n', cs, t, e1, e2, e3, e4.mono hw.ext, e5⟩
  refine ⟨κ', rfl, rfl, hI', ?_, ⟨hR.size, hR.defers, fun s d hd => ?_⟩, fun d v hr hd => hw.rd (rd_cutR hd hr)⟩
  ·have hlt : κ0.st.length ≤ m := hl
   have c1 := cut_ext2 hx hlt
   exact c1.trans hw.ext
  ·rcases get_append (l := mkFr (sh.st x) sh.its x) (m := mkCs (sh.st x) sh.cs) hd with hp | hp0
   ·obtain ⟨k, y, d0, q0, q1, q2, q3⟩ := g2 _ hp
    cases q3
    obtain ⟨v, r1, r2⟩ := hR.get _ _ q1
    exact ⟨v, r1, dk k y d0 v (sh.st x) (hits _ q0) (fun b hb => (hver b hb).1) q2 r2⟩
   ·have hmem := get_mem hp0
    unfold mkCs at hmem
    obtain ⟨p, hp, he⟩ := List.mem_map.1 hmem
    cases he
    obtain ⟨d0, q1, q2⟩ := unCs_all h1 p hp
    obtain ⟨v, r1, r2⟩ := hR.get _ _ q1
    obtain ⟨g, gg⟩ := ck p.2 d0 v (sh.st x) (hcs p hp) (fun b hb => (hver b hb).1) q2
    rw [g]
    exact ⟨v, r1, gg r2⟩
end
end Go.AM
namespace Go.AM
set_option linter.unusedSectionVars false
variable [Glob] [Dfs]
open Go.RowKit
inductive Gh where
 | slot (s : Nat) (e : Ty) | cell (b i : Nat) (e : Ty) | pcell (s i : Nat) (e : Ty)
def nilCell (st : St) (b i : Nat) : Option (List D) := match st[b]? with
 | some (.var d) => bif d.isAggV then match (flatD d)[i]? with | some .nilsl => some (flatD d) | _ => none else none
 | _ => none
def gh : List Gh → Fr → St → Fr × St
 | [], fr, st => (fr, st)
 | .slot s e :: r, fr, st => match fr.get s with
  | some .nilsl => bif Nat.blt 0 e.size then gh r ((s, some (.ms st.length 0 e 0 0)) :: fr) (st ++ [.arr 0 e []]) else gh r fr st
  | _ => gh r fr st
 | .cell b i e :: r, fr, st => match nilCell st b i with
  | some l => bif Nat.blt 0 e.size then gh r fr ((st ++ [Blk.arr 0 e []]).set b (.var (.agg (l.set i (.ms st.length 0 e 0 0))))) else gh r fr st
  | none => gh r fr st
 | .pcell t i e :: r, fr, st => match fr.get t with
  | some (.ptr b _) => match nilCell st b i with
   | some l => bif Nat.blt 0 e.size then gh r fr ((st ++ [Blk.arr 0 e []]).set b (.var (.agg (l.set i (.ms st.length 0 e 0 0))))) else gh r fr st
   | none => gh r fr st
  | _ => gh r fr st
section
variable {c : Ctx} {κ : KS}
def KS.nilRow (κ : KS) (e : Ty) : KS := { κ with ph := κ.ph ++ [none], st := κ.st ++ [.arr 0 e []] }
theorem nilRow_ext (hI : Inv κ) (e : Ty) : Ext κ (κ.nilRow e) := by
 have hst : ∀ b y, κ.st[b]? = some y → (κ.st ++ [.arr 0 e []])[b]? = some y := fun b y h => by rw [List.getElem?_append_left (List.getElem?_eq_some_iff.1 h).1]; exact h
 have hph : ∀ b y, κ.st[b]? = some y → (κ.ph ++ [none])[b]? = κ.ph[b]? := fun b y h => by
  rw [List.getElem?_append_left]; rw [hI.len]; exact (List.getElem?_eq_some_iff.1 h).1
 refine ⟨rfl, rfl, rfl, Nat.le_refl _, fun k hk => ⟨hk, rfl⟩, fun k hk => .inl hk, ?_, fun b d h => ⟨⟨d, hst b _ h⟩, hph b _ h⟩,
  fun b v0 e xs h => .inr ⟨v0, xs, hst b _ h, Nat.le_refl _, fun _ => ⟨hph b _ h, rfl⟩⟩, fun b h => hst b _ h, by simp [KS.nilRow], fun k hk _ => rfl⟩
 intro b blk m h
 simp only [KS.nilRow] at h
 by_cases hb : b < κ.ph.length
 ·rw [List.getElem?_append_left hb] at h; exact .inl h
 ·rw [List.getElem?_append_right (by omega)] at h
  have := List.mem_of_getElem? h
  simp at this
theorem nilRow_inv (hI : Inv κ) {e : Ty} (he : 0 < e.size) : Inv (κ.nilRow e) := by
 have hold : ∀ (b blk m : Nat), (κ.ph ++ [none])[b]? = some (some (blk, m)) → κ.ph[b]? = some (some (blk, m)) := by
  intro b blk m h
  by_cases hb : b < κ.ph.length
  ·rw [List.getElem?_append_left hb] at h; exact h
  ·rw [List.getElem?_append_right (by omega)] at h
   have := List.mem_of_getElem? h
   simp at this
 refine ⟨by simp [KS.nilRow, hI.len], hI.okLt, fun b blk m h => hI.apart b blk m (hold b blk m h), fun b b' blk m m' h h' => hI.inj b b' blk m m' (hold _ _ _ h) (hold _ _ _ h'), ?_, hI.gl⟩
 intro b y hy
 simp only [KS.nilRow] at hy
 by_cases hb : b < κ.st.length
 ·rw [List.getElem?_append_left hb] at hy
  exact (hI.blk b y hy).mono (nilRow_ext hI e) (by show (κ.ph ++ [none])[b]? = κ.ph[b]?; rw [List.getElem?_append_left (by rw [hI.len]; exact hb)]) fun blk n h => rfl
 ·have hb' := (List.getElem?_eq_some_iff.1 hy).1
  simp at hb'
  have : b = κ.st.length := by omega
  subst this
  simp at hy
  subst hy
  exact ⟨he, .inl ⟨rfl, by simp [KS.nilRow, ← hI.len]⟩⟩
theorem typedL_set {l : List D} {i b v len off : Nat} {e : Ty} {tt : Nat} (h : (D.agg (l.set i (.ms b v e off len))).typed = some tt) : typedL l = some tt := by
 cases l with
 | nil => exact h
 | cons x r => cases i with
  | zero => cases h
  | succ i => cases x <;> exact h
theorem rds_set {κ κ2 : KS} {l : List D} {vs : List Value} {i : Nat} {d' : D} (h : RDs κ l vs) (hw : ∀ d v, RD κ d v → RD κ2 d v) (hi : ∀ v, vs[i]? = some v → RD κ2 d' v) : RDs κ2 (l.set i d') vs := by
 refine ⟨by rw [List.length_set]; exact h.1, fun k h1 h2 => ?_⟩
 rw [List.getElem_set]
 split
 ·rename_i e; subst e; exact hi _ (by simp [h2])
 ·exact hw _ _ (h.2 k (by rw [List.length_set] at h1; exact h1) h2)
theorem cell_ok (hI : Inv κ) {e : Ty} (he : 0 < e.size) {b i : Nat} {l : List D} (h : nilCell κ.st b i = some l) :
  ∃ κ' : KS, κ'.w = κ.w ∧ κ'.st = (κ.st ++ [Blk.arr 0 e []]).set b (.var (.agg (l.set i (.ms κ.st.length 0 e 0 0)))) ∧ Inv κ' ∧ Ext κ κ' := by
 unfold nilCell at h
 split at h
 ·rename_i d hd
  cases ha : d.isAggV with
  | false => rw [ha] at h; cases h
  | true =>
   rw [ha, cond_true] at h
   split at h
   ·rename_i hi
    cases h
    have hx := nilRow_ext hI e
    have hI1 := nilRow_inv hI he
    have hblt : b < κ.st.length := (List.getElem?_eq_some_iff.1 hd).1
    let κ2 : KS := { κ.nilRow e with st := (κ.nilRow e).st.set b (.var (.agg ((flatD d).set i (.ms κ.st.length 0 e 0 0)))) }
    have hb1 : (κ.nilRow e).st[b]? = some (.var d) := by
     show (κ.st ++ [_])[b]? = _
     rw [List.getElem?_append_left hblt]; exact hd
    have hne : ∀ j, j ≠ b → κ2.st[j]? = (κ.nilRow e).st[j]? := fun j hj => by
     show ((κ.nilRow e).st.set b _)[j]? = _
     rw [List.getElem?_set_ne (fun z => hj z.symm)]
    have hself : κ2.st[b]? = some (.var (.agg ((flatD d).set i (.ms κ.st.length 0 e 0 0)))) := by
     show ((κ.nilRow e).st.set b _)[b]? = _
     rw [List.getElem?_set_self (List.getElem?_eq_some_iff.1 hb1).1]
    have hw : Wk (κ.nilRow e) κ2 := by
     refine ⟨rfl, rfl, rfl, by simp [κ2], fun j d' hj => ?_, fun j v e' xs hj => ?_, fun j v e' xs hj => ?_, fun j hj => ?_⟩
     ·by_cases c : j = b
      ·subst c; exact ⟨_, hself⟩
      ·exact ⟨d', by rw [hne j c]; exact hj⟩
     ·by_cases c : j = b
      ·subst c; rw [hb1] at hj; cases hj
      ·exact .inl (by rw [hne j c]; exact hj)
     ·by_cases c : j = b
      ·subst c; rw [hself] at hj; cases hj
      ·rw [← hne j c]; exact hj
     ·by_cases c : j = b
      ·subst c; rw [hb1] at hj; cases hj
      ·rw [hne j c]; exact hj
    have hnew : κ2.st[κ.st.length]? = some (.arr 0 e []) := by
     rw [hne _ (by omega)]
     simp [KS.nilRow]
    have hI2 : Inv κ2 := by
     refine hw.inv hI1 fun j d' hj => ?_
     by_cases c : j = b
     ·subst c
      rw [hself] at hj
      cases hj
      obtain ⟨blk, m, cs, t, q1, q2, q3, q4, q5⟩ := hI1.blk j _ hb1
      refine ⟨blk, m, cs, t, q1, q2, q3, rds_set q4 (fun _ _ h => hw.rd h) fun v hv => ?_, fun x hxm => ?_, fun T hT => ?_⟩
      ·obtain ⟨v', h1, h2⟩ := q4.get hi
       rw [hv] at h1
       cases h1
       cases h2
       refine .ms κ.st.length 0 e 0 0 0 none (.inr ⟨0, e, [], hnew, Nat.le_refl _⟩) (Nat.le_refl _) (fun _ => rfl) nofun fun xs hxs => ?_
       rw [hnew] at hxs
       cases hxs
       exact ⟨Nat.le_refl _, .inl ⟨rfl, rfl, rfl, by show (κ.ph ++ [none])[κ.st.length]? = _; simp [← hI.len]⟩⟩
      ·rcases List.mem_or_eq_of_mem_set (show x ∈ (flatD d).set i (.ms κ.st.length 0 e 0 0) from hxm) with h' | h'
       ·exact q5.1 x h'
       ·subst h'; rfl
      ·exact q5.2 T (typed_flatD ha (typedL_set hT))
     ·rw [hne j c] at hj
      exact (hI1.blk j _ hj).mono hw.ext rfl fun _ _ _ => rfl
    exact ⟨κ2, rfl, rfl, hI2, hx.trans hw.ext⟩
   ·cases h
 ·cases h
theorem gh_ok {n : Nat} {a : Act} : ∀ (l : List Gh) (fr : Fr) (κ : KS), Inv κ → Rel κ n fr.get a → ∃ κ' : KS, κ'.w = κ.w ∧ κ'.st = (gh l fr κ.st).2 ∧ Inv κ' ∧ Ext κ κ' ∧ Rel κ' n (gh l fr κ.st).1.get a
 | [], fr, κ, hI, hR => ⟨κ, rfl, rfl, hI, Ext.refl κ, hR⟩
 | .slot s e :: r, fr, κ, hI, hR => by
  unfold gh
  split
  ·rename_i hs
   cases he : Nat.blt 0 e.size with
   | false => rw [cond_false]; exact gh_ok r fr κ hI hR
   | true =>
    rw [cond_true]
    have he' : 0 < e.size := Nat.le_of_ble_eq_true he
    have hx := nilRow_ext hI e
    have hR' : Rel (κ.nilRow e) n (Fr.get ((s, some (.ms κ.st.length 0 e 0 0)) :: fr)) a := by
     refine ⟨hR.size, hR.defers, fun t d hd => ?_⟩
     simp only [Fr.get] at hd
     cases ht : Nat.beq s t with
     | true =>
      rw [ht, cond_true] at hd
      cases hd
      have := Nat.eq_of_beq_eq_true ht
      subst this
      obtain ⟨v, h1, h2⟩ := hR.get s _ hs
      cases h2
      have hnew : (κ.nilRow e).st[κ.st.length]? = some (.arr 0 e []) := by simp [KS.nilRow]
      refine ⟨_, h1, .ms κ.st.length 0 e 0 0 0 none (.inr ⟨0, e, [], hnew, Nat.le_refl _⟩) (Nat.le_refl _) (fun _ => rfl) nofun fun xs hxs => ?_⟩
      rw [hnew] at hxs
      cases hxs
      exact ⟨Nat.le_refl _, .inl ⟨rfl, rfl, rfl, by simp [KS.nilRow, ← hI.len]⟩⟩
     | false =>
      rw [ht, cond_false] at hd
      obtain ⟨v, h1, h2⟩ := hR.get t d hd
      exact ⟨v, h1, h2.mono hx⟩
    obtain ⟨κ', h1, h2, h3, h4, h5⟩ := gh_ok r _ (κ.nilRow e) (nilRow_inv hI he') hR'
    exact ⟨κ', h1, h2, h3, hx.trans h4, h5⟩
  ·exact gh_ok r fr κ hI hR
 | .cell b i e :: r, fr, κ, hI, hR => by
  unfold gh
  split
  ·rename_i l hl
   cases he : Nat.blt 0 e.size with
   | false => rw [cond_false]; exact gh_ok r fr κ hI hR
   | true =>
    rw [cond_true]
    have he' : 0 < e.size := Nat.le_of_ble_eq_true he
    obtain ⟨κ1, g1, g2, g3, g4⟩ := cell_ok hI he' hl
    obtain ⟨κ', h1, h2, h3, h4, h5⟩ := gh_ok r fr κ1 g3 ⟨hR.size, hR.defers, fun t d hd => by
     obtain ⟨v, q1, q2⟩ := hR.get t d hd
     exact ⟨v, q1, q2.mono g4⟩⟩
    rw [g2] at h2 h5
    exact ⟨κ', h1.trans g1, h2, h3, g4.trans h4, h5⟩
  ·exact gh_ok r fr κ hI hR
 | .pcell t i e :: r, fr, κ, hI, hR => by
  unfold gh
  split
  ·rename_i b off hb
   split
   ·rename_i l hl
    cases he : Nat.blt 0 e.size with
    | false => rw [cond_false]; exact gh_ok r fr κ hI hR
    | true =>
     rw [cond_true]
     have he' : 0 < e.size := Nat.le_of_ble_eq_true he
     obtain ⟨κ1, g1, g2, g3, g4⟩ := cell_ok hI he' hl
     obtain ⟨κ', h1, h2, h3, h4, h5⟩ := gh_ok r fr κ1 g3 ⟨hR.size, hR.defers, fun t d hd => by
      obtain ⟨v, q1, q2⟩ := hR.get t d hd
      exact ⟨v, q1, q2.mono g4⟩⟩
     rw [g2] at h2 h5
     exact ⟨κ', h1.trans g1, h2, h3, g4.trans h4, h5⟩
   ·exact gh_ok r fr κ hI hR
  ·exact gh_ok r fr κ hI hR
end
end Go.AM
namespace Go.AM
def ren1 (f : Nat → Option Nat) (d : D) : Option D := match d with
 | .ptr b off => match f b with | some b' => some (.ptr b' off) | none => none
 | .optp b T => match f b with | some b' => some (.optp b' T) | none => none
 | .eptr b v e i off => match f b with | some b' => some (.eptr b' v e i off) | none => none
 | .ms b v e off len => match f b with | some b' => some (.ms b' v e off len) | none => none
 | .clo _ _ => none
 | .agg _ => none
 | .tup _ => none
 | .iface _ _ => none
 | d => some d
def renL (f : Nat → Option Nat) : List D → Option (List D)
 | [] => some []
 | d :: r => match ren1 f d with
  | some d' => match renL f r with | some r' => some (d' :: r') | none => none
  | none => none
def renD (f : Nat → Option Nat) (d : D) : Option D := match d with
 | .clo g l => match renL f l with | some l' => some (.clo g l') | none => none
 | .agg l => match renL f l with | some l' => some (.agg l') | none => none
 | d => ren1 f d
def renDs (f : Nat → Option Nat) : List D → Option (List D)
 | [] => some []
 | d :: r => match renD f d with
  | some d' => match renDs f r with | some r' => some (d' :: r') | none => none
  | none => none
def renB (f : Nat → Option Nat) : Blk → Option Blk
 | .var d => match renD f d with | some d' => some (.var d') | none => none
 | .arr v e xs => some (.arr v e xs)
 | .dead => some .dead
def renBs (f : Nat → Option Nat) : List Blk → Option (List Blk)
 | [] => some []
 | b :: r => match renB f b with
  | some b' => match renBs f r with | some r' => some (b' :: r') | none => none
  | none => none
def renFr (f : Nat → Option Nat) : Fr → Fr
 | [] => []
 | (s, some d) :: r => (s, renD f d) :: renFr f r
 | (s, none) :: r => (s, none) :: renFr f r
structure Tr (κ κ' : KS) (f : Nat → Option Nat) : Prop where
 w : κ'.w = κ.w
 ok : κ'.ok = κ.ok
 var : ∀ (b b' : Nat) (d : D), f b = some b' → κ.st[b]? = some (.var d) → (∃ d', κ'.st[b']? = some (.var d')) ∧ κ'.ph[b']? = κ.ph[b]?
 old : ∀ (b b' ver : Nat), f b = some b' → Old κ.st b ver → Old κ'.st b' ver
 row : ∀ (b b' v : Nat) (e : Ty) (xs : List (den e)), f b = some b' → κ'.st[b']? = some (.arr v e xs) → κ.st[b]? = some (.arr v e xs) ∧ κ'.ph[b']? = κ.ph[b]?
section
variable {κ κ' : KS} {f : Nat → Option Nat}
theorem Tr.same (h : Tr κ κ' f) : Same κ.w κ'.w κ.ok κ'.ok := fun k hk => ⟨by rw [h.ok]; exact hk, by rw [h.w]⟩
theorem Tr.rd1 (h : Tr κ κ' f) {d d' : D} {v : Value} (hd : RD κ d v) (hr : ren1 f d = some d') : RD κ' d' v := by
 cases hd with
 | imm τ y cs hc => cases hr; exact .imm τ y cs (hc.mono h.same)
 | tightNil e a => cases hr; exact .tightNil e a
 | tight e l ne blk off g hne hok hh hc => cases hr; exact .tight e l ne blk off g hne (h.same _ hok).1 (fun i hi => (hh i hi).mono h.same) fun i hi j v hv => by rw [cell_same (h.same _ hok).2]; exact hc i hi j v hv
 | nilsl => cases hr; exact .nilsl
 | nilp => cases hr; exact .nilp
 | niface => cases hr; exact .niface
 | nilclo => cases hr; exact .nilclo
 | nilmap => cases hr; exact .nilmap
 | unk v h => cases hr; exact .unk v h
 | bnil T => cases hr; exact .bnil T
 | optpN b T d hb =>
  simp only [ren1] at hr
  split at hr
  ·rename_i b' hf
   cases hr
   obtain ⟨⟨d', h1⟩, h2⟩ := h.var b b' d hf hb
   exact .optpN b' T d' h1
  ·cases hr
 | optpP b T blk n d hb hp =>
  simp only [ren1] at hr
  split at hr
  ·rename_i b' hf
   cases hr
   obtain ⟨⟨d', h1⟩, h2⟩ := h.var b b' d hf hb
   exact .optpP b' T blk n d' h1 (h2.trans hp)
  ·cases hr
 | ptr b off blk n d hb hp =>
  simp only [ren1] at hr
  split at hr
  ·rename_i b' hf
   cases hr
   obtain ⟨⟨d', h1⟩, h2⟩ := h.var b b' d hf hb
   exact .ptr b' off blk n d' h1 (h2.trans hp)
  ·cases hr
 | rptr τ y cs blk off hok hh hc => cases hr; exact .rptr τ y cs blk off (h.same _ hok).1 (hh.mono h.same) fun j v hv => by rw [cell_same (h.same _ hok).2]; exact hc j v hv
 | eptr b ver e idx off blk o hb hh =>
  simp only [ren1] at hr
  split at hr
  ·rename_i b' hf
   cases hr
   refine .eptr b' ver e idx off blk o (h.old b b' ver hf hb) fun xs hx hi => ?_
   obtain ⟨h1, h2⟩ := h.row b b' ver e xs hf hx
   rw [h2]
   exact hh xs h1 hi
  ·cases hr
 | ms b ver e off len cap a hb hcap ha hsp hh =>
  simp only [ren1] at hr
  split at hr
  ·rename_i b' hf
   cases hr
   refine .ms b' ver e off len cap a (h.old b b' ver hf hb) hcap ha hsp fun xs hx => ?_
   obtain ⟨h1, h2⟩ := h.row b b' ver e xs hf hx
   have := hh xs h1
   unfold MsRel at this ⊢
   rw [h2]
   exact this
  ·cases hr
 | clo g l vs hl hh => cases hr
 | agg l vs hl ho hh => cases hr
 | tup l vs hl hh => cases hr
 | iface t d v hh => cases hr
theorem ren1_one {d d' : D} (h : ren1 f d = some d') : d'.one = d.one := by
 cases d <;> simp only [ren1] at h <;> first | (cases h; rfl) | (split at h <;> cases h; rfl) | cases h
theorem Tr.rdL (h : Tr κ κ' f) : ∀ {l l' : List D} {vs : List Value}, RDs κ l vs → renL f l = some l' → RDs κ' l' vs
 | [], l', vs, hd, hr => by cases hr; rw [hd.nil_inv]; exact .nil
 | d :: r, l', vs, hd, hr => by
  simp only [renL] at hr
  split at hr
  ·rename_i d' h1
   split at hr
   ·rename_i r' h2
    cases hr
    obtain ⟨v, us, rfl, g1, g2⟩ := hd.cons_inv
    exact .cons (h.rd1 g1 h1) (h.rdL g2 h2)
   ·cases hr
  ·cases hr
theorem renL_one : ∀ {l l' : List D}, renL f l = some l' → (∀ d ∈ l, d.one = true) → ∀ d ∈ l', d.one = true
 | [], l', hr, _ => by cases hr; nofun
 | d :: r, l', hr, ho => by
  simp only [renL] at hr
  split at hr
  ·rename_i d' h1
   split at hr
   ·rename_i r' h2
    cases hr
    intro x hx
    rcases List.mem_cons.1 hx with rfl | hx
    ·rw [ren1_one h1]; exact ho d List.mem_cons_self
    ·exact renL_one h2 (fun y hy => ho y (List.mem_cons_of_mem _ hy)) x hx
   ·cases hr
  ·cases hr
theorem Tr.rd (h : Tr κ κ' f) {d d' : D} {v : Value} (hd : RD κ d v) (hr : renD f d = some d') : RD κ' d' v := by
 cases d with
 | clo g l =>
  simp only [renD] at hr
  split at hr
  ·rename_i l' hl
   cases hr
   cases hd with
   | clo _ _ vs h1 h2 => have := h.rdL (⟨h1, h2⟩ : RDs κ l vs) hl; exact .clo g l' vs this.1 this.2
  ·cases hr
 | agg l =>
  simp only [renD] at hr
  split at hr
  ·rename_i l' hl
   cases hr
   cases hd with
   | agg _ vs h1 ho h2 => have := h.rdL (⟨h1, h2⟩ : RDs κ l vs) hl; exact .agg l' vs this.1 (renL_one hl ho) this.2
  ·cases hr
 | _ => exact h.rd1 hd hr
theorem Tr.rds (h : Tr κ κ' f) : ∀ {l l' : List D} {vs : List Value}, RDs κ l vs → renDs f l = some l' → RDs κ' l' vs
 | [], l', vs, hd, hr => by cases hr; rw [hd.nil_inv]; exact .nil
 | d :: r, l', vs, hd, hr => by
  simp only [renDs] at hr
  split at hr
  ·rename_i d' h1
   split at hr
   ·rename_i r' h2
    cases hr
    obtain ⟨v, us, rfl, g1, g2⟩ := hd.cons_inv
    exact .cons (h.rd g1 h1) (h.rds g2 h2)
   ·cases hr
  ·cases hr
theorem Tr.flat (h : Tr κ κ' f) {d d' : D} {vs : List Value} (hd : RDs κ (flatD d) vs) (ho : ∀ x ∈ flatD d, x.one = true) (hr : renD f d = some d') : RDs κ' (flatD d') vs ∧ ∀ x ∈ flatD d', x.one = true := by
 have imm : ∀ (τ : Ty) (x : den τ) (vs : List Value), RDs κ (Go.AM.flat τ x) vs → RDs κ' (Go.AM.flat τ x) vs := by
  intro τ x vs hh
  refine ⟨hh.1, fun i h1 h2 => ?_⟩
  have hm := List.getElem_mem h1
  have : ∃ σ z, (Go.AM.flat τ x)[i] = .imm σ z := by
   generalize (Go.AM.flat τ x)[i] = y at hm
   clear hh h1 h2
   induction τ with
   | cons a b ia ib =>
    simp only [Go.AM.flat, List.mem_append] at hm
    rcases hm with hm | hm
    ·exact ia _ hm
    ·exact ib _ hm
   | nil => simp [Go.AM.flat] at hm
   | expr => simp [Go.AM.flat] at hm; rcases hm with rfl | rfl | rfl | rfl | rfl | rfl <;> exact ⟨_, _, rfl⟩
   | _ => simp [Go.AM.flat] at hm; subst hm; exact ⟨_, _, rfl⟩
  obtain ⟨σ, z, e⟩ := this
  have h3 := hh.2 i h1 h2
  rw [e] at h3 ⊢
  exact h.rd1 h3 rfl
 cases d with
 | imm τ x => cases hr; exact ⟨imm τ x vs hd, ho⟩
 | agg l =>
  simp only [renD] at hr
  split at hr
  ·rename_i l' hl
   cases hr
   exact ⟨h.rdL hd hl, renL_one hl ho⟩
  ·cases hr
 | tup l => cases hr
 | clo g l =>
  obtain ⟨v, r, rfl, h1, h2⟩ := RDs.cons_inv (show RDs κ [.clo g l] vs from hd)
  rw [h2.nil_inv]
  have hr' := hr
  simp only [renD] at hr
  split at hr
  ·cases hr; exact ⟨.cons (h.rd h1 hr') .nil, fun x hx => by simp only [flatD, List.mem_singleton] at hx; subst hx; rfl⟩
  ·cases hr
 | iface t x => cases hr
 | ptr b off =>
  obtain ⟨v, r, rfl, h1, h2⟩ := RDs.cons_inv (show RDs κ [.ptr b off] vs from hd)
  rw [h2.nil_inv]
  have hr' := hr
  simp only [renD, ren1] at hr
  split at hr
  ·cases hr; exact ⟨.cons (h.rd1 h1 hr') .nil, fun x hx => by simp only [flatD, List.mem_singleton] at hx; subst hx; rfl⟩
  ·cases hr
 | optp b T =>
  obtain ⟨v, r, rfl, h1, h2⟩ := RDs.cons_inv (show RDs κ [.optp b T] vs from hd)
  rw [h2.nil_inv]
  have hr' := hr
  simp only [renD, ren1] at hr
  split at hr
  ·cases hr; exact ⟨.cons (h.rd1 h1 hr') .nil, fun x hx => by simp only [flatD, List.mem_singleton] at hx; subst hx; rfl⟩
  ·cases hr
 | eptr b ver e idx off =>
  obtain ⟨v, r, rfl, h1, h2⟩ := RDs.cons_inv (show RDs κ [.eptr b ver e idx off] vs from hd)
  rw [h2.nil_inv]
  have hr' := hr
  simp only [renD, ren1] at hr
  split at hr
  ·cases hr; exact ⟨.cons (h.rd1 h1 hr') .nil, fun x hx => by simp only [flatD, List.mem_singleton] at hx; subst hx; rfl⟩
  ·cases hr
 | ms b ver e off len =>
  obtain ⟨v, r, rfl, h1, h2⟩ := RDs.cons_inv (show RDs κ [.ms b ver e off len] vs from hd)
  rw [h2.nil_inv]
  have hr' := hr
  simp only [renD, ren1] at hr
  split at hr
  ·cases hr; exact ⟨.cons (h.rd1 h1 hr') .nil, fun x hx => by simp only [flatD, List.mem_singleton] at hx; subst hx; rfl⟩
  ·cases hr
 | _ =>
  cases hr
  obtain ⟨v, r, rfl, h1, h2⟩ := RDs.cons_inv hd
  rw [h2.nil_inv]
  exact ⟨.cons (h.rd1 h1 rfl) .nil, ho⟩
theorem renD_typed {f : Nat → Option Nat} {d d' : D} {tt : Nat} (h : renD f d = some d') (ht : d'.typed = some tt) : d.typed = some tt := by
 cases d with
 | agg l =>
  simp only [renD] at h
  split at h
  ·rename_i l' hl
   cases h
   cases l with
   | nil => cases hl; cases ht
   | cons x r =>
    simp only [renL] at hl
    split at hl
    ·rename_i x' hx
     split at hl
     ·cases hl
      cases x <;> simp only [ren1] at hx <;> first
       | (cases hx; exact ht)
       | (split at hx <;> first | (cases hx; exact ht) | cases hx)
       | cases hx
     ·cases hl
    ·cases hl
  ·cases h
 | clo g l =>
  simp only [renD] at h
  split at h
  ·cases h; cases ht
  ·cases h
 | _ =>
  simp only [renD, ren1] at h
  first
   | (cases h; cases ht)
   | (split at h <;> first | (cases h; cases ht) | cases h)
   | cases h
theorem Tr.blk [RowT] (h : Tr κ κ' f) {b b' : Nat} (hp : κ'.ph[b']? = κ.ph[b]?) {y y' : Blk} (hy : BlkRel κ b y) (hr : renB f y = some y') : BlkRel κ' b' y' := by
 cases y with
 | dead => cases hr; trivial
 | var d =>
  simp only [renB] at hr
  split at hr
  ·rename_i d' hd
   cases hr
   obtain ⟨blk, n, cs, t, h1, h2, h3, h4, h5⟩ := hy
   obtain ⟨g1, g2⟩ := h.flat h4 h5.1 hd
   exact ⟨blk, n, cs, t, hp.trans h1, by rw [h.w]; exact h2, h3, g1, g2, fun T hT => h5.2 T (renD_typed hd hT)⟩
  ·cases hr
 | arr ver e xs =>
  cases hr
  obtain ⟨h0, hh⟩ := hy
  refine ⟨h0, orMap hh (fun h => ⟨h.1, hp.trans h.2⟩) ?_⟩
  rintro ⟨blk, n, cs, t, h1, h2, h3, h4, hr, g, h5⟩
  exact ⟨blk, n, cs, t, hp.trans h1, by rw [h.w]; exact h2, h3, h4, hr, g, fun i hi => ⟨(h5 i hi).1.mono h.same, (h5 i hi).2⟩⟩
theorem renFr_get {f : Nat → Option Nat} : ∀ {fr : Fr} {s : Nat} {d' : D}, (renFr f fr).get s = some d' → ∃ d, fr.get s = some d ∧ renD f d = some d'
 | [], s, d', h => by cases h
 | (t, some d) :: r, s, d', h => by
  simp only [renFr, Fr.get] at h ⊢
  cases ht : Nat.beq t s with
  | true => rw [ht, cond_true] at h; exact ⟨d, rfl, h⟩
  | false => rw [ht, cond_false] at h; simp only [cond_false]; exact renFr_get h
 | (t, none) :: r, s, d', h => by
  simp only [renFr, Fr.get] at h ⊢
  cases ht : Nat.beq t s with
  | true => rw [ht, cond_true] at h; cases h
  | false => rw [ht, cond_false] at h; simp only [cond_false]; exact renFr_get h
end
def pos : List Nat → Nat → Option Nat
 | [], _ => none
 | b :: r, i => bif Nat.beq b i then some 0 else match pos r i with | some j => some (j + 1) | none => none
def nodupB : List Nat → Bool
 | [] => true
 | b :: r => (match pos r b with | none => true | some _ => false) && nodupB r
theorem pos_get : ∀ {mp : List Nat} {i j : Nat}, pos mp i = some j → mp[j]? = some i
 | [], i, j, h => by cases h
 | b :: r, i, j, h => by
  simp only [pos] at h
  cases hb : Nat.beq b i with
  | true => rw [hb, cond_true] at h; cases h; rw [Nat.eq_of_beq_eq_true hb]; rfl
  | false =>
   rw [hb, cond_false] at h
   split at h
   ·rename_i k hk; cases h; simpa using pos_get hk
   ·cases h
theorem get_pos : ∀ {mp : List Nat} {i j : Nat}, nodupB mp = true → mp[j]? = some i → pos mp i = some j
 | [], i, j, _, h => by simp at h
 | b :: r, i, j, hn, h => by
  simp only [nodupB, Bool.and_eq_true] at hn
  cases j with
  | zero => simp at h; subst h; simp only [pos]; rw [Nat.beq_refl]; rfl
  | succ j =>
   have h' : r[j]? = some i := by simpa using h
   have hp := get_pos hn.2 h'
   have hne : Nat.beq b i = false := by
    cases hb : Nat.beq b i with
    | false => rfl
    | true =>
     have := Nat.eq_of_beq_eq_true hb
     subst this
     rw [hp] at hn
     cases hn.1
   simp only [pos, hne, cond_false, hp]
def pickL {α : Type} (l : List α) : List Nat → Option (List α)
 | [] => some []
 | b :: r => match l[b]? with
  | some x => match pickL l r with | some y => some (x :: y) | none => none
  | none => none
theorem pickL_get {α : Type} {l : List α} : ∀ {mp : List Nat} {r : List α}, pickL l mp = some r → r.length = mp.length ∧ ∀ (j b : Nat), mp[j]? = some b → r[j]? = l[b]? ∧ b < l.length
 | [], r, h => by cases h; exact ⟨rfl, fun j b hj => by simp at hj⟩
 | b :: mp, r, h => by
  simp only [pickL] at h
  split at h
  ·rename_i x hx
   split at h
   ·rename_i y hy
    cases h
    obtain ⟨h1, h2⟩ := pickL_get hy
    refine ⟨by simp [h1], fun j c hj => ?_⟩
    cases j with
    | zero => simp at hj; subst hj; exact ⟨by simp [hx], (List.getElem?_eq_some_iff.1 hx).1⟩
    | succ j => have := h2 j c (by simpa using hj); simpa using this
   ·cases h
  ·cases h
theorem renBs_get {f : Nat → Option Nat} : ∀ {l r : List Blk}, renBs f l = some r → r.length = l.length ∧ ∀ (j : Nat) (x : Blk), l[j]? = some x → ∃ y, r[j]? = some y ∧ renB f x = some y
 | [], r, h => by cases h; exact ⟨rfl, fun j x hj => by simp at hj⟩
 | b :: l, r, h => by
  simp only [renBs] at h
  split at h
  ·rename_i b' hb
   split at h
   ·rename_i r' hr
    cases h
    obtain ⟨h1, h2⟩ := renBs_get hr
    refine ⟨by simp [h1], fun j x hj => ?_⟩
    cases j with
    | zero => simp at hj; subst hj; exact ⟨b', rfl, hb⟩
    | succ j => have := h2 j x (by simpa using hj); simpa using this
   ·cases h
  ·cases h
def backGo {α : Type} (mp : List Nat) (new : List α) : Nat → List α → List α
 | _, [] => []
 | i, x :: r => (match pos mp i with | some j => (match new[j]? with | some y => y | none => x) | none => x) :: backGo mp new (i + 1) r
def backL {α : Type} (mp : List Nat) (old new : List α) : List α := backGo mp new 0 old ++ new.drop mp.length
theorem backGo_len {α : Type} (mp : List Nat) (new : List α) : ∀ (l : List α) (i : Nat), (backGo mp new i l).length = l.length
 | [], _ => rfl
 | x :: r, i => by simp [backGo, backGo_len mp new r (i + 1)]
theorem backGo_get {α : Type} (mp : List Nat) (new : List α) : ∀ (l : List α) (i k : Nat), (backGo mp new i l)[k]? = (l[k]?).map fun x => match pos mp (i + k) with | some j => (match new[j]? with | some y => y | none => x) | none => x
 | [], i, k => by simp [backGo]
 | x :: r, i, 0 => by simp [backGo]
 | x :: r, i, k + 1 => by
  have := backGo_get mp new r (i + 1) k
  simp only [backGo, List.getElem?_cons_succ, this]
  rw [show i + 1 + k = i + (k + 1) by omega]
def fwd (mp : List Nat) (n : Nat) (j : Nat) : Nat := match mp[j]? with | some b => b | none => n + (j - mp.length)
theorem back_none {α : Type} {mp : List Nat} {old new : List α} {i : Nat} (hi : i < old.length) (hp : pos mp i = none) : (backL mp old new)[i]? = old[i]? := by
 unfold backL
 rw [List.getElem?_append_left (by rw [backGo_len]; exact hi), backGo_get, Nat.zero_add, hp]
 simp
theorem back_fwd {α : Type} {mp : List Nat} {old new : List α} (hn : nodupB mp = true) (hlt : ∀ (j b : Nat), mp[j]? = some b → b < old.length) (hlen : mp.length ≤ new.length) {j : Nat} (hj : j < new.length) : (backL mp old new)[fwd mp old.length j]? = new[j]? := by
 unfold backL fwd
 cases hm : mp[j]? with
 | some b =>
  have hb := hlt j b hm
  simp only
  rw [List.getElem?_append_left (by rw [backGo_len]; exact hb), backGo_get, Nat.zero_add, get_pos hn hm]
  simp [hb, List.getElem?_eq_getElem hj]
 | none =>
  have : mp.length ≤ j := by simpa using hm
  simp only
  rw [List.getElem?_append_right (by rw [backGo_len]; omega), backGo_len, List.getElem?_drop]
  congr 1
  omega
theorem back_cases {α : Type} {mp : List Nat} {old new : List α} (hlt : ∀ (j b : Nat), mp[j]? = some b → b < old.length) (hlen : mp.length ≤ new.length) {i : Nat} (hi : i < (backL mp old new).length) :
  (i < old.length ∧ pos mp i = none) ∨ ∃ j, j < new.length ∧ i = fwd mp old.length j := by
 by_cases h : i < old.length
 ·cases hp : pos mp i with
  | none => exact .inl ⟨h, rfl⟩
  | some j =>
   have := pos_get hp
   have hj := (List.getElem?_eq_some_iff.1 this).1
   exact .inr ⟨j, by omega, by unfold fwd; rw [this]⟩
 ·have hl : i < old.length + (new.length - mp.length) := by simpa [backL, backGo_len] using hi
  refine .inr ⟨mp.length + (i - old.length), by omega, ?_⟩
  unfold fwd
  rw [List.getElem?_eq_none (by omega)]
  simp only
  omega
end Go.AM
namespace Go.AM
set_option linter.unusedSectionVars false
variable [Glob]
open Go.RowKit
section
variable {κ : KS} {mp : List Nat}
theorem sub_ok {st1 l : List Blk} {p1 : List (Option (Nat × Nat))} (hI : Inv κ) (hn : nodupB mp = true) (hp : pickL κ.ph mp = some p1) (hl : pickL κ.st mp = some l) (hr : renBs (pos mp) l = some st1) :
  Inv ⟨κ.w, κ.ok, p1, st1⟩ ∧ Tr κ ⟨κ.w, κ.ok, p1, st1⟩ (pos mp) ∧ st1.length = mp.length ∧ p1.length = mp.length ∧ ∀ (j b : Nat), mp[j]? = some b → p1[j]? = κ.ph[b]? ∧ ∃ x y : Blk, κ.st[b]? = some x ∧ renB (pos mp) x = some y ∧ st1[j]? = some y := by
 obtain ⟨a1, a2⟩ := pickL_get hp
 obtain ⟨b1, b2⟩ := pickL_get hl
 obtain ⟨c1, c2⟩ := renBs_get hr
 have key : ∀ (j b : Nat), mp[j]? = some b → p1[j]? = κ.ph[b]? ∧ ∃ x y : Blk, κ.st[b]? = some x ∧ renB (pos mp) x = some y ∧ st1[j]? = some y := by
  intro j b hj
  refine ⟨(a2 j b hj).1, ?_⟩
  obtain ⟨h1, h2⟩ := b2 j b hj
  have hx : l[j]? = some (κ.st[b]'h2) := by rw [h1, List.getElem?_eq_getElem h2]
  obtain ⟨y, g1, g2⟩ := c2 j _ hx
  exact ⟨_, y, List.getElem?_eq_getElem h2, g2, g1⟩
 have at' : ∀ {j : Nat} {y : Blk}, st1[j]? = some y → ∃ b, mp[j]? = some b := fun h => by
  have := (List.getElem?_eq_some_iff.1 h).1
  exact ⟨_, List.getElem?_eq_getElem (by omega)⟩
 have hT : Tr κ ⟨κ.w, κ.ok, p1, st1⟩ (pos mp) := by
  refine ⟨rfl, rfl, fun b j d hf hb => ?_, fun b j ver hf ho => ?_, fun b j v e xs hf hb => ?_⟩
  ·obtain ⟨h1, x, y, h2, h3, h4⟩ := key j b (pos_get hf)
   rw [hb] at h2
   cases h2
   simp only [renB] at h3
   split at h3
   ·cases h3; exact ⟨⟨_, h4⟩, h1⟩
   ·cases h3
  ·obtain ⟨h1, x, y, h2, h3, h4⟩ := key j b (pos_get hf)
   rcases ho with ho | ⟨v0, e0, xs0, ho, hv⟩
   ·rw [ho] at h2; cases h2; cases h3; exact .inl h4
   ·rw [ho] at h2; cases h2; cases h3; exact .inr ⟨v0, e0, xs0, h4, hv⟩
  ·obtain ⟨h1, x, y, h2, h3, h4⟩ := key j b (pos_get hf)
   rw [show st1[j]? = some (.arr v e xs) from hb] at h4
   cases h4
   cases x with
   | dead => cases h3
   | var d => simp only [renB] at h3; split at h3 <;> cases h3
   | arr v0 e0 xs0 => cases h3; exact ⟨h2, h1⟩
 refine ⟨⟨by show p1.length = st1.length; omega, hI.okLt, fun j blk n h => ?_, fun j j' blk n n' h h' => ?_, fun j y h => ?_, hI.gl⟩, hT, by omega, a1, key⟩
 ·obtain ⟨b, hb⟩ : ∃ b, mp[j]? = some b := ⟨_, List.getElem?_eq_getElem (by have : j < p1.length := (List.getElem?_eq_some_iff.1 h).1; omega)⟩
  exact hI.apart b blk n ((a2 j b hb).1.symm.trans h)
 ·obtain ⟨b, hb⟩ : ∃ b, mp[j]? = some b := ⟨_, List.getElem?_eq_getElem (by have : j < p1.length := (List.getElem?_eq_some_iff.1 h).1; omega)⟩
  obtain ⟨b', hb'⟩ : ∃ b, mp[j']? = some b := ⟨_, List.getElem?_eq_getElem (by have : j' < p1.length := (List.getElem?_eq_some_iff.1 h').1; omega)⟩
  have := hI.inj b b' blk n n' ((a2 j b hb).1.symm.trans h) ((a2 j' b' hb').1.symm.trans h')
  subst this
  exact Option.some.inj ((get_pos hn hb).symm.trans (get_pos hn hb'))
 ·obtain ⟨b, hb⟩ := at' h
  obtain ⟨h1, x, y', h2, h3, h4⟩ := key j b hb
  rw [show st1[j]? = some y from h] at h4
  cases h4
  exact hT.blk h1 (hI.blk b x h2) h3
theorem back_ok {κ1 : KS} {st1 st2 l : List Blk} {p1 : List (Option (Nat × Nat))} (hI : Inv κ) (hn : nodupB mp = true) (hp : pickL κ.ph mp = some p1) (hl : pickL κ.st mp = some l) (hr : renBs (pos mp) l = some st1)
  (hI1 : Inv κ1) (hx : Ext ⟨κ.w, κ.ok, p1, st1⟩ κ1) (hr2 : renBs (fun j => some (fwd mp κ.st.length j)) κ1.st = some st2) :
  ∃ κ' : KS, κ'.w = κ1.w ∧ κ'.st = backL mp κ.st st2 ∧ Inv κ' ∧ Ext κ κ' ∧ Tr κ1 κ' (fun j => some (fwd mp κ.st.length j)) := by
 obtain ⟨hIs, hTs, s1, s2, key⟩ := sub_ok hI hn hp hl hr
 obtain ⟨r1, r2⟩ := renBs_get hr2
 have hlt : ∀ (j b : Nat), mp[j]? = some b → b < κ.st.length := fun j b hj => by obtain ⟨_, x, _, h, _⟩ := key j b hj; exact (List.getElem?_eq_some_iff.1 h).1
 have hltp : ∀ (j b : Nat), mp[j]? = some b → b < κ.ph.length := fun j b hj => by rw [hI.len]; exact hlt j b hj
 have hm1 : mp.length ≤ κ1.st.length := by have := hx.stlen; simp only at this; omega
 have hm2 : mp.length ≤ st2.length := by omega
 have hmp : mp.length ≤ κ1.ph.length := by rw [hI1.len]; exact hm1
 let fw := fwd mp κ.st.length
 have hlen : (backL mp κ.ph κ1.ph).length = (backL mp κ.st st2).length := by simp [backL, backGo_len, hI.len, hI1.len, r1]
 -- what lies where
 have cst : ∀ {j : Nat} {x : Blk}, κ1.st[j]? = some x → ∃ y, (backL mp κ.st st2)[fw j]? = some y ∧ renB (fun j => some (fw j)) x = some y := by
  intro j x hj
  obtain ⟨y, h1, h2⟩ := r2 j x hj
  exact ⟨y, by rw [back_fwd hn hlt hm2 (by rw [r1]; exact (List.getElem?_eq_some_iff.1 hj).1)]; exact h1, h2⟩
 have cph : ∀ {j : Nat}, j < κ1.st.length → (backL mp κ.ph κ1.ph)[fw j]? = κ1.ph[j]? := by
  intro j hj
  have := back_fwd (old := κ.ph) (new := κ1.ph) hn hltp hmp (j := j) (by rw [hI1.len]; exact hj)
  rw [hI.len] at this
  exact this
 have ust : ∀ {i : Nat}, i < κ.st.length → pos mp i = none → (backL mp κ.st st2)[i]? = κ.st[i]? := fun hi h => back_none hi h
 have uph : ∀ {i : Nat}, i < κ.st.length → pos mp i = none → (backL mp κ.ph κ1.ph)[i]? = κ.ph[i]? := fun hi h => back_none (by rw [hI.len]; exact hi) h
 have cases' : ∀ {i : Nat}, i < (backL mp κ.st st2).length → (i < κ.st.length ∧ pos mp i = none) ∨ ∃ j, j < κ1.st.length ∧ i = fw j := by
  intro i hi
  rcases back_cases hlt hm2 hi with h | ⟨j, h1, h2⟩
  ·exact .inl h
  ·exact .inr ⟨j, by omega, h2⟩
 have fwlt : ∀ {j b : Nat}, mp[j]? = some b → fw j = b := fun h => by simp only [fw, fwd, h]
 have fwge : ∀ {j : Nat}, mp[j]? = none → κ.st.length ≤ fw j := fun h => by simp only [fw, fwd, h]; omega
 -- the part's own blocks
 have sph : ∀ {j : Nat} {q : Nat × Nat}, p1[j]? = some (some q) → ∃ b, mp[j]? = some b ∧ κ.ph[b]? = some (some q) := by
  intro j q h
  have hj := (List.getElem?_eq_some_iff.1 h).1
  obtain ⟨b, hb⟩ : ∃ b, mp[j]? = some b := ⟨_, List.getElem?_eq_getElem (by omega)⟩
  exact ⟨b, hb, (key j b hb).1.symm.trans h⟩
 have hT : Tr κ1 ⟨κ1.w, κ1.ok, backL mp κ.ph κ1.ph, backL mp κ.st st2⟩ (fun j => some (fw j)) := by
  refine ⟨rfl, rfl, fun j b d hf hj => ?_, fun j b ver hf ho => ?_, fun j b v e xs hf hb => ?_⟩
  ·cases hf
   obtain ⟨y, h1, h2⟩ := cst hj
   simp only [renB] at h2
   split at h2
   ·cases h2; exact ⟨⟨_, h1⟩, cph (List.getElem?_eq_some_iff.1 hj).1⟩
   ·cases h2
  ·cases hf
   rcases ho with ho | ⟨v0, e0, xs0, ho, hv⟩
   ·obtain ⟨y, h1, h2⟩ := cst ho; cases h2; exact .inl h1
   ·obtain ⟨y, h1, h2⟩ := cst ho; cases h2; exact .inr ⟨v0, e0, xs0, h1, hv⟩
  ·cases hf
   have hb : (backL mp κ.st st2)[fw j]? = some (.arr v e xs) := hb
   have hfl := (List.getElem?_eq_some_iff.1 hb).1
   have hj : j < κ1.st.length := by
    by_cases hj : j < κ1.st.length
    ·exact hj
    ·exfalso
     cases hm : mp[j]? with
     | some c => have := (List.getElem?_eq_some_iff.1 hm).1; omega
     | none =>
      have h3 : fw j = κ.st.length + (j - mp.length) := by simp only [fw, fwd, hm]
      have h4 : (backL mp κ.st st2).length = κ.st.length + (st2.length - mp.length) := by simp [backL, backGo_len]
      omega
   obtain ⟨y, h1, h2⟩ := cst (List.getElem?_eq_getElem hj)
   rw [hb] at h1
   cases h1
   refine ⟨?_, cph hj⟩
   rw [List.getElem?_eq_getElem hj]
   generalize κ1.st[j] = x at h2
   cases x with
   | dead => cases h2
   | var d => simp only [renB] at h2; split at h2 <;> cases h2
   | arr v0 e0 xs0 => cases h2; rfl
 -- untouched blocks lie as they lay
 have untouched : ∀ {i blk n : Nat}, pos mp i = none → κ.ph[i]? = some (some (blk, n)) → κ1.w.heap[blk]? = κ.w.heap[blk]? := by
  intro i blk n hi h
  obtain ⟨g1, g2⟩ := hI.apart i blk n h
  refine hx.frame blk g1 fun j m hj => ?_
  obtain ⟨b, hb1, hb2⟩ := sph hj
  have := hI.inj i b blk n m h hb2
  subst this
  rw [get_pos hn hb1] at hi
  cases hi
 have hE : Ext κ ⟨κ1.w, κ1.ok, backL mp κ.ph κ1.ph, backL mp κ.st st2⟩ := by
  refine ⟨hx.os, hx.tape, hx.output, hx.size, hx.same, fun k hk => ?_, fun i blk n h => ?_, fun i d hi => ?_, fun i v0 e xs0 hi => ?_, fun i hi => ?_, ?_, fun k hk hno => ?_⟩
  ·rcases hx.fresh k hk with h | h | ⟨j, n, h⟩
   ·exact .inl h
   ·exact .inr (.inl h)
   ·obtain ⟨b, _, hb⟩ := sph h; exact .inr (.inr ⟨b, n, hb⟩)
  ·have h : (backL mp κ.ph κ1.ph)[i]? = some (some (blk, n)) := h
   have hlt' : i < (backL mp κ.st st2).length := by rw [← hlen]; exact (List.getElem?_eq_some_iff.1 h).1
   rcases cases' hlt' with ⟨h1, h2⟩ | ⟨j, h1, rfl⟩
   ·rw [uph h1 h2] at h; exact .inl h
   ·rw [cph h1] at h
    rcases hx.phs j blk n h with h3 | h3
    ·obtain ⟨b, hb1, hb2⟩ := sph h3
     rw [fwlt hb1]; exact .inl hb2
    ·exact .inr h3
  ·have hil := (List.getElem?_eq_some_iff.1 hi).1
   cases hpi : pos mp i with
   | none => exact ⟨⟨d, (ust hil hpi).trans hi⟩, uph hil hpi⟩
   | some j =>
    have hmj := pos_get hpi
    obtain ⟨k1, x, y, k2, k3, k4⟩ := key j i hmj
    rw [hi] at k2
    cases k2
    simp only [renB] at k3
    split at k3
    ·cases k3
     obtain ⟨⟨d', g1⟩, g2⟩ := hx.var j _ k4
     obtain ⟨⟨d'', q1⟩, q2⟩ := hT.var j (fw j) d' rfl g1
     rw [fwlt hmj] at q1 q2
     exact ⟨⟨d'', q1⟩, q2.trans (g2.trans k1)⟩
    ·cases k3
  ·have hil := (List.getElem?_eq_some_iff.1 hi).1
   cases hpi : pos mp i with
   | none => exact .inr ⟨v0, xs0, (ust hil hpi).trans hi, Nat.le_refl _, fun _ => ⟨uph hil hpi, rfl⟩⟩
   | some j =>
    have hmj := pos_get hpi
    obtain ⟨k1, x, y, k2, k3, k4⟩ := key j i hmj
    rw [hi] at k2
    cases k2
    cases k3
    rcases hx.arr j v0 e xs0 k4 with g | ⟨v1, xs1, g1, g2, g3⟩
    ·obtain ⟨y, q1, q2⟩ := cst g
     cases q2
     rw [fwlt hmj] at q1
     exact .inl q1
    ·obtain ⟨y, q1, q2⟩ := cst g1
     cases q2
     rw [fwlt hmj] at q1
     refine .inr ⟨v1, xs1, q1, g2, fun he => ⟨?_, (g3 he).2⟩⟩
     have h4 := cph (List.getElem?_eq_some_iff.1 g1).1
     rw [fwlt hmj] at h4
     exact h4.trans ((g3 he).1.trans k1)
  ·have hil := (List.getElem?_eq_some_iff.1 hi).1
   cases hpi : pos mp i with
   | none => exact (ust hil hpi).trans hi
   | some j =>
    have hmj := pos_get hpi
    obtain ⟨k1, x, y, k2, k3, k4⟩ := key j i hmj
    rw [hi] at k2
    cases k2
    cases k3
    obtain ⟨y, q1, q2⟩ := cst (hx.dead j k4)
    cases q2
    rw [fwlt hmj] at q1
    exact q1
  ·show κ.st.length ≤ (backL mp κ.st st2).length
   simp [backL, backGo_len]
  ·exact hx.frame k hk fun j n hj => by obtain ⟨b, _, hb⟩ := sph hj; exact hno b n hb
 refine ⟨⟨κ1.w, κ1.ok, backL mp κ.ph κ1.ph, backL mp κ.st st2⟩, rfl, rfl, ⟨hlen, hI1.okLt, fun i blk n h => ?_, fun i i' blk n n' h h' => ?_, fun i y h => ?_, hI1.gl⟩, hE, hT⟩
 ·have h : (backL mp κ.ph κ1.ph)[i]? = some (some (blk, n)) := h
  have hlt' : i < (backL mp κ.st st2).length := by rw [← hlen]; exact (List.getElem?_eq_some_iff.1 h).1
  rcases cases' hlt' with ⟨h1, h2⟩ | ⟨j, h1, rfl⟩
  ·rw [uph h1 h2] at h
   obtain ⟨g1, g2⟩ := hI.apart i blk n h
   refine ⟨Nat.lt_of_lt_of_le g1 hx.size, fun hk => ?_⟩
   rcases hx.fresh blk hk with hk | hk | ⟨j, m, hj⟩
   ·exact g2 hk
   ·simp only at hk; omega
   ·obtain ⟨b, hb1, hb2⟩ := sph hj
    have := hI.inj i b blk n m h hb2
    subst this
    rw [get_pos hn hb1] at h2
    cases h2
  ·rw [cph h1] at h
   exact hI1.apart j blk n h
 ·have h : (backL mp κ.ph κ1.ph)[i]? = some (some (blk, n)) := h
  have h' : (backL mp κ.ph κ1.ph)[i']? = some (some (blk, n')) := h'
  have hlt1 : i < (backL mp κ.st st2).length := by rw [← hlen]; exact (List.getElem?_eq_some_iff.1 h).1
  have hlt2 : i' < (backL mp κ.st st2).length := by rw [← hlen]; exact (List.getElem?_eq_some_iff.1 h').1
  have mixed : ∀ {i j n n' : Nat}, i < κ.st.length → pos mp i = none → j < κ1.st.length → κ.ph[i]? = some (some (blk, n)) → κ1.ph[j]? = some (some (blk, n')) → False := by
   intro i j n n' h1 h2 h3 h4 h5
   rcases hx.phs j blk n' h5 with h6 | h6
   ·obtain ⟨b, hb1, hb2⟩ := sph h6
    have := hI.inj i b blk n n' h4 hb2
    subst this
    rw [get_pos hn hb1] at h2
    cases h2
   ·have := (hI.apart i blk n h4).1
    simp only at h6
    omega
  rcases cases' hlt1 with ⟨h1, h2⟩ | ⟨j, h1, rfl⟩
  ·rw [uph h1 h2] at h
   rcases cases' hlt2 with ⟨h3, h4⟩ | ⟨j', h3, rfl⟩
   ·rw [uph h3 h4] at h'; exact hI.inj i i' blk n n' h h'
   ·rw [cph h3] at h'; exact (mixed h1 h2 h3 h h').elim
  ·rw [cph h1] at h
   rcases cases' hlt2 with ⟨h3, h4⟩ | ⟨j', h3, rfl⟩
   ·rw [uph h3 h4] at h'; exact (mixed h3 h4 h1 h' h).elim
   ·rw [cph h3] at h'
    rw [hI1.inj j j' blk n n' h h']
 ·have h : (backL mp κ.st st2)[i]? = some y := h
  rcases cases' (List.getElem?_eq_some_iff.1 h).1 with ⟨h1, h2⟩ | ⟨j, h1, rfl⟩
  ·rw [ust h1 h2] at h
   exact (hI.blk i y h).mono hE (uph h1 h2) fun blk n hb => untouched h2 hb
  ·obtain ⟨z, q1, q2⟩ := cst (List.getElem?_eq_getElem h1)
   rw [h] at q1
   cases q1
   exact hT.blk (cph h1) (hI1.blk j _ (List.getElem?_eq_getElem h1)) q2
end
end Go.AM
namespace Go.AM
set_option linter.unusedSectionVars false
variable [Glob]
open Go.RowKit
inductive AK where
 | any | cur | sub | ptr | clo (f : Nat)
structure FnS where
 ks : List AK
 sh : Shp
 nils : List Gh
 out : Shp
 nr : Nat
 F : sh.den → T out.den
def outGo (fr : Fr) : Nat → Nat → Option (List D)
 | 0, _ => some []
 | n + 1, i => match fr.get i with
  | some d => match outGo fr n (i + 1) with | some r => some (d :: r) | none => none
  | none => none
def outL (nr : Nat) (fr : Fr) : Option (List D) := outGo fr nr 0
def ofCaps : List (Nat × Nat) → List D → Nat → Option Nat
 | p :: r, .ptr b' _ :: ds, b => bif Nat.beq p.1 b then some b' else ofCaps r ds b
 | _, _, _ => none
def ofCk (b : Nat) : Ck → D → Option Nat
 | .ptr c _, .ptr b' _ => bif Nat.beq c b then some b' else none
 | .cur c _, .ms b' _ _ _ _ => bif Nat.beq c b then some b' else none
 | .clo _ l, .clo _ ds => ofCaps l ds b
 | _, _ => none
def ofCs (fr : Fr) (b : Nat) : List (Nat × Ck) → Option Nat
 | [] => none
 | (s, k) :: r => match fr.get s with
  | some d => match ofCk b k d with | some b' => some b' | none => ofCs fr b r
  | none => ofCs fr b r
def ofMcs (b : Nat) : List Mc → List D → Option Nat
 | .pt c :: r, .ptr b' _ :: ds => bif Nat.beq c b then some b' else ofMcs b r ds
 | .pt _ :: r, _ :: ds => ofMcs b r ds
 | .im _ :: r, _ :: ds => ofMcs b r ds
 | .rp _ :: r, _ :: ds => ofMcs b r ds
 | _, _ => none
def ofSks (b : Nat) : List Sk → List D → Option Nat
 | .im τ :: r, ds => ofSks b r (ds.drop τ.size)
 | .row c _ :: r, .ms b' _ _ _ _ :: ds => bif Nat.beq c b then some b' else ofSks b r ds
 | .row _ _ :: r, _ :: ds => ofSks b r ds
 | .op c _ :: r, .optp b' _ :: ds => bif Nat.beq c b then some b' else ofSks b r ds
 | .op _ _ :: r, _ :: ds => ofSks b r ds
 | .un :: r, _ :: ds => ofSks b r ds
 | _, _ => none
def ofIts (fr : Fr) (b : Nat) : List It → Option Nat
 | [] => none
 | .s s (.mclo _ ms) :: r => match fr.get s with
  | some (.clo _ l) => match ofMcs b ms l with | some b' => some b' | none => ofIts fr b r
  | _ => ofIts fr b r
 | .s s (.sub c _) :: r => match fr.get s with
  | some (.ms b' _ _ _ _) => bif Nat.beq c b then some b' else ofIts fr b r
  | _ => ofIts fr b r
 | _ :: r => ofIts fr b r
def ofBs (st : St) (b : Nat) : List Bk → List (Option Nat) → Option Nat
 | .cvar k :: r, some p :: ps => match st[p]? with
  | some (.var d) => match ofCk b k d with | some b' => some b' | none => ofBs st b r ps
  | _ => ofBs st b r ps
 | .var (.st ks) :: r, some p :: ps => match st[p]? with
  | some (.var d) => match ofSks b ks (flatD d) with | some b' => some b' | none => ofBs st b r ps
  | _ => ofBs st b r ps
 | _ :: r, _ :: ps => ofBs st b r ps
 | _, _ => none
def map0 (sh : Shp) (fr : Fr) : Nat → List Bk → List (Option Nat)
 | _, [] => []
 | b, _ :: r => (match ofCs fr b sh.cs with | some b' => some b' | none => ofIts fr b sh.its) :: map0 sh fr (b + 1) r
def map1 (sh : Shp) (st : St) (m : List (Option Nat)) : Nat → List (Option Nat) → List (Option Nat)
 | _, [] => []
 | b, some b' :: r => some b' :: map1 sh st m (b + 1) r
 | b, none :: r => ofBs st b sh.bs m :: map1 sh st m (b + 1) r
def allN : List (Option Nat) → Option (List Nat)
 | [] => some []
 | some b :: r => match allN r with | some l => some (b :: l) | none => none
 | none :: _ => none
def mapOf (sh : Shp) (fr : Fr) (st : St) : Option (List Nat) := let m := map0 sh fr 0 sh.bs
 let m := map1 sh st m 0 m
 allN (map1 sh st m 0 m)
def FnS.back (d : FnS) (mp : List Nat) (st : St) (y : d.out.den) : T (Res × St) := match outL d.nr (d.out.fr y), renBs (fun j => some (fwd mp st.length j)) (d.out.st y) with
 | some ds, some st2 => match renDs (fun j => some (fwd mp st.length j)) ds with
  | some ds' => .ret (.ret ds', backL mp st st2)
  | none => .fail
 | _, _ => .fail
def FnS.inner (d : FnS) (mp : List Nat) (fr : Fr) (st : St) : T (Res × St) := match pickL st mp with
 | none => .fail
 | some l => match renBs (pos mp) l with
  | none => .fail
  | some st1 => (d.sh.un (renFr (pos mp) fr) st1).bind fun x => (d.F x).bind fun y => d.back mp st y
def FnS.S (d : FnS) (args : List D) (st : St) : T (Res × St) :=
 match mapOf d.sh (gh d.nils (argFr args 0) st).1 (gh d.nils (argFr args 0) st).2 with
 | none => .fail
 | some mp => bif nodupB mp && Nat.ble mp.length d.sh.bs.length && Nat.beq args.length d.ks.length then d.inner mp (gh d.nils (argFr args 0) st).1 (gh d.nils (argFr args 0) st).2 else .fail
def FnS.backK {α : Type} (d : FnS) (mp : List Nat) (st : St) (y : d.out.den) (k : List D → St → T α) : T α := match outL d.nr (d.out.fr y), renBs (fun j => some (fwd mp st.length j)) (d.out.st y) with
 | some ds, some st2 => match renDs (fun j => some (fwd mp st.length j)) ds with
  | some ds' => k ds' (backL mp st st2)
  | none => .fail
 | _, _ => .fail
def FnS.innerK {α : Type} (d : FnS) (mp : List Nat) (fr : Fr) (st : St) (k : List D → St → T α) : T α := match pickL st mp with
 | none => .fail
 | some l => match renBs (pos mp) l with
  | none => .fail
  | some st1 => (d.sh.un (renFr (pos mp) fr) st1).bind fun x => (d.F x).bind fun y => d.backK mp st y k
def FnS.K {α : Type} (d : FnS) (args : List D) (st : St) (k : List D → St → T α) : T α :=
 match mapOf d.sh (gh d.nils (argFr args 0) st).1 (gh d.nils (argFr args 0) st).2 with
 | none => .fail
 | some mp => bif nodupB mp && Nat.ble mp.length d.sh.bs.length && Nat.beq args.length d.ks.length then d.innerK mp (gh d.nils (argFr args 0) st).1 (gh d.nils (argFr args 0) st).2 k else .fail
theorem FnS.K_of {α : Type} {d : FnS} {args : List D} {st : St} {k : List D → St → T α} {r : α} (h : (d.K args st k).leads r) : ∃ ds st', (d.S args st).leads (.ret ds, st') ∧ (k ds st').leads r := by
 unfold FnS.K at h
 unfold FnS.S
 split at h
 ·exact h.elim
 ·rename_i mp hmp
  cases hc : nodupB mp && Nat.ble mp.length d.sh.bs.length && Nat.beq args.length d.ks.length with
  | false => rw [hc] at h; exact h.elim
  | true =>
   rw [hc, cond_true] at h
   rw [cond_true]
   unfold FnS.innerK at h
   unfold FnS.inner
   split at h
   ·exact h.elim
   ·rename_i l hl
    split at h
    ·exact h.elim
    ·rename_i st1 hst1
     obtain ⟨x, h1, h⟩ := T.leads_bind'.1 h
     obtain ⟨y, h2, h⟩ := T.leads_bind'.1 h
     unfold FnS.backK at h
     split at h
     ·rename_i ds st2 e1 e2
      split at h
      ·rename_i ds' e3
       refine ⟨ds', _, T.leads_bind'.2 ⟨x, h1, T.leads_bind'.2 ⟨y, h2, ?_⟩⟩, h⟩
       unfold FnS.back
       simp only [e1, e2, e3]
       rfl
      ·exact h.elim
     ·exact h.elim
def FnSOkG (Dr : Doer) (g : Nat) (d : FnS) : Prop := ∀ (κ : KS) (x : d.sh.den) (cargs : List Value) (y : d.out.den), κ.st = d.sh.st x → (d.F x).leads y → Inv κ → cargs.length = d.ks.length →
 Rel κ cargs.length (d.sh.fr x).get { tmps := cargs.toArray, defers := [] } →
 Dr g cargs.toArray κ.w fun e w' => ∃ (κ' : KS) (ds : List D), κ'.w = w' ∧ κ'.st = d.out.st y ∧ Inv κ' ∧ Ext κ κ' ∧ outL d.nr (d.out.fr y) = some ds ∧ EndRel κ' (.ret ds) e
def FnSOk (P : Program) (g : Nat) (d : FnS) : Prop := ∀ (κ : KS) (x : d.sh.den) (cargs : List Value) (y : d.out.den), κ.st = d.sh.st x → (d.F x).leads y → Inv κ → cargs.length = d.ks.length →
 Rel κ cargs.length (d.sh.fr x).get { tmps := cargs.toArray, defers := [] } →
 CallDoes P g cargs.toArray κ.w fun e w' => ∃ (κ' : KS) (ds : List D), κ'.w = w' ∧ κ'.st = d.out.st y ∧ Inv κ' ∧ Ext κ κ' ∧ outL d.nr (d.out.fr y) = some ds ∧ EndRel κ' (.ret ds) e
theorem tr_pack {κ κ' : KS} {f : Nat → Option Nat} (h : Tr κ κ' f) {ds ds' : List D} {v : Value} (hd : RD κ (packRes ds) v) (hr : renDs f ds = some ds') : RD κ' (packRes ds') v := by
 match ds, hr with
 | [], hr =>
  cases hr
  cases hd with
  | tup _ vs hl hh =>
   obtain rfl : vs = [] := List.eq_nil_of_length_eq_zero hl.symm
   exact .tup [] [] rfl (fun i h => absurd h (Nat.not_lt_zero i))
 | [d], hr =>
  simp only [renDs] at hr
  split at hr
  ·rename_i d' h1
   cases hr
   exact h.rd hd h1
  ·cases hr
 | d :: e :: r, hr =>
  have hd : RD κ (.tup (d :: e :: r)) v := hd
  cases hd with
  | tup _ vs hl hh =>
   have hR := h.rds (⟨hl, hh⟩ : RDs κ (d :: e :: r) vs) hr
   simp only [renDs] at hr
   split at hr
   ·split at hr
    ·rename_i r' h2
     cases hr
     split at h2
     ·split at h2
      ·cases h2; exact .tup _ vs hR.1 hR.2
      ·cases h2
     ·cases h2
    ·cases hr
   ·cases hr
theorem pickL_both {α β : Type} {l : List α} {m : List β} (h : l.length = m.length) : ∀ {mp : List Nat} {r : List α}, pickL l mp = some r → ∃ q, pickL m mp = some q
 | [], _, _ => ⟨[], rfl⟩
 | b :: mp, r, hr => by
  simp only [pickL] at hr
  split at hr
  ·rename_i x hx
   split at hr
   ·rename_i y hy
    obtain ⟨q, hq⟩ := pickL_both h hy
    have hb : b < m.length := by have := (List.getElem?_eq_some_iff.1 hx).1; omega
    exact ⟨m[b] :: q, by simp only [pickL, List.getElem?_eq_getElem hb, hq]⟩
   ·cases hr
  ·cases hr
theorem FnS.sndG {Dr : Doer} (hmono : ∀ {g a w} {R R' : Ending → World → Prop}, Dr g a w R → (∀ e w', R e w' → R' e w') → Dr g a w R') {g : Nat} {d : FnS} (h : FnSOkG Dr g d) : SndG Dr g d.S := by
 intro κ args cargs rs st' hl hI ha
 have hR0 : Rel κ cargs.length (argFr args 0).get { tmps := cargs.toArray, defers := [] } := by
  have := arg_rel (n := cargs.length) ha (by rw [ha.1]; exact Nat.le_refl _)
  simpa [show (Dfs.df : List Deferred) = [] from rfl] using this
 obtain ⟨κ0, w1, w2, w3, w4, w5⟩ := gh_ok d.nils (argFr args 0) κ hI hR0
 unfold FnS.S at hl
 rw [← w2] at hl
 split at hl
 ·exact hl.elim
 ·rename_i mp hmp
  cases hc : nodupB mp && Nat.ble mp.length d.sh.bs.length && Nat.beq args.length d.ks.length with
  | false => rw [hc] at hl; exact hl.elim
  | true =>
   rw [hc, cond_true] at hl
   simp only [Bool.and_eq_true] at hc
   obtain ⟨⟨hn, hle⟩, hlen⟩ := hc
   unfold FnS.inner at hl
   split at hl
   ·exact hl.elim
   ·rename_i l hpl
    split at hl
    ·exact hl.elim
    ·rename_i st1 hst1
     obtain ⟨x, h1, hl⟩ := T.leads_bind'.1 hl
     obtain ⟨y, h2, hl⟩ := T.leads_bind'.1 hl
     obtain ⟨p1, hpp⟩ := pickL_both (m := κ0.ph) w3.len.symm hpl
     obtain ⟨s1, s2, s3, s4, s5⟩ := sub_ok w3 hn hpp hpl hst1
     have hR1 : Rel ⟨κ0.w, κ0.ok, p1, st1⟩ cargs.length (renFr (pos mp) (gh d.nils (argFr args 0) κ.st).1).get { tmps := cargs.toArray, defers := [] } :=
      ⟨w5.size, w5.defers, fun s d' hd => by
       obtain ⟨d0, q1, q2⟩ := renFr_get hd
       obtain ⟨v, q3, q4⟩ := w5.get s d0 q1
       exact ⟨v, q3, s2.rd q4 q2⟩⟩
     obtain ⟨κ2, u1, u2, u3, u4, u5, _⟩ := d.sh.un_ok (κ0 := ⟨κ0.w, κ0.ok, p1, st1⟩) (κ := ⟨κ0.w, κ0.ok, p1, st1⟩) (Ext.refl _) s1 hR1 (by show st1.length ≤ _; rw [s3]; exact Nat.le_of_ble_eq_true hle) h1
     have hw : κ2.w = κ.w := u1.trans w1
     have hdo := h κ2 x cargs y u2 h2 u3 (by rw [← ha.1]; exact Nat.eq_of_beq_eq_true hlen) u5
     rw [hw] at hdo
     refine hmono hdo ?_
     rintro e w' ⟨κ3, ds, rfl, g1, g2, g3, g4, v, rfl, g5⟩
     unfold FnS.back at hl
     rw [g4, ← g1] at hl
     split at hl
     ·rename_i ds0 st2 e1 e2
      cases e1
      split at hl
      ·rename_i ds' hds'
       cases hl
       obtain ⟨κ', k1, k2, k3, k4, k5⟩ := back_ok w3 hn hpp hpl hst1 g2 (u4.trans g3) e2
       exact ⟨κ', k1, k2, k3, w4.trans k4, v, rfl, tr_pack k5 g5 hds'⟩
      ·exact hl.elim
     ·exact hl.elim
theorem FnS.snd {P : Program} {g : Nat} {d : FnS} (h : FnSOk P g d) : Snd P g d.S := FnS.sndG (Dr := CallDoes P) CallDoes.mono h
structure FnP where
 ks : List AK
 sh : Shp
 nils : List Gh
 out : Shp
 nr : Nat
 pt : Nat
 pan : Shp
 F : sh.den → T (out.den ⊕ pan.den)
abbrev FnP.s (d : FnP) : FnS := ⟨d.ks, d.sh, d.nils, d.out, d.nr, fun _ => .fail⟩
def FnP.panK {α : Type} (d : FnP) (mp : List Nat) (st : St) (z : d.pan.den) (kp : D → St → T α) : T α := match (d.pan.fr z).get 0, renBs (fun j => some (fwd mp st.length j)) (d.pan.st z) with
 | some (.imm τ x), some st2 => kp (.iface d.pt (.imm τ x)) (backL mp st st2)
 | _, _ => .fail
def FnP.innerK {α : Type} (d : FnP) (mp : List Nat) (fr : Fr) (st : St) (k : List D → St → T α) (kp : D → St → T α) : T α := match pickL st mp with
 | none => .fail
 | some l => match renBs (pos mp) l with
  | none => .fail
  | some st1 => (d.sh.un (renFr (pos mp) fr) st1).bind fun x => (d.F x).bind (Sum.elim (fun y => d.s.backK mp st y k) (fun z => d.panK mp st z kp))
def FnP.K {α : Type} (d : FnP) (args : List D) (st : St) (k : List D → St → T α) (kp : D → St → T α) : T α :=
 match mapOf d.sh (gh d.nils (argFr args 0) st).1 (gh d.nils (argFr args 0) st).2 with
 | none => .fail
 | some mp => bif nodupB mp && Nat.ble mp.length d.sh.bs.length && Nat.beq args.length d.ks.length then d.innerK mp (gh d.nils (argFr args 0) st).1 (gh d.nils (argFr args 0) st).2 k kp else .fail
def FnP.S (d : FnP) (args : List D) (st : St) : T (Res × St) := d.K args st (fun ds st' => .ret (.ret ds, st')) (fun p st' => .ret (.pan p, st'))
theorem FnP.K_of {α : Type} {d : FnP} {args : List D} {st : St} {k : List D → St → T α} {kp : D → St → T α} {r : α} (h : (d.K args st k kp).leads r) :
  (∃ ds st', (d.S args st).leads (.ret ds, st') ∧ (k ds st').leads r) ∨ ∃ p st', (d.S args st).leads (.pan p, st') ∧ (kp p st').leads r := by
 unfold FnP.K at h
 unfold FnP.S FnP.K
 split at h
 ·exact h.elim
 ·rename_i mp hmp
  cases hc : nodupB mp && Nat.ble mp.length d.sh.bs.length && Nat.beq args.length d.ks.length with
  | false => rw [hc] at h; exact h.elim
  | true =>
   rw [hc, cond_true] at h
   simp only [hmp, hc, cond_true]
   unfold FnP.innerK at h
   unfold FnP.innerK
   split at h
   ·exact h.elim
   ·rename_i l hl
    split at h
    ·exact h.elim
    ·rename_i st1 hst1
     obtain ⟨x, h1, h⟩ := T.leads_bind'.1 h
     obtain ⟨y, h2, h⟩ := T.leads_bind'.1 h
     cases y with
     | inl y =>
      simp only [Sum.elim_inl] at h
      unfold FnS.backK at h
      split at h
      ·rename_i ds st2 e1 e2
       split at h
       ·rename_i ds' e3
        refine .inl ⟨ds', _, T.leads_bind'.2 ⟨x, h1, T.leads_bind'.2 ⟨.inl y, h2, ?_⟩⟩, h⟩
        simp only [Sum.elim_inl]
        unfold FnS.backK
        simp only [e1, e2, e3]
        rfl
       ·exact h.elim
      ·exact h.elim
     | inr z =>
      simp only [Sum.elim_inr] at h
      unfold FnP.panK at h
      split at h
      ·rename_i τ p st2 e1 e2
       refine .inr ⟨_, _, T.leads_bind'.2 ⟨x, h1, T.leads_bind'.2 ⟨.inr z, h2, ?_⟩⟩, h⟩
       simp only [Sum.elim_inr]
       unfold FnP.panK
       simp only [e1, e2]
       rfl
      ·exact h.elim
def FnPOk (P : Program) (g : Nat) (d : FnP) : Prop := ∀ (κ : KS) (x : d.sh.den) (cargs : List Value) (r : d.out.den ⊕ d.pan.den), κ.st = d.sh.st x → (d.F x).leads r → Inv κ → cargs.length = d.ks.length →
 Rel κ cargs.length (d.sh.fr x).get { tmps := cargs.toArray, defers := [] } →
 CallDoes P g cargs.toArray κ.w fun e w' => ∃ κ' : KS, κ'.w = w' ∧ Inv κ' ∧ Ext κ κ' ∧
  ((∃ (y : d.out.den) (ds : List D), r = .inl y ∧ κ'.st = d.out.st y ∧ outL d.nr (d.out.fr y) = some ds ∧ EndRel κ' (.ret ds) e) ∨
   ∃ (z : d.pan.den) (p : D), r = .inr z ∧ κ'.st = d.pan.st z ∧ (d.pan.fr z).get 0 = some p ∧ EndRel κ' (.pan (.iface d.pt p)) e)
theorem FnP.snd {P : Program} {g : Nat} {d : FnP} (h : FnPOk P g d) : Snd P g d.S := by
 intro κ args cargs rs st' hl hI ha
 have hR0 : Rel κ cargs.length (argFr args 0).get { tmps := cargs.toArray, defers := [] } := by
  have := arg_rel (n := cargs.length) ha (by rw [ha.1]; exact Nat.le_refl _)
  simpa [show (Dfs.df : List Deferred) = [] from rfl] using this
 obtain ⟨κ0, w1, w2, w3, w4, w5⟩ := gh_ok d.nils (argFr args 0) κ hI hR0
 unfold FnP.S FnP.K at hl
 rw [← w2] at hl
 split at hl
 ·exact hl.elim
 ·rename_i mp hmp
  cases hc : nodupB mp && Nat.ble mp.length d.sh.bs.length && Nat.beq args.length d.ks.length with
  | false => rw [hc] at hl; exact hl.elim
  | true =>
   rw [hc, cond_true] at hl
   simp only [Bool.and_eq_true] at hc
   obtain ⟨⟨hn, hle⟩, hlen⟩ := hc
   unfold FnP.innerK at hl
   split at hl
   ·exact hl.elim
   ·rename_i l hpl
    split at hl
    ·exact hl.elim
    ·rename_i st1 hst1
     obtain ⟨x, h1, hl⟩ := T.leads_bind'.1 hl
     obtain ⟨y, h2, hl⟩ := T.leads_bind'.1 hl
     obtain ⟨p1, hpp⟩ := pickL_both (m := κ0.ph) w3.len.symm hpl
     obtain ⟨s1, s2, s3, s4, s5⟩ := sub_ok w3 hn hpp hpl hst1
     have hR1 : Rel ⟨κ0.w, κ0.ok, p1, st1⟩ cargs.length (renFr (pos mp) (gh d.nils (argFr args 0) κ.st).1).get { tmps := cargs.toArray, defers := [] } :=
      ⟨w5.size, w5.defers, fun s d' hd => by
       obtain ⟨d0, q1, q2⟩ := renFr_get hd
       obtain ⟨v, q3, q4⟩ := w5.get s d0 q1
       exact ⟨v, q3, s2.rd q4 q2⟩⟩
     obtain ⟨κ2, u1, u2, u3, u4, u5, _⟩ := d.sh.un_ok (κ0 := ⟨κ0.w, κ0.ok, p1, st1⟩) (κ := ⟨κ0.w, κ0.ok, p1, st1⟩) (Ext.refl _) s1 hR1 (by show st1.length ≤ _; rw [s3]; exact Nat.le_of_ble_eq_true hle) h1
     have hw : κ2.w = κ.w := u1.trans w1
     have hdo := h κ2 x cargs y u2 h2 u3 (by rw [← ha.1]; exact Nat.eq_of_beq_eq_true hlen) u5
     rw [hw] at hdo
     refine hdo.mono ?_
     rintro e w' ⟨κ3, rfl, g2, g3, ⟨y, ds, rfl, g1, g4, v, rfl, g5⟩ | ⟨z, p, rfl, g1, g4, v, rfl, g5⟩⟩
     ·simp only [Sum.elim_inl] at hl
      unfold FnS.backK at hl
      rw [show outL d.s.nr (d.s.out.fr y) = some ds from g4, show d.s.out.st y = κ3.st from g1.symm] at hl
      split at hl
      ·rename_i ds0 st2 e1 e2
       cases e1
       split at hl
       ·rename_i ds' hds'
        cases hl
        obtain ⟨κ', k1, k2, k3, k4, k5⟩ := back_ok w3 hn hpp hpl hst1 g2 (u4.trans g3) e2
        exact ⟨κ', k1, k2, k3, w4.trans k4, v, rfl, tr_pack k5 g5 hds'⟩
       ·exact hl.elim
      ·exact hl.elim
     ·simp only [Sum.elim_inr] at hl
      unfold FnP.panK at hl
      rw [g4, ← g1] at hl
      split at hl
      ·rename_i τ q st2 e1 e2
       cases e1
       cases hl
       obtain ⟨κ', k1, k2, k3, k4, k5⟩ := back_ok w3 hn hpp hpl hst1 g2 (u4.trans g3) e2
       refine ⟨κ', k1, k2, k3, w4.trans k4, v, rfl, ?_⟩
       cases g5 with
       | iface _ _ u hu => exact .iface _ _ u (k5.rd hu rfl)
      ·exact hl.elim
end Go.AM
namespace Go.AM
def freeOf (sh : Shp) (nils : List Gh) (args : List D) (st : St) : List Nat := bif nils.isEmpty then match mapOf sh (argFr args 0) st with | some mp => others st.length mp | none => [] else []
def FnS.free (d : FnS) (args : List D) (st : St) : List Nat := freeOf d.sh d.nils args st
def FnP.free (d : FnP) (args : List D) (st : St) : List Nat := freeOf d.sh d.nils args st
theorem mem_others' {m b : Nat} {l : List Nat} (h : b ∈ others m l) : b < m ∧ ∀ x ∈ l, b ≠ x := by
 simp only [others, List.mem_filter, List.mem_range, Bool.not_eq_true', List.any_eq_false] at h
 exact ⟨h.1, fun x hx e => by subst e; exact h.2 b hx (Nat.beq_refl _)⟩
theorem pos_none : ∀ {mp : List Nat} {b : Nat}, (∀ x ∈ mp, b ≠ x) → pos mp b = none
 | [], _, _ => rfl
 | x :: r, b, h => by
  simp only [pos]
  rw [show Nat.beq x b = false from by cases hb : Nat.beq x b with | false => rfl | true => exact absurd (Nat.eq_of_beq_eq_true hb).symm (h x List.mem_cons_self), cond_false, pos_none fun y hy => h y (List.mem_cons_of_mem _ hy)]
theorem freeOf_mem {sh : Shp} {nils : List Gh} {args : List D} {st : St} {b : Nat} (hb : b ∈ freeOf sh nils args st) : nils = [] ∧ ∃ mp, mapOf sh (argFr args 0) st = some mp ∧ b < st.length ∧ pos mp b = none := by
 unfold freeOf at hb
 cases hn : nils.isEmpty with
 | false => rw [hn] at hb; cases hb
 | true =>
  rw [hn, cond_true] at hb
  refine ⟨List.isEmpty_iff.1 hn, ?_⟩
  split at hb
  ·rename_i mp hmp
   obtain ⟨h1, h2⟩ := mem_others' hb
   exact ⟨mp, hmp, h1, pos_none h2⟩
  ·cases hb
theorem FnS.free_ok {d : FnS} {args : List D} {st st' : St} {rs : Res} {b : Nat} (h : (d.S args st).leads (rs, st')) (hb : b ∈ d.free args st) : st'[b]? = st[b]? := by
 obtain ⟨hn, mp, hmp, hlt, hpos⟩ := freeOf_mem hb
 unfold FnS.S at h
 rw [hn] at h
 simp only [gh, hmp] at h
 cases hc : nodupB mp && Nat.ble mp.length d.sh.bs.length && Nat.beq args.length d.ks.length with
 | false => rw [hc] at h; exact h.elim
 | true =>
  rw [hc, cond_true] at h
  unfold FnS.inner at h
  split at h
  ·exact h.elim
  ·split at h
   ·exact h.elim
   ·obtain ⟨x, _, h⟩ := T.leads_bind'.1 h
    obtain ⟨y, _, h⟩ := T.leads_bind'.1 h
    unfold FnS.back at h
    split at h
    ·split at h
     ·cases h; exact back_none hlt hpos
     ·exact h.elim
    ·exact h.elim
theorem FnP.free_ok {d : FnP} {args : List D} {st st' : St} {rs : Res} {b : Nat} (h : (d.S args st).leads (rs, st')) (hb : b ∈ d.free args st) : st'[b]? = st[b]? := by
 obtain ⟨hn, mp, hmp, hlt, hpos⟩ := freeOf_mem hb
 unfold FnP.S FnP.K at h
 rw [hn] at h
 simp only [gh, hmp] at h
 cases hc : nodupB mp && Nat.ble mp.length d.sh.bs.length && Nat.beq args.length d.ks.length with
 | false => rw [hc] at h; exact h.elim
 | true =>
  rw [hc, cond_true] at h
  unfold FnP.innerK at h
  split at h
  ·exact h.elim
  ·split at h
   ·exact h.elim
   ·obtain ⟨x, _, h⟩ := T.leads_bind'.1 h
    obtain ⟨y, _, h⟩ := T.leads_bind'.1 h
    cases y with
    | inl y =>
     simp only [Sum.elim_inl] at h
     unfold FnS.backK at h
     split at h
     ·split at h
      ·cases h; exact back_none hlt hpos
      ·exact h.elim
     ·exact h.elim
    | inr z =>
     simp only [Sum.elim_inr] at h
     unfold FnP.panK at h
     split at h
     ·cases h; exact back_none hlt hpos
     ·exact h.elim
end Go.AM
namespace Go.AM
def PSh.den : PSh → Type
 | .ty τ => AM.den τ
 | .rp τ => AM.den τ
 | .clo _ caps => denCaps caps
def denPs : List PSh → Type
 | [] => Unit
 | [p] => p.den
 | p :: q :: r => p.den × denPs (q :: r)
def mkP : (p : PSh) → p.den → D
 | .ty τ, x => .imm τ x
 | .rp τ, x => .rptr τ x
 | .clo f caps, x => .clo f (mkCaps caps x)
def mkPs : (l : List PSh) → denPs l → List D
 | [], _ => []
 | [p], x => [mkP p x]
 | p :: q :: r, x => mkP p x.1 :: mkPs (q :: r) x.2
def mkRs : (l : List Ty) → Tup l → List D
 | [], _ => []
 | [τ], x => [.imm τ x]
 | τ :: σ :: r, x => .imm τ x.1 :: mkRs (σ :: r) x.2
def rpX (st : St) (τ : Ty) : D → T (den τ)
 | .rptr _ x => match (castTy x : Option (den τ)) with | some y => .ret y | none => .fail
 | .ptr b off => match st[b]? with
  | some (.var d) => match bif Nat.beq off 0 then coe0 τ d else none with | some y => .ret y | none => .fail
  | _ => .fail
 | _ => .fail
def capX (st : St) : (p : Cap) → D → T (den p.ty)
 | .im τ, d => coeS st τ d
 | .rp τ, d => rpX st τ d
def capsX (st : St) : (l : List Cap) → List D → T (denCaps l)
 | [], [] => .ret ()
 | [p], [d] => capX st p d
 | p :: q :: r, d :: ds => (capX st p d).bind fun x => (capsX st (q :: r) ds).bind fun y => .ret (x, y)
 | _, _ => .fail
def unP (st : St) : (p : PSh) → D → T p.den
 | .ty τ, d => coeS st τ d
 | .rp τ, d => rpX st τ d
 | .clo f caps, d => match d with
  | .clo f' l => bif Nat.beq f f' then capsX st caps l else .fail
  | _ => .fail
def unPs (st : St) : (l : List PSh) → List D → T (denPs l)
 | [], [] => .ret ()
 | [p], [d] => unP st p d
 | p :: q :: r, d :: ds => (unP st p d).bind fun x => (unPs st (q :: r) ds).bind fun y => .ret (x, y)
 | _, _ => .fail
def unRs (st : St) : (l : List Ty) → List D → T (Tup l)
 | [], [] => .ret ()
 | [τ], [d] => coeS st τ d
 | τ :: σ :: r, d :: ds => (coeS st τ d).bind fun x => (unRs st (σ :: r) ds).bind fun y => .ret (x, y)
 | _, _ => .fail
structure FnD where
 ps : List PSh
 rs : List Ty
 F : denPs ps → T (Tup rs)
def fit1 : PSh → D → Bool
 | .clo f _, d => match d with | .clo f' _ => Nat.beq f f' | _ => false
 | _, d => match d with | .clo _ _ => false | _ => true
def fits : List PSh → List D → Bool
 | [], [] => true
 | p :: ps, d :: ds => fit1 p d && fits ps ds
 | _, _ => false
def fitK : AK → D → Bool
 | .any, d => match d with | .clo _ _ => false | _ => true
 | .cur, d => match d with | .ms .. => true | .nilsl => true | _ => false
 | .sub, d => match d with | .ms .. => true | _ => false
 | .ptr, d => match d with | .ptr .. => true | _ => false
 | .clo f, d => match d with | .clo f' _ => Nat.beq f f' | _ => false
def fitKs : List AK → List D → Bool
 | [], [] => true
 | p :: ps, d :: ds => fitK p d && fitKs ps ds
 | _, _ => false
inductive FnE where
 | d (x : FnD)
 | s (x : FnS)
 | p (x : FnP)
def FnE.fits : FnE → List D → Bool
 | .d x, l => AM.fits x.ps l
 | .s x, l => fitKs x.ks l
 | .p x, l => fitKs x.ks l
abbrev Tab := List (Nat × FnE)
def Tab.find : Tab → Nat → List D → Option FnE
 | [], _, _ => none
 | (g', d) :: r, g, args => bif Nat.beq g' g && d.fits args then some d else Tab.find r g args
abbrev Sm := List D → St → T (Res × St)
def FnD.S (d : FnD) : Sm := fun args st => match st with
 | [] => (unPs [] d.ps args).bind fun x => (d.F x).bind fun y => .ret (.ret (mkRs d.rs y), [])
 | _ => .fail
def Tab.call (tab : Tab) (g : Nat) (args : List D) (st : St) : T (Res × St) := match tab.find g args with | some (.d d) => d.S args st | some (.s d) => d.S args st | some (.p d) => d.S args st | none => .fail
def Tab.free (tab : Tab) (g : Nat) (args : List D) (st : St) : List Nat := match tab.find g args with | some (.s d) => d.free args st | some (.p d) => d.free args st | _ => []
theorem Tab.free_ok (tab : Tab) (g : Nat) (args : List D) (st : St) (rs : Res) (st' : St) (b : Nat) (h : (tab.call g args st).leads (rs, st')) (hb : b ∈ tab.free g args st) : st'[b]? = st[b]? := by
 unfold Tab.call at h
 unfold Tab.free at hb
 split at hb
 ·rename_i d hd; rw [hd] at h; exact FnS.free_ok h hb
 ·rename_i d hd; rw [hd] at h; exact FnP.free_ok h hb
 ·cases hb
def mkC (P : Program) (xid : Nat) (tab : Tab) (ro : Nat → Bool) : Ctx :=
 { P, xid, ro, sig := fun g args => match tab.find g args with | some (.d d) => some ⟨d.ps, d.rs⟩ | _ => none, fn := tab.call, free := tab.free, freeOk := tab.free_ok }
def callK {α : Type} (tab : Tab) (g : Nat) (args : List D) (st : St) (k : Nat → Option D → St → T α) (kp : D → St → T α) : T α := match tab.find g args with
 | none => .fail
 | some (.d d) => bif !(args.any needSt) then (unPs [] d.ps args).bind fun x => (d.F x).bind fun y => k 0 (some (packRes (mkRs d.rs y))) st
  else (unPs st d.ps args).bind fun x => (d.F x).bind fun y => bif (mkRs d.rs y).all scalarD then k 1 (some (packRes (mkRs d.rs y))) st else .fail
 | some (.s d) => d.K args st fun ds st' => k 2 (some (packRes ds)) st'
 | some (.p d) => d.K args st (fun ds st' => k 2 (some (packRes ds)) st') kp
def callOpK {α : Type} (tab : Tab) (f : Option D) (args : List (Option D)) (st : St) (k : Nat → Option D → St → T α) (kp : D → St → T α) : T α := match f, allSome args with
 | some (.clo g caps), some l => callK tab (cloF g) (cloA g l caps) st k kp
 | _, _ => .fail
def nones (l : List Nat) : Fr := l.map fun s => (s, none)
def dstsOf : List Oper → List Nat
 | [] => []
 | o :: r => match o.dst with | some t => t :: dstsOf r | none => dstsOf r
def writesOf : Code → List Nat
 | .region _ ops _ => dstsOf ops.toList
 | .seq a b => writesOf a ++ writesOf b
 | .cond _ a b => writesOf a ++ writesOf b
 | .block _ a => writesOf a
 | .loop a => writesOf a
 | _ => []
structure LoopD where
 gh : List Gh
 ps : List It
 sh : Shp
 ws : List Way
 F : denIts ps → sh.den → T (denWs ws)
inductive CutD where
 | flat (its : List It)
 | ways (ws : List Way)
 | nilt
structure Hints where
 loop : Nat → Option LoopD
 cut : Nat → Nat → Option CutD
 frz : Nat → List Nat
def firstReg : Code → Option Nat
 | .region id _ _ => some id
 | .seq a b => match firstReg a with | some n => some n | none => firstReg b
 | .cond _ a b => match firstReg a with | some n => some n | none => firstReg b
 | .block _ a => firstReg a
 | .loop a => firstReg a
 | _ => none
def keyOf (x : Code) : Nat × Nat := (match x with | .region .. => 0 | .cond .. => 1 | .block .. => 2 | _ => 3, match firstReg x with | some n => n | none => 0)
def notIn (l : List Nat) (s : Nat) : Bool := !(l.any (Nat.beq s))
def plainDk : Dk → Bool
 | .sub _ _ => false
 | .st _ => false
 | .mclo _ _ => false
 | _ => true
def psOk (ps : List It) (ws : List Nat) : Bool := ps.all fun i => match i with
 | .s t k => plainDk k && notIn ws t
 | _ => false
def firstV {α : Type} : T α → Option α
 | .ret a => some a
 | .ite _ t e => match firstV t with | some a => some a | none => firstV e
 | .obl _ t => firstV t
 | .fail => none
def mapT {α β : Type} (f : α → β) : T α → T β
 | .ret a => .ret (f a)
 | .ite b t e => .ite b (mapT f t) (mapT f e)
 | .obl p t => .obl p (mapT f t)
 | .fail => .fail
def valI : (l : List It) → denIts l → T (denIts l) → denIts l
 | [], _, _ => ()
 | [_], d, t => T.val d t
 | _ :: j :: r, d, t => (T.val d.1 (mapT Prod.fst t), valI (j :: r) d.2 (mapT Prod.snd t))
def flatI (l : List It) (t : T (denIts l)) : T (denIts l) := match firstV t with
 | some d => match t.preO with
  | none => .ret (valI l d t)
  | some p => .obl p (.ret (valI l d t))
 | none => .fail
def slotsOnly (l : List It) : Bool := l.all fun i => match i with
 | .s _ k => plainDk k
 | _ => false
structure KOut where
 ex : Ex
 fr : Fr
 kn : Kn
 st : St
 q : Bool      -- the store has not been written
def quiet (ks : List Nat) : Bool := ks.all fun k => !(Nat.beq k 2)
structure NilP where
 e : Ty
 l : List (den e)
 m : Nat
 s : Nat
 c : Nat
 eq : Bool
def nilOp : BinOp → Option Bool
 | .eql => some true
 | .neq => some false
 | _ => none
def isNilC : Operand → Bool
 | .const (.slice none 0 0) => true
 | _ => false
def nilPat (c : Ctx) (n : Nat) (ops : Array Oper) (fr : Fr) : Option NilP := match ops.toList with
 | [o1, o2] => match o1.dst, o1.op, o1.guard with
  | some m, .move (.tmp s), none => match o2.dst, o2.op, o2.guard with
   | some cc, .binOp op t (.tmp m') y _, none => match nilOp op, fr.get s, elemT c t with
    | some b, some (.imm (.sl e) l), some _ => bif Nat.beq m m' && isNilC y && Nat.blt m n && Nat.blt cc n then some ⟨e, l, m, s, cc, b⟩ else none
    | _, _, _ => none
   | _, _, _ => none
  | _, _, _ => none
 | _ => none
def opsOf : Code → Option (Array Oper)
 | .region _ ops false => some ops
 | _ => none
section
variable (c : Ctx) (tab : Tab)
variable [RowT]
def stepOpK {α : Type} (n : Nat) (o : Oper) (s : RSt) (k : RSt → T α) (kp : D → St → T α) : T α :=
 bif dstOk n o.dst then match o.op with
  | .call cl => match cl.callee with
   | .value f => callOpK tab (evalA s.fr f) (cl.args.toList.map (evalA s.fr)) s.st (fun kd d st' => k ⟨s.fr.put o.dst d, putK s.kn o.dst none, st', kd :: s.ks, kindR c (evalA s.fr) s.st o :: s.bk⟩) kp
   | _ => let cl := evOpK c s.kn s.fr o
    (runCls cl s.st).bind fun r => k ⟨s.fr.put o.dst r.1, putK s.kn o.dst (knOf s.kn o.op), r.2, cl.kind :: s.ks, kindR c (evalA s.fr) s.st o :: s.bk⟩
  | .panic x => match evalA s.fr x with
   | some (.iface t d) => kp (.iface t d) s.st
   | _ => .fail
  | _ => let cl := evOpK c s.kn s.fr o
   (runCls cl s.st).bind fun r => k ⟨s.fr.put o.dst r.1, putK s.kn o.dst (knOf s.kn o.op), r.2, cl.kind :: s.ks, kindR c (evalA s.fr) s.st o :: s.bk⟩
 else .fail
def stepGK {α : Type} (n : Nat) (ops : Array Oper) (o : Oper) (s : RSt) (k : RSt → T α) (kp : D → St → T α) : T α := match o.guard with
 | none => stepOpK c tab n o s k kp
 | some (j, want) => match guardSlot ops j with
  | none => .fail
  | some t => match s.kn.get t with
   | some b => bif b == want then stepOpK c tab n o s k kp else bif dstOk n o.dst then k (skipOp o s) else .fail
   | none => match s.fr.get t with
    | some (.imm .bool x) => bif dstOk n o.dst then
      .ite x (bif want then stepOpK c tab n o (s.know t true) k kp else k (skipOp o (s.know t true)))
          (bif want then k (skipOp o (s.know t false)) else stepOpK c tab n o (s.know t false) k kp)
     else .fail
    | some (.tup []) => bif dstOk n o.dst then k (skipOp o s) else .fail
    | _ => .fail
def runOpsK {α : Type} (n : Nat) (ops : Array Oper) : List Oper → RSt → (RSt → T α) → (D → St → T α) → T α
 | [], s, k, _ => k s
 | o :: l, s, k, kp => stepGK c tab n ops o s (fun s' => runOpsK n ops l s' k kp) kp
def runRegionK {α : Type} (n : Nat) (ops : Array Oper) (draw : Bool) (fr : Fr) (kn : Kn) (st : St) (k : RSt → T α) (kp : D → St → T α) : T α :=
 runOpsK c tab n ops ops.toList ⟨fr, kn, st, [], []⟩ (fun s => bif !draw || drawOk ops s.ks.reverse s.bk.reverse then k s else .fail) (fun d st' => bif draw then .fail else kp d st')
def evk (n : Nat) (H : Hints) : Code → Fr → Kn → St → {α : Type} → (KOut → T α) → T α
 | .skip, fr, kn, st, _, k => k ⟨.normal, fr, kn, st, true⟩
 | .region id ops draw, fr, kn, st, _, k => (frz (H.frz id) fr st).bind fun z => runRegionK c tab n ops draw z.1 kn z.2 (fun s => k ⟨.normal, s.fr, s.kn, s.st, quiet s.ks && (H.frz id).isEmpty⟩) (fun d st' => k ⟨.pan d, [], [], st', false⟩)
 | .seq a b, fr, kn, st, _, k => match H.cut (keyOf a).1 (keyOf a).2 with
  | none => evk n H a fr kn st fun r => match r.ex with
   | .normal => evk n H b r.fr r.kn r.st fun o => k { o with q := r.q && o.q }
   | _ => k r
  | some (.flat its) => bif slotsOnly its then
    (flatI its (evk n H a fr kn st fun o => match o.ex with
     | .normal => bif o.q then unIts o.fr o.st its [] else .fail
     | _ => .fail)).bind fun x => evk n H b (mkFr st its x ++ (nones (writesOf a) ++ fr)) [] st k
   else .fail
  | some .nilt => match opsOf a with
   | none => .fail
   | some ops => match nilPat c n ops fr with
    | none => .fail
    | some p =>
     let non := evk n H b ((p.c, some (.imm .bool (!p.eq))) :: (p.m, some (.imm (.sl p.e) p.l)) :: fr) [(p.c, some (!p.eq))] st k
     .obl (p.l = [] → ∀ r, non.leads r → (evk n H b ((p.c, some (.imm .bool p.eq)) :: (p.m, some .nilsl) :: (p.s, some .nilsl) :: fr) [(p.c, some p.eq)] st k).leads r) non
  | some (.ways ws) => bif ws.all fun w => Nat.ble st.length w.sh.bs.length then
    (evk n H a fr kn st fun o => injW ws o.ex (exFr o.ex o.fr) o.st).bind fun r => elimW ws r fun ex out st' => match exOut ex out with
     | none => .fail
     | some z => match z.1 with
      | .normal => evk n H b (z.2 ++ (nones (writesOf a) ++ fr)) [] st' fun o => k { o with q := false }
      | e => k ⟨e, z.2 ++ (nones (writesOf a) ++ fr), [], st', false⟩
   else .fail
 | .cond x a b, fr, kn, st, _, k => match knownA kn x with
  | some true => evk n H a fr kn st k
  | some false => evk n H b fr kn st k
  | none => match x with
   | .tmp t => match fr.get t with
    | some (.imm .bool v) => .ite v (evk n H a fr ((t, some true) :: kn) st k) (evk n H b fr ((t, some false) :: kn) st k)
    | _ => .fail
   | _ => .fail
 | .block id (.loop b), fr, _, st, _, k => match H.loop id with
  | none => .fail
  | some l => let g := gh l.gh fr st
   bif Nat.ble g.2.length l.sh.bs.length && psOk l.ps (writesOf b) && l.ws.all fun w => Nat.ble l.sh.bs.length w.sh.bs.length then
    (unIts g.1 g.2 l.ps []).bind fun p => (l.sh.un g.1 g.2).bind fun s => (l.F p s).bind fun r => elimW l.ws r fun ex out st' => match exOut ex out with
     | none => .fail
     | some z => match z.1 with
      | .exit id' => bif Nat.beq id' id then k ⟨.normal, z.2 ++ (nones (writesOf b) ++ g.1), [], st', false⟩ else k ⟨.exit id', z.2 ++ (nones (writesOf b) ++ g.1), [], st', false⟩
      | .normal => .fail
      | e => k ⟨e, z.2 ++ (nones (writesOf b) ++ g.1), [], st', false⟩
   else .fail
 | .block id a, fr, kn, st, _, k => evk n H a fr kn st fun r => match r.ex with
  | .exit id' => bif Nat.beq id' id then k { r with ex := .normal } else k r
  | _ => k r
 | .exit id, fr, kn, st, _, k => k ⟨.exit id, fr, kn, st, true⟩
 | .ret, fr, kn, st, _, k => k ⟨.ret, fr, kn, st, true⟩
 | _, _, _, _, _, _ => .fail
def roundK (n : Nat) (H : Hints) (l : LoopD) (b : Code) (p : denIts l.ps) (s : l.sh.den) : T (l.sh.den ⊕ denWs l.ws) :=
 evk c tab n H b (l.sh.fr s ++ mkFr (l.sh.st s) l.ps p) [] (l.sh.st s) fun o => match o.ex with
  | .normal => (l.sh.un o.fr o.st).bind fun s' => .ret (.inl s')
  | e => (injW l.ws e (exFr e o.fr) o.st).bind fun r => .ret (.inr r)
def evFnk (H : Hints) (fn : Func) (code : Code) (d : FnD) (x : denPs d.ps) : T (Tup d.rs) :=
 bif Nat.ble (mkPs d.ps x).length fn.ntmps then
  evk c tab fn.ntmps H code (argFr (mkPs d.ps x) 0) [] [] fun o => match o.ex with
   | .normal => (resOf c o.fr o.st fn.results.toList).bind fun ds => unRs o.st d.rs ds
   | .ret => (resOf c o.fr o.st fn.results.toList).bind fun ds => unRs o.st d.rs ds
   | _ => .fail
 else .fail
def evFnSk (H : Hints) (fn : Func) (code : Code) (d : FnS) (x : d.sh.den) : T d.out.den :=
 bif Nat.ble d.ks.length fn.ntmps && Nat.ble d.sh.bs.length d.out.bs.length then
  evk c tab fn.ntmps H code (d.sh.fr x) [] (d.sh.st x) fun o => match o.ex with
   | .normal => (resOf c o.fr o.st fn.results.toList).bind fun ds => bif Nat.beq ds.length d.nr then (d.out.un (argFr ds 0) o.st).bind fun y => bif (outL d.nr (d.out.fr y)).isSome then .ret y else .fail else .fail
   | .ret => (resOf c o.fr o.st fn.results.toList).bind fun ds => bif Nat.beq ds.length d.nr then (d.out.un (argFr ds 0) o.st).bind fun y => bif (outL d.nr (d.out.fr y)).isSome then .ret y else .fail else .fail
   | _ => .fail
 else .fail
def evFnPk (H : Hints) (fn : Func) (code : Code) (d : FnP) (x : d.sh.den) : T (d.out.den ⊕ d.pan.den) :=
 bif Nat.ble d.ks.length fn.ntmps && Nat.ble d.sh.bs.length d.out.bs.length && Nat.ble d.sh.bs.length d.pan.bs.length then
  evk c tab fn.ntmps H code (d.sh.fr x) [] (d.sh.st x) fun o => match o.ex with
   | .normal => (resOf c o.fr o.st fn.results.toList).bind fun ds => bif Nat.beq ds.length d.nr then (d.out.un (argFr ds 0) o.st).bind fun y => bif (outL d.nr (d.out.fr y)).isSome then .ret (.inl y) else .fail else .fail
   | .ret => (resOf c o.fr o.st fn.results.toList).bind fun ds => bif Nat.beq ds.length d.nr then (d.out.un (argFr ds 0) o.st).bind fun y => bif (outL d.nr (d.out.fr y)).isSome then .ret (.inl y) else .fail else .fail
   | .pan p => match p with
    | .iface t v => bif Nat.beq t d.pt then (d.pan.un [(0, some v)] o.st).bind fun z => match (d.pan.fr z).get 0 with | some _ => .ret (.inr z) | none => .fail else .fail
    | _ => .fail
   | _ => .fail
 else .fail
end
end Go.AM
namespace Go.AM
set_option linter.unusedSectionVars false
variable [Glob]
open Go.RowKit
section
variable {n : Nat}
theorem rpX_of {st : St} {τ : Ty} {d : D} {x : den τ} (h : (rpX st τ d).leads x) : (coeRp st τ d).leads (.rptr τ x) := by
 cases d with
 | rptr σ y =>
  simp only [rpX] at h
  simp only [coeRp]
  cases hy : (castTy y : Option (den τ)) with
  | none => rw [hy] at h; exact h.elim
  | some z => rw [hy] at h; cases h; rfl
 | ptr b off =>
  simp only [rpX] at h
  simp only [coeRp]
  cases hb : st[b]? with
  | none => rw [hb] at h; exact h.elim
  | some B =>
   rw [hb] at h
   cases B with
   | var d =>
    simp only at h ⊢
    cases hy : (bif Nat.beq off 0 then coe0 τ d else none) with
    | none => rw [hy] at h; exact h.elim
    | some z => rw [hy] at h; cases h; rfl
   | _ => exact h.elim
 | _ => exact h.elim
theorem capX_of {st : St} {p : Cap} {d : D} {x : den p.ty} (h : (capX st p d).leads x) : (coeCap st p d).leads (mkCap p x) := by
 cases p with
 | rp τ => exact rpX_of h
 | im τ => exact T.leads_bind'.2 ⟨x, h, rfl⟩
theorem capsX_of {st : St} : ∀ (l : List Cap) (ds : List D) (x : denCaps l), (capsX st l ds).leads x → (coeCaps st l ds).leads (mkCaps l x)
 | [], [], x, h => rfl
 | [], _ :: _, x, h => h.elim
 | [p], [], x, h => h.elim
 | [p], [d], x, h => T.leads_bind'.2 ⟨_, capX_of h, T.leads_bind'.2 ⟨[], rfl, rfl⟩⟩
 | [p], _ :: _ :: _, x, h => h.elim
 | p :: q :: r, [], x, h => h.elim
 | p :: q :: r, d :: ds, x, h => by
  obtain ⟨y, h1, h2⟩ := T.leads_bind'.1 h
  obtain ⟨z, h3, h4⟩ := T.leads_bind'.1 h2
  cases h4
  exact T.leads_bind'.2 ⟨_, capX_of h1, T.leads_bind'.2 ⟨_, capsX_of (q :: r) ds z h3, rfl⟩⟩
theorem unP_of {st : St} {p : PSh} {d : D} {x : p.den} (h : (unP st p d).leads x) : (coeP st p d).leads (mkP p x) := by
 cases p with
 | ty τ => cases d <;> exact T.leads_bind'.2 ⟨x, h, rfl⟩
 | rp τ =>
  have h : (rpX st τ d).leads x := h
  have := rpX_of h
  cases d <;> exact this
 | clo f caps =>
  cases d with
  | clo f' l =>
   simp only [unP] at h
   simp only [coeP]
   cases hb : Nat.beq f f' with
   | false => rw [hb] at h; exact h.elim
   | true => rw [hb] at h; exact T.leads_bind'.2 ⟨_, capsX_of caps l x h, rfl⟩
  | _ => exact h.elim
theorem unPs_of {st : St} : ∀ (l : List PSh) (ds : List D) (x : denPs l), (unPs st l ds).leads x → (coePs st l ds).leads (mkPs l x)
 | [], [], x, h => rfl
 | [], _ :: _, x, h => h.elim
 | [p], [], x, h => h.elim
 | [p], [d], x, h => T.leads_bind'.2 ⟨_, unP_of h, T.leads_bind'.2 ⟨[], rfl, rfl⟩⟩
 | [p], _ :: _ :: _, x, h => h.elim
 | p :: q :: r, [], x, h => h.elim
 | p :: q :: r, d :: ds, x, h => by
  obtain ⟨y, h1, h2⟩ := T.leads_bind'.1 h
  obtain ⟨z, h3, h4⟩ := T.leads_bind'.1 h2
  cases h4
  exact T.leads_bind'.2 ⟨_, unP_of h1, T.leads_bind'.2 ⟨_, unPs_of (q :: r) ds z h3, rfl⟩⟩
theorem coeS_imm (st : St) (τ : Ty) (x : den τ) : (coeS st τ (.imm τ x)).leads x := by
 refine T.leads_bind'.2 ⟨.imm τ x, rfl, ?_⟩
 show (T.ofOpt (coe0 τ (.imm τ x))).leads x
 rw [T.leads_ofOpt]
 exact castTy_self x
theorem rpX_mk (st : St) (τ : Ty) (x : den τ) : (rpX st τ (.rptr τ x)).leads x := by
 simp only [rpX]; rw [castTy_self]; rfl
theorem capX_mk (st : St) (p : Cap) (x : den p.ty) : (capX st p (mkCap p x)).leads x := by
 cases p with
 | rp τ => exact rpX_mk st τ x
 | im τ => exact coeS_imm st τ x
theorem capsX_mk (st : St) : ∀ (l : List Cap) (x : denCaps l), (capsX st l (mkCaps l x)).leads x
 | [], _ => rfl
 | [p], x => capX_mk st p x
 | p :: q :: r, x => T.leads_bind'.2 ⟨x.1, capX_mk st p x.1, T.leads_bind'.2 ⟨x.2, capsX_mk st (q :: r) x.2, rfl⟩⟩
theorem unP_mk (st : St) (p : PSh) (x : p.den) : (unP st p (mkP p x)).leads x := by
 cases p with
 | ty τ => exact coeS_imm st τ x
 | rp τ => exact rpX_mk st τ x
 | clo f caps => simp only [unP, mkP]; rw [Nat.beq_refl]; exact capsX_mk st caps x
theorem unPs_mk (st : St) : ∀ (l : List PSh) (x : denPs l), (unPs st l (mkPs l x)).leads x
 | [], _ => rfl
 | [p], x => unP_mk st p x
 | p :: q :: r, x => T.leads_bind'.2 ⟨x.1, unP_mk st p x.1, T.leads_bind'.2 ⟨x.2, unPs_mk st (q :: r) x.2, rfl⟩⟩
def isClo : D → Option Nat | .clo f _ => some f | _ => none
theorem fit1_eq (p : PSh) {d e : D} (h : isClo d = isClo e) : fit1 p d = fit1 p e := by
 cases d <;> cases e <;> simp only [isClo] at h <;> first | (cases h; done) | (cases p <;> first | rfl | (cases h; rfl))
theorem fits_eq : ∀ (ps : List PSh) {l m : List D}, l.map isClo = m.map isClo → fits ps l = fits ps m
 | [], [], [], _ => rfl
 | [], _ :: _, _ :: _, _ => rfl
 | _, [], _ :: _, h => by cases h
 | _, _ :: _, [], h => by cases h
 | _ :: _, [], [], _ => rfl
 | p :: ps, d :: l, e :: m, h => by
  simp only [List.map_cons, List.cons.injEq] at h
  simp only [fits, fit1_eq p h.1, fits_eq ps h.2]
theorem coeS_clo {st : St} {τ : Ty} {f : Nat} {l : List D} {x : den τ} (h : (coeS st τ (.clo f l)).leads x) : False := by
 obtain ⟨y, h1, h2⟩ := T.leads_bind'.1 h
 cases h1
 have h2 : (T.ofOpt (coe0 τ (.clo f l))).leads x := h2
 rw [T.leads_ofOpt] at h2
 cases τ <;> simp [coe0, D.isAgg, Ty.isAgg, D.isTup, flatD, uncell, cell1] at h2
theorem unP_isClo {st : St} {p : PSh} {d : D} {x : p.den} (h : (unP st p d).leads x) : isClo d = isClo (mkP p x) := by
 cases p with
 | ty τ => cases d <;> first | rfl | exact (coeS_clo h).elim
 | rp τ => cases d <;> first | rfl | exact h.elim
 | clo f caps =>
  cases d with
  | clo f' l =>
   simp only [unP] at h
   cases hb : Nat.beq f f' with
   | false => rw [hb] at h; exact h.elim
   | true => rw [Nat.eq_of_beq_eq_true hb]; rfl
  | _ => exact h.elim
theorem unPs_isClo {st : St} : ∀ (l : List PSh) (ds : List D) (x : denPs l), (unPs st l ds).leads x → ds.map isClo = (mkPs l x).map isClo
 | [], [], x, h => rfl
 | [], _ :: _, x, h => h.elim
 | [p], [], x, h => h.elim
 | [p], [d], x, h => by show [isClo d] = [isClo (mkP p x)]; rw [unP_isClo h]
 | [p], _ :: _ :: _, x, h => h.elim
 | p :: q :: r, [], x, h => h.elim
 | p :: q :: r, d :: ds, x, h => by
  obtain ⟨y, h1, h2⟩ := T.leads_bind'.1 h
  obtain ⟨z, h3, h4⟩ := T.leads_bind'.1 h2
  cases h4
  show isClo d :: ds.map isClo = isClo (mkP p y) :: (mkPs (q :: r) z).map isClo
  rw [unP_isClo h1, unPs_isClo (q :: r) ds z h3]
def dat (d : D) : Bool := match d with | .imm _ _ => true | .rptr _ _ => true | .clo _ _ => true | _ => false
theorem mkP_dat (p : PSh) (x : p.den) : dat (mkP p x) = true := by cases p <;> rfl
theorem mkPs_dat : ∀ (l : List PSh) (x : denPs l), ∀ d ∈ mkPs l x, dat d = true
 | [], x, d, h => by cases h
 | [p], x, d, h => by have h : d ∈ [mkP p x] := h; rw [List.mem_singleton] at h; subst h; exact mkP_dat p x
 | p :: q :: r, x, d, h => by
  rcases List.mem_cons.1 h with rfl | h
  ·exact mkP_dat p x.1
  ·exact mkPs_dat (q :: r) x.2 d h
theorem fitK_dat {a : AK} {d e : D} (h : isClo d = isClo e) (hd : dat e = true) (hf : fitK a e = true) : fitK a d = true := by
 cases e with
 | imm τ x => cases a <;> first | (cases hf; done) | (cases d <;> first | rfl | (cases h; done))
 | rptr τ x => cases a <;> first | (cases hf; done) | (cases d <;> first | rfl | (cases h; done))
 | clo f l => cases a <;> first | (cases hf; done) | (cases d <;> first | (cases h; exact hf) | cases h)
 | _ => cases hd
theorem fitKs_dat : ∀ {ks : List AK} {l m : List D}, l.map isClo = m.map isClo → (∀ d ∈ m, dat d = true) → fitKs ks m = true → fitKs ks l = true
 | [], [], [], _, _, _ => rfl
 | [], _ :: _, [], h, _, _ => by cases h
 | [], _, _ :: _, _, _, hf => by cases hf
 | _ :: _, _, [], _, _, hf => by cases hf
 | k :: ks, [], _ :: _, h, _, _ => by cases h
 | k :: ks, d :: l, e :: m, h, hd, hf => by
  simp only [List.map_cons, List.cons.injEq] at h
  simp only [fitKs, Bool.and_eq_true] at hf ⊢
  exact ⟨fitK_dat h.1 (hd e List.mem_cons_self) hf.1, fitKs_dat h.2 (fun x hx => hd x (List.mem_cons_of_mem _ hx)) hf.2⟩
theorem Tab.find_eq : ∀ (t : Tab) (g : Nat) {l m : List D} {d : FnD}, l.map isClo = m.map isClo → (∀ d ∈ m, dat d = true) → t.find g l = some (.d d) → t.find g m = some (.d d)
 | [], _, _, _, _, _, _, h => h
 | (g', .d d') :: r, g, l, m, d, h, hm, hf => by
  simp only [Tab.find, FnE.fits] at hf ⊢
  rw [← fits_eq d'.ps h]
  cases hb : Nat.beq g' g && fits d'.ps l with
  | true => rw [hb, cond_true] at hf; rw [cond_true]; exact hf
  | false => rw [hb, cond_false] at hf; rw [cond_false]; exact Tab.find_eq r g h hm hf
 | (g', .s d') :: r, g, l, m, d, h, hm, hf => by
  simp only [Tab.find, FnE.fits] at hf ⊢
  cases hb : Nat.beq g' g && fitKs d'.ks l with
  | true => rw [hb, cond_true] at hf; cases hf
  | false =>
   rw [hb, cond_false] at hf
   have : (Nat.beq g' g && fitKs d'.ks m) = false := by
    cases hg : Nat.beq g' g with
    | false => rfl
    | true =>
     rw [hg] at hb
     cases hk : fitKs d'.ks m with
     | false => rfl
     | true => rw [fitKs_dat h hm hk] at hb; cases hb
   rw [this, cond_false]
   exact Tab.find_eq r g h hm hf
 | (g', .p d') :: r, g, l, m, d, h, hm, hf => by
  simp only [Tab.find, FnE.fits] at hf ⊢
  cases hb : Nat.beq g' g && fitKs d'.ks l with
  | true => rw [hb, cond_true] at hf; cases hf
  | false =>
   rw [hb, cond_false] at hf
   have : (Nat.beq g' g && fitKs d'.ks m) = false := by
    cases hg : Nat.beq g' g with
    | false => rfl
    | true =>
     rw [hg] at hb
     cases hk : fitKs d'.ks m with
     | false => rfl
     | true => rw [fitKs_dat h hm hk] at hb; cases hb
   rw [this, cond_false]
   exact Tab.find_eq r g h hm hf
theorem Tab.find_mem : ∀ {t : Tab} {g : Nat} {l : List D} {d : FnE}, t.find g l = some d → (g, d) ∈ t
 | [], _, _, _, h => by cases h
 | (g', d') :: r, g, l, d, h => by
  simp only [Tab.find] at h
  cases hb : Nat.beq g' g && d'.fits l with
  | true =>
   rw [hb, cond_true] at h
   cases h
   simp only [Bool.and_eq_true] at hb
   rw [Nat.eq_of_beq_eq_true hb.1]
   exact List.mem_cons_self
  | false => rw [hb, cond_false] at h; exact List.mem_cons_of_mem _ (Tab.find_mem h)
def FnOk (P : Program) (g : Nat) (d : FnD) : Prop := ∀ (κ : KS) (x : denPs d.ps) (cargs : List Value) (y : Tup d.rs), κ.st = [] → (d.F x).leads y → Inv κ → RDs κ (mkPs d.ps x) cargs →
 CallDoes P g cargs.toArray κ.w fun e w' => ∃ κ' : KS, κ'.w = w' ∧ κ'.st = [] ∧ Inv κ' ∧ Ext κ κ' ∧ EndRel κ' (.ret (mkRs d.rs y)) e
def FnEOk (P : Program) (g : Nat) : FnE → Prop
 | .d d => FnOk P g d
 | .s d => FnSOk P g d
 | .p d => FnPOk P g d
def TabOk (P : Program) (t : Tab) : Prop := ∀ p ∈ t, FnEOk P p.1 p.2
theorem tabOk_nil (P : Program) : TabOk P [] := fun p hp => by cases hp
theorem tabOk_e {P : Program} {g : Nat} {d : FnE} {t : Tab} (h : FnEOk P g d) (ht : TabOk P t) : TabOk P ((g, d) :: t) := by
 intro p hp
 rcases List.mem_cons.1 hp with rfl | hp
 ·exact h
 ·exact ht p hp
theorem tabOk_cons {P : Program} {g : Nat} {d : FnD} {t : Tab} (h : FnOk P g d) (ht : TabOk P t) : TabOk P ((g, .d d) :: t) := tabOk_e (d := .d d) h ht
theorem tabOk_consS {P : Program} {g : Nat} {d : FnS} {t : Tab} (h : FnSOk P g d) (ht : TabOk P t) : TabOk P ((g, .s d) :: t) := tabOk_e (d := .s d) h ht
theorem tabOk_consP {P : Program} {g : Nat} {d : FnP} {t : Tab} (h : FnPOk P g d) (ht : TabOk P t) : TabOk P ((g, .p d) :: t) := tabOk_e (d := .p d) h ht
theorem FnD.snd {P : Program} {g : Nat} {d : FnD} (h : FnOk P g d) : Snd P g d.S := by
 intro κ args cargs rs st' hl hI ha
 unfold FnD.S at hl
 split at hl
 ·rename_i hst
  obtain ⟨x, h1, h2⟩ := T.leads_bind'.1 hl
  obtain ⟨y, h3, h4⟩ := T.leads_bind'.1 h2
  cases h4
  exact h κ x cargs y hst h3 hI (coePs_nil ha (unPs_of _ _ _ h1))
 ·exact hl.elim
theorem mkC_snd {P : Program} {xid : Nat} {tab : Tab} {ro : Nat → Bool} (h : TabOk P tab) : ∀ g, Snd (mkC P xid tab ro).P g ((mkC P xid tab ro).fn g) := by
 intro g κ args cargs rs st' hl hI ha
 simp only [mkC, Tab.call] at hl
 split at hl
 ·rename_i d hd
  exact FnD.snd (h _ (Tab.find_mem hd) : FnEOk P g (.d d)) κ args cargs rs st' hl hI ha
 ·rename_i d hd
  exact FnS.snd (h _ (Tab.find_mem hd) : FnEOk P g (.s d)) κ args cargs rs st' hl hI ha
 ·rename_i d hd
  exact FnP.snd (h _ (Tab.find_mem hd) : FnEOk P g (.p d)) κ args cargs rs st' hl hI ha
 ·exact hl.elim
section
variable {P : Program} {xid : Nat} {tab : Tab} {ro : Nat → Bool} {α : Type}
def PanCall (c : Ctx) (f : Option D) (args : List (Option D)) (st : St) (d : D) (st' : St) : Prop :=
 ∃ g caps l, f = some (.clo g caps) ∧ allSome args = some l ∧ (c.fn (cloF g) (cloA g l caps) st).leads (.pan d, st')
def PanOp (c : Ctx) (o : Oper) (s : RSt) (d : D) (st' : St) : Prop :=
 (∃ x t e, o.op = .panic x ∧ evalA s.fr x = some d ∧ d = .iface t e ∧ st' = s.st) ∨
 ∃ f args tys, o.op = .call ⟨.value f, args, tys⟩ ∧ PanCall c (evalA s.fr f) (args.toList.map (evalA s.fr)) s.st d st'
theorem callOpK_of {f : Option D} {args : List (Option D)} {st : St} {k : Nat → Option D → St → T α} {kp : D → St → T α} {r : α} (h : (callOpK tab f args st k kp).leads r) :
  (∃ d st', (runCls (callOp (mkC P xid tab ro) f args) st).leads (d, st') ∧ (k (callOp (mkC P xid tab ro) f args).kind d st').leads r) ∨
  ∃ d st', PanCall (mkC P xid tab ro) f args st d st' ∧ (kp d st').leads r := by
 unfold callOpK at h
 split at h
 ·rename_i g caps l hl
  unfold callK at h
  split at h
  ·exact h.elim
  ·rename_i d hd
   have hsig : (mkC P xid tab ro).sig (cloF g) (cloA g l caps) = some ⟨d.ps, d.rs⟩ := by simp only [mkC]; rw [hd]
   have hcop : callOp (mkC P xid tab ro) (some (.clo g caps)) args = callPure (mkC P xid tab ro) (cloF g) ⟨d.ps, d.rs⟩ (cloA g l caps) := by simp only [callOp, hl, hsig]
   rw [hcop]
   have hfn : ∀ {st0 : St} (x : denPs d.ps) (y : Tup d.rs), (unPs st0 d.ps (cloA g l caps)).leads x → (d.F x).leads y → ((mkC P xid tab ro).fn (cloF g) (mkPs d.ps x) []).leads (.ret (mkRs d.rs y), []) := by
    intro st0 x y hx hy
    simp only [mkC, Tab.call]
    rw [Tab.find_eq tab (cloF g) (unPs_isClo _ _ _ hx) (mkPs_dat d.ps x) hd]
    exact T.leads_bind'.2 ⟨x, unPs_mk [] d.ps x, T.leads_bind'.2 ⟨y, hy, rfl⟩⟩
   cases hn : !((cloA g l caps).any needSt) with
   | true =>
    rw [hn, cond_true] at h
    obtain ⟨x, h1, h2⟩ := T.leads_bind'.1 h
    obtain ⟨y, h3, h4⟩ := T.leads_bind'.1 h2
    have hc : callPure (mkC P xid tab ro) (cloF g) ⟨d.ps, d.rs⟩ (cloA g l caps) = .val ((coePs [] d.ps (cloA g l caps)).bind fun l => ((mkC P xid tab ro).fn (cloF g) l []).bind retOf) := by
     unfold callPure; rw [hn]; rfl
    rw [hc]
    refine .inl ⟨_, _, T.leads_bind'.2 ⟨_, T.leads_bind'.2 ⟨_, unPs_of _ _ _ h1, T.leads_bind'.2 ⟨_, hfn x y h1 h3, rfl⟩⟩, rfl⟩, h4⟩
   | false =>
    rw [hn, cond_false] at h
    obtain ⟨x, h1, h2⟩ := T.leads_bind'.1 h
    obtain ⟨y, h3, h4⟩ := T.leads_bind'.1 h2
    have hc : callPure (mkC P xid tab ro) (cloF g) ⟨d.ps, d.rs⟩ (cloA g l caps) = .rd fun st => (coePs st d.ps (cloA g l caps)).bind fun l => ((mkC P xid tab ro).fn (cloF g) l []).bind retScalar := by
     unfold callPure; rw [hn]; rfl
    rw [hc]
    cases hs : (mkRs d.rs y).all scalarD with
    | false => rw [hs] at h4; exact h4.elim
    | true =>
     rw [hs] at h4
     refine .inl ⟨_, _, T.leads_bind'.2 ⟨_, T.leads_bind'.2 ⟨_, unPs_of _ _ _ h1, T.leads_bind'.2 ⟨_, hfn x y h1 h3, ?_⟩⟩, rfl⟩, h4⟩
     simp only [retScalar, hs, cond_true]
     rfl
  ·rename_i d hd
   have hsig : (mkC P xid tab ro).sig (cloF g) (cloA g l caps) = none := by simp only [mkC]; rw [hd]
   have hcop : callOp (mkC P xid tab ro) (some (.clo g caps)) args = callRaw (mkC P xid tab ro) (cloF g) (cloA g l caps) := by simp only [callOp, hl, hsig]
   rw [hcop]
   obtain ⟨ds, st', h1, h2⟩ := FnS.K_of h
   refine .inl ⟨_, st', T.leads_bind'.2 ⟨(.ret ds, st'), ?_, rfl⟩, h2⟩
   simp only [mkC, Tab.call]
   rw [hd]
   exact h1
  ·rename_i d hd
   have hsig : (mkC P xid tab ro).sig (cloF g) (cloA g l caps) = none := by simp only [mkC]; rw [hd]
   have hcop : callOp (mkC P xid tab ro) (some (.clo g caps)) args = callRaw (mkC P xid tab ro) (cloF g) (cloA g l caps) := by simp only [callOp, hl, hsig]
   rw [hcop]
   rcases FnP.K_of h with ⟨ds, st', h1, h2⟩ | ⟨p, st', h1, h2⟩
   ·refine .inl ⟨_, st', T.leads_bind'.2 ⟨(.ret ds, st'), ?_, rfl⟩, h2⟩
    simp only [mkC, Tab.call]
    rw [hd]
    exact h1
   ·refine .inr ⟨p, st', ⟨g, caps, l, rfl, hl, ?_⟩, h2⟩
    simp only [mkC, Tab.call]
    rw [hd]
    exact h1
 ·exact h.elim
theorem stepOpK_of {o : Oper} {s : RSt} {k : RSt → T α} {kp : D → St → T α} {r : α} (h : (stepOpK (mkC P xid tab ro) tab n o s k kp).leads r) :
  (∃ s', (stepOp (mkC P xid tab ro) n o s).leads s' ∧ (k s').leads r) ∨ ∃ d st', PanOp (mkC P xid tab ro) o s d st' ∧ (kp d st').leads r := by
 unfold stepOpK at h
 unfold stepOp
 cases hd : dstOk n o.dst with
 | false => rw [hd] at h; exact h.elim
 | true =>
  rw [hd, cond_true] at h
  rw [cond_true]
  obtain ⟨dst, op, ty, pos, after, guard⟩ := o
  have gen : ((runCls (evOpK (mkC P xid tab ro) s.kn s.fr ⟨dst, op, ty, pos, after, guard⟩) s.st).bind fun r => k ⟨s.fr.put dst r.1, putK s.kn dst (knOf s.kn op), r.2, (evOpK (mkC P xid tab ro) s.kn s.fr ⟨dst, op, ty, pos, after, guard⟩).kind :: s.ks, kindR (mkC P xid tab ro) (evalA s.fr) s.st ⟨dst, op, ty, pos, after, guard⟩ :: s.bk⟩).leads r →
    ∃ s', (let cl := evOpK (mkC P xid tab ro) s.kn s.fr ⟨dst, op, ty, pos, after, guard⟩; (runCls cl s.st).bind fun r => T.ret (⟨s.fr.put dst r.1, putK s.kn dst (knOf s.kn op), r.2, cl.kind :: s.ks, kindR (mkC P xid tab ro) (evalA s.fr) s.st ⟨dst, op, ty, pos, after, guard⟩ :: s.bk⟩ : RSt)).leads s' ∧ (k s').leads r := by
   intro h
   obtain ⟨x, h1, h2⟩ := T.leads_bind'.1 h
   exact ⟨_, T.leads_bind'.2 ⟨x, h1, rfl⟩, h2⟩
  cases op with
  | call cl =>
   obtain ⟨callee, args, tys⟩ := cl
   cases callee with
   | value f =>
    simp only at h
    rcases callOpK_of (P := P) (xid := xid) (ro := ro) h with ⟨d, st', h1, h2⟩ | ⟨d, st', h1, h2⟩
    ·exact .inl ⟨_, T.leads_bind'.2 ⟨(d, st'), h1, rfl⟩, h2⟩
    ·exact .inr ⟨d, st', .inr ⟨f, args, tys, rfl, h1⟩, h2⟩
   | _ => exact .inl (gen h)
  | panic x =>
   simp only at h
   split at h
   ·rename_i t e hx
    exact .inr ⟨_, _, .inl ⟨x, t, e, rfl, hx, rfl, rfl⟩, h⟩
   ·exact h.elim
  | _ => exact .inl (gen h)
theorem stepGK_of {ops : Array Oper} {o : Oper} {s : RSt} {k : RSt → T α} {kp : D → St → T α} {r : α} (hkn : KnOk s.kn s.fr.get) (h : (stepGK (mkC P xid tab ro) tab n ops o s k kp).leads r) :
  (∃ s', (stepG (mkC P xid tab ro) n ops o s).leads s' ∧ (k s').leads r) ∨ ∃ d st', wantF ops s.fr.get o = some true ∧ PanOp (mkC P xid tab ro) o s d st' ∧ (kp d st').leads r := by
 obtain ⟨dst, op, ty, pos, after, guard⟩ := o
 cases guard with
 | none =>
  rcases stepOpK_of h with h | ⟨d, st', h1, h2⟩
  ·exact .inl h
  ·exact .inr ⟨d, st', rfl, h1, h2⟩
 | some jw =>
  obtain ⟨j, want⟩ := jw
  simp only [stepGK] at h
  simp only [stepG]
  cases hg : guardSlot ops j with
  | none => rw [hg] at h; exact h.elim
  | some t =>
   rw [hg] at h
   simp only at h ⊢
   cases hk : s.kn.get t with
   | some b =>
    rw [hk] at h
    simp only at h ⊢
    have hw : wantF ops s.fr.get ⟨dst, op, ty, pos, after, some (j, want)⟩ = some (b == want) := by simp [wantF, hg, hkn t b hk]
    cases hb : b == want with
    | true =>
     rw [hb, cond_true] at h; rw [cond_true]
     rcases stepOpK_of h with h | ⟨d, st', h1, h2⟩
     ·exact .inl h
     ·exact .inr ⟨d, st', by rw [hw, hb], h1, h2⟩
    | false =>
     rw [hb, cond_false] at h; rw [cond_false]
     cases hd : dstOk n dst with
     | true => rw [hd, cond_true] at h; exact .inl ⟨_, rfl, h⟩
     | false => rw [hd, cond_false] at h; exact h.elim
   | none =>
    rw [hk] at h
    simp only at h ⊢
    split at h
    ·rename_i x hf
     rw [hf]
     simp only
     have hw : wantF ops s.fr.get ⟨dst, op, ty, pos, after, some (j, want)⟩ = some (x == want) := by simp [wantF, hg, hf]
     cases hd : dstOk n dst with
     | false => rw [hd] at h; exact h.elim
     | true =>
      rw [hd, cond_true] at h; rw [cond_true]
      rcases h with ⟨hx, h⟩ | ⟨hx, h⟩
      ·subst hx
       cases want with
       | true =>
        rw [cond_true] at h
        rcases stepOpK_of h with ⟨s', h1, h2⟩ | ⟨d, st', h1, h2⟩
        ·exact .inl ⟨s', .inl ⟨rfl, h1⟩, h2⟩
        ·exact .inr ⟨d, st', hw, h1, h2⟩
       | false => rw [cond_false] at h; exact .inl ⟨_, .inl ⟨rfl, rfl⟩, h⟩
      ·subst hx
       cases want with
       | true => rw [cond_true] at h; exact .inl ⟨_, .inr ⟨rfl, rfl⟩, h⟩
       | false =>
        rw [cond_false] at h
        rcases stepOpK_of h with ⟨s', h1, h2⟩ | ⟨d, st', h1, h2⟩
        ·exact .inl ⟨s', .inr ⟨rfl, h1⟩, h2⟩
        ·exact .inr ⟨d, st', hw, h1, h2⟩
    ·rename_i hf
     rw [hf]
     simp only
     cases hd : dstOk n dst with
     | true => rw [hd, cond_true] at h; exact .inl ⟨_, rfl, h⟩
     | false => rw [hd, cond_false] at h; exact h.elim
    ·exact h.elim
def PanRun (c : Ctx) (n : Nat) (ops : Array Oper) (l : List Oper) (s : RSt) (d : D) (st' : St) : Prop :=
 ∃ pre o post s1, l = pre ++ o :: post ∧ (runOps c n ops pre s).leads s1 ∧ wantF ops s1.fr.get o = some true ∧ PanOp c o s1 d st'
theorem runOpsK_of {ops : Array Oper} : ∀ (l : List Oper) {s : RSt} {k : RSt → T α} {kp : D → St → T α} {r : α}, KnOk s.kn s.fr.get → (∀ o ∈ l, ∃ i : Nat, ops[i]? = some o) → (runOpsK (mkC P xid tab ro) tab n ops l s k kp).leads r →
  (∃ s', (runOps (mkC P xid tab ro) n ops l s).leads s' ∧ (k s').leads r) ∨ ∃ d st', PanRun (mkC P xid tab ro) n ops l s d st' ∧ (kp d st').leads r
 | [], s, k, kp, r, _, _, h => .inl ⟨s, rfl, h⟩
 | o :: l, s, k, kp, r, hk, hl, h => by
  rcases stepGK_of hk h with ⟨s1, h1, h2⟩ | ⟨d, st', h1, h2, h3⟩
  ·obtain ⟨i, hi⟩ := hl o List.mem_cons_self
   obtain ⟨_, _, hk1, _⟩ := stepG_run hi hk h1
   rcases runOpsK_of l hk1 (fun o' ho => hl o' (List.mem_cons_of_mem _ ho)) h2 with ⟨s2, h3, h4⟩ | ⟨d, st', ⟨pre, o', post, s2, e, g1, g2, g3⟩, h4⟩
   ·exact .inl ⟨s2, T.leads_bind'.2 ⟨s1, h1, h3⟩, h4⟩
   ·exact .inr ⟨d, st', ⟨o :: pre, o', post, s2, by rw [e]; rfl, T.leads_bind'.2 ⟨s1, h1, g1⟩, g2, g3⟩, h4⟩
  ·exact .inr ⟨d, st', ⟨[], o, l, s, rfl, rfl, h1, h2⟩, h3⟩
theorem runRegionK_of {ops : Array Oper} {draw : Bool} {fr : Fr} {kn : Kn} {st : St} {k : RSt → T α} {kp : D → St → T α} {r : α} (hk : KnOk kn fr.get) (h : (runRegionK (mkC P xid tab ro) tab n ops draw fr kn st k kp).leads r) :
  (∃ s', (runRegion (mkC P xid tab ro) n ops draw fr kn st).leads s' ∧ (k s').leads r) ∨ ∃ d st', draw = false ∧ PanRun (mkC P xid tab ro) n ops ops.toList ⟨fr, kn, st, [], []⟩ d st' ∧ (kp d st').leads r := by
 rcases runOpsK_of _ hk (fun o ho => by obtain ⟨i, hi, he⟩ := List.getElem_of_mem ho; exact ⟨i, by rw [← he]; simp at hi; simp [hi]⟩) h with ⟨s', h1, h2⟩ | ⟨d, st', h1, h2⟩
 ·cases hd : !draw || drawOk ops s'.ks.reverse s'.bk.reverse with
  | false => rw [hd] at h2; exact h2.elim
  | true =>
   rw [hd, cond_true] at h2
   refine .inl ⟨s', T.leads_bind'.2 ⟨s', h1, ?_⟩, h2⟩
   rw [hd]; rfl
 ·cases draw with
  | true => exact h2.elim
  | false => exact .inr ⟨d, st', rfl, h1, h2⟩
end
end
end Go.AM
namespace Go.AM
set_option linter.unusedSectionVars false
variable [Glob] [Dfs]
open Go.RowKit
theorem mapT_leads {α β : Type} {f : α → β} {t : T α} {x : α} (h : t.leads x) : (mapT f t).leads (f x) := by
 induction t with
 | ret a => exact congrArg f h
 | ite b p q ip iq => exact orMap h (fun h => ⟨h.1, ip h.2⟩) (fun h => ⟨h.1, iq h.2⟩)
 | obl p t ih => exact ⟨h.1, ih h.2⟩
 | fail => exact h.elim
theorem valI_eq : ∀ (l : List It) (d : denIts l) (t : T (denIts l)) (x : denIts l), t.leads x → valI l d t = x
 | [], _, _, _, _ => rfl
 | [_], d, t, x, h => ((T.preP_leads d t x).1 h).2
 | i :: j :: r, d, t, x, h => by
  have h1 := ((T.preP_leads d.1 _ _).1 (mapT_leads (f := Prod.fst) h)).2
  have h2 := valI_eq (j :: r) d.2 _ _ (mapT_leads (f := Prod.snd) h)
  show (T.val d.1 (mapT Prod.fst t), valI (j :: r) d.2 (mapT Prod.snd t)) = x
  rw [h1, h2]
  exact rfl
theorem preP_some {α : Type} (t : T α) (h : t.preP) : ∃ x, t.leads x := by
 induction t with
 | ret a => exact ⟨a, rfl⟩
 | ite b p q ip iq =>
  unfold T.preP at h ip iq
  simp only [T.preO] at h
  cases b with
  | true =>
   obtain ⟨x, hx⟩ := ip (by cases hp : p.preO <;> cases hq : q.preO <;> simp_all)
   exact ⟨x, .inl ⟨rfl, hx⟩⟩
  | false =>
   obtain ⟨x, hx⟩ := iq (by cases hp : p.preO <;> cases hq : q.preO <;> simp_all)
   exact ⟨x, .inr ⟨rfl, hx⟩⟩
 | obl p t ih =>
  unfold T.preP at h ih
  simp only [T.preO] at h
  cases ht : t.preO with
  | none => rw [ht] at h ih; obtain ⟨x, hx⟩ := ih trivial; exact ⟨x, h, hx⟩
  | some q => rw [ht] at h ih; obtain ⟨x, hx⟩ := ih h.2; exact ⟨x, h.1, hx⟩
 | fail => exact h.elim
theorem flatI_leads {l : List It} {t : T (denIts l)} {x : denIts l} (h : (flatI l t).leads x) : t.leads x := by
 unfold flatI at h
 split at h
 ·rename_i d hd
  have key : t.preP → valI l d t = x → t.leads x := by
   intro hp hv
   obtain ⟨y, hy⟩ := preP_some t hp
   rw [← hv, valI_eq l d t y hy]; exact hy
  split at h
  ·rename_i hn; exact key (by unfold T.preP; rw [hn]; trivial) h
  ·rename_i p hn; exact key (by unfold T.preP; rw [hn]; exact h.1) h.2
 ·exact h.elim
def RIs (ws : List Way) (r : denWs ws) (w : Way) (x : w.sh.den) : Prop := ∀ {α : Type} (k : Ex → Fr → St → T α), elimW ws r k = k w.ex (w.sh.fr x) (w.sh.st x)
theorem injW_is : ∀ (ws : List Way) (ex : Ex) (fr : Fr) (st : St) (r : denWs ws), (injW ws ex fr st).leads r → ∃ w, w ∈ ws ∧ ∃ x : w.sh.den, RIs ws r w x ∧ sameEx w.ex ex = true ∧ (w.sh.un fr st).leads x
 | [], _, _, _, _, h => h.elim
 | [w], ex, fr, st, r, h => by
  have h : (bif sameEx w.ex ex then w.sh.un fr st else .fail : T w.sh.den).leads r := h
  cases hs : sameEx w.ex ex with
  | false => rw [hs] at h; exact h.elim
  | true => rw [hs] at h; exact ⟨w, by simp, r, fun k => rfl, hs, h⟩
 | w :: v :: ws, ex, fr, st, r, h => by
  have h : (bif sameEx w.ex ex then (w.sh.un fr st).bind fun x => T.ret (Sum.inl x : w.sh.den ⊕ denWs (v :: ws)) else (injW (v :: ws) ex fr st).bind fun y => T.ret (Sum.inr y)).leads r := h
  cases hs : sameEx w.ex ex with
  | true =>
   rw [hs] at h
   obtain ⟨x, h1, h2⟩ := T.leads_bind'.1 h
   have h2 : (Sum.inl x : w.sh.den ⊕ denWs (v :: ws)) = r := h2
   subst h2
   exact ⟨w, by simp, x, fun k => rfl, hs, h1⟩
  | false =>
   rw [hs] at h
   obtain ⟨y, h1, h2⟩ := T.leads_bind'.1 h
   have h2 : (Sum.inr y : w.sh.den ⊕ denWs (v :: ws)) = r := h2
   subst h2
   obtain ⟨w', k1, x, k2, k3, k4⟩ := injW_is (v :: ws) ex fr st y h1
   exact ⟨w', List.mem_cons_of_mem _ k1, x, fun k => k2 k, k3, k4⟩
def WRel (κ : KS) (n : Nat) (w : Way) (z : w.sh.den) (a : Act) (ex' : Exit) : Prop := ∀ q, exOut w.ex (w.sh.fr z) = some q → Rel κ n q.2.get a ∧ ExRel κ q.1 ex'
theorem way_un {κ0 κ : KS} {n : Nat} {a : Act} {w : Way} {z : w.sh.den} {oex : Ex} {ofr : Fr} {ex' : Exit} (hx : Ext κ0 κ) (hI : Inv κ) (hR : Rel κ n ofr.get a) (he : ExRel κ oex ex') (hs : sameEx w.ex oex = true) (hl : κ0.st.length ≤ w.sh.bs.length)
  (h : (w.sh.un (exFr oex ofr) κ.st).leads z) : ∃ κ1 : KS, κ1.w = κ.w ∧ κ1.st = w.sh.st z ∧ Inv κ1 ∧ Ext κ0 κ1 ∧ WRel κ1 n w z a ex' := by
 have plain : exFr oex ofr = ofr → (∀ q, exOut w.ex (w.sh.fr z) = some q → q.2 = w.sh.fr z ∧ ∀ κ1 : KS, ExRel κ1 q.1 ex') → ∃ κ1 : KS, κ1.w = κ.w ∧ κ1.st = w.sh.st z ∧ Inv κ1 ∧ Ext κ0 κ1 ∧ WRel κ1 n w z a ex' := by
  intro e1 e2
  rw [e1] at h
  obtain ⟨κ1, q1, q2, q3, q4, q5, _⟩ := w.sh.un_ok (n := n) hx hI hR hl h
  exact ⟨κ1, q1, q2, q3, q4, fun q hq => by obtain ⟨g1, g2⟩ := e2 q hq; rw [g1]; exact ⟨q5, g2 κ1⟩⟩
 cases hw : w.ex with
 | normal =>
  rw [hw] at hs
  cases oex <;> first | (cases hs; done) | skip
  exact plain rfl fun q hq => by rw [hw] at hq; cases hq; exact ⟨rfl, fun _ => he⟩
 | ret =>
  rw [hw] at hs
  cases oex <;> first | (cases hs; done) | skip
  exact plain rfl fun q hq => by rw [hw] at hq; cases hq; exact ⟨rfl, fun _ => he⟩
 | exit id =>
  rw [hw] at hs
  cases oex <;> first | (cases hs; done) | skip
  rename_i id'
  have : id = id' := Nat.eq_of_beq_eq_true hs
  subst this
  exact plain rfl fun q hq => by rw [hw] at hq; cases hq; exact ⟨rfl, fun _ => he⟩
 | pan p =>
  rw [hw] at hs
  cases p <;> first | (cases hs; done) | skip
  rename_i t p
  cases oex <;> first | (cases hs; done) | skip
  rename_i p'
  cases p' <;> first | (cases hs; done) | skip
  rename_i t' d
  have : t = t' := Nat.eq_of_beq_eq_true hs
  subst this
  obtain ⟨v, rfl, hv⟩ := he
  cases hv with
  | iface _ _ u hu =>
   have hR1 : Rel κ 1 (exFr (.pan (.iface t d)) ofr).get { tmps := #[u], defers := Dfs.df } := by
    refine ⟨rfl, rfl, fun s d' hd => ?_⟩
    simp only [exFr, Fr.get] at hd
    cases hb : Nat.beq 0 s with
    | true =>
     rw [hb, cond_true] at hd
     cases hd
     have := Nat.eq_of_beq_eq_true hb
     subst this
     exact ⟨u, rfl, hu⟩
    | false => rw [hb, cond_false] at hd; cases hd
   obtain ⟨κ1, q1, q2, q3, q4, q5, _⟩ := w.sh.un_ok (n := 1) hx hI hR1 hl h
   refine ⟨κ1, q1, q2, q3, q4, fun q hq => ?_⟩
   rw [hw] at hq
   simp only [exOut] at hq
   split at hq
   ·rename_i d' hd'
    cases hq
    obtain ⟨v', g1, g2⟩ := q5.get 0 d' hd'
    cases g1
    exact ⟨⟨hR.size, hR.defers, fun s d hd => by cases hd⟩, _, rfl, .iface t d' _ g2⟩
   ·cases hq
theorem mkSt1_len (st : St) : ∀ (bs : List Bk) (bd : List Bd), (mkSt1 st bs bd).length ≤ bs.length
 | [], _ => by simp [mkSt1]
 | .arr _ :: r, [] => by simp [mkSt1]
 | .arr _ :: r, .v _ _ :: _ => by simp [mkSt1]
 | .arr _ :: r, .a _ _ :: d => by have := mkSt1_len st r d; simp [mkSt1]; exact this
 | .var _ :: r, [] => by simp [mkSt1]
 | .var _ :: r, .a _ _ :: _ => by simp [mkSt1]
 | .var _ :: r, .v _ _ :: d => by have := mkSt1_len st r d; simp [mkSt1]; exact this
 | .cvar _ :: r, d => by have := mkSt1_len st r d; cases d <;> (simp [mkSt1]; exact this)
 | .dead :: r, d => by have := mkSt1_len st r d; cases d <;> (simp [mkSt1]; exact this)
theorem Shp.st_len (s : Shp) (x : s.den) : (s.st x).length ≤ s.bs.length := mkSt1_len _ _ _
theorem get_append' {l m : Fr} {s : Nat} {d : D} (h : (l ++ m).get s = some d) : l.get s = some d ∨ m.get s = some d := by
 induction l with
 | nil => exact .inr h
 | cons p r ih =>
  obtain ⟨t, d'⟩ := p
  simp only [List.cons_append, Fr.get] at h ⊢
  cases ht : Nat.beq t s with
  | true => rw [ht, cond_true] at h; rw [cond_true]; exact .inl h
  | false => rw [ht, cond_false] at h; rw [cond_false]; exact ih h
theorem nones_get {l : List Nat} {fr : Fr} {s : Nat} {d : D} (h : (nones l ++ fr).get s = some d) : s ∉ l ∧ fr.get s = some d := by
 induction l with
 | nil => exact ⟨by simp, h⟩
 | cons t r ih =>
  simp only [nones, List.map_cons, List.cons_append, Fr.get] at h
  cases ht : Nat.beq t s with
  | true => rw [ht, cond_true] at h; cases h
  | false =>
   rw [ht, cond_false] at h
   obtain ⟨h1, h2⟩ := ih h
   refine ⟨?_, h2⟩
   simp only [List.mem_cons, not_or]
   exact ⟨fun e => by subst e; simp at ht, h1⟩
theorem dsts_mem {o : Oper} {s : Nat} : ∀ {l : List Oper}, o ∈ l → o.dst = some s → s ∈ dstsOf l
 | p :: r, h, hs => by
  simp only [dstsOf]
  rcases List.mem_cons.1 h with rfl | h
  ·rw [hs]; exact List.mem_cons_self
  ·split
   ·exact List.mem_cons_of_mem _ (dsts_mem h hs)
   ·exact dsts_mem h hs
def Kept (code : Code) (a a' : Act) : Prop := ∀ s : Nat, s ∉ writesOf code → a'.tmps[s]? = a.tmps[s]?
section
variable {P : Program} {xid : Nat} {tab : Tab} {ro : Nat → Bool} {n : Nat} {H : Hints}
theorem rel_after {κ κ' : KS} {fr out : Fr} {a a' : Act} {ws : List Nat} (hR : Rel κ n fr.get a) (hx : Ext κ κ') (ho : Rel κ' n out.get a') (hk : ∀ s : Nat, s ∉ ws → a'.tmps[s]? = a.tmps[s]?) : Rel κ' n (out ++ (nones ws ++ fr)).get a' := by
 refine ⟨ho.size, ho.defers, fun s d hd => ?_⟩
 rcases get_append' hd with h | h
 ·exact ho.get s d h
 ·obtain ⟨h1, h2⟩ := nones_get h
  obtain ⟨v, g1, g2⟩ := hR.get s d h2
  exact ⟨v, (hk s h1).trans g1, g2.mono hx⟩
theorem runOps_quiet {c : Ctx} {ops : Array Oper} : ∀ (l : List Oper) (s s' : RSt), (runOps c n ops l s).leads s' → quiet s'.ks = true → s'.st = s.st ∧ quiet s.ks = true := by
 have hq : ∀ {k : Nat} {ks : List Nat}, quiet (k :: ks) = true → Nat.beq k 2 = false ∧ quiet ks = true := by
  intro k ks h
  simp only [quiet, List.all_cons, Bool.and_eq_true, Bool.not_eq_true'] at h
  exact ⟨h.1, by unfold quiet; exact h.2⟩
 have one : ∀ (o : Oper) (s s1 : RSt), (stepOp c n o s).leads s1 → quiet s1.ks = true → s1.st = s.st ∧ quiet s.ks = true := by
  intro o s s1 h hk
  unfold stepOp at h
  cases hd : dstOk n o.dst with
  | false => rw [hd] at h; exact h.elim
  | true =>
   rw [hd, cond_true] at h
   obtain ⟨r, h1, h2⟩ := T.leads_bind'.1 h
   cases h2
   obtain ⟨g1, g2⟩ := hq hk
   refine ⟨?_, g2⟩
   show r.2 = s.st
   generalize evOpK c s.kn s.fr o = cl at h1 g1
   cases cl with
   | val t => obtain ⟨d, _, h3⟩ := T.leads_bind'.1 h1; cases h3; rfl
   | rd k => obtain ⟨d, _, h3⟩ := T.leads_bind'.1 h1; cases h3; rfl
   | wr k => cases g1
 have skp : ∀ (o : Oper) (s : RSt), quiet (skipOp o s).ks = true → (skipOp o s).st = s.st ∧ quiet s.ks = true := fun o s h => ⟨rfl, (hq h).2⟩
 have gd : ∀ (o : Oper) (s s1 : RSt), (stepG c n ops o s).leads s1 → quiet s1.ks = true → s1.st = s.st ∧ quiet s.ks = true := by
  intro o s s1 h hk
  obtain ⟨dst, op, ty, pos, after, guard⟩ := o
  cases guard with
  | none => exact one _ s s1 h hk
  | some jw =>
   obtain ⟨j, want⟩ := jw
   simp only [stepG] at h
   cases hg : guardSlot ops j with
   | none => rw [hg] at h; exact h.elim
   | some t =>
    rw [hg] at h
    simp only at h
    cases hkn : s.kn.get t with
    | some b =>
     rw [hkn] at h
     simp only at h
     cases hb : b == want with
     | true => rw [hb, cond_true] at h; exact one _ s s1 h hk
     | false =>
      rw [hb, cond_false] at h
      cases hd : dstOk n dst with
      | false => rw [hd] at h; exact h.elim
      | true => rw [hd, cond_true] at h; cases h; exact skp _ s hk
    | none =>
     rw [hkn] at h
     simp only at h
     split at h
     ·cases hd : dstOk n dst with
      | false => rw [hd] at h; exact h.elim
      | true =>
       rw [hd, cond_true] at h
       rcases h with ⟨_, h⟩ | ⟨_, h⟩
       ·cases want with
        | true => rw [cond_true] at h; exact one _ (s.know t true) s1 h hk
        | false => rw [cond_false] at h; cases h; exact skp _ (s.know t true) hk
       ·cases want with
        | true => rw [cond_true] at h; cases h; exact skp _ (s.know t false) hk
        | false => rw [cond_false] at h; exact one _ (s.know t false) s1 h hk
     ·cases hd : dstOk n dst with
      | false => rw [hd] at h; exact h.elim
      | true => rw [hd, cond_true] at h; cases h; exact skp _ s hk
     ·exact h.elim
 intro l
 induction l with
 | nil => intro s s' h hk; cases h; exact ⟨rfl, hk⟩
 | cons o l ih =>
  intro s s' h hk
  obtain ⟨s1, h1, h2⟩ := T.leads_bind'.1 h
  obtain ⟨g1, g2⟩ := ih s1 s' h2 hk
  obtain ⟨k1, k2⟩ := gd o s s1 h1 g2
  exact ⟨g1.trans k1, k2⟩
theorem region_quiet {c : Ctx} {ops : Array Oper} {draw : Bool} {fr : Fr} {kn : Kn} {st : St} {s' : RSt} (h : (runRegion c n ops draw fr kn st).leads s') (hq : quiet s'.ks = true) : s'.st = st := by
 obtain ⟨s1, h1, h2⟩ := T.leads_bind'.1 h
 cases hd : (!draw || drawOk ops s1.ks.reverse s1.bk.reverse) with
 | false => rw [hd] at h2; exact h2.elim
 | true => rw [hd, cond_true] at h2; cases h2; exact (runOps_quiet _ _ _ h1 hq).1
theorem call_pan {c : Ctx} {κ : KS} {a : Act} {o : Oper} {g : Nat} {args : Array Value} {R : Ending → World → Prop} (hrun : (execOp a.eval o).run c.P κ.w = (callFunc g args).run c.P κ.w)
  (h : CallDoes c.P g args κ.w R) {K : Act → World → Prop} {Q : Exit → Act → World → Prop} (hR : ∀ e w', R e w' → ∃ ch, e = .panicked ch ∧ Q (.panic ch) a w') : o.wp c.P a κ.w K Q := by
 unfold Oper.wp
 rw [hrun]
 rcases h with ⟨h1, h2⟩ | ⟨v, w', h1, h2⟩
 ·rw [h1]
  refine h2.mono fun e w' he => ?_
  obtain ⟨ch, rfl, hk⟩ := hR e w' he
  exact hk
 ·obtain ⟨u, hu, _⟩ := hR _ _ h2
  cases hu
theorem panop_wp {c : Ctx} {κ : KS} {n : Nat} {a : Act} {o : Oper} {s : RSt} {d : D} {st' : St} (hC : ∀ g, Snd c.P g (c.fn g)) (hI : Inv κ) (hR : Rel κ n s.fr.get a) (hst : κ.st = s.st) (h : PanOp c o s d st') {K : Act → World → Prop} {Q : Exit → Act → World → Prop}
  (hQ : ∀ (v : Value) (κ' : KS), κ'.st = st' → Inv κ' → Ext κ κ' → RD κ' d v → Q (.panic [{ v, recovered := false }]) a κ'.w) : o.wp c.P a κ.w K Q := by
 have hev : ∀ (x : Operand) (z : D), evalA s.fr x = some z → RD κ z (a.eval x) := fun x z hz => hR.eval (by rw [← evalA_eq]; exact hz)
 obtain ⟨dst, op, ty, pos, after, guard⟩ := o
 rcases h with ⟨x, t, e, rfl, hx, rfl, rfl⟩ | ⟨f, args, tys, rfl, g, caps, l, hp, hl, hc⟩
 ·have hv := hev x _ hx
  generalize hpe : a.eval x = pv at hv
  cases hv with
  | iface _ _ u hu =>
   have hrun : (execOp a.eval ⟨dst, .panic x, ty, pos, after, guard⟩).run c.P κ.w = .halt (.panic (.iface t u)) κ.w := by
    simp [execOp, hpe, Instr.panic, goPanic]
   unfold Oper.wp
   rw [hrun]
   exact hQ _ κ hst hI (Ext.refl κ) (.iface t e u hu)
 ·have hpv := hev f _ hp
  have hr := rds_of_opts (κ := κ) (vs := args.toList.map a.eval) hl (by simp) (fun i d v hd hv => by
      simp only [List.getElem?_map] at hd hv
      cases hi : args.toList[i]? with
      | none => rw [hi] at hd; cases hd
      | some x => rw [hi] at hd hv; simp at hd hv; subst hv; exact hev x d hd)
  generalize hpe : a.eval f = pv at hpv
  cases hpv with
  | clo _ _ us hl2 hh2 =>
   have hall := cloA_rds g hr (⟨hl2, hh2⟩ : RDs κ caps us)
   rw [← hst] at hc
   refine call_pan (c := c) (κ := κ) (g := cloF g) (args := (cloA g (args.toList.map a.eval) us).toArray) ?_ (hC (cloF g) κ _ _ _ _ hc hI hall) ?_
   ·exact call_run hpe
   ·rintro e w' ⟨κ', rfl, h1, h2, h3, v, rfl, h4⟩
    exact ⟨_, rfl, hQ v κ' h1 h2 h3 h4⟩
theorem panrun_wp {c : Ctx} {κ : KS} {n : Nat} {a : Act} {id : Nat} {ops : Array Oper} {fr : Fr} {kn : Kn} {d : D} {st' : St} (hC : ∀ g, Snd c.P g (c.fn g)) (hI : Inv κ) (hR : Rel κ n fr.get a) (hk : KnOk kn fr.get)
  (h : PanRun c n ops ops.toList ⟨fr, kn, κ.st, [], []⟩ d st') {Q : Exit → Act → World → Prop}
  (hQ : ∀ (v : Value) (a' : Act) (κ' : KS), κ'.st = st' → Inv κ' → Ext κ κ' → Rel κ' n (Fr.get []) a' → Keep ops a a' → RD κ' d v → Q (.panic [{ v, recovered := false }]) a' κ'.w) : (Code.region id ops false).wp c.P Q a κ.w := by
 obtain ⟨pre, o, post, s1, e, h1, h2, h3⟩ := h
 have hget : ∀ j : Nat, ops[j]? = (pre ++ o :: post)[j]? := fun j => by rw [← e]; simp
 obtain ⟨ks, g1, g2, _⟩ := runOps_run pre 0 ⟨fr, kn, κ.st, [], []⟩ s1 (fun j => by
  by_cases hj : j < pre.length
  ·left; rw [Nat.zero_add, hget, List.getElem?_append_left hj]
  ·right; omega) hk h1
 have hsz : List.range ops.size = List.range' 0 pre.length ++ pre.length :: List.range' (pre.length + 1) post.length := by
  have : ops.size = pre.length + (post.length + 1) := by rw [← Array.length_toList, e]; simp
  rw [this, List.range_eq_range', ← List.range'_append_1, Nat.zero_add, List.range'_succ]
 refine wp_region ?_
 rw [hsz]
 refine orun_tail hC _ _ hI hR rfl g1 fun a' κ' e1 e2 e3 e4 e5 => ?_
 rw [wpOps_cons]
 unfold wpOp
 have ho : ops[pre.length]? = some o := by rw [hget]; simp
 rw [ho]
 simp only
 rw [if_pos (wanted_of e4 h2)]
 exact .inl (panop_wp hC e2 e4 e1 h3 fun v κ'' f1 f2 f3 f4 => hQ v a' κ'' f1 f2 (e3.trans f3) ⟨e4.size, e4.defers, fun s d hd => by cases hd⟩ e5 f4)
def LoopOkK (P : Program) (n : Nat) (l : LoopD) (b : Code) : Prop := ∀ (κ : KS) (a : Act) (p : denIts l.ps) (s : l.sh.den) (r : denWs l.ws), (l.F p s).leads r → κ.st = l.sh.st s → Inv κ →
 Rel κ n (l.sh.fr s).get a → Rel κ n (mkFr (l.sh.st s) l.ps p).get a → psOk l.ps (writesOf b) = true → (∀ w ∈ l.ws, l.sh.bs.length ≤ w.sh.bs.length) →
 ∀ Q : Exit → Act → World → Prop, (∀ (w : Way) (x : w.sh.den) (ex' : Exit) (a' : Act) (κ' : KS), w ∈ l.ws → RIs l.ws r w x → κ'.st = w.sh.st x → Inv κ' → Ext κ κ' → WRel κ' n w x a' ex' → Kept b a a' → Q ex' a' κ'.w) →
  (Code.loop b).wp P Q a κ.w
def LoopsOkK (P : Program) (n : Nat) (H : Hints) (code : Code) : Prop := ∀ p ∈ loopsOf code, ∀ l, H.loop p.1 = some l → LoopOkK P n l p.2
theorem frz_kn {kn : Kn} : ∀ (l : List Nat) {fr : Fr} {st : St} {r : Fr × St}, (frz l fr st).leads r → KnOk kn fr.get → KnOk kn r.1.get
 | [], fr, st, r, h, hk => by cases h; exact hk
 | s :: l, fr, st, r, h, hk => by
  obtain ⟨x, h1, h2⟩ := T.leads_bind'.1 h
  refine frz_kn l h2 fun t b hb => ?_
  have hf := hk t b hb
  unfold frzW at h1
  cases hW : Nat.ble 1000000 s with
  | true =>
   rw [hW, cond_true] at h1
   have hfr : x.1 = fr := by
    unfold frzV at h1
    split at h1
    ·split at h1
     ·split at h1
      ·split at h1
       ·obtain ⟨_, h1⟩ := h1; cases h1; rfl
       ·exact h1.elim
      ·exact h1.elim
     ·cases h1; rfl
    ·cases h1; rfl
   rw [hfr]; exact hf
  | false =>
  rw [hW, cond_false] at h1
  unfold frz1 at h1
  split at h1
  ·rename_i b' ver e off len hs
   split at h1
   ·split at h1
    ·obtain ⟨_, h1⟩ := h1
     cases h1
     simp only [Fr.get]
     cases ht : Nat.beq s t with
     | true => rw [← Nat.eq_of_beq_eq_true ht, hs] at hf; cases hf
     | false => rw [cond_false]; exact hf
    ·exact h1.elim
   ·exact h1.elim
  ·cases h1; exact hf
theorem run_nilq {c : Ctx} {t e : Nat} (hu : c.P.underlying t = some (.slice e)) {op : BinOp} {b : Bool} (hop : nilOp op = some b) (px py : Operand) (w : World) (x : Option Addr) (l k : Nat) :
  (do eqGuard op t px py (.slice x l k) (.slice none 0 0); binOp op t (.slice x l k) (.slice none 0 0) : Sem Value).run c.P w = .ok (.bool (if b = true then x.isNone else !x.isNone)) w := by
 cases op <;> simp only [nilOp] at hop <;> cases hop
 ·have := run_eql_slice_nil (P := c.P) w t e x l k hu
  simp only [Sem.run_bind, eqGuard, Sem.run_pure]
  simpa using this
 ·have := run_neq_slice_nil (P := c.P) w t e x l k hu
  simp only [Sem.run_bind, eqGuard, Sem.run_pure]
  simpa using this
theorem nil_region {ops : Array Oper} {fr : Fr} {p : NilP} (hp : nilPat (mkC P xid tab ro) n ops fr = some p) {κ : KS} {a : Act} {kn : Kn} (hI : Inv κ) (hR : Rel κ n fr.get a) (hk : KnOk kn fr.get) {id : Nat} (Q : Exit → Act → World → Prop)
  (hQ : ∀ a' : Act, Kept (.region id ops false) a a' →
   ((p.l = [] ∧ Rel κ n (Fr.get ((p.c, some (.imm .bool p.eq)) :: (p.m, some .nilsl) :: (p.s, some .nilsl) :: fr)) a') ∨ Rel κ n (Fr.get ((p.c, some (.imm .bool (!p.eq))) :: (p.m, some (.imm (.sl p.e) p.l)) :: fr)) a') → Q .normal a' κ.w) :
  (Code.region id ops false).wp P Q a κ.w := by
 unfold nilPat at hp
 split at hp
 ·rename_i o1 o2 hops
  split at hp
  ·rename_i m s hd1 ho1 hg1
   split at hp
   ·rename_i cc op t m' y ty' hd2 ho2 hg2
    split at hp
    ·rename_i b e l et hop hs hel
     cases hc : Nat.beq m m' && isNilC y && Nat.blt m n && Nat.blt cc n with
     | false => rw [hc] at hp; cases hp
     | true =>
      rw [hc, cond_true] at hp
      cases hp
      simp only [Bool.and_eq_true] at hc
      obtain ⟨⟨⟨hmm, hy⟩, hmn⟩, hcn⟩ := hc
      have := Nat.eq_of_beq_eq_true hmm
      subst this
      have hy' : y = .const (.slice none 0 0) := by
       unfold isNilC at hy
       split at hy
       ·rfl
       ·cases hy
      subst hy'
      obtain ⟨v, hv, hd'⟩ := hR.get s _ hs
      obtain ⟨x, k, hvs⟩ : ∃ (x : Option Addr) (k : Nat), v = .slice x l.length k ∧ (x = none → l = [] ∧ k = 0) := by
       rcases (hd'.imm_one rfl).sl_inv with ⟨rfl, a0, he⟩ | ⟨blk, off, cap, f, he, hok, hcap, h1, h2⟩
       ·cases he; exact ⟨a0, 0, rfl, fun _ => ⟨rfl, rfl⟩⟩
       ·cases he; exact ⟨_, cap, rfl, nofun⟩
      obtain ⟨rfl, hvn⟩ := hvs
      have hsz : ops.size = 2 := by rw [← Array.length_toList, hops]; rfl
      have e0 : ops[0]? = some o1 := by rw [← Array.getElem?_toList, hops]; rfl
      have e1 : ops[1]? = some o2 := by rw [← Array.getElem?_toList, hops]; rfl
      have hmn' : m < n := Nat.le_of_ble_eq_true hmn
      have hcn' : cc < n := Nat.le_of_ble_eq_true hcn
      have hsl : a.tmps.getD s undef = .slice x l.length k := by simp [Array.getD_eq_getD_getElem?, hv]
      have wan : ∀ (o : Oper) (ys : Nat → Option Value), o.guard = none → True := fun _ _ _ => trivial
      refine wp_region ?_
      rw [hsz, show List.range 2 = [0, 1] from rfl, wpOps_cons]
      unfold wpOp
      rw [e0]
      simp only
      rw [if_pos (by unfold Region.wanted; rw [hg1])]
      refine .inl ?_
      obtain ⟨d1, op1, ty1, pos1, af1, gu1⟩ := o1
      obtain ⟨d2, op2, ty2, pos2, af2, gu2⟩ := o2
      simp only at hd1 ho1 hg1 hd2 ho2 hg2
      subst hd1 ho1 hg1 hd2 ho2 hg2
      have hx1 : (execOp a.eval ⟨some m, .move (.tmp s), ty1, pos1, af1, none⟩).run P κ.w = .ok (.value (.slice x l.length k)) κ.w := by
       simp [execOp, Act.eval, hsl]
      unfold Oper.wp
      rw [hx1, Oper.upon_value, wpOps_cons]
      unfold wpOp
      rw [e1]
      simp only
      rw [if_pos (by unfold Region.wanted; rfl)]
      refine .inl ?_
      have hev : (a.put (some m) (.slice x l.length k)).eval (.tmp m) = .slice x l.length k := by
       have := hR.size
       simp [Act.eval, Act.put, Array.getD_eq_getD_getElem?, Array.getElem?_setIfInBounds, this, hmn']
      have hu := elemT_spec hel
      have hrun := run_nilq (c := mkC P xid tab ro) hu hop (.tmp m) (.const (.slice none 0 0)) κ.w x l.length k
      have hx2 : (execOp (a.put (some m) (.slice x l.length k)).eval ⟨some cc, .binOp op t (.tmp m) (.const (.slice none 0 0)) ty', ty2, pos2, af2, none⟩).run P κ.w = .ok (.value (.bool (if b = true then x.isNone else !x.isNone))) κ.w := by
       have hex : execOp (a.put (some m) (.slice x l.length k)).eval ⟨some cc, .binOp op t (.tmp m) (.const (.slice none 0 0)) ty', ty2, pos2, af2, none⟩ =
        (do Pure.pure (.value (← (do eqGuard op t (.tmp m) (.const (.slice none 0 0)) ((a.put (some m) (.slice x l.length k)).eval (.tmp m)) (.slice none 0 0); binOp op t ((a.put (some m) (.slice x l.length k)).eval (.tmp m)) (.slice none 0 0))))) := rfl
       rw [hex, hev, Sem.run_bind]
       rw [show (do eqGuard op t (.tmp m) (.const (.slice none 0 0)) (.slice x l.length k) (.slice none 0 0); binOp op t (.slice x l.length k) (.slice none 0 0) : Sem Value).run P κ.w = _ from hrun]
       rfl
      unfold Oper.wp
      rw [hx2, Oper.upon_value]
      have hput : ∀ (q : Nat) (u : Value) (a1 : Act) (t : Nat), (a1.put (some q) u).tmps[t]? = if q = t then (if q < a1.tmps.size then some u else none) else a1.tmps[t]? := by
       intro q u a1 t
       simp only [Act.put, Array.getElem?_setIfInBounds]
      have hs1 : (a.put (some m) (.slice x l.length k)).tmps.size = n := by simp [Act.put, hR.size]
      have hs2 : ((a.put (some m) (.slice x l.length k)).put (some cc) (.bool (if b = true then x.isNone else !x.isNone))).tmps.size = n := by simp [Act.put, hR.size]
      refine hQ _ (fun t ht => ?_) ?_
      ·have hw : writesOf (.region id ops false) = [m, cc] := by simp only [writesOf, hops, dstsOf]
       rw [hw] at ht
       simp only [List.mem_cons, List.not_mem_nil, or_false, not_or] at ht
       rw [hput, if_neg (fun e => ht.2 e.symm), hput, if_neg (fun e => ht.1 e.symm)]
      ·have get : ∀ (t : Nat), ((a.put (some m) (.slice x l.length k)).put (some cc) (.bool (if b = true then x.isNone else !x.isNone))).tmps[t]? = if cc = t then some (.bool (if b = true then x.isNone else !x.isNone)) else if m = t then some (.slice x l.length k) else a.tmps[t]? := by
        intro t
        rw [hput, hput, hs1, if_pos hcn', hR.size, if_pos hmn']
       have nbeq : ∀ {i j : Nat}, Nat.beq i j = false → i ≠ j := fun h e => by subst e; simp at h
       cases x with
       | none =>
        obtain ⟨hl, hk0⟩ := hvn rfl
        subst hl hk0
        refine .inl ⟨rfl, hs2, hR.defers, fun t d hd => ?_⟩
        rw [get]
        simp only [Fr.get] at hd
        cases h1 : Nat.beq cc t with
        | true =>
         rw [h1, cond_true] at hd; cases hd
         rw [if_pos (Nat.eq_of_beq_eq_true h1)]
         refine ⟨_, rfl, ?_⟩
         cases b <;> exact .bool
        | false =>
         rw [h1, cond_false] at hd
         rw [if_neg (nbeq h1)]
         cases h2 : Nat.beq m t with
         | true => rw [h2, cond_true] at hd; cases hd; rw [if_pos (Nat.eq_of_beq_eq_true h2)]; exact ⟨_, rfl, .nilsl⟩
         | false =>
          rw [h2, cond_false] at hd
          rw [if_neg (nbeq h2)]
          cases h3 : Nat.beq s t with
          | true => rw [h3, cond_true] at hd; cases hd; rw [← Nat.eq_of_beq_eq_true h3]; exact ⟨_, hv, .nilsl⟩
          | false => rw [h3, cond_false] at hd; exact hR.get t d hd
       | some x =>
        refine .inr ⟨hs2, hR.defers, fun t d hd => ?_⟩
        rw [get]
        simp only [Fr.get] at hd
        cases h1 : Nat.beq cc t with
        | true =>
         rw [h1, cond_true] at hd; cases hd
         rw [if_pos (Nat.eq_of_beq_eq_true h1)]
         refine ⟨_, rfl, ?_⟩
         cases b <;> exact .bool
        | false =>
         rw [h1, cond_false] at hd
         rw [if_neg (nbeq h1)]
         cases h2 : Nat.beq m t with
         | true => rw [h2, cond_true] at hd; cases hd; rw [if_pos (Nat.eq_of_beq_eq_true h2)]; exact ⟨_, rfl, hd'⟩
         | false => rw [h2, cond_false] at hd; rw [if_neg (nbeq h2)]; exact hR.get t d hd
    ·cases hp
   ·cases hp
  ·cases hp
 ·cases hp
theorem evk_block {id : Nat} {b : Code} (hb : ∀ b', b ≠ .loop b') (fr : Fr) (kn : Kn) (st : St) {α : Type} (k : KOut → T α) : evk (mkC P xid tab ro) tab n H (.block id b) fr kn st k = evk (mkC P xid tab ro) tab n H b fr kn st fun r => match r.ex with
  | .exit id' => bif Nat.beq id' id then k { r with ex := .normal } else k r
  | _ => k r := by
 cases b <;> first | rfl | exact absurd rfl (hb _)
theorem evk_wp (hm : (mkC P xid tab ro).P.follows .mixedOrders = true) (hT : TabOk P tab) : ∀ (code : Code), LoopsOkK P n H code → ∀ {fr : Fr} {kn : Kn} {κ : KS} {a : Act} {α : Type} {k : KOut → T α} {r : α},
  (evk (mkC P xid tab ro) tab n H code fr kn κ.st k).leads r → Inv κ → Rel κ n fr.get a → KnOk kn fr.get →
  ∀ Q : Exit → Act → World → Prop, (∀ (o : KOut) (ex' : Exit) (a' : Act) (κ' : KS), (k o).leads r → κ'.st = o.st → Inv κ' → Ext κ κ' → Rel κ' n o.fr.get a' → KnOk o.kn o.fr.get → Kept code a a' → (o.q = true → o.st = κ.st) → ExRel κ' o.ex ex' → Q ex' a' κ'.w) →
   code.wp P Q a κ.w := by
 intro code
 induction code with
 | skip => intro _ fr kn κ a α k r h hI hR hk Q hQ; exact wp_skip (hQ _ _ a κ h rfl hI (Ext.refl κ) hR hk (fun _ _ => rfl) (fun _ => rfl) rfl)
 | exit id => intro _ fr kn κ a α k r h hI hR hk Q hQ; exact wp_exit (hQ _ _ a κ h rfl hI (Ext.refl κ) hR hk (fun _ _ => rfl) (fun _ => rfl) rfl)
 | ret => intro _ fr kn κ a α k r h hI hR hk Q hQ; exact wp_ret (hQ _ _ a κ h rfl hI (Ext.refl κ) hR hk (fun _ _ => rfl) (fun _ => rfl) rfl)
 | region id ops draw =>
  intro _ fr kn κ a α k r h hI hR hk Q hQ
  simp only [evk] at h
  obtain ⟨z, h0, h⟩ := T.leads_bind'.1 h
  obtain ⟨κ0, w1, w2, w3, w4, w5⟩ := frz_ok _ h0 hI hR
  have hk0 := frz_kn _ h0 hk
  rcases runRegionK_of hk0 h with ⟨s, h1, h2⟩ | ⟨d, st', rfl, h1, h2⟩
  rotate_left
  ·rw [← w2] at h1
   rw [← w1]
   exact panrun_wp (mkC_snd hT) w3 w5 hk0 h1 fun v a' κ' e1 e2 e3 e4 e5 e6 => hQ ⟨.pan d, [], [], st', false⟩ _ a' κ' h2 e1 e2 (w4.trans e3) e4 (knNil _) (fun t ht => e5 t fun o ho he => ht (dsts_mem ho he)) (fun hq => by cases hq) ⟨v, rfl, e6⟩
  rw [← w2] at h1
  have hk' := region_kn hk0 h1
  rw [← w1]
  refine (region_wp hm (mkC_snd hT) w3 w5 hk0 h1 fun a' κ' e1 e2 e3 e4 e5 => hQ ⟨.normal, s.fr, s.kn, s.st, quiet s.ks && (H.frz id).isEmpty⟩ _ a' κ' h2 e1 e2 (w4.trans e3) e4 hk' (fun t ht => e5 t fun o ho he => ht (dsts_mem ho he)) (fun hq => ?_) rfl).1
  simp only [Bool.and_eq_true] at hq
  have he : H.frz id = [] := List.isEmpty_iff.1 hq.2
  rw [he] at h0
  cases h0
  exact (region_quiet h1 hq.1).trans w2
 | seq x y ix iy =>
  intro hl fr kn κ a α k r h hI hR hk Q hQ
  have hlx : LoopsOkK P n H x := fun p hp => hl p (by simp only [loopsOf, List.mem_append]; exact .inl hp)
  have hly : LoopsOkK P n H y := fun p hp => hl p (by simp only [loopsOf, List.mem_append]; exact .inr hp)
  have kx : ∀ {a a' : Act}, Kept x a a' → Kept (.seq x y) a a' := fun h s hs => h s fun e => hs (by simp only [writesOf, List.mem_append]; exact .inl e)
  have ky : ∀ {a a' : Act}, Kept y a a' → Kept (.seq x y) a a' := fun h s hs => h s fun e => hs (by simp only [writesOf, List.mem_append]; exact .inr e)
  simp only [evk] at h
  split at h
  ·refine wp_seq (ix hlx h hI hR hk _ fun o ex' a' κ' e0 e1 e2 e3 e4 e4' e5 e5q e6 => ?_)
   cases hex : o.ex <;> rw [hex] at e0 e6 <;> simp only at e0
   ·cases e6
    refine iy hly (κ := κ') (e1 ▸ e0) e2 e4 e4' Q fun o' ex'' a'' κ'' f0 f1 f2 f3 f4 f4' f5 f5q f6 => hQ { o' with q := o.q && o'.q } ex'' a'' κ'' f0 f1 f2 (e3.trans f3) f4 f4' (fun s hs => (ky f5 s hs).trans (kx e5 s hs)) ?_ f6
    intro hq
    simp only [Bool.and_eq_true] at hq
    exact (f5q hq.2).trans (e1.trans (e5q hq.1))
   ·cases e6; exact hQ o _ a' κ' e0 e1 e2 e3 e4 e4' (kx e5) e5q (by rw [hex]; rfl)
   ·cases e6; exact hQ o _ a' κ' e0 e1 e2 e3 e4 e4' (kx e5) e5q (by rw [hex]; rfl)
   ·obtain ⟨v, rfl, hv⟩ := e6
    exact hQ o _ a' κ' e0 e1 e2 e3 e4 e4' (kx e5) e5q (by rw [hex]; exact ⟨v, rfl, hv⟩)
  ·rename_i its hcu
   cases hw : slotsOnly its with
   | false => rw [hw] at h; exact h.elim
   | true =>
    rw [hw, cond_true] at h
    obtain ⟨z, h1, h2⟩ := T.leads_bind'.1 h
    have h1 := flatI_leads h1
    refine wp_seq (ix hlx h1 hI hR hk _ fun o ex' a' κ' e0 e1 e2 e3 e4 e4' e5 e5q e6 => ?_)
    cases hex : o.ex <;> rw [hex] at e0 e6 <;> simp only at e0
    ·cases e6
     cases hq : o.q with
     | false => rw [hq] at e0; exact e0.elim
     | true =>
      rw [hq, cond_true] at e0
      have hst : o.st = κ.st := e5q hq
      have hRz : Rel κ' n (mkFr κ.st its z).get a' := by
       refine ⟨e4.size, e4.defers, fun t d hd => ?_⟩
       obtain ⟨k', y', d0, g0, g1, g2, g3⟩ := (unIts_ok (p := fun _ => true) (st' := κ.st) its [] z (fun _ _ => rfl) e0).2 _ (get_mem hd)
       cases g3
       obtain ⟨v, q1, q2⟩ := e4.get _ _ g1
       have hpl := List.all_eq_true.1 hw _ g0
       have hpl : plainDk k' = true := hpl
       have hwk : Wk κ' κ' := ⟨rfl, rfl, rfl, rfl, fun b d h => ⟨d, h⟩, fun b v e xs h => .inl h, fun b v e xs h => h, fun b h => h⟩
       have hok : okDk [] k' = true := by cases k' <;> first | rfl | cases hpl
       rw [← e1] at g2
       have := unDk_rd hwk (bs := []) hok (fun _ _ => rfl) (st' := κ'.st) (fun _ _ => rfl) (fun _ h => by simp [rowAt] at h) g2 q2
       have he : mkDk κ'.st k' y' = mkDk κ.st k' y' := by cases k' <;> first | rfl | cases hpl
       rw [he] at this
       exact ⟨v, q1, this⟩
      have hR1 := rel_after hR e3 hRz e5
      refine iy hly (κ := κ') (by rw [e1, hst]; exact h2) e2 hR1 (knNil _) Q fun o' ex'' a'' κ'' f0 f1 f2 f3 f4 f4' f5 f5q f6 => hQ o' ex'' a'' κ'' f0 f1 f2 (e3.trans f3) f4 f4' (fun s hs => (ky f5 s hs).trans (kx e5 s hs)) (fun hq => (f5q hq).trans (e1.trans hst)) f6
    ·exact e0.elim
    ·exact e0.elim
    ·exact e0.elim
  ·rename_i hcu
   cases hop : opsOf x with
   | none => rw [hop] at h; exact h.elim
   | some ops =>
    rw [hop] at h
    simp only at h
    cases hp : nilPat (mkC P xid tab ro) n ops fr with
    | none => rw [hp] at h; exact h.elim
    | some p =>
     rw [hp] at h
     obtain ⟨hnil, hnon⟩ := h
     obtain ⟨id, rfl⟩ : ∃ id, x = .region id ops false := by
      cases x with
      | region id ops' draw =>
       cases draw with
       | true => cases hop
       | false => cases hop; exact ⟨id, rfl⟩
      | _ => cases hop
     refine wp_seq (nil_region hp hI hR hk _ ?_)
     intro a' hk1 hcase
     rcases hcase with ⟨hl, hR1⟩ | hR1
     ·refine iy hly (κ := κ) (hnil hl _ hnon) hI hR1 (fun t b hb => ?_) Q fun o' ex'' a'' κ'' f0 f1 f2 f3 f4 f4' f5 f5q f6 => hQ o' ex'' a'' κ'' f0 f1 f2 f3 f4 f4' (fun s hs => (ky f5 s hs).trans (kx hk1 s hs)) f5q f6
      simp only [Kn.get] at hb
      simp only [Fr.get]
      cases ht : Nat.beq p.c t with
      | true => rw [ht, cond_true] at hb; rw [cond_true]; cases hb; rfl
      | false => rw [ht, cond_false] at hb; cases hb
     ·refine iy hly (κ := κ) hnon hI hR1 (fun t b hb => ?_) Q fun o' ex'' a'' κ'' f0 f1 f2 f3 f4 f4' f5 f5q f6 => hQ o' ex'' a'' κ'' f0 f1 f2 f3 f4 f4' (fun s hs => (ky f5 s hs).trans (kx hk1 s hs)) f5q f6
      simp only [Kn.get] at hb
      simp only [Fr.get]
      cases ht : Nat.beq p.c t with
      | true => rw [ht, cond_true] at hb; rw [cond_true]; cases hb; rfl
      | false => rw [ht, cond_false] at hb; cases hb
  ·rename_i ws hcu
   cases hw : ws.all fun w => Nat.ble κ.st.length w.sh.bs.length with
   | false => rw [hw] at h; exact h.elim
   | true =>
    rw [hw, cond_true] at h
    obtain ⟨rr, h1', h2⟩ := T.leads_bind'.1 h
    refine wp_seq (ix hlx h1' hI hR hk _ fun o ex' a' κ' e0 e1 e2 e3 e4 e4' e5 _ e6 => ?_)
    obtain ⟨w, g1, z, g2, g3, g4⟩ := injW_is _ _ _ _ _ e0
    have hwl := List.all_eq_true.1 hw w g1
    obtain ⟨κ1, q1, q2, q3, q4, q5⟩ := way_un (n := n) e3 e2 e4 e6 g3 (Nat.le_of_ble_eq_true hwl) (by rw [e1]; exact g4)
    rw [g2] at h2
    split at h2
    ·exact h2.elim
    rename_i zz hzz
    obtain ⟨q5, hex1⟩ := q5 zz hzz
    have hR1 := rel_after hR q4 q5 e5
    rw [← q1]
    cases hex : zz.1 <;> rw [hex] at h2 hex1 <;> simp only at h2
    ·cases hex1
     exact iy hly (κ := κ1) (by rw [q2]; exact h2) q3 hR1 (knNil _) Q fun o' ex'' a'' κ'' f0 f1 f2 f3 f4 f4' f5 _ f6 => hQ { o' with q := false } ex'' a'' κ'' f0 f1 f2 (q4.trans f3) f4 f4' (fun s hs => (ky f5 s hs).trans (kx e5 s hs)) (fun hq => by cases hq) f6
    ·cases hex1; exact hQ _ _ a' κ1 h2 q2 q3 q4 hR1 (knNil _) (kx e5) (fun hq => by cases hq) rfl
    ·cases hex1; exact hQ _ _ a' κ1 h2 q2 q3 q4 hR1 (knNil _) (kx e5) (fun hq => by cases hq) rfl
    ·obtain ⟨v, rfl, hv⟩ := hex1
     exact hQ _ _ a' κ1 h2 q2 q3 q4 hR1 (knNil _) (kx e5) (fun hq => by cases hq) ⟨v, rfl, hv⟩
 | cond x p q ip iq =>
  intro hl fr kn κ a α k r h hI hR hk Q hQ
  have hlp : LoopsOkK P n H p := fun z hz => hl z (by simp only [loopsOf, List.mem_append]; exact .inl hz)
  have hlq : LoopsOkK P n H q := fun z hz => hl z (by simp only [loopsOf, List.mem_append]; exact .inr hz)
  have kp : ∀ {a a' : Act}, Kept p a a' → Kept (.cond x p q) a a' := fun h s hs => h s fun e => hs (by simp only [writesOf, List.mem_append]; exact .inl e)
  have kq : ∀ {a a' : Act}, Kept q a a' → Kept (.cond x p q) a a' := fun h s hs => h s fun e => hs (by simp only [writesOf, List.mem_append]; exact .inr e)
  have hQp := fun (o : KOut) (ex' : Exit) (a' : Act) (κ' : KS) f0 f1 f2 f3 f4 f4' (f5 : Kept p a a') f5q f6 => hQ o ex' a' κ' f0 f1 f2 f3 f4 f4' (kp f5) f5q f6
  have hQq := fun (o : KOut) (ex' : Exit) (a' : Act) (κ' : KS) f0 f1 f2 f3 f4 f4' (f5 : Kept q a a') f5q f6 => hQ o ex' a' κ' f0 f1 f2 f3 f4 f4' (kq f5) f5q f6
  simp only [evk] at h
  split at h
  ·rename_i hx
   have hv : evalF fr.get x = some (.imm .bool true) := knownA_ok hk hx
   exact wp_cond_true (hR.eval hv).bool_inv (ip hlp h hI hR hk Q hQp)
  ·rename_i hx
   have hv : evalF fr.get x = some (.imm .bool false) := knownA_ok hk hx
   exact wp_cond_false (hR.eval hv).bool_inv (iq hlq h hI hR hk Q hQq)
  ·split at h
   ·split at h
    ·rename_i v hv
     have he := hv
     rw [show ∀ t, fr.get t = evalF fr.get (.tmp t) from fun _ => rfl] at he
     rcases h with ⟨rfl, h⟩ | ⟨rfl, h⟩
     ·exact wp_cond_true (hR.eval he).bool_inv (ip hlp h hI hR (know_ok hk hv) Q hQp)
     ·exact wp_cond_false (hR.eval he).bool_inv (iq hlq h hI hR (know_ok hk hv) Q hQq)
    ·exact h.elim
   ·exact h.elim
 | block id b ib =>
  intro hl fr kn κ a α k r h hI hR hk Q hQ
  by_cases hb : ∃ b', b = .loop b'
  ·obtain ⟨b, rfl⟩ := hb
   simp only [evk] at h
   split at h
   ·exact h.elim
   ·rename_i l hll
    cases hc : Nat.ble (gh l.gh fr κ.st).2.length l.sh.bs.length && psOk l.ps (writesOf b) && l.ws.all fun w => Nat.ble l.sh.bs.length w.sh.bs.length with
    | false => rw [hc] at h; exact h.elim
    | true =>
     rw [hc, cond_true] at h
     simp only [Bool.and_eq_true, List.all_eq_true] at hc
     obtain ⟨⟨hc1, hc2⟩, hc3⟩ := hc
     obtain ⟨p, h1, h⟩ := T.leads_bind'.1 h
     obtain ⟨s, h2, h⟩ := T.leads_bind'.1 h
     obtain ⟨rr, h3, h4⟩ := T.leads_bind'.1 h
     obtain ⟨κ1, w1, w2, w3, w4, w5⟩ := gh_ok l.gh fr κ hI hR
     rw [← w2] at h1 h2 hc1
     obtain ⟨κ2, q1, q2, q3, q4, q5, _⟩ := l.sh.un_ok (n := n) (Ext.refl κ1) w3 w5 (Nat.le_of_ble_eq_true hc1) h2
     -- the loop's parameters
     have hps : Rel κ2 n (mkFr (l.sh.st s) l.ps p).get a := by
      refine ⟨w5.size, w5.defers, fun t d hd => ?_⟩
      obtain ⟨k', y, d0, g0, g1, g2, g3⟩ := (unIts_ok (p := fun _ => true) (st' := l.sh.st s) l.ps [] p (fun _ _ => rfl) h1).2 _ (get_mem hd)
      cases g3
      obtain ⟨v, e1, e2⟩ := w5.get _ _ g1
      have hpl := List.all_eq_true.1 hc2 _ g0
      simp only [Bool.and_eq_true] at hpl
      have hwk : Wk κ1 κ1 := ⟨rfl, rfl, rfl, rfl, fun b d h => ⟨d, h⟩, fun b v e xs h => .inl h, fun b v e xs h => h, fun b h => h⟩
      have hok : okDk [] k' = true := by cases k' <;> first | rfl | cases hpl.1
      have := unDk_rd hwk (bs := []) hok (fun _ _ => rfl) (st' := κ1.st) (fun _ _ => rfl) (fun _ h => by simp [rowAt] at h) g2 e2
      have he : mkDk κ1.st k' y = mkDk (l.sh.st s) k' y := by cases k' <;> first | rfl | cases hpl.1
      rw [he] at this
      exact ⟨v, e1, this.mono q4⟩
     have hext : Ext κ κ2 := w4.trans q4
     have hw2 : κ2.w = κ.w := q1.trans w1
     rw [← hw2]
     refine wp_block (hl (id, b) (by simp [loopsOf]) l hll κ2 a p s rr h3 q2 q3 q5 hps hc2 (fun w hw => Nat.le_of_ble_eq_true (hc3 w hw)) _ fun w x ex' a' κ' f1 f2 f3 f4 f5 f6 f7 => ?_)
     rw [f2] at h4
     split at h4
     ·exact h4.elim
     rename_i zz hzz
     obtain ⟨f6, f8⟩ := f6 zz hzz
     have hR' : Rel κ' n (zz.2 ++ (nones (writesOf b) ++ (gh l.gh fr κ.st).1)).get a' := rel_after w5 (q4.trans f5) f6 f7
     have hkk : Kept (.block id (.loop b)) a a' := f7
     cases hwx : zz.1 <;> rw [hwx] at h4 f8 <;> simp only at h4
     ·exact h4.elim
     ·rename_i id'
      cases f8
      simp only [Exit.inBlock]
      cases hb' : Nat.beq id' id with
      | true =>
       rw [hb', cond_true] at h4
       have := Nat.eq_of_beq_eq_true hb'
       subst this
       rw [if_pos rfl]
       exact hQ _ _ a' κ' h4 f3 f4 (hext.trans f5) hR' (knNil _) hkk (fun hq => by cases hq) rfl
      | false =>
       rw [hb', cond_false] at h4
       rw [if_neg (fun e => by subst e; simp at hb')]
       exact hQ _ _ a' κ' h4 f3 f4 (hext.trans f5) hR' (knNil _) hkk (fun hq => by cases hq) rfl
     ·cases f8
      exact hQ _ _ a' κ' h4 f3 f4 (hext.trans f5) hR' (knNil _) hkk (fun hq => by cases hq) rfl
     ·obtain ⟨v, rfl, hv⟩ := f8
      exact hQ _ _ a' κ' h4 f3 f4 (hext.trans f5) hR' (knNil _) hkk (fun hq => by cases hq) ⟨v, rfl, hv⟩
  ·have hb' : ∀ b', b ≠ .loop b' := fun b' e => hb ⟨b', e⟩
   rw [evk_block hb'] at h
   refine wp_block (ib (fun z hz => hl z (by rw [loops_block hb']; exact hz)) h hI hR hk _ fun o ex' a' κ' f0 f1 f2 f3 f4 f4' f5 f5q f6 => ?_)
   have hkk : Kept (.block id b) a a' := f5
   cases hox : o.ex <;> rw [hox] at f0 f6 <;> simp only at f0
   ·cases f6; exact hQ o _ a' κ' f0 f1 f2 f3 f4 f4' hkk f5q (by rw [hox]; rfl)
   ·rename_i id'
    cases f6
    simp only [Exit.inBlock]
    cases hbq : Nat.beq id' id with
    | true =>
     rw [hbq, cond_true] at f0
     have := Nat.eq_of_beq_eq_true hbq
     subst this
     rw [if_pos rfl]
     exact hQ _ _ a' κ' f0 f1 f2 f3 f4 f4' hkk f5q rfl
    | false =>
     rw [hbq, cond_false] at f0
     rw [if_neg (fun e => by subst e; simp at hbq)]
     exact hQ o _ a' κ' f0 f1 f2 f3 f4 f4' hkk f5q (by rw [hox]; rfl)
   ·cases f6; exact hQ o _ a' κ' f0 f1 f2 f3 f4 f4' hkk f5q (by rw [hox]; rfl)
   ·obtain ⟨v, rfl, hv⟩ := f6
    exact hQ o _ a' κ' f0 f1 f2 f3 f4 f4' hkk f5q (by rw [hox]; exact ⟨v, rfl, hv⟩)
 | _ => intro _ fr kn κ a α k r h; simp only [evk] at h; exact h.elim
end
end Go.AM
namespace Go.AM
set_option linter.unusedSectionVars false
variable [Glob]
open Go.RowKit
section
variable [Dfs]
variable {P : Program} {xid : Nat} {tab : Tab} {ro : Nat → Bool} {n : Nat} {H : Hints}
theorem psOk_fr {b : Code} {st st' : St} : ∀ (its : List It) (z : denIts its), psOk its (writesOf b) = true → mkFr st its z = mkFr st' its z ∧ ∀ q ∈ mkFr st its z, q.1 ∉ writesOf b := by
 intro its
 induction its with
 | nil => intro z _; exact ⟨rfl, fun q hq => by cases hq⟩
 | cons i r ih =>
  intro z h
  have hi : ∀ y : i.den, frOf st i y = frOf st' i y ∧ ∀ q ∈ frOf st i y, q.1 ∉ writesOf b := by
   intro y
   simp only [psOk, List.all_cons, Bool.and_eq_true] at h
   cases i with
   | s t k =>
    obtain ⟨h1, _⟩ := h
    have h1 : (plainDk k && notIn (writesOf b) t) = true := h1
    simp only [Bool.and_eq_true] at h1
    refine ⟨by cases k <;> first | rfl | (simp [plainDk] at h1), fun q hq => ?_⟩
    simp only [frOf, List.mem_singleton] at hq
    subst hq
    intro hm
    have := h1.2
    simp only [notIn, Bool.not_eq_true', List.any_eq_false] at this
    exact this t hm (by simp)
   | _ => exact ⟨rfl, fun q hq => by cases hq⟩
  cases r with
  | nil =>
   have e1 := mkFr_one st i z
   have e2 := mkFr_one st' i z
   exact ⟨e1.trans ((hi z).1.trans e2.symm), fun q hq => (hi z).2 q (by rw [e1] at hq; exact hq)⟩
  | cons j r =>
   have e1 := mkFr_cons st i j r z
   have e2 := mkFr_cons st' i j r z
   have hr : psOk (j :: r) (writesOf b) = true := by
    unfold psOk at h ⊢
    rw [List.all_cons, Bool.and_eq_true] at h
    exact h.2
   obtain ⟨k1, k2⟩ := ih z.2 hr
   obtain ⟨g1, g2⟩ := hi z.1
   refine ⟨by rw [e1, e2, g1, k1], fun q hq => ?_⟩
   rw [e1] at hq
   rcases List.mem_append.1 hq with hq | hq
   ·exact g2 q hq
   ·exact k2 q hq
theorem loop_ok (hm : (mkC P xid tab ro).P.follows .mixedOrders = true) (hT : TabOk P tab) {l : LoopD} {b : Code} (hL : LoopsOkK P n H b) (R : denIts l.ps → l.sh.den → T (l.sh.den ⊕ denWs l.ws))
  (round : ∀ p s, roundK (mkC P xid tab ro) tab n H l b p s = R p s) (hF : ∀ p s, l.F p s = T.loop (R p) s) : LoopOkK P n l b := by
 intro κ a p s r hr hst hI hR hRp hps hws Q hQ
 rw [hF, T.loop_leads] at hr
 obtain ⟨m, hm'⟩ := hr
 have hpst := fun (st st' : St) => (psOk_fr (b := b) (st := st) (st' := st') l.ps p hps).1
 have hslots : ∀ (st : St) (t : Nat) (d : D), (mkFr st l.ps p).get t = some d → t ∉ writesOf b := fun st t d hd => (psOk_fr (b := b) (st := st) (st' := st) l.ps p hps).2 _ (get_mem hd)
 refine wp_loop_ghost (fun m a' w' => ∃ s', T.Iter (R p) m s' r ∧ ∃ κ' : KS, κ'.w = w' ∧ κ'.st = l.sh.st s' ∧ Inv κ' ∧ Ext κ κ' ∧ Rel κ' n (l.sh.fr s').get a' ∧ Rel κ' n (mkFr (l.sh.st s) l.ps p).get a' ∧ Kept b a a') m
  ⟨s, hm', κ, rfl, hst, hI, Ext.refl κ, hR, hRp, fun _ _ => rfl⟩ ?_
 rintro m a1 w1 ⟨s1, hit, κ1, rfl, g4, g5, g6, g7a, g7b, g8⟩
 have g7 : Rel κ1 n (l.sh.fr s1 ++ mkFr (l.sh.st s1) l.ps p).get a1 := ⟨g7a.size, g7a.defers, fun t d hd => by
  rcases get_append' hd with hd | hd
  ·exact g7a.get t d hd
  ·rw [hpst _ (l.sh.st s)] at hd; exact g7b.get t d hd⟩
 cases hit with
 | done h1 =>
  rw [← round] at h1
  refine evk_wp hm hT b hL (κ := κ1) (by rw [g4]; exact h1) g5 g7 (knNil _) _ fun o ex' a' κ' e0 e1 e2 e3 e4 e4' e5 _ e6 => ?_
  have fin : ∀ exo, ExRel κ' exo ex' → (injW l.ws exo (exFr exo o.fr) o.st).leads r → Q ex' a' κ'.w := fun exo e6 e0 => by
   obtain ⟨w, k1, x, k2, k3, k4⟩ := injW_is _ _ _ _ _ e0
   have hlen : κ1.st.length ≤ w.sh.bs.length := by rw [g4]; exact Nat.le_trans (Shp.st_len _ _) (hws w k1)
   obtain ⟨κ2, q1, q2, q3, q4, q5⟩ := way_un (n := n) e3 e2 e4 e6 k3 hlen (by rw [e1]; exact k4)
   have := hQ w x ex' a' κ2 k1 k2 q2 q3 (g6.trans q4) q5 (fun t ht => (e5 t ht).trans (g8 t ht))
   rw [q1] at this
   exact this
  have noinl : ∀ {z : l.sh.den ⊕ denWs l.ws}, ((injW l.ws o.ex (exFr o.ex o.fr) o.st).bind fun r => T.ret (Sum.inr r : l.sh.den ⊕ denWs l.ws)).leads z → z = Sum.inr r → (injW l.ws o.ex (exFr o.ex o.fr) o.st).leads r := by
   intro z h hz
   obtain ⟨y, h1, h2⟩ := T.leads_bind'.1 h
   have h2 : (Sum.inr y : l.sh.den ⊕ denWs l.ws) = z := h2
   rw [hz] at h2
   cases h2
   exact h1
  cases hox : o.ex <;> rw [hox] at e0 e6 noinl <;> simp only at e0
  ·obtain ⟨y, _, h2⟩ := T.leads_bind'.1 e0
   have h2 : (Sum.inl y : l.sh.den ⊕ denWs l.ws) = Sum.inr r := h2
   cases h2
  ·have q := fin _ e6 (noinl e0 rfl); cases e6; exact q
  ·have q := fin _ e6 (noinl e0 rfl); cases e6; exact q
  ·have q := fin _ e6 (noinl e0 rfl); obtain ⟨v, rfl, hv⟩ := e6; exact q
 | step h1 hit =>
  rename_i m s2
  rw [← round] at h1
  refine evk_wp hm hT b hL (κ := κ1) (by rw [g4]; exact h1) g5 g7 (knNil _) _ fun o ex' a' κ' e0 e1 e2 e3 e4 e4' e5 _ e6 => ?_
  have noinr : ((injW l.ws o.ex (exFr o.ex o.fr) o.st).bind fun r => T.ret (Sum.inr r : l.sh.den ⊕ denWs l.ws)).leads (Sum.inl s2) → False := by
   intro h
   obtain ⟨y, h1, h2⟩ := T.leads_bind'.1 h
   have h2 : (Sum.inr y : l.sh.den ⊕ denWs l.ws) = Sum.inl s2 := h2
   cases h2
  cases hox : o.ex <;> rw [hox] at e0 e6 noinr <;> simp only at e0
  ·cases e6
   obtain ⟨y, h1, h2⟩ := T.leads_bind'.1 e0
   have h2 : (Sum.inl y : l.sh.den ⊕ denWs l.ws) = Sum.inl s2 := h2
   cases h2
   have hlen : κ1.st.length ≤ l.sh.bs.length := by rw [g4]; exact Shp.st_len _ _
   obtain ⟨κ2, q1, q2, q3, q4, q5, _⟩ := l.sh.un_ok (n := n) e3 e2 e4 hlen (by rw [e1]; exact h1)
   refine ⟨m, Nat.lt_succ_self _, s2, hit, κ2, q1, q2, q3, g6.trans q4, q5, ⟨q5.size, q5.defers, fun t d hd => ?_⟩, fun t ht => (e5 t ht).trans (g8 t ht)⟩
   obtain ⟨v, r1, r2⟩ := g7b.get t d hd
   exact ⟨v, (e5 t (hslots _ t d hd)).trans r1, r2.mono q4⟩
  ·exact (noinr e0).elim
  ·exact (noinr e0).elim
  ·exact (noinr e0).elim
end
section
variable {P : Program} {xid : Nat} {tab : Tab} {ro : Nat → Bool} {n : Nat} {H : Hints}
theorem mkRs_rds_of {κ : KS} (hI : Inv κ) : ∀ (rs : List Ty) (ds : List D) (x : Tup rs) (vs : List Value), (unRs κ.st rs ds).leads x → RDs κ ds vs → RDs κ.all (mkRs rs x) vs ∧ ∀ d ∈ mkRs rs x, data1 d = true
 | [], [], x, vs, h, hd => by rw [hd.nil_inv]; exact ⟨.nil, fun d hd => by cases hd⟩
 | [], _ :: _, x, vs, h, hd => h.elim
 | [τ], [], x, vs, h, hd => h.elim
 | [τ], [d], x, vs, h, hd => by
  obtain ⟨v, us, rfl, h1, h2⟩ := hd.cons_inv
  rw [h2.nil_inv]
  refine ⟨.cons (coeS_all hI h1 h) .nil, fun d hd => ?_⟩
  have hd : d ∈ [D.imm τ x] := hd
  rw [List.mem_singleton] at hd
  subst hd; rfl
 | [τ], _ :: _ :: _, x, vs, h, hd => h.elim
 | τ :: σ :: r, [], x, vs, h, hd => h.elim
 | τ :: σ :: r, d :: ds, x, vs, h, hd => by
  obtain ⟨y, h1, h2⟩ := T.leads_bind'.1 h
  obtain ⟨z, h3, h4⟩ := T.leads_bind'.1 h2
  cases h4
  obtain ⟨v, us, rfl, k1, k2⟩ := hd.cons_inv
  obtain ⟨g1, g2⟩ := mkRs_rds_of hI (σ :: r) ds z us h3 k2
  refine ⟨.cons (coeS_all hI k1 h1) g1, fun d hd => ?_⟩
  rcases List.mem_cons.1 hd with rfl | hd
  ·rfl
  ·exact g2 d hd
theorem fn_ok (hm : (mkC P xid tab ro).P.follows .mixedOrders = true) (hT : TabOk P tab) {f : Nat} {fn : Func} {code : Code} (hf : P.funcs[f]? = some fn) (hb : fn.body = some code)
  (hn : (fn.name == "runtime.NumGoroutine") = false) (hL : LoopsOkK P fn.ntmps H code) {d : FnD} (h : ∀ x, evFnk (mkC P xid tab ro) tab H fn code d x = d.F x) : FnOk P f d := by
 intro κ x cargs y hst hy hI ha
 rw [← h] at hy
 unfold evFnk at hy
 cases hle : Nat.ble (mkPs d.ps x).length fn.ntmps with
 | false => rw [hle] at hy; exact hy.elim
 | true =>
  rw [hle, cond_true] at hy
  have hle' := Nat.le_of_ble_eq_true hle
  refine .inl ⟨callFunc_enter hf hn (by rw [hb]; rfl) κ.w, calls_of_wp hf hb ?_⟩
  have hR := arg_rel ha hle'
  refine evk_wp hm hT code hL (κ := κ) (by rw [hst]; exact hy) hI hR (knNil _) _ fun o ex' a' κe e0 e1 e2 e3 e4 _ _ _ e6 => ?_
  have fin : (ex' = .normal ∨ ex' = .ret) → ((resOf (mkC P xid tab ro) o.fr o.st fn.results.toList).bind fun ds => unRs o.st d.rs ds).leads y →
    bodyPost P fn (fun e w' => ∃ κ' : KS, κ'.w = w' ∧ κ'.st = [] ∧ Inv κ' ∧ Ext κ κ' ∧ EndRel κ' (.ret (mkRs d.rs y)) e) ex' a' κe.w := by
   intro hex h2
   obtain ⟨ds, g1, g2⟩ := T.leads_bind'.1 h2
   rw [← e1] at g1 g2
   obtain ⟨vs, k1, k2⟩ := results_spec e2 e4 g1
   obtain ⟨q1, q2⟩ := pure_back hI hst e2 e3
   obtain ⟨hl, hdat⟩ := mkRs_rds_of e2 d.rs ds y vs g2 k2
   have hl' : RDs (κe.bare (okS κe)) (mkRs d.rs y) vs := ⟨hl.1, fun i h1 h2 => data1_bare (hdat _ (List.getElem_mem h1)) (hl.2 i h1 h2)⟩
   have hpost : a'.defers = [] ∧ ∃ v, (results fn a'.tmps).run P κe.w = .ok v κe.w ∧ ∃ κ' : KS, κ'.w = κe.w ∧ κ'.st = [] ∧ Inv κ' ∧ Ext κ κ' ∧ EndRel κ' (.ret (mkRs d.rs y)) (.returned v) :=
    ⟨e4.defers, _, k1, κe.bare (okS κe), rfl, rfl, q1, q2, _, rfl, packRes_rd hl'⟩
   rcases hex with rfl | rfl
   ·exact hpost
   ·exact hpost
  cases hox : o.ex <;> rw [hox] at e0 e6 <;> simp only at e0
  ·exact fin (.inl e6) e0
  ·exact e0.elim
  ·exact fin (.inr e6) e0
  ·exact e0.elim
theorem fn_fix {d : FnD} {f : Nat} (b : (denPs d.ps → T (Tup d.rs)) → denPs d.ps → T (Tup d.rs)) (hF : ∀ x, d.F x = T.fix b x) (h : ∀ F : denPs d.ps → T (Tup d.rs), FnOk P f ⟨d.ps, d.rs, F⟩ → FnOk P f ⟨d.ps, d.rs, b F⟩) : FnOk P f d := by
 have hN : ∀ m, FnOk P f ⟨d.ps, d.rs, T.fixN b m⟩ := by
  intro m
  induction m with
  | zero => intro κ x cargs y _ hy; exact hy.elim
  | succ m ih => exact h _ ih
 intro κ x cargs y hst hy hI ha
 rw [hF, T.fix_leads] at hy
 obtain ⟨m, hm⟩ := hy
 exact hN m κ x cargs y hst (hm m (Nat.le_refl _)) hI ha
theorem outGo_len {fr : Fr} : ∀ {n i : Nat} {ds : List D}, outGo fr n i = some ds → ds.length = n ∧ ∀ j d, ds[j]? = some d → fr.get (i + j) = some d
 | 0, i, ds, h => by cases h; exact ⟨rfl, fun j d hj => by simp at hj⟩
 | n + 1, i, ds, h => by
  simp only [outGo] at h
  split at h
  ·rename_i d hd
   split at h
   ·rename_i r hr
    cases h
    obtain ⟨h1, h2⟩ := outGo_len hr
    refine ⟨by simp [h1], fun j e hj => ?_⟩
    cases j with
    | zero => simp at hj; subst hj; exact hd
    | succ j => have := h2 j e (by simpa using hj); rw [show i + (j + 1) = i + 1 + j by omega]; exact this
   ·cases h
  ·cases h
theorem fns_ok (hm : (mkC P xid tab ro).P.follows .mixedOrders = true) (hT : TabOk P tab) {f : Nat} {fn : Func} {code : Code} (hf : P.funcs[f]? = some fn) (hb : fn.body = some code)
  (hn : (fn.name == "runtime.NumGoroutine") = false) (hL : LoopsOkK P fn.ntmps H code) {d : FnS} (h : ∀ x, evFnSk (mkC P xid tab ro) tab H fn code d x = d.F x) : FnSOk P f d := by
 intro κ x cargs y hst hy hI hlen hR0
 rw [← h] at hy
 unfold evFnSk at hy
 cases hle : Nat.ble d.ks.length fn.ntmps && Nat.ble d.sh.bs.length d.out.bs.length with
 | false => rw [hle] at hy; exact hy.elim
 | true =>
  rw [hle, cond_true] at hy
  simp only [Bool.and_eq_true] at hle
  have hle1 := Nat.le_of_ble_eq_true hle.1
  have hle2 := Nat.le_of_ble_eq_true hle.2
  refine .inl ⟨callFunc_enter hf hn (by rw [hb]; rfl) κ.w, calls_of_wp hf hb ?_⟩
  have hR : Rel κ fn.ntmps (d.sh.fr x).get { tmps := cargs.toArray ++ Array.replicate (fn.ntmps - cargs.toArray.size) undef, defers := [] } := by
   refine ⟨by simp; omega, rfl, fun s e hs => ?_⟩
   obtain ⟨v, h1, h2⟩ := hR0.get s e hs
   refine ⟨v, ?_, h2⟩
   have hlt := (Array.getElem?_eq_some_iff.1 h1).1
   rw [Array.getElem?_append_left hlt]
   exact h1
  refine evk_wp hm hT code hL (κ := κ) (by rw [hst]; exact hy) hI hR (knNil _) _ fun o ex' a' κe e0 e1 e2 e3 e4 _ _ _ e6 => ?_
  have fin : (ex' = .normal ∨ ex' = .ret) → ((resOf (mkC P xid tab ro) o.fr o.st fn.results.toList).bind fun ds => bif Nat.beq ds.length d.nr then (d.out.un (argFr ds 0) o.st).bind fun y => bif (outL d.nr (d.out.fr y)).isSome then T.ret y else .fail else .fail).leads y →
    bodyPost P fn (fun e w' => ∃ (κ' : KS) (ds : List D), κ'.w = w' ∧ κ'.st = d.out.st y ∧ Inv κ' ∧ Ext κ κ' ∧ outL d.nr (d.out.fr y) = some ds ∧ EndRel κ' (.ret ds) e) ex' a' κe.w := by
   intro hex h2
   obtain ⟨ds, g1, g2⟩ := T.leads_bind'.1 h2
   cases hnr : Nat.beq ds.length d.nr with
   | false => rw [hnr] at g2; exact g2.elim
   | true =>
    rw [hnr, cond_true] at g2
    obtain ⟨y', g5, g3⟩ := T.leads_bind'.1 g2
    cases hsome : outL d.nr (d.out.fr y') with
    | none => rw [hsome] at g3; exact g3.elim
    | some ds' =>
     rw [hsome] at g3
     have hyy : y' = y := g3
     subst hyy
     rw [← e1] at g1 g5
     obtain ⟨vs, k1, k2⟩ := results_spec e2 e4 g1
     have hRr : Rel κe vs.length (argFr ds 0).get { tmps := vs.toArray, defers := [] } := by
      have := arg_rel (n := vs.length) k2 (by rw [k2.1]; exact Nat.le_refl _)
      simpa [show (Dfs.df : List Deferred) = [] from rfl] using this
     obtain ⟨κ2, q1, q2, q3, q4, q5, _⟩ := d.out.un_ok (κ0 := κ) e3 e2 hRr (by rw [hst]; exact Nat.le_trans (Shp.st_len _ _) hle2) g5
     obtain ⟨l1, l2⟩ := outGo_len hsome
     have hds : RDs κ2 ds' vs := by
      refine ⟨by rw [l1, ← k2.1]; exact (Nat.eq_of_beq_eq_true hnr).symm, fun i h1 h2 => ?_⟩
      have := l2 i ds'[i] (List.getElem?_eq_getElem h1)
      rw [Nat.zero_add] at this
      obtain ⟨v, r1, r2⟩ := q5.get i _ this
      have r1 : vs.toArray[i]? = some v := r1
      have : vs[i]? = some v := by simpa using r1
      rw [List.getElem?_eq_getElem h2] at this
      cases this
      exact r2
     have hpost : a'.defers = [] ∧ ∃ v, (results fn a'.tmps).run P κe.w = .ok v κe.w ∧ ∃ (κ' : KS) (ds : List D), κ'.w = κe.w ∧ κ'.st = d.out.st y' ∧ Inv κ' ∧ Ext κ κ' ∧ outL d.nr (d.out.fr y') = some ds ∧ EndRel κ' (.ret ds) (.returned v) :=
      ⟨e4.defers, _, k1, κ2, ds', q1, q2, q3, q4, hsome, _, rfl, packRes_rd hds⟩
     rcases hex with rfl | rfl
     ·exact hpost
     ·exact hpost
  cases hox : o.ex <;> rw [hox] at e0 e6 <;> simp only at e0
  ·exact fin (.inl e6) e0
  ·exact e0.elim
  ·exact fin (.inr e6) e0
  ·exact e0.elim
theorem fns_fix {d : FnS} {f : Nat} (b : (d.sh.den → T d.out.den) → d.sh.den → T d.out.den) (hF : ∀ x, d.F x = T.fix b x) (h : ∀ F : d.sh.den → T d.out.den, FnSOk P f ⟨d.ks, d.sh, d.nils, d.out, d.nr, F⟩ → FnSOk P f ⟨d.ks, d.sh, d.nils, d.out, d.nr, b F⟩) : FnSOk P f d := by
 have hN : ∀ m, FnSOk P f ⟨d.ks, d.sh, d.nils, d.out, d.nr, T.fixN b m⟩ := by
  intro m
  induction m with
  | zero => intro κ x cargs y _ hy; exact hy.elim
  | succ m ih => exact h _ ih
 intro κ x cargs y hst hy hI hl ha
 rw [hF, T.fix_leads] at hy
 obtain ⟨m, hm⟩ := hy
 exact hN m κ x cargs y hst (hm m (Nat.le_refl _)) hI hl ha
theorem out_un {κ κe : KS} {a' : Act} {fn : Func} {o : KOut} {nr : Nat} {out : Shp} {y : out.den} (e1 : κe.st = o.st) (e2 : Inv κe) (e3 : Ext κ κe) (e4 : Rel κe fn.ntmps o.fr.get a') (hlen : κ.st.length ≤ out.bs.length)
  (h : ((resOf (mkC P xid tab ro) o.fr o.st fn.results.toList).bind fun ds => bif Nat.beq ds.length nr then (out.un (argFr ds 0) o.st).bind fun y => bif (outL nr (out.fr y)).isSome then T.ret y else .fail else .fail).leads y) :
  ∃ v, (results fn a'.tmps).run P κe.w = .ok v κe.w ∧ ∃ (κ' : KS) (ds : List D), κ'.w = κe.w ∧ κ'.st = out.st y ∧ Inv κ' ∧ Ext κ κ' ∧ outL nr (out.fr y) = some ds ∧ EndRel κ' (.ret ds) (.returned v) := by
 obtain ⟨ds, g1, g2⟩ := T.leads_bind'.1 h
 cases hnr : Nat.beq ds.length nr with
 | false => rw [hnr] at g2; exact g2.elim
 | true =>
  rw [hnr, cond_true] at g2
  obtain ⟨y', g5, g3⟩ := T.leads_bind'.1 g2
  cases hsome : outL nr (out.fr y') with
  | none => rw [hsome] at g3; exact g3.elim
  | some ds' =>
   rw [hsome] at g3
   have hyy : y' = y := g3
   subst hyy
   rw [← e1] at g1 g5
   obtain ⟨vs, k1, k2⟩ := results_spec e2 e4 g1
   have hRr : Rel κe vs.length (argFr ds 0).get { tmps := vs.toArray, defers := [] } := by
    have := arg_rel (n := vs.length) k2 (by rw [k2.1]; exact Nat.le_refl _)
    simpa [show (Dfs.df : List Deferred) = [] from rfl] using this
   obtain ⟨κ2, q1, q2, q3, q4, q5, _⟩ := out.un_ok (κ0 := κ) e3 e2 hRr hlen g5
   obtain ⟨l1, l2⟩ := outGo_len hsome
   have hds : RDs κ2 ds' vs := by
    refine ⟨by rw [l1, ← k2.1]; exact (Nat.eq_of_beq_eq_true hnr).symm, fun i h1 h2 => ?_⟩
    have := l2 i ds'[i] (List.getElem?_eq_getElem h1)
    rw [Nat.zero_add] at this
    obtain ⟨v, r1, r2⟩ := q5.get i _ this
    have r1 : vs.toArray[i]? = some v := r1
    have : vs[i]? = some v := by simpa using r1
    rw [List.getElem?_eq_getElem h2] at this
    cases this
    exact r2
   exact ⟨_, k1, κ2, ds', q1, q2, q3, q4, hsome, _, rfl, packRes_rd hds⟩
theorem pan_un {κ κe : KS} {pan : Shp} {z : pan.den} {st : St} {t : Nat} {d : D} {u : Value} (e1 : κe.st = st) (e2 : Inv κe) (e3 : Ext κ κe) (hlen : κ.st.length ≤ pan.bs.length) (hu : RD κe d u)
  (h : ((pan.un [(0, some d)] st).bind fun z => match (pan.fr z).get 0 with | some _ => T.ret z | none => .fail).leads z) :
  ∃ (κ' : KS) (p : D), κ'.w = κe.w ∧ κ'.st = pan.st z ∧ Inv κ' ∧ Ext κ κ' ∧ (pan.fr z).get 0 = some p ∧ EndRel κ' (.pan (.iface t p)) (.panicked [{ v := .iface t u, recovered := false }]) := by
 obtain ⟨z', g1, g2⟩ := T.leads_bind'.1 h
 split at g2
 ·rename_i p hp
  have hzz : z' = z := g2
  subst hzz
  have hR1 : Rel κe 1 (Fr.get [(0, some d)]) { tmps := #[u], defers := [] } := by
   refine ⟨rfl, rfl, fun s d' hd => ?_⟩
   simp only [Fr.get] at hd
   cases hb : Nat.beq 0 s with
   | true =>
    rw [hb, cond_true] at hd
    cases hd
    have := Nat.eq_of_beq_eq_true hb
    subst this
    exact ⟨u, rfl, hu⟩
   | false => rw [hb, cond_false] at hd; cases hd
  rw [← e1] at g1
  obtain ⟨κ2, q1, q2, q3, q4, q5, _⟩ := pan.un_ok (κ0 := κ) e3 e2 hR1 hlen g1
  obtain ⟨v', r1, r2⟩ := q5.get 0 p hp
  cases r1
  exact ⟨κ2, p, q1, q2, q3, q4, hp, _, rfl, .iface t p _ r2⟩
 ·exact g2.elim
theorem fnp_ok (hm : (mkC P xid tab ro).P.follows .mixedOrders = true) (hT : TabOk P tab) {f : Nat} {fn : Func} {code : Code} (hf : P.funcs[f]? = some fn) (hb : fn.body = some code)
  (hn : (fn.name == "runtime.NumGoroutine") = false) (hL : LoopsOkK P fn.ntmps H code) {d : FnP} (h : ∀ x, evFnPk (mkC P xid tab ro) tab H fn code d x = d.F x) : FnPOk P f d := by
 intro κ x cargs y hst hy hI hlen hR0
 rw [← h] at hy
 unfold evFnPk at hy
 cases hle : Nat.ble d.ks.length fn.ntmps && Nat.ble d.sh.bs.length d.out.bs.length && Nat.ble d.sh.bs.length d.pan.bs.length with
 | false => rw [hle] at hy; exact hy.elim
 | true =>
  rw [hle, cond_true] at hy
  simp only [Bool.and_eq_true] at hle
  have hle1 := Nat.le_of_ble_eq_true hle.1.1
  have hle2 := Nat.le_of_ble_eq_true hle.1.2
  have hle3 := Nat.le_of_ble_eq_true hle.2
  refine .inl ⟨callFunc_enter hf hn (by rw [hb]; rfl) κ.w, calls_of_wp hf hb ?_⟩
  have hR : Rel κ fn.ntmps (d.sh.fr x).get { tmps := cargs.toArray ++ Array.replicate (fn.ntmps - cargs.toArray.size) undef, defers := [] } := by
   refine ⟨by simp; omega, rfl, fun s e hs => ?_⟩
   obtain ⟨v, h1, h2⟩ := hR0.get s e hs
   refine ⟨v, ?_, h2⟩
   have hlt := (Array.getElem?_eq_some_iff.1 h1).1
   rw [Array.getElem?_append_left hlt]
   exact h1
  refine evk_wp hm hT code hL (κ := κ) (by rw [hst]; exact hy) hI hR (knNil _) _ fun o ex' a' κe e0 e1 e2 e3 e4 _ _ _ e6 => ?_
  have fin : (ex' = .normal ∨ ex' = .ret) → ((resOf (mkC P xid tab ro) o.fr o.st fn.results.toList).bind fun ds => bif Nat.beq ds.length d.nr then (d.out.un (argFr ds 0) o.st).bind fun y => bif (outL d.nr (d.out.fr y)).isSome then T.ret (Sum.inl y : d.out.den ⊕ d.pan.den) else .fail else .fail).leads y →
    bodyPost P fn (fun e w' => ∃ κ' : KS, κ'.w = w' ∧ Inv κ' ∧ Ext κ κ' ∧ ((∃ (y' : d.out.den) (ds : List D), y = .inl y' ∧ κ'.st = d.out.st y' ∧ outL d.nr (d.out.fr y') = some ds ∧ EndRel κ' (.ret ds) e) ∨
     ∃ (z : d.pan.den) (p : D), y = .inr z ∧ κ'.st = d.pan.st z ∧ (d.pan.fr z).get 0 = some p ∧ EndRel κ' (.pan (.iface d.pt p)) e)) ex' a' κe.w := by
   intro hex h2
   have : ∃ y', y = .inl y' ∧ ((resOf (mkC P xid tab ro) o.fr o.st fn.results.toList).bind fun ds => bif Nat.beq ds.length d.nr then (d.out.un (argFr ds 0) o.st).bind fun y => bif (outL d.nr (d.out.fr y)).isSome then T.ret y else .fail else .fail).leads y' := by
    obtain ⟨ds, g1, g2⟩ := T.leads_bind'.1 h2
    cases hnr : Nat.beq ds.length d.nr with
    | false => rw [hnr] at g2; exact g2.elim
    | true =>
     rw [hnr, cond_true] at g2
     obtain ⟨y', g5, g3⟩ := T.leads_bind'.1 g2
     cases hsome : outL d.nr (d.out.fr y') with
     | none => rw [hsome] at g3; exact g3.elim
     | some ds' =>
      rw [hsome] at g3
      have g3 : Sum.inl y' = y := g3
      refine ⟨y', g3.symm, T.leads_bind'.2 ⟨ds, g1, ?_⟩⟩
      rw [hnr, cond_true]
      refine T.leads_bind'.2 ⟨y', g5, ?_⟩
      rw [hsome]; rfl
   obtain ⟨y', rfl, hy2⟩ := this
   obtain ⟨v, k1, κ', ds, q1, q2, q3, q4, q5, q6⟩ := out_un e1 e2 e3 e4 (by rw [hst]; exact Nat.le_trans (Shp.st_len _ _) hle2) hy2
   have hpost : a'.defers = [] ∧ ∃ v, (results fn a'.tmps).run P κe.w = .ok v κe.w ∧ ∃ κ' : KS, κ'.w = κe.w ∧ Inv κ' ∧ Ext κ κ' ∧ ((∃ (y'' : d.out.den) (ds : List D), (Sum.inl y' : d.out.den ⊕ d.pan.den) = .inl y'' ∧ κ'.st = d.out.st y'' ∧ outL d.nr (d.out.fr y'') = some ds ∧ EndRel κ' (.ret ds) (.returned v)) ∨
     ∃ (z : d.pan.den) (p : D), (Sum.inl y' : d.out.den ⊕ d.pan.den) = .inr z ∧ κ'.st = d.pan.st z ∧ (d.pan.fr z).get 0 = some p ∧ EndRel κ' (.pan (.iface d.pt p)) (.returned v)) :=
    ⟨e4.defers, v, k1, κ', q1, q3, q4, .inl ⟨y', ds, rfl, q2, q5, q6⟩⟩
   rcases hex with rfl | rfl
   ·exact hpost
   ·exact hpost
  cases hox : o.ex <;> rw [hox] at e0 e6 <;> simp only at e0
  ·exact fin (.inl e6) e0
  ·exact e0.elim
  ·exact fin (.inr e6) e0
  ·rename_i p
   cases p <;> simp only at e0 <;> first | exact e0.elim | skip
   rename_i t v
   cases ht : Nat.beq t d.pt with
   | false => rw [ht] at e0; exact e0.elim
   | true =>
    rw [ht, cond_true] at e0
    have := Nat.eq_of_beq_eq_true ht
    subst this
    obtain ⟨u, rfl, hv⟩ := e6
    cases hv with
    | iface _ _ u hu =>
     have : ∃ z, y = .inr z ∧ ((d.pan.un [(0, some v)] o.st).bind fun z => match (d.pan.fr z).get 0 with | some _ => T.ret z | none => .fail).leads z := by
      obtain ⟨z, g1, g2⟩ := T.leads_bind'.1 e0
      split at g2
      ·rename_i p hp
       have g2 : Sum.inr z = y := g2
       refine ⟨z, g2.symm, T.leads_bind'.2 ⟨z, g1, ?_⟩⟩
       rw [hp]; rfl
      ·exact g2.elim
     obtain ⟨z, rfl, hz2⟩ := this
     obtain ⟨κ', p, q1, q2, q3, q4, q5, q6⟩ := pan_un (t := d.pt) e1 e2 e3 (by rw [hst]; exact Nat.le_trans (Shp.st_len _ _) hle3) hu hz2
     exact ⟨e4.defers, κ', q1, q3, q4, .inr ⟨z, p, rfl, q2, q5, q6⟩⟩
theorem fnp_fix {d : FnP} {f : Nat} (b : (d.sh.den → T (d.out.den ⊕ d.pan.den)) → d.sh.den → T (d.out.den ⊕ d.pan.den)) (hF : ∀ x, d.F x = T.fix b x) (h : ∀ F : d.sh.den → T (d.out.den ⊕ d.pan.den), FnPOk P f ⟨d.ks, d.sh, d.nils, d.out, d.nr, d.pt, d.pan, F⟩ → FnPOk P f ⟨d.ks, d.sh, d.nils, d.out, d.nr, d.pt, d.pan, b F⟩) : FnPOk P f d := by
 have hN : ∀ m, FnPOk P f ⟨d.ks, d.sh, d.nils, d.out, d.nr, d.pt, d.pan, T.fixN b m⟩ := by
  intro m
  induction m with
  | zero => intro κ x cargs y _ hy; exact hy.elim
  | succ m ih => exact h _ ih
 intro κ x cargs y hst hy hI hl ha
 rw [hF, T.fix_leads] at hy
 obtain ⟨m, hm⟩ := hy
 exact hN m κ x cargs y hst (hm m (Nat.le_refl _)) hI hl ha
end
noncomputable def loopAt : Nat → Code → Option Code
 | k, .block id (.loop b) => if k = id then some b else loopAt k b
 | k, .seq a b => match loopAt k a with | some x => some x | none => loopAt k b
 | k, .cond _ a b => match loopAt k a with | some x => some x | none => loopAt k b
 | k, .block _ a => loopAt k a
 | _, _ => none
def AllL (P : Program) (n : Nat) (H : Hints) : List (Nat × Code) → Prop
 | [] => True
 | p :: r => (∀ l, H.loop p.1 = some l → LoopOkK P n l p.2) ∧ AllL P n H r
theorem lnil {P : Program} {n : Nat} {H : Hints} : AllL P n H [] := trivial
theorem lcons {P : Program} {n : Nat} {H : Hints} {id : Nat} {b : Code} {r : List (Nat × Code)} {l : LoopD} (hl : H.loop id = some l) (h : LoopOkK P n l b) (t : AllL P n H r) : AllL P n H ((id, b) :: r) :=
 ⟨fun l' hl' => (Option.some.inj (hl.symm.trans hl')) ▸ h, t⟩
theorem loops_of {P : Program} {n : Nat} {H : Hints} {code : Code} {L : List (Nat × Code)} (h : loopsOf code = L) (ha : AllL P n H L) : LoopsOkK P n H code := by
 intro p hp
 rw [h] at hp
 clear h
 induction L with
 | nil => cases hp
 | cons q r ih =>
  rcases List.mem_cons.1 hp with rfl | hp
  ·exact ha.1
  ·exact ih ha.2 hp
end Go.AM
namespace Go.AM
set_option linter.unusedSectionVars false
variable [Glob]
open Go.RowKit Go.ChangeShapes
def toPs : (τs : List Ty) → denL τs → denPs (τs.map .ty)
 | [], _ => ()
 | [_], x => x.1
 | _ :: σ :: r, x => (x.1, toPs (σ :: r) x.2)
theorem mkPs_toPs : ∀ (τs : List Ty) (x : denL τs), mkPs (τs.map .ty) (toPs τs x) = mkD τs x
 | [], _ => rfl
 | [_], _ => rfl
 | τ :: σ :: r, x => congrArg (D.imm τ x.1 :: ·) (mkPs_toPs (σ :: r) x.2)
section
variable {H : Type} {enc : TypeId × Value → H} {P : Program} {xid m n : Nat}
theorem law_ok {f : Nat} {fn : Func} (τs : List Ty) {F : denPs (τs.map .ty) → T (Tup [.bool])} (hS : FnOk P f ⟨τs.map .ty, [.bool], F⟩) (hf : P.funcs[f]? = some fn) (hbd : fn.body.isNone = false) (hnm : (fn.name == "runtime.NumGoroutine") = false)
  (hl : laidOutB P = true) (xid m n : Nat) (hts : okTypes P fn.params.toList = true) (hτ : fn.params.toList.map (ty2 P xid n) = τs.map some) (hx : xokB P xid m = true)
  {bt : TypeId} (hr : fn.resultTypes = #[bt]) (hbt : P.underlying bt = some .bool) {s : ChangeSpec} (hv : s.vars = []) (hs : ∀ ds : List (DataW H), ds.length = τs.length → s.fn H ds = { results := [.lit (.bool true)], args := ds })
  (B : Bulk H) {lim : Nat} (law : ∀ x : denL τs, wfL τs x → bkL τs x ≤ lim → (F (toPs τs x)).run = some true)
  {fresh handsOn : Bool} {W : World} {base : Nat} {args : Array Value} {ds gs : List (DataW H)} {before : List MemPlace}
  (hval : ∀ (j : Nat) t v, fn.params[j]? = some t → args[j]? = some v → Value.okWide P W .any base t v)
  (hW : DataW.Whole enc P fn.params.toList s.vars false W args.toList ds gs before) (hk : B.bs (ds ++ gs) ≤ lim) (hG : GlobOk W fun k => k < W.heap.size) :
  Calls P f args W fun e W' => ∃ v, e = .returned v ∧ s.post enc P fn false fresh handsOn false W args v W' := by
 refine law_calls (FnD.snd hS) hf hbd hnm hl xid m n τs hts hτ hx hr hbt hv hs B (fun x hw hb => ?_) hval hW hk hG
 have h := T.run_leads.1 (law x hw hb)
 show (FnD.S _ (mkD τs x) []).leads _
 rw [← mkPs_toPs τs x]
 exact T.leads_bind'.2 ⟨toPs τs x, unPs_mk [] _ _, T.leads_bind'.2 ⟨true, h, rfl⟩⟩
end
end Go.AM
namespace Go.AM
set_option linter.unusedSectionVars false
variable [Glob]
open Go.RowKit
theorem callFunc_enter' {P : Program} {g : Nat} {fn : Func} {args : Array Value} (hf : P.funcs[g]? = some fn) (hn : (fn.name == "runtime.NumGoroutine") = false) (hb : fn.body.isNone = false) (w : World) :
  (callFunc g args).run P w = .ok (.enter g args) w := callFunc_enter hf hn hb w
def KS.grown (κ : KS) (w' : World) : KS := { κ with w := w', ok := fun k => κ.ok k ∨ (κ.w.heap.size ≤ k ∧ k < w'.heap.size) }
theorem fn_of_calls {P : Program} {g : Nat} {fn : Func} {d : FnD} (hf : P.funcs[g]? = some fn) (hn : (fn.name == "runtime.NumGoroutine") = false) (hb : fn.body.isNone = false)
  (H : ∀ (κ : KS) (x : denPs d.ps) (cargs : List Value) (y : Tup d.rs), (d.F x).leads y → Inv κ → RDs κ (mkPs d.ps x) cargs →
   Calls P g cargs.toArray κ.w fun e w' => Below κ.w.heap.size κ.w w' ∧ (Ext κ (κ.grown w') → EndRel (κ.grown w') (.ret (mkRs d.rs y)) e)) : FnOk P g d := by
 intro κ x cargs y hst hy hI ha
 refine .inl ⟨callFunc_enter' hf hn hb κ.w, (H κ x cargs y hy hI ha).mono ?_⟩
 rintro e w' ⟨hB, he⟩
 have hph : κ.ph = [] := List.eq_nil_of_length_eq_zero (by rw [hI.len, hst]; rfl)
 have hx : Ext κ (κ.grown w') := ⟨hB.os, hB.tape, hB.output, hB.size, fun k hk => ⟨.inl hk, hB.block k (hI.okLt k hk)⟩, fun k hk => hk.elim .inl fun h => .inr (.inl h.1), fun _ _ _ h => .inl h, fun b d h => by rw [hst] at h; simp at h,
   fun b v0 e xs h => by rw [hst] at h; simp at h, fun b h => by rw [hst] at h; simp at h, Nat.le_refl _, fun k hk _ => hB.block k hk⟩
 refine ⟨κ.grown w', rfl, hst, ⟨hI.len, fun k hk => hk.elim (fun h => Nat.lt_of_lt_of_le (hI.okLt k h) hB.size) (·.2), fun b blk n hb => ?_, hI.inj, fun b x hb => ?_, hI.gl.mono hx.same⟩, hx, he hx⟩
 ·have : κ.ph[b]? = some (some (blk, n)) := hb
  rw [hph] at this; simp at this
 ·have : κ.st[b]? = some x := hb
  rw [hst] at this; simp at this
theorem below_drewN (w : World) (k : Nat) : RowKit.Below w.heap.size w (w.drewN k) := ⟨rfl, rfl, rfl, Nat.le_refl _, fun _ _ => rfl⟩
theorem below_self (w : World) : RowKit.Below w.heap.size w w := ⟨rfl, rfl, rfl, Nat.le_refl _, fun _ _ => rfl⟩
theorem below_alloc (w : World) (o : Obj) : RowKit.Below w.heap.size w (w.alloc o) := by
 refine ⟨rfl, rfl, rfl, ?_, fun b hb => ?_⟩
 ·show w.heap.size ≤ (w.heap.push o).size
  rw [Array.size_push]; omega
 ·show (w.heap.push o)[b]? = w.heap[b]?
  rw [Array.getElem?_push, if_neg (by omega)]
theorem idxS_eq (s sub : Str) : Lib.index s sub = idxS s sub := by
 induction s with
 | nil => rfl
 | cons b l ih => simp only [Lib.index, idxS, ih]
theorem idxB_eq (s : Str) (c : UInt8) : Lib.indexByte s c = idxB s c := by
 induction s with
 | nil => rfl
 | cons b l ih => simp only [Lib.indexByte, idxB, ih]
theorem cutSt_eq (s sep : Str) : Lib.cut s sep = cutSt s sep := by
 unfold Lib.cut cutSt
 rw [idxS_eq]
theorem arrF_rc {w : World} {ok : Nat → Prop} (f : Nat → Bool) : ∀ (n k : Nat), Rc w ok (arrN .bool n) (arrF (e := .bool) f n k) ((List.range' k n).map fun j => Value.bool (f j))
 | 0, _ => .nil
 | n + 1, k => by
  rw [List.range'_succ, List.map_cons]
  exact Rc.cons .bool (arrN .bool n) (f k) (arrF (e := .bool) f n (k + 1)) [Value.bool (f k)] _ (.bool _) (arrF_rc f n (k + 1))
theorem ascii_rd {κ : KS} (s : Str) : RD κ (.imm (arrN .bool 256) (asciiF s)) (.agg (Lib.setCells s)) := by
 have h := RD.imm (κ := κ) (arrN .bool 256) (asciiF s) _ (arrF_rc (fun j => s.contains (UInt8.ofNat j)) 256 0)
 have e : pk (arrN .bool 256) ((List.range' 0 256).map fun j => Value.bool (s.contains (UInt8.ofNat j))) = .agg (Lib.setCells s) := by
  unfold pk
  rw [show (arrN .bool 256).isAgg = true from rfl, Lib.setCells_eq]
  show Value.agg (List.toArray _) = _
  congr 1
  apply Array.ext'
  rw [Array.toList_map, Array.toList_range, List.range_eq_range']
 rwa [e] at h
theorem RD.tup2 {κ : KS} {a b : D} {u v : Value} (h : RD κ a u) (k : RD κ b v) : RD κ (.tup [a, b]) (.tuple #[u, v]) := by
 have := RDs.cons h (RDs.cons k RDs.nil)
 exact .tup [a, b] [u, v] this.1 this.2
theorem RD.tup3 {κ : KS} {a b c : D} {u v z : Value} (h : RD κ a u) (k : RD κ b v) (l : RD κ c z) : RD κ (.tup [a, b, c]) (.tuple #[u, v, z]) := by
 have := RDs.cons h (RDs.cons k (RDs.cons l RDs.nil))
 exact .tup [a, b, c] [u, v, z] this.1 this.2
theorem repS_eq (l : List UInt8) : ∀ c, Lib.repeatL l c = repS l c
 | 0 => rfl
 | c + 1 => by simp [Lib.repeatL, repS, repS_eq l c]
end Go.AM
namespace Go.AM
set_option linter.unusedSectionVars false
variable [Glob]
open Go.RowKit
def DrR (P : Program) : Doer := fun g args w R => (callFunc g args).run P w = .ok (.enter g args) w ∧ CallsD P g args .returning w fun e u' w' => settle u' = .returning ∧ R e w'
def DrP (P : Program) (t : Nat) : Doer := fun g args w R => ∀ (as : List Value) (v : Value), args = (as ++ [v]).toArray → (callFunc g as.toArray).run P w = .ok (.enter g as.toArray) w ∧
 CallsD P g as.toArray (.panicking [{ v := .iface t v, recovered := false }]) w fun e u' w' => settle u' = .returning ∧ R e w'
theorem DrR.mono {P : Program} {g : Nat} {a : Array Value} {w : World} {R R' : Ending → World → Prop} (h : DrR P g a w R) (hr : ∀ e w', R e w' → R' e w') : DrR P g a w R' :=
 ⟨h.1, h.2.mono fun e u' w' hh => ⟨hh.1, hr e w' hh.2⟩⟩
theorem DrP.mono {P : Program} {t g : Nat} {a : Array Value} {w : World} {R R' : Ending → World → Prop} (h : DrP P t g a w R) (hr : ∀ e w', R e w' → R' e w') : DrP P t g a w R' :=
 fun as v e => ⟨(h as v e).1, (h as v e).2.mono fun e u' w' hh => ⟨hh.1, hr e w' hh.2⟩⟩
def recSlots (ops : Array Oper) : Option (Nat × Nat) := match ops.toList with
 | [o1, o2] => match o1.dst, o1.op, o1.guard with
  | some t1, .call ⟨.builtin .recover, _, _⟩, none => match o2.dst, o2.op, o2.guard with
   | some t2, .assign (.tmp t), none => bif Nat.beq t t1 then some (t1, t2) else none
   | _, _, _ => none
  | _, _, _ => none
 | _ => none
def karg (t : Option Nat) (n : Nat) : Nat := match t with | none => n | some _ => n + 1
def recD (t : Option Nat) (n : Nat) (fr : Fr) : Option D := match t with
 | none => some .niface
 | some t => match fr.get n with | some p => some (.iface t p) | none => none
section
variable (c : Ctx) (tab : Tab)
def finK (fn : Func) (out : Shp) (nr : Nat) (fr : Fr) (st : St) : T out.den :=
 (resOf c fr st fn.results.toList).bind fun ds => bif Nat.beq ds.length nr then (out.un (argFr ds 0) st).bind fun y => bif (outL nr (out.fr y)).isSome then .ret y else .fail else .fail
def evH (H : Hints) (fn : Func) (ops : Array Oper) (b : Code) (d : FnS) (n : Nat) (t : Option Nat) (x : d.sh.den) : T d.out.den :=
 bif Nat.ble n fn.ntmps && Nat.ble d.sh.bs.length d.out.bs.length && Nat.beq d.ks.length (karg t n) then match recSlots ops, recD t n (d.sh.fr x) with
  | some (t1, t2), some rc => bif Nat.blt t1 fn.ntmps && Nat.blt t2 fn.ntmps then
    evk c tab fn.ntmps H b ((t2, some rc) :: (t1, some rc) :: (n, none) :: d.sh.fr x) [] (d.sh.st x) fun o => match o.ex with
     | .normal => finK c fn d.out d.nr o.fr o.st
     | .ret => finK c fn d.out d.nr o.fr o.st
     | _ => .fail
   else .fail
  | _, _ => .fail
 else .fail
def dferOf : List Oper → Option (List Oper × Operand × List Operand)
 | [] => none
 | [o] => match o.op, o.guard, o.dst with
  | .defer ⟨.value f, args, _⟩, none, none => some ([], f, args.toList)
  | _, _, _ => none
 | o :: r => match dferOf r with | some (l, z) => some (o :: l, z) | none => none
structure Dfd where
 g : Nat
 d0 : FnS
 pt : Nat
 d1 : FnS
def evD (n : Nat) (H : Hints) (h : Dfd) (fn : Func) (out : Shp) (nr : Nat) : Code → Fr → Kn → St → T out.den
 | .seq a b, fr, kn, st => match opsOf a with
  | some ops => match dferOf ops.toList with
   | some (pre, f, args) => runOpsK c tab n ops pre ⟨fr, kn, st, [], []⟩ (fun s => match evalA s.fr f, allSome (args.map (evalA s.fr)) with
     | some (.clo g caps), some l => bif Nat.beq (cloF g) h.g then
       evk c tab n H b s.fr s.kn s.st fun o => match o.ex with
        | .normal => h.d0.K (cloA g l caps) o.st fun _ st' => finK c fn out nr (o.fr ++ (nones (writesOf b) ++ s.fr)) st'
        | .ret => h.d0.K (cloA g l caps) o.st fun _ st' => finK c fn out nr (o.fr ++ (nones (writesOf b) ++ s.fr)) st'
        | .pan (.iface t p) => bif Nat.beq t h.pt then h.d1.K (cloA g l caps ++ [p]) o.st fun _ st' => finK c fn out nr (o.fr ++ (nones (writesOf b) ++ s.fr)) st' else .fail
        | _ => .fail
      else .fail
     | _, _ => .fail) (fun _ _ => .fail)
   | none => evk c tab n H a fr kn st fun r => match r.ex with
    | .normal => evD n H h fn out nr b r.fr r.kn r.st
    | .ret => finK c fn out nr r.fr r.st
    | _ => .fail
  | none => evk c tab n H a fr kn st fun r => match r.ex with
   | .normal => evD n H h fn out nr b r.fr r.kn r.st
   | .ret => finK c fn out nr r.fr r.st
   | _ => .fail
 | _, _, _, _ => .fail
def evFnD (H : Hints) (h : Dfd) (fn : Func) (code : Code) (d : FnS) (x : d.sh.den) : T d.out.den :=
 bif Nat.ble d.ks.length fn.ntmps && Nat.ble d.sh.bs.length d.out.bs.length then evD c tab fn.ntmps H h fn d.out d.nr code (d.sh.fr x) [] (d.sh.st x) else .fail
end
section
variable {P : Program} {xid : Nat} {tab : Tab} {ro : Nat → Bool} {n : Nat} {H : Hints}
theorem rec_region {ops : Array Oper} {t1 t2 : Nat} (hr : recSlots ops = some (t1, t2)) {Q : Exit → Act → List Frame → World → Prop} {a : Act} {cs : List Frame} {w : World} {id : Nat} (h1 : t1 < a.tmps.size)
  (h : Q .normal ((a.put (some t1) ((recoverD cs).elim .nilIface (·.1))).put (some t2) ((recoverD cs).elim .nilIface (·.1))) ((recoverD cs).elim cs (·.2)) w) : (Code.region id ops false).wpS P Q a cs w := by
 unfold recSlots at hr
 split at hr
 ·rename_i o1 o2 hops
  split at hr
  ·rename_i t1' args tys hd1 ho1 hg1
   split at hr
   ·rename_i t2' t hd2 ho2 hg2
    cases hb : Nat.beq t t1' with
    | false => rw [hb] at hr; cases hr
    | true =>
     rw [hb, cond_true] at hr
     cases hr
     have := Nat.eq_of_beq_eq_true hb
     subst this
     obtain ⟨d1, op1, ty1, pos1, after1, g1⟩ := o1
     obtain ⟨d2, op2, ty2, pos2, after2, g2⟩ := o2
     simp only at hd1 ho1 hg1 hd2 ho2 hg2
     subst hd1 ho1 hg1 hd2 ho2 hg2
     have hsz : ops.size = 2 := by rw [← Array.length_toList, hops]; rfl
     have e0 : ops[0]? = some ⟨some t, .call ⟨.builtin .recover, args, tys⟩, ty1, pos1, after1, none⟩ := by rw [← Array.getElem?_toList, hops]; rfl
     have e1 : ops[1]? = some ⟨some t2, .assign (.tmp t), ty2, pos2, after2, none⟩ := by rw [← Array.getElem?_toList, hops]; rfl
     have hrange : List.range 2 = [0, 1] := rfl
     have ev1 : ∀ v, ((a.put (some t) v).eval (.tmp t)) = v := fun v => by simp [Act.eval, Act.put, Array.getD_eq_getD_getElem?, h1]
     refine wpS_region ?_
     rw [hsz, hrange]
     simp only [wpOpsS, e0, e1, Region.wanted, if_true]
     have hx : ∀ ρ, (execOp ρ ⟨some t, .call ⟨.builtin .recover, args, tys⟩, ty1, pos1, after1, none⟩).run P w = .ok .recover w := fun ρ => by simp [execOp, resolve, invoke, builtin]
     rw [hx]
     simp only
     cases hrec : recoverD cs with
     | none =>
      rw [hrec] at h
      simp only [Option.elim] at h
      simp only [execOp, Sem.run_pure, Oper.upon, ev1]
      exact h
     | some z =>
      obtain ⟨v, cs'⟩ := z
      rw [hrec] at h
      simp only [Option.elim] at h
      simp only [execOp, Sem.run_pure, Oper.upon, ev1]
      exact h
   ·cases hr
  ·cases hr
 ·cases hr
theorem hdl_ok (hm : (mkC P xid tab ro).P.follows .mixedOrders = true) (hT : TabOk P tab) {f : Nat} {fn : Func} {id : Nat} {ops : Array Oper} {b : Code} (hf : P.funcs[f]? = some fn) (hb : fn.body = some (.seq (.region id ops false) b))
  (hL : LoopsOkK P fn.ntmps H b) {d : FnS} {k : Nat} {t : Option Nat} {x : d.sh.den} {y : d.out.den} (hy : (evH (mkC P xid tab ro) tab H fn ops b d k t x).leads y) {κ : KS} (hst : κ.st = d.sh.st x) (hI : Inv κ)
  {as : List Value} (hk : as.length = k) {u : FrameMode} {rv : Value} (hrv : ∀ rc, recD t k (d.sh.fr x) = some rc → RD κ rc rv)
  (hu : ∀ (c₀ : Frame) (cs : List Frame), c₀.mode = u → (recoverD (c₀ :: cs)).elim .nilIface (·.1) = rv ∧ ∃ u', (recoverD (c₀ :: cs)).elim (c₀ :: cs) (·.2) = { c₀ with mode := u' } :: cs ∧ settle u' = .returning)
  (hR : ∀ s dd, (d.sh.fr x).get s = some dd → s ≠ k → ∃ v, as[s]? = some v ∧ RD κ dd v) :
  CallsD P f as.toArray u κ.w fun e u' w' => settle u' = .returning ∧ ∃ (κ' : KS) (ds : List D), κ'.w = w' ∧ κ'.st = d.out.st y ∧ Inv κ' ∧ Ext κ κ' ∧ outL d.nr (d.out.fr y) = some ds ∧ EndRel κ' (.ret ds) e := by
 unfold evH at hy
 cases hc : Nat.ble k fn.ntmps && Nat.ble d.sh.bs.length d.out.bs.length && Nat.beq d.ks.length (karg t k) with
 | false => rw [hc] at hy; exact False.elim hy
 | true =>
 rw [hc, cond_true] at hy
 simp only [Bool.and_eq_true] at hc
 have hc1 := Nat.le_of_ble_eq_true hc.1.1
 have hc2 := Nat.le_of_ble_eq_true hc.1.2
 split at hy
 ·rename_i t1 t2 rc hrs hrc
  cases hcc : Nat.blt t1 fn.ntmps && Nat.blt t2 fn.ntmps with
  | false => rw [hcc] at hy; exact False.elim hy
  | true =>
  rw [hcc, cond_true] at hy
  simp only [Bool.and_eq_true] at hcc
  have hrv' := hrv rc hrc
  refine callsD_of_wpS hf hb fun c₀ cs hc₀ => ?_
  obtain ⟨hv, u', hcs, hset⟩ := hu c₀ cs hc₀
  have h1 : t1 < fn.ntmps := Nat.le_of_ble_eq_true hcc.1
  have h2 : t2 < fn.ntmps := Nat.le_of_ble_eq_true hcc.2
  have hsize : as.length + (fn.ntmps - as.length) = fn.ntmps := by omega
  let a0 : Act := { tmps := as.toArray ++ Array.replicate (fn.ntmps - as.toArray.size) undef, defers := [] }
  have hR0 : Rel κ fn.ntmps (Fr.get ((k, none) :: d.sh.fr x)) a0 := by
   refine ⟨by simp [a0]; omega, rfl, fun s dd hs => ?_⟩
   simp only [Fr.get] at hs
   cases hks : Nat.beq k s with
   | true => rw [hks, cond_true] at hs; cases hs
   | false =>
    rw [hks, cond_false] at hs
    obtain ⟨v, g1, g2⟩ := hR s dd hs (fun e => by subst e; simp at hks)
    refine ⟨v, ?_, g2⟩
    have hlt := (List.getElem?_eq_some_iff.1 g1).1
    show (as.toArray ++ Array.replicate (fn.ntmps - as.toArray.size) undef)[s]? = some v
    rw [Array.getElem?_append_left (by simpa using hlt)]
    simpa using g1
  have hR1 : Rel κ fn.ntmps (Fr.get ((t2, some rc) :: (t1, some rc) :: (k, none) :: d.sh.fr x)) ((a0.put (some t1) rv).put (some t2) rv) := by
   have g1 := hR0.put (dst := some t1) (d := some rc) (v := rv) hcc.1 (fun d' hd' => by cases hd'; exact hrv')
   have g2 := g1.put (dst := some t2) (d := some rc) (v := rv) hcc.2 (fun d' hd' => by cases hd'; exact hrv')
   have e1 := get_put ((k, none) :: d.sh.fr x) (some t1) (some rc)
   have e2 := get_put ((t1, some rc) :: (k, none) :: d.sh.fr x) (some t2) (some rc)
   rw [← e1] at g2
   have g3 : Rel κ fn.ntmps (putF (Fr.get ((t1, some rc) :: (k, none) :: d.sh.fr x)) (some t2) (some rc)) ((a0.put (some t1) rv).put (some t2) rv) := g2
   rw [← e2] at g3
   exact g3
  refine wpS_seq (rec_region hrs (by simp; omega) ?_)
  rw [hv, hcs]
  show b.wpS P _ _ _ _
  refine wpS_of_wp ?_
  rw [← hst] at hy
  refine evk_wp hm hT b hL (κ := κ) hy hI hR1 (knNil _) _ fun o ex' a' κe e0 e1 e2 e3 e4 _ _ _ e6 => ?_
  have fin : (ex' = .normal ∨ ex' = .ret) → (finK (mkC P xid tab ro) fn d.out d.nr o.fr o.st).leads y →
    bodyPostS P fn c₀ cs (fun e u' w' => settle u' = .returning ∧ ∃ (κ' : KS) (ds : List D), κ'.w = w' ∧ κ'.st = d.out.st y ∧ Inv κ' ∧ Ext κ κ' ∧ outL d.nr (d.out.fr y) = some ds ∧ EndRel κ' (.ret ds) e) ex' a' ({ c₀ with mode := u' } :: cs) κe.w := by
   intro hex hfin
   obtain ⟨v, k1, κ', ds, q1, q2, q3, q4, q5, q6⟩ := out_un e1 e2 e3 e4 (by rw [hst]; exact Nat.le_trans (Shp.st_len _ _) hc2) hfin
   have hpost : a'.defers = [] ∧ ∃ u'', ({ c₀ with mode := u' } :: cs : List Frame) = { c₀ with mode := u'' } :: cs ∧ ∃ v, (results fn a'.tmps).run P κe.w = .ok v κe.w ∧ settle u'' = .returning ∧
     ∃ (κ' : KS) (ds : List D), κ'.w = κe.w ∧ κ'.st = d.out.st y ∧ Inv κ' ∧ Ext κ κ' ∧ outL d.nr (d.out.fr y) = some ds ∧ EndRel κ' (.ret ds) (.returned v) :=
    ⟨e4.defers, u', rfl, v, k1, hset, κ', ds, q1, q2, q3, q4, q5, q6⟩
   rcases hex with rfl | rfl
   ·exact hpost
   ·exact hpost
  cases hox : o.ex <;> rw [hox] at e0 e6 <;> simp only at e0
  ·exact fin (.inl e6) e0
  ·exact False.elim e0
  ·exact fin (.inr e6) e0
  ·exact False.elim e0
 ·exact False.elim hy
theorem hdlR_ok (hm : (mkC P xid tab ro).P.follows .mixedOrders = true) (hT : TabOk P tab) {f : Nat} {fn : Func} {id : Nat} {ops : Array Oper} {b : Code} (hf : P.funcs[f]? = some fn) (hb : fn.body = some (.seq (.region id ops false) b))
  (hn : (fn.name == "runtime.NumGoroutine") = false) (hL : LoopsOkK P fn.ntmps H b) {d : FnS} (h : ∀ x, evH (mkC P xid tab ro) tab H fn ops b d d.ks.length none x = d.F x) : FnSOkG (DrR P) f d := by
 intro κ x cargs y hst hy hI hlen hR
 rw [← h] at hy
 refine ⟨callFunc_enter hf hn (by rw [hb]; rfl) κ.w, hdl_ok hm hT hf hb hL hy hst hI hlen (u := .returning) (rv := .nilIface) (fun rc hrc => by cases hrc; exact .niface) (fun c₀ cs hc => ?_) fun s dd hs _ => ?_⟩
 ·have : recoverD (c₀ :: cs) = none := by simp only [recoverD, hc]
  rw [this]
  exact ⟨rfl, .returning, by rw [← hc]; rfl, rfl⟩
 ·obtain ⟨v, h1, h2⟩ := hR.get s dd hs
  exact ⟨v, by simpa using h1, h2⟩
theorem hdlP_ok (hm : (mkC P xid tab ro).P.follows .mixedOrders = true) (hT : TabOk P tab) {f : Nat} {fn : Func} {id : Nat} {ops : Array Oper} {b : Code} (hf : P.funcs[f]? = some fn) (hb : fn.body = some (.seq (.region id ops false) b))
  (hn : (fn.name == "runtime.NumGoroutine") = false) (hL : LoopsOkK P fn.ntmps H b) {d : FnS} {k t : Nat} (hk : d.ks.length = k + 1) (h : ∀ x, evH (mkC P xid tab ro) tab H fn ops b d k (some t) x = d.F x) : FnSOkG (DrP P t) f d := by
 intro κ x cargs y hst hy hI hlen hR as v hc
 have hc : cargs = as ++ [v] := by simpa using hc
 subst hc
 rw [← h] at hy
 have hk' : as.length = k := by simp at hlen; omega
 refine ⟨callFunc_enter hf hn (by rw [hb]; rfl) κ.w, hdl_ok hm hT hf hb hL hy hst hI hk' (rv := .iface t v) (fun rc hrc => ?_) (fun c₀ cs hc => ?_) fun s dd hs hsk => ?_⟩
 ·simp only [recD] at hrc
  split at hrc
  ·rename_i p hp
   cases hrc
   obtain ⟨u, h1, h2⟩ := hR.get k p hp
   have : u = v := by
    have h1 : (as ++ [v]).toArray[k]? = some u := h1
    simp [← hk'] at h1
    exact h1.symm
   subst this
   exact .iface t p u h2
  ·cases hrc
 ·have : recoverD (c₀ :: cs) = some (.iface t v, { c₀ with mode := .panicking [{ v := .iface t v, recovered := true }] } :: cs) := by simp only [recoverD, hc]
  rw [this]
  exact ⟨rfl, _, rfl, rfl⟩
 ·obtain ⟨u, h1, h2⟩ := hR.get s dd hs
  refine ⟨u, ?_, h2⟩
  have h1 : (as ++ [v]).toArray[s]? = some u := h1
  have hlt := (Array.getElem?_eq_some_iff.1 h1).1
  simp at hlt
  simp at h1
  rwa [List.getElem?_append_left (by omega)] at h1
theorem ofValue_run {p : Value} {g : Nat} {us vs : List Value} {w : World} (hpe : p = cloV g us) : ∃ (fv : Fn) (cap as : Array Value), (Deferred.ofValue p vs.toArray).run P w = .ok ⟨.fn fv cap, as⟩ w ∧
  (invoke (.fn fv cap) as).run P w = (callFunc (cloF g) (cloA g vs us).toArray).run P w ∧ ∀ w', (invoke (.fn fv cap) as).run P w' = (callFunc (cloF g) (cloA g vs us).toArray).run P w' := by
 subst hpe
 unfold cloV cloF cloA
 cases hb : Nat.ble 1000000 g with
 | true =>
  have key : ∀ w', (invoke (.fn (.func (g % 1000000)) #[]) (us.toArray ++ vs.toArray)).run P w' = (callFunc (g % 1000000) (us ++ vs).toArray).run P w' := fun w' => by simp [invoke]
  exact ⟨.func (g % 1000000), #[], us.toArray ++ vs.toArray, by simp [Deferred.ofValue], key w, key⟩
 | false =>
  have key : ∀ w', (invoke (.fn (.func g) us.toArray) vs.toArray).run P w' = (callFunc g (vs ++ us).toArray).run P w' := fun w' => by simp [invoke]
  exact ⟨.func g, us.toArray, vs.toArray, by simp [Deferred.ofValue], key w, key⟩
theorem dferOf_spec : ∀ {l : List Oper} {pre : List Oper} {f : Operand} {args : List Operand}, dferOf l = some (pre, f, args) → ∃ o as tys, l = pre ++ [o] ∧ o.op = .defer ⟨.value f, as, tys⟩ ∧ as.toList = args ∧ o.guard = none ∧ o.dst = none
 | [], pre, f, args, h => by cases h
 | [o], pre, f, args, h => by
  simp only [dferOf] at h
  split at h
  ·rename_i f' as tys h1 h2 h3
   cases h
   exact ⟨o, as, tys, rfl, h1, rfl, h2, h3⟩
  ·cases h
 | o :: p :: r, pre, f, args, h => by
  simp only [dferOf] at h
  split at h
  ·rename_i l z hz
   cases h
   obtain ⟨o', as, tys, e, g1, g2, g3, g4⟩ := dferOf_spec hz
   exact ⟨o', as, tys, by rw [e]; rfl, g1, g2, g3, g4⟩
  ·cases h
theorem dfer_region {c : Ctx} {κ : KS} {a : Act} {id : Nat} {ops : Array Oper} {pre : List Oper} {f : Operand} {args : List Operand} {fr : Fr} {kn : Kn} {s1 : RSt} {g : Nat} {caps l : List D} (hC : ∀ g, Snd c.P g (c.fn g)) (hI : Inv κ) (hR : Rel κ n fr.get a) (hk : KnOk kn fr.get)
  (hd : dferOf ops.toList = some (pre, f, args)) (hrun : (runOps c n ops pre ⟨fr, kn, κ.st, [], []⟩).leads s1) (hf : evalA s1.fr f = some (.clo g caps)) (hl : allSome (args.map (evalA s1.fr)) = some l) {Q : Exit → Act → World → Prop}
  (hQ : ∀ (a' : Act) (κ' : KS) (fv : Fn) (cap as : Array Value) (cargs : List Value), κ'.st = s1.st → Inv κ' → Ext κ κ' → Rel κ' n s1.fr.get a' → KnOk s1.kn s1.fr.get → Keep ops a a' → RDs κ' (cloA g l caps) cargs →
   (∀ w', (invoke (.fn fv cap) as).run c.P w' = (callFunc (cloF g) cargs.toArray).run c.P w') → Q .normal { a' with defers := ⟨.fn fv cap, as⟩ :: a'.defers } κ'.w) : (Code.region id ops false).wp c.P Q a κ.w := by
 obtain ⟨o, oas, tys, e, ho, hargs, hg, hdst⟩ := dferOf_spec hd
 have hget : ∀ j : Nat, ops[j]? = (pre ++ [o])[j]? := fun j => by rw [← e]; simp
 obtain ⟨ks, g1, g2, _⟩ := runOps_run pre 0 ⟨fr, kn, κ.st, [], []⟩ s1 (fun j => by
  by_cases hj : j < pre.length
  ·left; rw [Nat.zero_add, hget, List.getElem?_append_left hj]
  ·right; omega) hk hrun
 have hsz : List.range ops.size = List.range' 0 pre.length ++ [pre.length] := by
  have : ops.size = pre.length + 1 := by rw [← Array.length_toList, e]; simp
  rw [this, List.range_eq_range', ← List.range'_append_1, Nat.zero_add]; rfl
 refine wp_region ?_
 rw [hsz]
 refine orun_tail hC _ _ hI hR rfl g1 fun a' κ' e1 e2 e3 e4 e5 => ?_
 rw [wpOps_cons]
 unfold wpOp
 have hoi : ops[pre.length]? = some o := by rw [hget]; simp
 rw [hoi]
 obtain ⟨dst, op, ty, pos, after, guard⟩ := o
 simp only at ho hg hdst
 subst ho hg hdst
 simp only [Region.wanted, if_true]
 have hev : ∀ (x : Operand) (z : D), evalA s1.fr x = some z → RD κ' z (a'.eval x) := fun x z hz => e4.eval (by rw [← evalA_eq]; exact hz)
 have hpv := hev f _ hf
 have hr := rds_of_opts (κ := κ') (vs := oas.toList.map a'.eval) hl (by simp [← hargs]) (fun i d v hd hv => by
      rw [← hargs] at hd
      simp only [List.getElem?_map] at hd hv
      cases hi : oas.toList[i]? with
      | none => rw [hi] at hd; cases hd
      | some x => rw [hi] at hd hv; simp at hd hv; subst hv; exact hev x d hd)
 generalize hpe : a'.eval f = pv at hpv
 cases hpv with
 | clo _ _ us hl2 hh2 =>
  obtain ⟨fv, cap, as, k1, k2, k3⟩ := ofValue_run (P := c.P) (vs := oas.toList.map a'.eval) (w := κ'.w) (rfl : cloV g us = cloV g us)
  refine .inl ?_
  unfold Oper.wp
  have hx : (execOp a'.eval ⟨none, .defer ⟨.value f, oas, tys⟩, ty, pos, after, none⟩).run c.P κ'.w = .ok (.defer ⟨.fn fv cap, as⟩) κ'.w := by
   have e9 : oas.map a'.eval = (oas.toList.map a'.eval).toArray := by apply Array.ext'; simp
   simp only [execOp, resolve, hpe, e9, Sem.run_bind, k1, Result.andThen_ok, Sem.run_pure]
  rw [hx]
  exact hQ a' κ' fv cap as _ e1 e2 e3 e4 g2 e5 (cloA_rds g hr (⟨hl2, hh2⟩ : RDs κ' caps us)) k3
def PostS (κ0 : KS) (out : Shp) (nr : Nat) (y : out.den) : Ending → World → Prop := fun e w' => ∃ (κ' : KS) (ds : List D), κ'.w = w' ∧ κ'.st = out.st y ∧ Inv κ' ∧ Ext κ0 κ' ∧ outL nr (out.fr y) = some ds ∧ EndRel κ' (.ret ds) e
theorem fin_leaves {κ0 κ2 : KS} {fn : Func} {out : Shp} {nr : Nat} {y : out.den} {fr : Fr} {st' : St} {tm : Array Value} (e1 : κ2.st = st') (e2 : Inv κ2) (e3 : Ext κ0 κ2) (e4 : Rel κ2 fn.ntmps fr.get { tmps := tm, defers := [] }) (hlen : κ0.st.length ≤ out.bs.length)
  (h : (finK (mkC P xid tab ro) fn out nr fr st').leads y) : Leaves P fn tm (PostS κ0 out nr y) [] .returning κ2.w := by
 obtain ⟨v, k1, κ', ds, q1, q2, q3, q4, q5, q6⟩ := out_un (o := ⟨.ret, fr, [], st', false⟩) e1 e2 e3 e4 hlen h
 exact ⟨v, k1, κ', ds, q1, q2, q3, q4, q5, q6⟩
theorem noLoops {code : Code} (h : loopsOf code = []) [Dfs] : LoopsOkK P n H code := fun p hp => by rw [h] at hp; cases hp
theorem rel_df {κ : KS} {f : F} {a : Act} (D : Dfs) (h : @Rel D κ n f a) : @Rel dfNil κ n f { tmps := a.tmps, defers := [] } := @Rel.mk dfNil κ n f _ (@Rel.size D κ n f a h) rfl (@Rel.get D κ n f a h)
theorem rel_mono0 {κ κ' : KS} {f : F} {a : Act} (x : Ext κ κ') (h : @Rel dfNil κ n f a) : @Rel dfNil κ' n f a := h.mono x
theorem rel_up {κ : KS} {f : F} {a : Act} (h : @Rel dfNil κ n f a) (l : List Deferred) : @Rel ⟨l⟩ κ n f { a with defers := l } := @Rel.mk ⟨l⟩ κ n f _ h.size rfl h.get
theorem evD_wp (hm : (mkC P xid tab ro).P.follows .mixedOrders = true) (hT : TabOk P tab) {h : Dfd} (h0 : FnSOkG (DrR P) h.g h.d0) (h1 : FnSOkG (DrP P h.pt) h.g h.d1) {fn : Func} {out : Shp} {nr : Nat} {y : out.den} {κ0 : KS} (hlen : κ0.st.length ≤ out.bs.length) :
  ∀ (code : Code), loopsOf code = [] → ∀ {fr : Fr} {kn : Kn} {κ : KS} {a : Act}, (evD (mkC P xid tab ro) tab fn.ntmps H h fn out nr code fr kn κ.st).leads y → Inv κ → Ext κ0 κ → Rel κ fn.ntmps fr.get a → KnOk kn fr.get →
   code.wp P (bodyPostD P fn (PostS κ0 out nr y)) a κ.w := by
 intro code
 induction code with
 | seq x b ix ib =>
  intro hl fr kn κ a hy hI hx hR hk
  have hlx : loopsOf x = [] := by simp only [loopsOf, List.append_eq_nil_iff] at hl; exact hl.1
  have hlb : loopsOf b = [] := by simp only [loopsOf, List.append_eq_nil_iff] at hl; exact hl.2
  have plain : (evk (mkC P xid tab ro) tab fn.ntmps H x fr kn κ.st fun r => match r.ex with
    | .normal => evD (mkC P xid tab ro) tab fn.ntmps H h fn out nr b r.fr r.kn r.st
    | .ret => finK (mkC P xid tab ro) fn out nr r.fr r.st
    | _ => .fail).leads y → (Code.seq x b).wp P (bodyPostD P fn (PostS κ0 out nr y)) a κ.w := by
   intro hy
   refine wp_seq (evk_wp hm hT x (noLoops hlx) (κ := κ) hy hI hR hk _ fun o ex' a' κ' e0 e1 e2 e3 e4 e4' _ _ e6 => ?_)
   cases hex : o.ex <;> rw [hex] at e0 e6 <;> simp only at e0
   ·cases e6
    exact ib hlb (κ := κ') (e1 ▸ e0) e2 (hx.trans e3) e4 e4'
   ·exact e0.elim
   ·cases e6
    show Leaves P fn a'.tmps _ a'.defers .returning κ'.w
    rw [show a'.defers = [] from e4.defers]
    exact fin_leaves e1 e2 (hx.trans e3) (rel_df dfNil e4) hlen e0
   ·exact e0.elim
  simp only [evD] at hy
  split at hy
  ·rename_i ops hops
   obtain ⟨id, rfl⟩ : ∃ id, x = .region id ops false := by
    cases x with
    | region id ops' draw =>
     cases draw with
     | true => cases hops
     | false => cases hops; exact ⟨id, rfl⟩
    | _ => cases hops
   split at hy
   ·rename_i pre f args hd
    have hmem : ∀ o ∈ pre, ∃ i : Nat, ops[i]? = some o := fun o ho => by
     obtain ⟨o', oas, tys, e, _⟩ := dferOf_spec hd
     have : o ∈ ops.toList := by rw [e]; exact List.mem_append_left _ ho
     obtain ⟨i, hi, he⟩ := List.getElem_of_mem this
     exact ⟨i, by rw [← he]; simp at hi; simp [hi]⟩
    rcases runOpsK_of pre hk hmem hy with ⟨s1, hrun, hy⟩ | ⟨_, _, _, hy⟩
    rotate_left
    ·exact hy.elim
    split at hy
    ·rename_i g caps l hf hl
     cases hg : Nat.beq (cloF g) h.g with
     | false => rw [hg] at hy; exact hy.elim
     | true =>
     rw [hg, cond_true] at hy
     have hgg := Nat.eq_of_beq_eq_true hg
     refine wp_seq (dfer_region (c := mkC P xid tab ro) (mkC_snd hT) hI hR hk hd hrun hf hl fun a' κ1 fv cap as cargs e1 e2 e3 e4 e4' e5 e6 e7 => ?_)
     show b.wp P _ _ κ1.w
     have hdf : a'.defers = [] := e4.defers
     rw [hdf]
     let D : Dfs := ⟨[⟨.fn fv cap, as⟩]⟩
     have hRD : @Rel D κ1 fn.ntmps s1.fr.get { a' with defers := [⟨.fn fv cap, as⟩] } := rel_up e4 _
     rw [← e1] at hy
     refine @evk_wp _ D P xid tab ro fn.ntmps H hm hT b (@noLoops _ P fn.ntmps H b hlb D) s1.fr s1.kn κ1 _ _ _ y hy e2 hRD e4' _ fun o ex' a2 κe f0 f1 f2 f3 f4 f4' f5 _ f6 => ?_
     have hdf2 : a2.defers = [⟨.fn fv cap, as⟩] := @Rel.defers D κe fn.ntmps _ a2 f4
     have hRa : @Rel dfNil κe fn.ntmps (Fr.get (o.fr ++ (nones (writesOf b) ++ s1.fr))) { tmps := a2.tmps, defers := [] } := rel_df D (@rel_after _ D fn.ntmps κ1 κe s1.fr o.fr _ a2 (writesOf b) hRD f3 f4 f5)
     have hRargs : RDs κe (cloA g l caps) cargs := RDs.mono f3 e6
     have hent : ∀ (cs : Array Value) (w' : World), cs = cargs.toArray → (callFunc h.g cs).run P w' = .ok (.enter h.g cs) w' → (invoke (.fn fv cap) as).run P w' = .ok (.enter h.g cs) w' := fun cs w' hcs hc => by
      refine (e7 w').trans ?_
      rw [hgg, ← hcs]; exact hc
     have fin0 : (h.d0.K (cloA g l caps) o.st fun _ st' => finK (mkC P xid tab ro) fn out nr (o.fr ++ (nones (writesOf b) ++ s1.fr)) st').leads y → Leaves P fn a2.tmps (PostS κ0 out nr y) a2.defers .returning κe.w := by
      intro hK
      obtain ⟨ds, st', k1, k2⟩ := FnS.K_of hK
      rw [← f1] at k1
      obtain ⟨d1, d2⟩ := FnS.sndG (Dr := DrR P) DrR.mono h0 κe _ cargs _ _ k1 f2 hRargs
      rw [hdf2]
      refine leaves_cons (by nofun) (hent _ _ rfl d1) (d2.mono ?_)
      rintro e u' w' ⟨hset, κ2, rfl, g2, g3, g4, v, rfl, _⟩
      show Leaves P fn a2.tmps _ [] (settle u') κ2.w
      rw [hset]
      exact fin_leaves g2 g3 ((hx.trans (e3.trans f3)).trans g4) (rel_mono0 g4 hRa) hlen k2
     cases hox : o.ex <;> rw [hox] at f0 f6
     ·cases f6; exact fin0 f0
     ·exact f0.elim
     ·cases f6; exact fin0 f0
     ·rename_i pd
      obtain ⟨v, rfl, hv⟩ := f6
      cases pd <;> first | exact False.elim f0 | skip
      rename_i t p
      have f00 : (bif Nat.beq t h.pt then h.d1.K (cloA g l caps ++ [p]) o.st fun _ st' => finK (mkC P xid tab ro) fn out nr (o.fr ++ (nones (writesOf b) ++ s1.fr)) st' else .fail).leads y := f0
      clear f0
      cases ht : Nat.beq t h.pt with
      | false => rw [ht] at f00; exact f00.elim
      | true =>
      rw [ht, cond_true] at f00
      have := Nat.eq_of_beq_eq_true ht
      subst this
      cases hv with
      | iface _ _ u hu =>
       obtain ⟨ds, st', k1, k2⟩ := FnS.K_of f00
       rw [← f1] at k1
       obtain ⟨d1, d2⟩ := FnS.sndG (Dr := DrP P h.pt) DrP.mono h1 κe _ (cargs ++ [u]) _ _ k1 f2 (hRargs.append (RDs.cons hu RDs.nil)) cargs u rfl
       show Leaves P fn a2.tmps _ a2.defers _ κe.w
       rw [hdf2]
       refine leaves_cons (by nofun) (hent _ _ rfl d1) (d2.mono ?_)
       rintro e u' w' ⟨hset, κ2, rfl, g2, g3, g4, v, rfl, _⟩
       show Leaves P fn a2.tmps _ [] (settle u') κ2.w
       rw [hset]
       exact fin_leaves g2 g3 ((hx.trans (e3.trans f3)).trans g4) (rel_mono0 g4 hRa) hlen k2
    ·exact hy.elim
   ·exact plain hy
  ·exact plain hy
 | _ => intro _ fr kn κ a hy; exact hy.elim
theorem fnd_ok (hm : (mkC P xid tab ro).P.follows .mixedOrders = true) (hT : TabOk P tab) {h : Dfd} (h0 : FnSOkG (DrR P) h.g h.d0) (h1 : FnSOkG (DrP P h.pt) h.g h.d1) {f : Nat} {fn : Func} {code : Code} (hf : P.funcs[f]? = some fn) (hb : fn.body = some code)
  (hn : (fn.name == "runtime.NumGoroutine") = false) (hL : loopsOf code = []) {d : FnS} (he : ∀ x, evFnD (mkC P xid tab ro) tab H h fn code d x = d.F x) : FnSOk P f d := by
 intro κ x cargs y hst hy hI hlen hR0
 rw [← he] at hy
 unfold evFnD at hy
 cases hle : Nat.ble d.ks.length fn.ntmps && Nat.ble d.sh.bs.length d.out.bs.length with
 | false => rw [hle] at hy; exact hy.elim
 | true =>
  rw [hle, cond_true] at hy
  simp only [Bool.and_eq_true] at hle
  have hle1 := Nat.le_of_ble_eq_true hle.1
  have hle2 := Nat.le_of_ble_eq_true hle.2
  refine .inl ⟨callFunc_enter hf hn (by rw [hb]; rfl) κ.w, calls_of_wp_defers hf hb ?_⟩
  have hR : Rel κ fn.ntmps (d.sh.fr x).get { tmps := cargs.toArray ++ Array.replicate (fn.ntmps - cargs.toArray.size) undef, defers := [] } := by
   refine ⟨by simp; omega, rfl, fun s e hs => ?_⟩
   obtain ⟨v, h1, h2⟩ := hR0.get s e hs
   refine ⟨v, ?_, h2⟩
   have hlt := (Array.getElem?_eq_some_iff.1 h1).1
   rw [Array.getElem?_append_left hlt]
   exact h1
  exact evD_wp hm hT h0 h1 (κ0 := κ) (by rw [hst]; exact Nat.le_trans (Shp.st_len _ _) hle2) code hL (κ := κ) (by rw [hst]; exact hy) hI (Ext.refl κ) hR (knNil _)
end
end Go.AM