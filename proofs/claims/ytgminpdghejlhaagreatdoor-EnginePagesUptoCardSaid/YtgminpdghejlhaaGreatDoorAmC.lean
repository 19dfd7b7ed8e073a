/-
  The abstract machine, part C: texts of our own, the same for each claim.
-/
import Derived.Test.YtgminpdghejlhaaGreatDoorAmB
import Derived.Deep.LoopGhost
set_option linter.unusedVariables false
open Go.Op renaming operands -> zA
open Nat renaming eq_of_beq_eq_true -> Y, le_of_ble_eq_true -> I, beq -> zU, le_antisymm -> qC, le_refl -> qG, lt_or_ge -> qH, blt -> qL, not_lt_zero -> qN, zero_add -> qO, testBit -> qS
open List renaming mem_range -> W, getElem?_set_ne -> zE, getElem?_append_left -> zI, all_eq_true -> zJ, mem_cons_self -> zK, map_congr_left -> zM, pairwise_lt_range -> zN, any_eq_true -> zO, getElem?_eq_some_iff -> zQ, mem_cons_of_mem -> zS, getElem?_eq_getElem -> zT, eq_nil_of_length_eq_zero -> zW, mem_filter -> zX, mem_cons -> qA, pairwise_cons -> qE, range -> qF, getElem?_eq_none -> qJ, reverse_reverse -> qM, any_eq_false -> qQ, getElem?_map -> qR, getElem_mem -> qV, getElem?_set_self -> qX, mem_append -> xA, mem_of_getElem? -> xB, range_eq_range' -> xC, getD -> xF
open Bool renaming and_eq_true -> zF, not_eq_true' -> zL, not_eq_false' -> qD
open Array renaming mem_toList_iff -> zG, getElem?_setIfInBounds_ne -> zH, getElem?_eq_getElem -> zP, toArray_toList -> zR, eq_empty_of_size_eq_zero -> zV, getD_eq_getD_getElem? -> zY, replicate -> qB, getElem?_toList -> qI, ext' -> qP
open Go.Region renaming binds -> zZ, wanted -> qU, ready -> qY
open Go.Call renaming operands -> qK
open Go.Result renaming andThen_ok -> qT
open Go.Act renaming put -> qW
open Go.Sem renaming run_bind -> qZ, run_pure -> xD
open Go.Deferred renaming ofValue -> xE
open Pure renaming pure -> xG
namespace Go.AM
set_option linter.unusedSectionVars false
variable [gB]
abbrev F:=Nat->Option D
def wD(f:F):Operand->Option D
 | .tmp t=>f t
 | .const v=>Kr v
 | .global _=>none
 | .func g=>bif qL g 1000000 then some (.wj g [])else none
theorem iS(fr:Fr):bO fr=wD fr.get:=by rfl
def eD(f:F)(dst:Option Nat)(d:Option D):F:=match dst with
 | some t=>λs=>if s=t then d else f s
 | none=>f
theorem Qh{a b:Nat}(h:a≠b):zU a b=false:=by
 cases J:zU a b with
 | false=>rfl
 | true=>exact absurd (Y J) h
theorem Q4(fr:Fr)(dst:Option Nat)(d:Option D):(fr.put dst d).get=eD fr.get dst d:=by
 cases dst with
 | none=>rfl
 | some t =>
  funext s
  simp only[Fr.put,Fr.get,eD]
  by_cases h:s=t
  ·subst h; simp
  ·rw[if_neg h,Qh (λe=>h e.symm),cond_false]
section
variable (c:Ctx) (n:Nat) (ops:Array Oper)
def jO(f:F)(o:Oper):Option Bool:=match o.guard with
 | none=>some true
 | some (j,w)=>match bR ops j with
  | none=>none
  | some t=>match f t with
   | some (.qi .bool b)=>some (b==w)
   | some (.eZ [])=>some false
   | _=>none
def fK(i:Nat)(s s':F×St)(k:Nat):Prop:=∃ o,ops[i]? = some o/\gD n o.dst=true /\
 ((jO ops s.1 o=some true/\k=(wS c (wD s.1) o).kind/\∃ d qm,(qt (wS c (wD s.1) o) s.2).leads (d,qm)/\s'=(eD s.1 o.dst d,qm)) \/
  (jO ops s.1 o=some false/\k=0/\s'=(eD s.1 o.dst (some TM),s.2)))
def RZ:List Nat->F×St->F×St->List Nat->Prop
 | [],s,s',ks=>s'=s/\ks=[]
 | i::l,s,s',ks=>∃ s1 k M9,ks=k::M9/\fK c n ops i s s1 k/\RZ l s1 s' M9
end
section
variable {c:Ctx} {n:Nat} {ops:Array Oper}
def yV(kn:Kn)(f:F):Prop:=∀ t b,kn.get t=some b->f t=some (.qi .bool b)
theorem Ga(t:Nat)(b:Option Bool)(kn:Kn)(s:Nat):Kn.get ((t,b)::kn) s=if s=t then b else kn.get s:=by
 simp only[Kn.get]
 by_cases h:s=t
 ·subst h; simp
 ·rw[if_neg h,Qh (λe=>h e.symm),cond_false]
theorem mG{kn:Kn}{f:F}(h:yV kn f){x:Operand}{b:Bool}(U:rV kn x=some b):wD f x=some (.qi .bool b):=by
 unfold rV at U
 split at U
 ·exact h _ _ U
 ·cases U; rfl
 ·cases U
theorem F2{kn:Kn}{fr:Fr}{o:Oper}(hk:yV kn fr.get){st:St}{r:Option D×St}(h:(qt (QI c kn fr o) st).leads r) :
  (qt (wS c (wD fr.get) o) st).leads r/\(QI c kn fr o).kind=(wS c (wD fr.get) o).kind/\∀ b,HP kn o.op=some b->r.1=some (.qi .bool b):=by
 obtain⟨dst,op,ty,pos,after,guard⟩:=o
 rw[<- iS]
 cases op with
 | pick x a b =>
  simp only[QI]at h ⊢
  cases U:rV kn x with
  | none =>
   rw[U]at h
   refine⟨h,rfl,λb' J => ?_⟩
   simp[HP,U]at J
  | some bx =>
   rw[U]at h
   have hval:=mG hk U
   rw[<- iS]at hval
   have zhA:wS c (bO fr) ⟨dst,.pick x a b,ty,pos,after,guard⟩=.val (.ite bx (.ret (bO fr a)) (.ret (bO fr b))):=by
    simp only[wS,MD,hval,asBool]
   rw[zhA]
   obtain⟨d,qm⟩:=r
   cases bx with
   | true =>
    simp only[ya,T.leads]at h ⊢
    refine⟨⟨.inl ⟨by first | rfl | trivial,h.1⟩,h.2⟩,rfl,λb' J => ?_⟩
    simp only[HP,U]at J
    have:=mG hk J
    rw[<- iS]at this
    grind
   | false =>
    simp only[ya,T.leads]at h ⊢
    refine⟨⟨.inr ⟨by first | rfl | trivial,h.1⟩,h.2⟩,rfl,λb' J => ?_⟩
    simp only[HP,U]at J
    have:=mG hk J
    rw[<- iS]at this
    grind
 | move x =>
  refine⟨h,rfl,λb J => ?_⟩
  obtain⟨d,qm⟩:=r
  simp only[QI,wS,ya,T.leads]at h
  have:=mG hk (show rV kn x=some b from J)
  rw[<- iS]at this
  grind
 | assign x =>
  refine⟨h,rfl,λb J => ?_⟩
  obtain⟨d,qm⟩:=r
  simp only[QI,wS,ya,T.leads]at h
  have:=mG hk (show rV kn x=some b from J)
  rw[<- iS]at this
  grind
 | _=>exact⟨h,rfl,λb J=>by simp[HP]at J⟩
theorem Rh{kn:Kn}{f:F}(hk:yV kn f){dst:Option Nat}{d:Option D}{b:Option Bool}(J:∀ b',b=some b'->d=some (.qi .bool b')):yV (HW kn dst b) (eD f dst d):=by
 cases dst with
 | none=>exact hk
 | some t =>
  intro s b' h
  simp only[HW,Ga]at h
  simp only[eD]
  split at h
  ·grind
  ·rename_i e; rw[if_neg e]; exact hk s b' h
theorem Wj{kn:Kn}{f:F}(hk:yV kn f){t:Nat}{b:Bool}(J:f t=some (.qi .bool b)):yV ((t,some b)::kn) f:=by
 intro s b' h
 rw[Ga]at h
 split at h
 ·grind
 ·exact hk s b' h
theorem H0{o:Oper}{s s':oX}(hk:yV s.kn s.fr.get)(h:(lO c n o s).leads s') :
  gD n o.dst=true/\(∃ d qm,(qt (wS c (wD s.fr.get) o) s.st).leads (d,qm)/\s'.fr.get=eD s.fr.get o.dst d/\s'.st=qm)/\yV s'.kn s'.fr.get/\s'.ks=(wS c (wD s.fr.get) o).kind::s.ks:=by
 unfold lO at h
 cases V:gD n o.dst with
 | false=>rw[V]at h; exact h.elim
 | true =>
  rw[V,cond_true]at h
  simp only[T.xg]at h
  obtain⟨⟨d,qm⟩,h1,rfl⟩:=h
  obtain⟨X,h3,h4⟩:=F2 hk h1
  refine⟨rfl,⟨d,qm,X,Q4 _ _ _,rfl⟩,?_,wa⟩
  rw[Q4]
  exact Rh hk h4
theorem Rp{o:Oper}{s:oX}(hk:yV s.kn s.fr.get):yV (da o s).kn (da o s).fr.get:=by
 show yV (HW s.kn o.dst none) (s.fr.put o.dst (some TM)).get
 rw[Q4]
 exact Rh hk nofun
theorem C9{i:Nat}{o:Oper}{s s':oX}(ho:ops[i]? = some o)(hk:yV s.kn s.fr.get)(h:(stepG c n ops o s).leads s') :
  ∃ k,fK c n ops i (s.fr.get,s.st) (s'.fr.get,s'.st) k/\yV s'.kn s'.fr.get/\s'.ks=k::s.ks:=by
 have run:∀ (s0:oX),s0.fr=s.fr->s0.st=s.st->s0.ks=s.ks->yV s0.kn s0.fr.get->jO ops s.fr.get o=some true->(lO c n o s0).leads s' ->
   ∃ k,fK c n ops i (s.fr.get,s.st) (s'.fr.get,s'.st) k/\yV s'.kn s'.fr.get/\s'.ks=k::s.ks:=by
  intro s0 e1 e2 e3 Eb hw h
  obtain⟨h1,⟨d,qm,X,h3,h4⟩,h5,h6⟩:=H0 Eb h
  rw[e1]at X h3 h6
  rw[e2]at X
  rw[e3]at h6
  exact⟨_,⟨o,ho,h1,.inl ⟨hw,rfl,d,qm,X,by rw[h3,h4]⟩⟩,h5,h6⟩
 have skip:∀ (s0:oX),s0.fr=s.fr->s0.st=s.st->s0.ks=s.ks->yV s0.kn s0.fr.get->jO ops s.fr.get o=some false->gD n o.dst=true->da o s0=s' ->
   ∃ k,fK c n ops i (s.fr.get,s.st) (s'.fr.get,s'.st) k/\yV s'.kn s'.fr.get/\s'.ks=k::s.ks:=by
  intro s0 e1 e2 e3 Eb hw V h
  subst h
  refine⟨0,⟨o,ho,V,.inr ⟨hw,rfl,?_⟩⟩,Rp Eb,by simp[da,e3]⟩
  simp only[da,Q4,e1,e2]
 unfold stepG at h
 split at h
 ·rename_i hg
  exact run s rfl rfl rfl hk (by simp[jO,hg]) h
 ·rename_i j w hg
  split at h
  ·exact h.elim
  ·rename_i t ht
   split at h
   ·rename_i b J
    have hf:=hk t b J
    have hw:jO ops s.fr.get o=some (b==w):=by simp[jO,hg,ht,hf]
    cases TT:(b==w)with
    | true=>grind
    | false =>
     rw[TT,cond_false]at h
     cases V:gD n o.dst with
     | false=>rw[V]at h; exact h.elim
     | true=>rw[V,cond_true]at h; exact skip s rfl rfl rfl hk (by rw[hw,TT]) V h
   ·split at h
    ·rename_i x U
     have hw:jO ops s.fr.get o=some (x==w):=by simp[jO,hg,ht,U]
     cases V:gD n o.dst with
     | false=>rw[V]at h; exact h.elim
     | true =>
      rw[V,cond_true]at h
      rcases h with⟨rfl,h⟩ | ⟨rfl,h⟩
      ·have Yb:yV (s.lT t true).kn (s.lT t true).fr.get:=Wj hk U
       cases w with
       | true=>exact run (s.lT t true) rfl rfl rfl Yb hw h
       | false=>exact skip (s.lT t true) rfl rfl rfl Yb hw V h
      ·have Yb:yV (s.lT t false).kn (s.lT t false).fr.get:=Wj hk U
       cases w with
       | true=>exact skip (s.lT t false) rfl rfl rfl Yb hw V h
       | false=>exact run (s.lT t false) rfl rfl rfl Yb hw h
    ·rename_i U
     have hw:jO ops s.fr.get o=some false:=by simp[jO,hg,ht,U]
     cases V:gD n o.dst with
     | false=>rw[V]at h; exact h.elim
     | true=>rw[V,cond_true]at h; exact skip s rfl rfl rfl hk hw V h
    ·exact h.elim
theorem sx:∀ (l:List Oper) (k0:Nat) (s s':oX),(∀ j,l[j]? = ops[k0+j]? \/ l.length<=j)->yV s.kn s.fr.get->(tX c n ops l s).leads s' ->
  ∃ ks,RZ c n ops (List.range' k0 l.length) (s.fr.get,s.st) (s'.fr.get,s'.st) ks/\yV s'.kn s'.fr.get/\s'.ks=ks.reverse++s.ks
 | [],k0,s,s',_,hk,h=>by cases h; exact⟨[],⟨rfl,rfl⟩,hk,rfl⟩
 | o::l,k0,s,s',B,hk,h=>by
  simp only[tX,T.xg]at h
  obtain⟨s1,h1,X⟩:=h
  have ho:ops[k0]? = some o:=by rcases B 0 with h | h<;>simp at h; exact h.symm
  obtain⟨k,g1,g2,g3⟩:=C9 ho hk h1
  obtain⟨ks,g4,g5,g6⟩:=sx l (k0+1) s1 s' (λj=>by have:=B (j+1); simpa[Nat.add_assoc,Nat.add_comm 1 j]using this) g2 X
  refine⟨k::ks,?_,g5,wa⟩
  exact⟨_,k,ks,rfl,g1,g4⟩
end
end Go.AM
namespace Go.AM
set_option linter.unusedSectionVars false
variable [gB]
section
variable {c:Ctx} {n:Nat} {ops:Array Oper}
theorem Xy{α:Type}{ρ ρ':α->Option D}(L:List (Nat×α))(h:∀ p∈L,ρ p.2=ρ' p.2):(L.map λp=>(p.1,ρ p.2))=L.map λp=>(p.1,ρ' p.2) :=
 zM λp hp=>by rw[h p hp]
theorem Vk{ρ ρ':Operand->Option D}(o:Oper)(h:∀ x∈o.op.operands,ρ x=ρ' x):wS c ρ o=wS c ρ' o:=by
 obtain⟨dst,op,ty,pos,after,guard⟩:=o
 cases op with
 | move x=>simp only[wS]; rw[h x (by simp[zA])]
 | assign x=>simp only[wS]; rw[h x (by simp[zA])]
 | pick x a b=>simp only[wS]; rw[h x (by simp[zA]),h a (by simp[zA]),h b (by simp[zA])]
 | box t x=>simp only[wS]; rw[h x (by simp[zA])]
 | load t x=>simp only[wS]; rw[h x (by simp[zA])]
 | store t x y=>simp only[wS]; rw[h x (by simp[zA]),h y (by simp[zA])]
 | nilCheck x=>simp only[wS]; rw[h x (by simp[zA])]
 | binOp op t x y _=>simp only[wS]; rw[h x (by simp[zA]),h y (by simp[zA])]
 | typeAssert x xt t ok=>simp only[wS]; rw[h x (by simp[zA])]
 | unOp op t x=>simp only[wS]; rw[h x (by simp[zA])]
 | convert s t x=>simp only[wS]; rw[h x (by simp[zA])]
 | makeInterface t x=>simp only[wS]; rw[h x (by simp[zA])]
 | makeFunc fn first cap =>
  cases fn<;>simp only[wS]
  rw[zM (l:=cap.toList) (λx U=>h x (by simp[zA,zG.1 U])),zM (l:=first.toList) (λx U=>h x (by simp[zA,zG.1 U]))]
 | makeSlice t x y=>simp only[wS]; rw[h x (by simp[zA]),h y (by simp[zA])]
 | slice t x lo hi mx =>
  simp only[wS]
  have ho:∀ o:Option Operand,(∀ y,o=some y->ρ y=ρ' y)->o.map ρ=o.map ρ':=λo ho=>by
   cases o with
   | none=>rfl
   | some y=>grind
  rw[h x (by simp[zA]),ho lo (λy hy=>h y (by simp[zA,hy])),ho hi (λy hy=>h y (by simp[zA,hy])),ho mx (λy hy=>h y (by simp[zA,hy]))]
 | fieldAddr s x f=>simp only[wS]; rw[h x (by simp[zA])]
 | field s x f=>simp only[wS]; rw[h x (by simp[zA])]
 | indexAddr t x y=>simp only[wS]; rw[h x (by simp[zA]),h y (by simp[zA])]
 | lookup t x y _=>simp only[wS]; rw[h x (by simp[zA]),h y (by simp[zA])]
 | mapUpdate t x y z=>simp only[wS]; rw[h x (by simp[zA]),h y (by simp[zA]),h z (by simp[zA])]
 | index t x y=>simp only[wS]; rw[h x (by simp[zA]),h y (by simp[zA])]
 | extract x i=>simp only[wS]; rw[h x (by simp[zA])]
 | build t ps=>simp only[wS]; rw[Xy ps.toList λp hp=>h p.2 (by simp[zA]; exact⟨p.1,zG.1 hp⟩)]
 | buildSlice t k ps=>simp only[wS]; rw[Xy ps.toList λp hp=>h p.2 (by simp[zA]; exact⟨p.1,zG.1 hp⟩)]
 | call cl =>
  obtain⟨callee,args,sV⟩:=cl
  have fT:args.toList.map ρ=args.toList.map ρ':=zM λx U=>h x (by simp[zA,qK,zG.1 U])
  cases callee with
  | builtin b=>simp only[wS]; rw[fT]
  | value f=>simp only[wS]; rw[fT,h f (by simp[zA,qK])]
  | invoke r m=>rfl
 | _=>rfl
theorem Bo{f:F}{dst:Option Nat}{d:Option D}{x:Operand}(h:∀ t,dst=some t->x≠.tmp t):wD (eD f dst d) x=wD f x:=by
 cases dst with
 | none=>rfl
 | some t=>cases x with
  | tmp s=>simp only[wD,eD]; rw[if_neg (λe=>h t rfl (by rw[e]))]
  | _=>rfl
theorem ic(f:F){a b:Option Nat}(d e:Option D)(h:∀ t,a=some t->b≠some t):eD (eD f a d) b e=eD (eD f b e) a d:=by
 cases a with
 | none=>rfl
 | some s=>cases b with
  | none=>rfl
  | some t =>
   simp only[eD]
   grind
def Ind(ops:Array Oper)(kd:Nat->Nat)(p i:Nat):Prop:=∀ x y,ops[p]? = some x->ops[i]? = some y ->
 (∀ d,x.dst=some d->d ∉ tmpsOf ops y)/\(∀ d,y.dst=some d->d ∉ tmpsOf ops x)/\cr (kd p) (kd i)=false
theorem eA{o:Oper}{d:Nat}(h:o.dst=some d):d∈tmpsOf ops o:=by simp[tmpsOf,h]
theorem XA{o:Oper}{d:Nat}(h:Operand.tmp d∈o.op.operands):d∈tmpsOf ops o:=by
 simp only[tmpsOf,xA,List.mem_filterMap]
 exact .inr ⟨.tmp d,wa,rfl⟩
theorem Xz{o:Oper}{j:Nat}{w:Bool}{d:Nat}(h:o.guard=some (j,w))(hg:bR ops j=some d):d∈tmpsOf ops o:=by
 simp[tmpsOf,h,hg]
theorem jI{f:F}{o:Oper}{dst:Option Nat}{d:Option D}(h:∀ t,dst=some t->t ∉ tmpsOf ops o):jO ops (eD f dst d) o=jO ops f o:=by
 unfold jO
 cases hg:o.guard with
 | none=>rfl
 | some jw =>
  obtain⟨j,w⟩:=jw
  simp only
  cases hs:bR ops j with
  | none=>rfl
  | some t =>
   simp only
   have:eD f dst d t=f t:=by
    cases dst with
    | none=>rfl
    | some s=>simp only[eD]; rw[if_neg]; intro e; exact h s rfl (e▸Xz hg hs)
   rw[this]
theorem dG{f:F}{o:Oper}{dst:Option Nat}{d:Option D}(h:∀ t,dst=some t->t ∉ tmpsOf ops o):wS c (wD (eD f dst d)) o=wS c (wD f) o :=
 Vk o λx U=>Bo λt ht e=>h t ht (XA (ops:=ops) (e▸U))
theorem tv{cl:eE}(h:cl.kind=0){st qm:St}{d:Option D}(B:(qt cl st).leads (d,qm)):qm=st/\∀ gC,(qt cl gC).leads (d,gC):=by
 cases cl with
 | val t=>rw[ya]at B; exact⟨B.2,λgC=>by rw[ya]; exact⟨B.1,rfl⟩⟩
 | rd k=>cases h
 | wr k=>cases h
theorem nN{cl:eE}(h:cl.kind<=1){st qm:St}{d:Option D}(B:(qt cl st).leads (d,qm)):qm=st:=by
 cases cl with
 | val t=>rw[ya]at B; exact B.2
 | rd k=>rw[sa]at B; exact B.2
 | wr k=>simp[eE.kind]at h
theorem UC(cl:eE):cl.kind<=2:=by cases cl<;>simp[eE.kind]
theorem Ca{kd:Nat->Nat}{p i:Nat}(hi:Ind ops kd p i){s s1 s2:F×St}(h1:fK c n ops p s s1 (kd p))(X:fK c n ops i s1 s2 (kd i)) :
  ∃ s',fK c n ops i s s' (kd i)/\fK c n ops p s' s2 (kd p):=by
 obtain⟨x,U,hdx,Ho⟩:=h1
 obtain⟨y,hy,hdy,hy'⟩:=X
 obtain⟨a1,a2,a3⟩:=hi x y U hy
 have hdd:∀ t,x.dst=some t->y.dst≠some t:=λt ht e=>a1 t ht (eA e)
 obtain⟨f,st⟩:=s
 rcases Ho with⟨hw,hk,d,dY,B,rfl⟩ | ⟨hw,hk,rfl⟩
 ·rcases hy' with⟨Ux,nI,e,gC,Q7,rfl⟩ | ⟨Ux,nI,rfl⟩
  ·simp only[jI a1,dG (c:=c) a1]at Ux nI Q7
   simp only at hw hk B
   -- the two meet nowhere in the store
   have key:(qt (wS c (wD f) y) st).leads (e,(if(wS c (wD f) y).kind=2 then gC else st))/\(qt (wS c (wD f) x) (if(wS c (wD f) y).kind=2 then gC else st)).leads (d,gC):=by
    rw[hk,nI]at a3
    rcases qH (wS c (wD f) y).kind 2 with hy2 | hy2
    ·rw[if_neg (Z)]
     have e2:=nN (Z) Q7
     subst e2
     rcases qH (wS c (wD f) x).kind 2 with Da | Da
     ·have e1:=nN (Z) B
      grind
     ·have hx3:(wS c (wD f) x).kind=2:=qC (UC _) Da
      have hy0:(wS c (wD f) y).kind=0:=by
       rw[hx3]at a3
       cases hy0:(wS c (wD f) y).kind with
       | zero=>rfl
       | succ m=>rw[hy0]at a3; simp[cr]at a3
      exact⟨(tv hy0 Q7).2 st,B⟩
    ·have hy3:(wS c (wD f) y).kind=2:=qC (UC _) hy2
     rw[if_pos hy3]
     have Yc:(wS c (wD f) x).kind=0:=by
      rw[hy3]at a3
      cases Yc:(wS c (wD f) x).kind with
      | zero=>rfl
      | succ m=>rw[Yc]at a3; simp[cr]at a3
     obtain⟨e1,h3⟩:=tv Yc B
     grind
   refine⟨_,⟨y,hy,hdy,.inl ⟨Ux,nI,e,_,key.1,rfl⟩⟩,x,U,hdx,.inl ⟨?_,?_,d,gC,?_,?_⟩⟩
   ·rw[jI a2]; exact hw
   ·rw[dG (c:=c) a2]; exact hk
   ·rw[dG (c:=c) a2]; exact key.2
   ·simp only[ic f d e hdd]
  ·simp only[jI a1]at Ux
   refine⟨_,⟨y,hy,hdy,.inr ⟨Ux,nI,rfl⟩⟩,x,U,hdx,.inl ⟨?_,?_,d,dY,?_,?_⟩⟩
   ·rw[jI a2]; exact hw
   ·rw[dG (c:=c) a2]; exact hk
   ·rw[dG (c:=c) a2]; exact B
   ·simp only[ic f d (some TM) hdd]
 ·rcases hy' with⟨Ux,nI,e,gC,Q7,rfl⟩ | ⟨Ux,nI,rfl⟩
  ·simp only[jI a1,dG (c:=c) a1]at Ux nI Q7
   refine⟨_,⟨y,hy,hdy,.inl ⟨Ux,nI,e,gC,Q7,rfl⟩⟩,x,U,hdx,.inr ⟨?_,hk,?_⟩⟩
   ·rw[jI a2]; exact hw
   ·simp only[ic f (some TM) e hdd]
  ·simp only[jI a1]at Ux
   refine⟨_,⟨y,hy,hdy,.inr ⟨Ux,nI,rfl⟩⟩,x,U,hdx,.inr ⟨?_,hk,?_⟩⟩
   ·rw[jI a2]; exact hw
   ·simp only[ic f (some TM) (some TM) hdd]
def QA(c:Ctx)(n:Nat)(ops:Array Oper)(kd:Nat->Nat):List Nat->F×St->F×St->Prop
 | [],s,s'=>s'=s
 | i::l,s,s'=>∃ s1,fK c n ops i s s1 (kd i)/\QA c n ops kd l s1 s'
theorem H6{kd:Nat->Nat}{i:Nat}{post:List Nat}{s':F×St}:∀ {pre:List Nat} {s:F×St},(∀ p∈pre,Ind ops kd p i)->QA c n ops kd (pre++i::post) s s' ->
  ∃ s1,fK c n ops i s s1 (kd i)/\QA c n ops kd (pre++post) s1 s'
 | [],s,_,h=>h
 | p::pre,s,hp,⟨sp,h1,X⟩=>by
  obtain⟨s1,h3,h4⟩:=H6 (λq hq=>hp q (zS _ hq)) X
  obtain⟨s2,h5,h6⟩:=Ca (hp p zK) h1 h3
  exact⟨s2,h5,s1,h6,h4⟩
end
end Go.AM
namespace Go.AM
set_option linter.unusedSectionVars false
variable [gB]
section
variable (c:Ctx) (n:Nat) (ops:Array Oper)
def o6(i:Nat)(s s':F×St)(k:RK):Prop:=∃ o,ops[i]? = some o/\gD n o.dst=true /\
 ((jO ops s.1 o=some true/\k=vx c (wD s.1) s.2 o/\∃ d qm,(qt (wS c (wD s.1) o) s.2).leads (d,qm)/\s'=(eD s.1 o.dst d,qm)) \/
  (jO ops s.1 o=some false/\k=.z 0/\s'=(eD s.1 o.dst (some TM),s.2)))
def Np:List Nat->F×St->F×St->List RK->Prop
 | [],s,s',ks=>s'=s/\ks=[]
 | i::l,s,s',ks=>∃ s1 k M9,ks=k::M9/\o6 c n ops i s s1 k/\Np l s1 s' M9
end
section
variable {c:Ctx} {n:Nat} {ops:Array Oper}
theorem o6.plain{i:Nat}{s s':F×St}{k:RK}(h:o6 c n ops i s s' k):∃ k',fK c n ops i s s' k':=by
 obtain⟨o,h1,X,h3⟩:=h
 rcases h3 with⟨g1,_,g3⟩ | ⟨g1,_,g3⟩
 ·exact⟨_,o,h1,X,.inl ⟨g1,rfl,g3⟩⟩
 ·exact⟨_,o,h1,X,.inr ⟨g1,rfl,g3⟩⟩
theorem MV{i:Nat}{o:Oper}{s s':oX}(ho:ops[i]? = some o)(hk:yV s.kn s.fr.get)(h:(stepG c n ops o s).leads s') :
  ∃ k,o6 c n ops i (s.fr.get,s.st) (s'.fr.get,s'.st) k/\yV s'.kn s'.fr.get/\s'.bk=k::s.bk:=by
 have bkS:∀ {s0:oX},(lO c n o s0).leads s'->s'.bk=vx c (bO s0.fr) s0.st o::s0.bk:=by
  intro s0 h
  unfold lO at h
  cases V:gD n o.dst with
  | false=>rw[V]at h; exact h.elim
  | true =>
   rw[V,cond_true]at h
   simp only[T.xg]at h
   obtain⟨⟨d,qm⟩,h1,rfl⟩:=h
   rfl
 have run:∀ (s0:oX),s0.fr=s.fr->s0.st=s.st->s0.bk=s.bk->yV s0.kn s0.fr.get->jO ops s.fr.get o=some true->(lO c n o s0).leads s' ->
   ∃ k,o6 c n ops i (s.fr.get,s.st) (s'.fr.get,s'.st) k/\yV s'.kn s'.fr.get/\s'.bk=k::s.bk:=by
  intro s0 e1 e2 e3 Eb hw h
  obtain⟨h1,⟨d,qm,X,h3,h4⟩,h5,h6⟩:=H0 Eb h
  have J:=bkS h
  rw[e1]at X h3 J
  rw[e2]at X J
  rw[e3]at J
  rw[iS]at J
  exact⟨_,⟨o,ho,h1,.inl ⟨hw,rfl,d,qm,X,by rw[h3,h4]⟩⟩,h5,J⟩
 have skip:∀ (s0:oX),s0.fr=s.fr->s0.st=s.st->s0.bk=s.bk->yV s0.kn s0.fr.get->jO ops s.fr.get o=some false->gD n o.dst=true->da o s0=s' ->
   ∃ k,o6 c n ops i (s.fr.get,s.st) (s'.fr.get,s'.st) k/\yV s'.kn s'.fr.get/\s'.bk=k::s.bk:=by
  intro s0 e1 e2 e3 Eb hw V h
  subst h
  refine⟨.z 0,⟨o,ho,V,.inr ⟨hw,rfl,?_⟩⟩,Rp Eb,by simp[da,e3]⟩
  simp only[da,Q4,e1,e2]
 unfold stepG at h
 split at h
 ·rename_i hg
  exact run s rfl rfl rfl hk (by simp[jO,hg]) h
 ·rename_i j w hg
  split at h
  ·exact h.elim
  ·rename_i t ht
   split at h
   ·rename_i b J
    have hf:=hk t b J
    have hw:jO ops s.fr.get o=some (b==w):=by simp[jO,hg,ht,hf]
    cases TT:(b==w)with
    | true=>grind
    | false =>
     rw[TT,cond_false]at h
     cases V:gD n o.dst with
     | false=>rw[V]at h; exact h.elim
     | true=>rw[V,cond_true]at h; exact skip s rfl rfl rfl hk (by rw[hw,TT]) V h
   ·split at h
    ·rename_i x U
     have hw:jO ops s.fr.get o=some (x==w):=by simp[jO,hg,ht,U]
     cases V:gD n o.dst with
     | false=>rw[V]at h; exact h.elim
     | true =>
      rw[V,cond_true]at h
      rcases h with⟨rfl,h⟩ | ⟨rfl,h⟩
      ·have Yb:yV (s.lT t true).kn (s.lT t true).fr.get:=Wj hk U
       cases w with
       | true=>exact run (s.lT t true) rfl rfl rfl Yb hw h
       | false=>exact skip (s.lT t true) rfl rfl rfl Yb hw V h
      ·have Yb:yV (s.lT t false).kn (s.lT t false).fr.get:=Wj hk U
       cases w with
       | true=>exact skip (s.lT t false) rfl rfl rfl Yb hw V h
       | false=>exact run (s.lT t false) rfl rfl rfl Yb hw h
    ·rename_i U
     have hw:jO ops s.fr.get o=some false:=by simp[jO,hg,ht,U]
     cases V:gD n o.dst with
     | false=>rw[V]at h; exact h.elim
     | true=>rw[V,cond_true]at h; exact skip s rfl rfl rfl hk hw V h
    ·exact h.elim
theorem Kx:∀ (l:List Oper) (k0:Nat) (s s':oX),(∀ j,l[j]? = ops[k0+j]? \/ l.length<=j)->yV s.kn s.fr.get->(tX c n ops l s).leads s' ->
  ∃ ks,Np c n ops (List.range' k0 l.length) (s.fr.get,s.st) (s'.fr.get,s'.st) ks/\s'.bk=ks.reverse++s.bk
 | [],k0,s,s',_,hk,h=>by cases h; exact⟨[],⟨rfl,rfl⟩,rfl⟩
 | o::l,k0,s,s',B,hk,h=>by
  simp only[tX,T.xg]at h
  obtain⟨s1,h1,X⟩:=h
  have ho:ops[k0]? = some o:=by rcases B 0 with h | h<;>simp at h; exact h.symm
  obtain⟨k,g1,g2,g3⟩:=MV ho hk h1
  obtain⟨ks,g4,g6⟩:=Kx l (k0+1) s1 s' (λj=>by have:=B (j+1); simpa[Nat.add_assoc,Nat.add_comm 1 j]using this) g2 X
  refine⟨k::ks,?_,wa⟩
  exact⟨_,k,ks,rfl,g1,g4⟩
theorem Gr{m b:Nat}{l:List Nat}:b∈others m l↔b<m/\∀ x∈l,b≠x:=by
 simp only[others]
 simp
theorem DF{d:Option D}{b:Nat}(h:zei d=some b):(∃ off,d=some (.ptr b off))\/∃ v e i off,d=some (.gW b v e i off):=by
 cases d with
 | none=>cases h
 | some d=>cases d<;>first | (cases h; exact .inl ⟨_,rfl⟩) | (cases h; exact .inr ⟨_,_,_,_,rfl⟩) | cases h
theorem rU{bi:Builtin}{l:List (Option D)}{st:St}:BB bi l st=.z 2\/(∃ b v e off len x,bi=.append/\l=[some (.ms b v e off len),some x]/\UA x=false/\BB bi l st=.up b)\/∃ x,bi=.append/\l=[some .wH,some x]/\UA x=false/\BB bi l st=.wr (others st.length []):=by
 unfold BB
 grind
theorem G6(ρ:Operand->Option D)(st:St)(o:Oper):(vx c ρ st o).base=(wS c ρ o).kind:=by
 unfold vx
 split
 ·rename_i h
  rw[h]
  cases o.op with
  | load t a=>simp only; split<;>rfl
  | _=>rfl
 ·rename_i h
  rw[h]
  cases o.op with
  | call cl =>
   cases hc:cl.callee with
   | builtin bi =>
    simp only[hc]
    rcases rU (bi:=bi) (l:=cl.args.toList.map ρ)with e | ⟨b,v,e,off,len,x,_,_,_,e⟩ | ⟨x,_,_,_,e⟩<;>rw[e]<;>rfl
   | value f=>simp only[hc]; split<;>first | rfl | (split<;>rfl)
   | _=>simp only[hc]; rfl
  | store t a v=>simp only; split<;>rfl
  | _=>rfl
 ·rfl
theorem Ki{ρ:Operand->Option D}{o:Oper}(h:(wS c ρ o).kind<=1)(st qm:St):vx c ρ st o=vx c ρ qm o:=by
 unfold vx
 grind
theorem nJ{ρ:Operand->Option D}{st:St}{o:Oper}{b:Nat}(h:vx c ρ st o=.rd b){dY gC HZ:St}{d:Option D}(B:(qt (wS c ρ o) dY).leads (d,HZ))(J:gC[b]? = dY[b]?):(qt (wS c ρ o) gC).leads (d,gC):=by
 obtain⟨dst,op,ty,pos,after,guard⟩:=o
 cases op with
 | load t a =>
  have h':(∃ off,ρ a=some (.ptr b off))\/∃ v e i off,ρ a=some (.gW b v e i off):=by
   unfold vx at h
   simp only at h
   split at h
   ·split at h
    ·rename_i b' ha; cases h; exact DF ha
    ·cases h
   ·cases h
   ·cases h
  have he:wS c ρ ⟨dst,.load t a,ty,pos,after,guard⟩=Vq c t (ρ a):=rfl
  rcases h' with⟨off,ha⟩ | ⟨v,e,i,off,ha⟩
  all_goals
   rw[he,ha]at B ⊢
   simp only[Vq]at B ⊢
   rw[sa]at B ⊢
   grind
 | call cl =>
  obtain⟨callee,args,sV⟩:=cl
  unfold vx at h
  split at h
  ·cases h
  ·cases callee with
   | builtin bi =>
    simp only at h
    rcases rU (bi:=bi) (l:=args.toList.map ρ)with e | ⟨b,v,e,off,len,x,_,_,_,e⟩ | ⟨x,_,_,_,e⟩<;>rw[e]at h<;>cases h
   | value f=>grind
   | _=>cases h
  ·cases h
 | _ =>
  unfold vx at h
  grind
theorem FB{ρ:Operand->Option D}{st:St}{o:Oper}{A:List Nat}(h:vx c ρ st o=.wr A){qm:St}{d:Option D}(B:(qt (wS c ρ o) st).leads (d,qm)):∀ b∈A,qm[b]? = st[b]? := by
 obtain⟨dst,op,ty,pos,after,guard⟩:=o
 cases op with
 | alloc t =>
  exfalso
  unfold vx at h
  grind
 | store t a v =>
  exfalso
  unfold vx at h
  grind
 | call cl =>
  obtain⟨callee,args,sV⟩:=cl
  cases callee with
  | value f =>
   have h':(wS c ρ ⟨dst,.call ⟨.value f,args,sV⟩,ty,pos,after,guard⟩).kind=2/\∃ g caps l,ρ f=some (.wj g caps)/\gQ (args.toList.map ρ)=some l/\A=c.free (eM g) (cm g l caps) st:=by
    unfold vx at h
    grind
   obtain⟨hk,g,caps,l,hg,M0,rfl⟩:=h'
   intro b J
   have he:wS c ρ ⟨dst,.call ⟨.value f,args,sV⟩,ty,pos,after,guard⟩=fx c (ρ f) (args.toList.map ρ):=rfl
   rw[he,hg]at B hk
   simp only[fx,M0]at B hk
   split at B
   ·rename_i s hs
    rw[hs]at hk
    simp only[eR]at hk
    cases hn:(!(cm g l caps).any JQ)<;>rw[hn]at hk<;>simp[eE.kind]at hk
   ·simp only[sY,qt,T.xg]at B
    obtain⟨⟨rs,dY⟩,h1,X⟩:=B
    cases rs with
    | ret ds=>cases X; exact c.z0W _ _ _ _ _ b h1 J
    | bE p=>exact X.elim
  | builtin bi =>
   have h':bi=.append/\∃ x,args.toList.map ρ=[some .wH,some x]/\UA x=false/\A=others st.length []:=by
    unfold vx at h
    simp only at h
    split at h
    ·cases h
    ·rcases rU (bi:=bi) (l:=args.toList.map ρ) (st:=st)with e | ⟨b,v,e,off,len,x,_,_,_,e⟩ | ⟨x,h1,X,h3,e⟩<;>rw[e]at h<;>cases h
     exact⟨h1,x,X,h3,rfl⟩
    ·cases h
   obtain⟨rfl,x,U,hm,rfl⟩:=h'
   have he:wS c ρ ⟨dst,.call ⟨.builtin .append,args,sV⟩,ty,pos,after,guard⟩=ml c .append sV.toList (args.toList.map ρ):=rfl
   rw[he,U]at B
   intro b J
   have J:=(Gr.1 J).1
   have one:∀ {e':Ty} {ys:List (den e')} {ne:Bool} {W7:Nat},(bK e' .wH ys ne W7 st).leads (d,qm)->qm[b]? = st[b]? := by
    intro e' ys ne W7 B
    simp only[bK,pP]at B
    cases ne with
    | true=>obtain⟨_,B⟩:=B; cases B; exact zI J
    | false =>
     rcases B with⟨_,B⟩ | ⟨_,B⟩
     ·cases B; rfl
     ·obtain⟨_,B⟩:=B; cases B; exact zI J
   have snp:∀ gC,Zy gC x=.ret x:=λgC=>by cases x<;>first | rfl | cases hm
   generalize sV.toList=tl at B
   rcases tl with _ | ⟨t,_ | ⟨t',_ | ⟨t'',tl⟩⟩⟩
   ·exact absurd B zi
   ·exact absurd B zi
   rotate_left
   ·exact absurd B zi
   ·
    simp only[ml]at B
    cases ht:zU t t' with
    | true =>
     rw[ht,cond_true]at B
     unfold X2 at B
     cases het:nD c t with
     | none=>rw[het]at B; exact absurd B zi
     | some et =>
      rw[het]at B
      simp only at B
      cases h1:H9 c 20 et with
      | none=>rw[h1]at B; exact absurd B zi
      | some ee =>
       rw[h1]at B
       try simp only at B
       cases X:r9 c et with
       | none=>rw[X]at B; exact absurd B zi
       | some bytes =>
        rw[X]at B
        simp only at B
        cases hc:cH c et ee&&qL 0 ee.size&&qL 0 bytes&&(zeroOf c et ee).isSome with
        | false=>rw[hc]at B; exact absurd B zi
        | true =>
         rw[hc,cond_true]at B
         simp only[cond_true,qt,snp,T.bind]at B
         cases x<;>simp only at B<;>first | exact B.elim | exact one B | skip
         ·split at B
          ·exact one B
          ·exact B.elim
         ·split at B
          ·exact one B
          ·exact B.elim
    | false =>
     rw[ht,cond_false]at B
     unfold Z5 at B
     cases het:nD c t with
     | none=>rw[het]at B; exact absurd B zi
     | some et =>
      rw[het]at B
      simp only at B
      split at B
      ·rename_i bytes h1 X h3
       cases hc:cH c et (.int .u8)&&qL 0 bytes&&(zeroOf c et (.int .u8)).isSome with
       | false=>rw[hc]at B; exact absurd B zi
       | true =>
        rw[hc,cond_true]at B
        split at B
        ·rename_i s l e1 e2
         cases e1
         cases e2
         simp only[qt]at B
         exact one B
        ·exact absurd B zi
      ·exact absurd B zi
  | invoke r m =>
   exfalso
   unfold vx at h
   simp only at h
   split at h<;>cases h
 | _ =>
  exfalso
  unfold vx at h
  simp only at h
  split at h
  ·first
    | cases h
    | (split at h<;>cases h)
  ·cases h
  ·cases h
theorem G5{ρ:Operand->Option D}{st:St}{o:Oper}{A:List Nat}(h:vx c ρ st o=.al A){qm:St}{d:Option D}(B:(qt (wS c ρ o) st).leads (d,qm)) :
  (∀ b∈A,qm[b]? = st[b]?)/\A=others st.length []/\∃ z,qm=st++[.var z]/\d=some (.ptr st.length 0)/\∀ gC:St,(qt (wS c ρ o) gC).leads (some (.ptr gC.length 0),gC++[.var z])/\vx c ρ gC o=.al (others gC.length []):=by
 obtain⟨dst,op,ty,pos,after,guard⟩:=o
 cases op with
 | alloc t =>
  have X:(wS c ρ ⟨dst,.alloc t,ty,pos,after,guard⟩).kind=2/\A=others st.length []:=by
   unfold vx at h
   grind
  obtain⟨hk,rfl⟩:=X
  have B:(qt (p8 c t) st).leads (d,qm):=B
  unfold p8 at B
  split at B
  ·rename_i z hz
   have B:(some (D.ptr st.length 0),st++[de.var z])=(d,qm):=B
   cases B
   refine⟨λb J => ?_,rfl,z,rfl,rfl,λgC=>⟨?_,?_⟩⟩
   ·obtain⟨J,_⟩:=Gr.1 J
    exact zI J
   ·show(qt (p8 c t) gC).leads _
    unfold p8
    rw[hz]
    rfl
   ·unfold vx
    simp only[hk]
  ·exact absurd B zi
 | call cl =>
  exfalso
  obtain⟨callee,args,sV⟩:=cl
  unfold vx at h
  cases callee with
  | builtin bi =>
   simp only at h
   split at h
   ·cases h
   ·rcases rU (bi:=bi) (l:=args.toList.map ρ)with e | ⟨b,v,e,off,len,x,_,_,_,e⟩ | ⟨x,_,_,_,e⟩<;>rw[e]at h<;>cases h
   ·cases h
  | value f=>grind
  | invoke r m=>grind
 | _ =>
  exfalso
  unfold vx at h
  grind
theorem G8{ρ:Operand->Option D}{st:St}{o:Oper}{hx:List Nat}(h:vx c ρ st o=.wc hx){qm:St}{d:Option D}(B:(qt (wS c ρ o) st).leads (d,qm)) :
  qm.length=st.length/\(∀ b,b<st.length->b ∉ hx->qm[b]? = st[b]?)/\(∀ x,(qt (wS c ρ o) (st++[x])).leads (d,qm++[x]))/\∀ gC,vx c ρ gC o=.wc hx:=by
 obtain⟨dst,op,ty,pos,after,guard⟩:=o
 cases op with
 | call cl =>
  obtain⟨callee,args,sV⟩:=cl
  cases callee with
  | value f =>
   have h':(wS c ρ ⟨dst,.call ⟨.value f,args,sV⟩,ty,pos,after,guard⟩).kind=2/\∃ g caps l,ρ f=some (.wj g caps)/\gQ (args.toList.map ρ)=some l/\c.QN (eM g) (cm g l caps)=some hx:=by
    unfold vx at h
    grind
   obtain⟨hk,g,caps,l,hg,M0,hU⟩:=h'
   have nI:=hk
   have he:wS c ρ ⟨dst,.call ⟨.value f,args,sV⟩,ty,pos,after,guard⟩=fx c (ρ f) (args.toList.map ρ):=rfl
   rw[he,hg]at B hk
   simp only[fx,M0]at B hk
   split at B
   ·rename_i s hs
    rw[hs]at hk
    simp only[eR]at hk
    cases hn:(!(cm g l caps).any JQ)<;>rw[hn]at hk<;>simp[eE.kind]at hk
   ·rename_i hs
    simp only[sY,qt,T.xg]at B
    obtain⟨⟨rs,dY⟩,h1,X⟩:=B
    cases rs with
    | bE p=>exact X.elim
    | ret ds =>
     cases X
     obtain⟨q1,q2,q3⟩:=c.Rs _ _ _ _ _ _ hU h1
     refine⟨q1,q2,λx => ?_,λgC => ?_⟩
     ·rw[he,hg]
      simp only[fx,M0,hs]
      simp only[sY,qt,T.xg]
      exact⟨_,q3 x,rfl⟩
     ·unfold vx
      rw[nI]
      simp only[hg,M0,hU]
  | builtin bi =>
   exfalso
   unfold vx at h
   simp only at h
   split at h
   ·cases h
   ·rcases rU (bi:=bi) (l:=args.toList.map ρ)with e | ⟨b,v,e,off,len,x,_,_,_,e⟩ | ⟨x,_,_,_,e⟩<;>rw[e]at h<;>cases h
   ·cases h
  | invoke r m =>
   exfalso
   unfold vx at h
   grind
 | _ =>
  exfalso
  unfold vx at h
  grind
theorem G7{ρ:Operand->Option D}{st:St}{o:Oper}{b:Nat}(h:vx c ρ st o=.rd b){dY HZ:St}{d:Option D}(B:(qt (wS c ρ o) dY).leads (d,HZ)):b<dY.length:=by
 rcases qH b dY.length with g | g
 ·exact g
 ·exfalso
  have hn:dY[b]? = none:=qJ g
  obtain⟨dst,op,ty,pos,after,guard⟩:=o
  cases op with
  | load t a =>
   have h':(∃ off,ρ a=some (.ptr b off))\/∃ v e i off,ρ a=some (.gW b v e i off):=by
    unfold vx at h
    simp only at h
    split at h
    ·split at h
     ·rename_i b' ha; cases h; exact DF ha
     ·cases h
    ·cases h
    ·cases h
   have he:wS c ρ ⟨dst,.load t a,ty,pos,after,guard⟩=Vq c t (ρ a):=rfl
   rcases h' with⟨off,ha⟩ | ⟨v,e,i,off,ha⟩
   all_goals
    rw[he,ha]at B
    simp only[Vq]at B
    rw[sa]at B
    simp only[hn]at B
    exact B.1.elim
  | call cl =>
   obtain⟨callee,args,sV⟩:=cl
   unfold vx at h
   split at h
   ·cases h
   ·cases callee with
    | builtin bi =>
     simp only at h
     rcases rU (bi:=bi) (l:=args.toList.map ρ)with e | ⟨b,v,e,off,len,x,_,_,_,e⟩ | ⟨x,_,_,_,e⟩<;>rw[e]at h<;>cases h
    | value f=>grind
    | _=>cases h
   ·cases h
  | _ =>
   unfold vx at h
   grind
theorem UB{ρ:Operand->Option D}{st:St}{o:Oper}{b:Nat}(h:vx c ρ st o=.up b){dY HZ:St}{d:Option D}(B:(qt (wS c ρ o) dY).leads (d,HZ)) :
  ∃ y,HZ=dY.set b y/\∀ gC:St,gC[b]? = dY[b]? -> (qt (wS c ρ o) gC).leads (d,gC.set b y):=by
 obtain⟨dst,op,ty,pos,after,guard⟩:=o
 cases op with
 | store t a v =>
  have h':(∃ off,ρ a=some (.ptr b off))\/∃ v e i off,ρ a=some (.gW b v e i off):=by
   unfold vx at h
   simp only at h
   split at h
   ·cases h
   ·split at h
    ·rename_i b ha; cases h; exact DF ha
    ·cases h
   ·cases h
  have he:wS c ρ ⟨dst,.store t a v,ty,pos,after,guard⟩=Yo c t (ρ a) (ρ v):=rfl
  rw[he]at B ⊢
  cases hv:ρ v with
  | none =>
   rw[hv]at B
   rcases h' with⟨off,ha⟩ | ⟨w,e,i,off,ha⟩<;>(rw[ha]at B; exact absurd B zi)
  | some x =>
   rw[hv]at B
   rcases h' with⟨off,ha⟩ | ⟨w,e,i,off,ha⟩
   ·rw[ha]at B ⊢
    have B:(match dY[b]? with
     | some (.var d)=>match HV c t d off x with | some r=>bif Qi d r then T.ret ((none:Option D),dY.set b (.var r))else .fail | none=>.fail
     | _=>.fail:T (Option D×St)).leads (d,HZ):=B
    split at B
    ·rename_i d0 J
     split at B
     ·rename_i r hr
      cases ho:Qi d0 r with
      | false=>rw[ho]at B; exact B.elim
      | true =>
       rw[ho]at B
       cases B
       refine⟨.var r,rfl,λgC X => ?_⟩
       show(match gC[b]? with
        | some (.var d)=>match HV c t d off x with | some r=>bif Qi d r then T.ret ((none:Option D),gC.set b (.var r))else .fail | none=>.fail
        | _=>.fail:T (Option D×St)).leads _
       rw[X,J]
       simp only[hr,ho,cond_true]
       rfl
     ·exact B.elim
    ·exact B.elim
   ·rw[ha]at B ⊢
    have B:(match dY[b]? with
     | some (.arr dZ e' xs)=>bif decide (e'=e)then
       .zl (w=dZ/\i<xs.length) (match HV c t (.qi e' (xs.getD i (zb e'))) off x with
        | some r=>match p9 e' r with | some y=>T.ret ((none:Option D),dY.set b (.arr dZ e' (xs.set i y))) | none=>.fail
        | none=>.fail)
      else .fail
     | _=>.fail:T (Option D×St)).leads (d,HZ):=B
    split at B
    ·rename_i dZ e' xs J
     cases V:decide (e'=e)with
     | false=>rw[V]at B; exact B.elim
     | true =>
      rw[V,cond_true]at B
      obtain⟨ho,B⟩:=B
      split at B
      ·rename_i r hr
       split at B
       ·rename_i y hy
        cases B
        refine⟨.arr dZ e' (xs.set i y),rfl,λgC X => ?_⟩
        show(match gC[b]? with
         | some (.arr dZ e' xs)=>bif decide (e'=e)then
           .zl (w=dZ/\i<xs.length) (match HV c t (.qi e' (xs.getD i (zb e'))) off x with
            | some r=>match p9 e' r with | some y=>T.ret ((none:Option D),gC.set b (.arr dZ e' (xs.set i y))) | none=>.fail
            | none=>.fail)
          else .fail
         | _=>.fail:T (Option D×St)).leads _
        rw[X,J]
        simp only[V,cond_true,hr,hy]
        exact⟨ho,rfl⟩
       ·exact B.elim
      ·exact B.elim
    ·exact B.elim
 | call cl =>
  obtain⟨callee,args,sV⟩:=cl
  cases callee with
  | builtin bi =>
   have h':bi=.append/\∃ v e off len x,args.toList.map ρ=[some (.ms b v e off len),some x]/\UA x=false:=by
    unfold vx at h
    simp only at h
    split at h
    ·cases h
    ·rcases rU (bi:=bi) (l:=args.toList.map ρ) (st:=st)with e | ⟨b',v,e,off,len,x,h1,X,h3,e'⟩ | ⟨x,h1,X,h3,e'⟩
     ·grind
     ·rw[e']at h; cases h; exact⟨h1,v,e,off,len,x,X,h3⟩
     ·rw[e']at h; cases h
    ·cases h
   obtain⟨rfl,v,e,off,len,x,U,hm⟩:=h'
   have he:wS c ρ ⟨dst,.call ⟨.builtin .append,args,sV⟩,ty,pos,after,guard⟩=ml c .append sV.toList (args.toList.map ρ):=rfl
   rw[he,U]at B ⊢
   -- what the row gets
   have one:∀ {e':Ty} {ys:List (den e')} {ne:Bool} {W7:Nat},(bK e' (.ms b v e off len) ys ne W7 dY).leads (d,HZ)->∃ y,HZ=dY.set b y/\∀ gC:St,gC[b]? = dY[b]? -> (bK e' (.ms b v e off len) ys ne W7 gC).leads (d,gC.set b y):=by
    intro e' ys ne W7 B
    simp only[bK]at B
    split at B
    ·rename_i dZ e'' xs J
     split at B
     ·rename_i zs hz
      cases V:decide (e=e')with
      | false=>rw[V]at B; exact B.elim
      | true =>
       rw[V,cond_true]at B
       obtain⟨ho,B⟩:=B
       cases B
       refine⟨_,rfl,λgC X => ?_⟩
       simp only[bK]
       rw[X,J]
       simp only[hz,V,cond_true]
       exact⟨ho,rfl⟩
     ·exact B.elim
    ·exact B.elim
   have snp:∀ gC,Zy gC x=.ret x:=λgC=>by cases x<;>first | rfl | cases hm
   generalize sV.toList=tl at B ⊢
   rcases tl with _ | ⟨t,_ | ⟨t',_ | ⟨t'',tl⟩⟩⟩
   ·exact absurd B zi
   ·exact absurd B zi
   rotate_left
   ·exact absurd B zi
   ·
    simp only[ml]at B ⊢
    cases ht:zU t t' with
    | true =>
     rw[ht,cond_true]at B
     simp only[cond_true]
     unfold X2 at B ⊢
     cases het:nD c t with
     | none=>rw[het]at B; exact absurd B zi
     | some et =>
      rw[het]at B
      simp only at B ⊢
      cases h1:H9 c 20 et with
      | none=>rw[h1]at B; exact absurd B zi
      | some ee =>
       rw[h1]at B
       try simp only at B ⊢
       cases X:r9 c et with
       | none=>rw[X]at B; exact absurd B zi
       | some bytes =>
        rw[X]at B
        simp only at B ⊢
        cases hc:cH c et ee&&qL 0 ee.size&&qL 0 bytes&&(zeroOf c et ee).isSome with
        | false=>rw[hc]at B; exact absurd B zi
        | true =>
         rw[hc,cond_true]at B
         simp only[cond_true,qt,snp,T.bind]at B ⊢
         cases x<;>simp only at B ⊢ <;> first | exact B.elim | exact one B | skip
         ·split at B
          ·exact one B
          ·exact B.elim
         ·split at B
          ·exact one B
          ·exact B.elim
    | false =>
     rw[ht,cond_false]at B
     simp only[cond_false]
     unfold Z5 at B ⊢
     cases het:nD c t with
     | none=>rw[het]at B; exact absurd B zi
     | some et =>
      rw[het]at B
      simp only at B ⊢
      split at B
      ·rename_i bytes h1 X h3
       cases hc:cH c et (.int .u8)&&qL 0 bytes&&(zeroOf c et (.int .u8)).isSome with
       | false=>rw[hc]at B; exact absurd B zi
       | true =>
        rw[hc,cond_true]at B
        simp only[cond_true]
        split at B
        ·rename_i s l e1 e2
         cases e1
         cases e2
         simp only[qt]at B ⊢
         exact one B
        ·exact absurd B zi
      ·exact absurd B zi
  | _ =>
   exfalso
   unfold vx at h
   simp only at h
   split at h
   ·cases h
   ·first | cases h | (split at h<;>first | cases h | (split at h<;>cases h))
   ·cases h
 | _ =>
  exfalso
  unfold vx at h
  simp only at h
  split at h
  ·first
    | cases h
    | (split at h<;>cases h)
  ·cases h
  ·cases h
theorem BW:∀ (l:List Nat) (s s':F×St) (ks:List RK),Np c n ops l s s' ks->ks.length=l.length
 | [],_,_,_,h=>by rw[h.2]; rfl
 | i::l,s,s',ks,⟨s1,k,M9,e,h1,X⟩=>by subst e; simp[BW l s1 s' M9 X]
theorem Xv{ρ:Operand->Option D}{st:St}{o:Oper}{b:Nat}(h:vx c ρ st o=.up b)(qm:St):vx c ρ qm o=.up b:=by
 obtain⟨dst,op,ty,pos,after,guard⟩:=o
 cases op with
 | alloc t =>
  unfold vx at h
  grind
 | call cl =>
  obtain⟨callee,args,sV⟩:=cl
  cases callee with
  | value f =>
   unfold vx at h
   grind
  | builtin bi =>
   unfold vx at h ⊢
   simp only at h ⊢
   unfold BB at h ⊢
   grind
  | _=>exact h
 | _=>exact h
def zbP(ops:Array Oper)(kd:Nat->RK)(p i:Nat):Prop:=∀ x y,ops[p]? = some x->ops[i]? = some y ->
 (∀ d,x.dst=some d->d ∉ tmpsOf ops y)/\(∀ d,y.dst=some d->d ∉ tmpsOf ops x)/\yW (kd p) (kd i)=false
theorem Wi{f:F}{o:Oper}{dst:Option Nat}{d:Option D}{st:St}(h:∀ t,dst=some t->t ∉ tmpsOf ops o):vx c (wD (eD f dst d)) st o=vx c (wD f) st o:=by
 have e1:wS c (wD (eD f dst d)) o=wS c (wD f) o:=dG h
 have e2:∀ x∈o.op.operands,wD (eD f dst d) x=wD f x:=λx U=>Bo λt ht e=>h t ht (XA (ops:=ops) (e▸U))
 obtain⟨dd,op,ty,pos,after,guard⟩:=o
 unfold vx
 rw[e1]
 cases op with
 | load t a=>simp only[e2 a (by simp[zA])]
 | store t a v=>simp only[e2 a (by simp[zA])]
 | call cl =>
  obtain⟨callee,args,sV⟩:=cl
  cases callee with
  | value g =>
   have fT:args.toList.map (wD (eD f dst d))=args.toList.map (wD f):=zM λx U=>e2 x (by simp[zA,qK,zG.1 U])
   simp only[fT,e2 g (by simp[zA,qK])]
  | builtin bi =>
   have fT:args.toList.map (wD (eD f dst d))=args.toList.map (wD f):=zM λx U=>e2 x (by simp[zA,qK,zG.1 U])
   grind
  | _=>rfl
 | _=>rfl
theorem MW{kd:Nat->RK}{p i:Nat}(hi:zbP ops kd p i){s s1 s2:F×St}(h1:o6 c n ops p s s1 (kd p))(X:o6 c n ops i s1 s2 (kd i)) :
  ∃ s',o6 c n ops i s s' (kd i)/\o6 c n ops p s' s2 (kd p):=by
 obtain⟨x,U,hdx,Ho⟩:=h1
 obtain⟨y,hy,hdy,hy'⟩:=X
 obtain⟨a1,a2,a3⟩:=hi x y U hy
 have hdd:∀ t,x.dst=some t->y.dst≠some t:=λt ht e=>a1 t ht (eA e)
 obtain⟨f,st⟩:=s
 rcases Ho with⟨hw,hk,d,dY,B,rfl⟩ | ⟨hw,hk,rfl⟩
 ·rcases hy' with⟨Ux,nI,e,gC,Q7,rfl⟩ | ⟨Ux,nI,rfl⟩
  ·simp only[jI a1,dG (c:=c) a1,Wi (c:=c) a1]at Ux nI Q7
   simp only at hw hk B
   -- the two meet nowhere in the store
   have key:∃ qm,(qt (wS c (wD f) y) st).leads (e,qm)/\(qt (wS c (wD f) x) qm).leads (d,gC)/\vx c (wD f) st y=kd i/\vx c (wD f) qm x=kd p:=by
    have bx:=G6 (c:=c) (wD f) st x
    have W7:=G6 (c:=c) (wD f) dY y
    rw[<- hk]at bx
    rw[<- nI]at W7
    rcases qH (wS c (wD f) x).kind 2 with Da | Da
    ·-- x writes nothing
     have e1:=nN (Z) B
     subst e1
     refine⟨gC,Q7,?_,nI.symm,(Ki (Z) gC dY).trans hk.symm⟩
     rcases qH (wS c (wD f) y).kind 2 with hy2 | hy2
     ·have e2:=nN (Z) Q7
      grind
     ·have hy3:(wS c (wD f) y).kind=2:=qC (UC _) hy2
      cases hp:kd p with
      | rd b =>
       cases hq:kd i with
       | wr A =>
        rw[hp,hq]at a3
        simp only[yW,qD,zO]at a3
        obtain⟨b',KN,LR⟩:=a3
        have:=Y LR
        subst this
        exact nJ (by rw[<- hk]; exact hp) B (FB (by rw[<- nI]; exact hq) Q7 b KN)
       | al A =>
        rw[hp,hq]at a3
        simp only[yW,qD,zO]at a3
        obtain⟨b',KN,LR⟩:=a3
        have:=Y LR
        subst this
        exact nJ (by rw[<- hk]; exact hp) B ((G5 (by rw[<- nI]; exact hq) Q7).1 b KN)
       | wc hx =>
        rw[hp,hq]at a3
        have hbu:b ∉ hx:=λhm=>by
         simp only[yW,qQ]at a3
         exact a3 b hm (Nat.beq_refl b)
        exact nJ (by rw[<- hk]; exact hp) B ((G8 (by rw[<- nI]; exact hq) Q7).2.1 b (G7 (by rw[<- hk]; exact hp) B) hbu)
       | rd b'=>rw[hq]at W7; simp[RK.base]at W7; omega
       | z k=>rw[hp,hq]at a3; rw[hq,hy3]at W7; simp only[RK.base]at W7; subst W7; simp[yW,cr,RK.base]at a3
       | up a =>
        rw[hp,hq]at a3
        have hab:a≠b:=λe=>by subst e; simp[yW]at a3
        obtain⟨z,e1,_⟩:=UB (by rw[<- nI]; exact hq) Q7
        subst e1
        exact nJ (by rw[<- hk]; exact hp) B (by rw[zE hab])
      | wr A=>rw[hp]at bx; simp[RK.base]at bx; omega
      | al A=>rw[hp]at bx; simp[RK.base]at bx; omega
      | wc A=>rw[hp]at bx; simp[RK.base]at bx; omega
      | up A=>rw[hp]at bx; simp[RK.base]at bx; omega
      | z k =>
       rw[hp]at bx
       simp only[RK.base]at bx
       have Eb:k=0:=by
        cases hq:kd i with
        | wr A =>
         rw[hp,hq]at a3
         simp only[yW,RK.base,cr]at a3
         cases k with
         | zero=>rfl
         | succ m=>simp at a3
        | al A =>
         rw[hp,hq]at a3
         simp only[yW,RK.base,cr]at a3
         cases k with
         | zero=>rfl
         | succ m=>simp at a3
        | wc A =>
         rw[hp,hq]at a3
         simp only[yW,RK.base,cr]at a3
         cases k with
         | zero=>rfl
         | succ m=>simp at a3
        | rd b'=>rw[hq]at W7; simp[RK.base]at W7; omega
        | z k' =>
         rw[hq,hy3]at W7
         simp only[RK.base]at W7
         subst W7
         rw[hp,hq]at a3
         simp only[yW,RK.base,cr]at a3
         cases k with
         | zero=>rfl
         | succ m=>simp at a3
        | up A =>
         rw[hp,hq]at a3
         simp only[yW,RK.base,cr]at a3
         cases k with
         | zero=>rfl
         | succ m=>simp at a3
       subst Eb
       exact(tv bx.symm B).2 gC
    ·have hx3:(wS c (wD f) x).kind=2:=qC (UC _) Da
     -- x writes
     rcases qH (wS c (wD f) y).kind 2 with hy2 | hy2
     ·have e2:=nN (Z) Q7
      subst e2
      refine⟨st,?_,B,(Ki (Z) st gC).trans nI.symm,hk.symm⟩
      cases hq:kd i with
      | wr A=>rw[hq]at W7; simp[RK.base]at W7; omega
      | al A=>rw[hq]at W7; simp[RK.base]at W7; omega
      | wc A=>rw[hq]at W7; simp[RK.base]at W7; omega
      | up A=>rw[hq]at W7; simp[RK.base]at W7; omega
      | rd b =>
       cases hp:kd p with
       | wr A =>
        rw[hp,hq]at a3
        simp only[yW,qD,zO]at a3
        obtain⟨b',KN,LR⟩:=a3
        have:=Y LR
        subst this
        exact nJ (st:=gC) (by rw[<- nI]; exact hq) Q7 (FB (by rw[<- hk]; exact hp) B b KN).symm
       | al A =>
        rw[hp,hq]at a3
        simp only[yW,qD,zO]at a3
        obtain⟨b',KN,LR⟩:=a3
        have:=Y LR
        subst this
        exact nJ (st:=gC) (by rw[<- nI]; exact hq) Q7 ((G5 (by rw[<- hk]; exact hp) B).1 b KN).symm
       | wc hx =>
        rw[hp,hq]at a3
        have hbu:b ∉ hx:=λhm=>by
         simp only[yW,qQ]at a3
         exact a3 b hm (Nat.beq_refl b)
        obtain⟨q1,q2,_⟩:=G8 (by rw[<- hk]; exact hp) B
        have wO:=G7 (by rw[<- nI]; exact hq) Q7
        exact nJ (st:=gC) (by rw[<- nI]; exact hq) Q7 (q2 b (Z) hbu).symm
       | up a =>
        rw[hp,hq]at a3
        have hab:a≠b:=λe=>by subst e; simp[yW]at a3
        obtain⟨z,e1,_⟩:=UB (by rw[<- hk]; exact hp) B
        subst e1
        exact nJ (st:=st.set a z) (by rw[<- nI]; exact hq) Q7 (by rw[zE hab])
       | rd b'=>rw[hp]at bx; simp[RK.base]at bx; omega
       | z k=>rw[hp]at bx; simp only[RK.base]at bx; rw[hx3]at bx; subst bx; rw[hp,hq]at a3; simp[yW,RK.base,cr]at a3
      | z k =>
       rw[hq]at W7
       simp only[RK.base]at W7
       have Eb:k=0:=by
        have a4:yW (kd p) (.z k)=false:=by rw[hq]at a3; exact a3
        have a5:cr 2 k=false:=by
         cases hp:kd p with
         | wr A=>rw[hp]at a4; exact a4
         | al A=>rw[hp]at a4; exact a4
         | wc A=>rw[hp]at a4; exact a4
         | up A=>rw[hp]at a4; exact a4
         | rd b'=>rw[hp]at bx; simp[RK.base]at bx; omega
         | z k'=>rw[hp]at bx a4; simp only[RK.base]at bx; rw[hx3]at bx; subst bx; exact a4
        cases k with
        | zero=>rfl
        | succ m=>simp[cr]at a5
       subst Eb
       exact(tv W7.symm Q7).2 st
     ·have hy3:(wS c (wD f) y).kind=2:=qC (UC _) hy2
      -- both write: one block each
      have hup:(∃ a b,kd p=.up a/\kd i=.up b/\a≠b)\/∃ hx A,kd p=.wc hx/\kd i=.al A:=by
       rw[hx3]at bx
       rw[hy3]at W7
       cases hp:kd p<;>cases hq:kd i<;>rw[hp,hq]at a3<;>rw[hp]at bx<;>rw[hq]at W7<;>simp only[RK.base]at bx W7 <;>
        first
         | exact .inr ⟨_,_,rfl,rfl⟩
         | exact .inl ⟨_,_,rfl,rfl,λe=>by subst e; simp[yW]at a3⟩
         | (exfalso; omega)
         | (exfalso; subst bx; simp[yW,RK.base,cr]at a3; done)
         | (exfalso; subst W7; simp[yW,RK.base,cr]at a3; done)
         | (exfalso; simp[yW,RK.base,cr]at a3; done)
         | (exfalso; subst bx W7; simp[yW,RK.base,cr]at a3; done)
      rcases hup with hup | ⟨hx,A,hp,hq⟩
      rotate_left
      ·obtain⟨q1,q2,q3,q4⟩:=G8 (by rw[<- hk]; exact hp) B
       obtain⟨_,r2,z,r3,r4,r5⟩:=G5 (by rw[<- nI]; exact hq) Q7
       subst r3 r4
       refine⟨st++[.var z],?_,q3 _,?_,(q4 _).trans hp.symm⟩
       ·rw[q1]; exact(r5 st).1
       ·rw[(r5 st).2,hq,r2,q1]
      obtain⟨a,b,hp,hq,hab⟩:=hup
      obtain⟨z1,e1,w1⟩:=UB (by rw[<- hk]; exact hp) B
      subst e1
      obtain⟨z2,e2,w2⟩:=UB (by rw[<- nI]; exact hq) Q7
      subst e2
      refine⟨st.set b z2,w2 st (by rw[zE hab]),?_,(Xv (by rw[<- nI]; exact hq) st).trans hq.symm,(Xv (by rw[<- hk]; exact hp) _).trans hp.symm⟩
      rw[List.set_comm _ _ hab]
      exact w1 (st.set b z2) (by rw[zE (λe=>hab e.symm)])
   obtain⟨qm,k1,k2,k3,k4⟩:=key
   refine⟨_,⟨y,hy,hdy,.inl ⟨Ux,k3.symm,e,_,k1,rfl⟩⟩,x,U,hdx,.inl ⟨?_,?_,d,gC,?_,?_⟩⟩
   ·rw[jI a2]; exact hw
   ·rw[Wi (c:=c) a2]; exact k4.symm
   ·rw[dG (c:=c) a2]; exact k2
   ·simp only[ic f d e hdd]
  ·simp only[jI a1]at Ux
   refine⟨_,⟨y,hy,hdy,.inr ⟨Ux,nI,rfl⟩⟩,x,U,hdx,.inl ⟨?_,?_,d,dY,?_,?_⟩⟩
   ·rw[jI a2]; exact hw
   ·rw[Wi (c:=c) a2]; exact hk
   ·rw[dG (c:=c) a2]; exact B
   ·simp only[ic f d (some TM) hdd]
 ·rcases hy' with⟨Ux,nI,e,gC,Q7,rfl⟩ | ⟨Ux,nI,rfl⟩
  ·simp only[jI a1,dG (c:=c) a1,Wi (c:=c) a1]at Ux nI Q7
   refine⟨_,⟨y,hy,hdy,.inl ⟨Ux,nI,e,gC,Q7,rfl⟩⟩,x,U,hdx,.inr ⟨?_,hk,?_⟩⟩
   ·rw[jI a2]; exact hw
   ·simp only[ic f (some TM) e hdd]
  ·simp only[jI a1]at Ux
   refine⟨_,⟨y,hy,hdy,.inr ⟨Ux,nI,rfl⟩⟩,x,U,hdx,.inr ⟨?_,hk,?_⟩⟩
   ·rw[jI a2]; exact hw
   ·simp only[ic f (some TM) (some TM) hdd]
end
end Go.AM
namespace Go.AM
set_option linter.unusedSectionVars false
variable [gB]
class B8 where
 df:List Deferred
instance YN:B8:=⟨[]⟩
variable [B8]
structure Rel(O:KS)(n:Nat)(f:F)(a:Act):Prop where
 size:a.tmps.size=n
 defers:a.defers=B8.df
 get:∀ (s:Nat) (d:D),f s=some d->∃ v,a.tmps[s]? = some v/\RD O d v
section
variable {c:Ctx} {O:KS} {n:Nat} {f:F} {a:Act}
theorem Rel.eval(h:Rel O n f a){x:Operand}{d:D}(U:wD f x=some d):RD O d (a.eval x):=by
 cases x with
 | tmp t =>
  obtain⟨v,h1,X⟩:=h.get t d U
  simp only[Act.eval,zY,h1]
  exact X
 | const v=>exact(GC U).1
 | global g=>cases U
 | func g =>
  have U:(bif qL g 1000000 then some (D.wj g [])else none)=some d:=U
  cases J:qL g 1000000 with
  | false=>grind
  | true =>
   rw[J]at U
   cases U
   have:=RD.wj (O:=O) g [] [] rfl (λi h=>absurd h (qN i))
   rwa [CI J]at this
theorem Rel.mono{E:KS}(x:Ext O E)(h:Rel O n f a):Rel E n f a:=⟨h.size,h.defers,λs d V=>by obtain⟨v,h1,X⟩:=h.get s d V; exact⟨v,h1,X.mono x⟩⟩
theorem Rel.put{dst:Option Nat}{d:Option D}{v:Value}(h:Rel O n f a)(V:gD n dst=true)(hv:∀ d',d=some d'->RD O d' v):Rel O n (eD f dst d) (a.put dst v):=by
 cases dst with
 | none=>exact h
 | some t =>
  have wO:t<n:=I V
  refine⟨by simp[qW,h.size],h.defers,λs d' hs => ?_⟩
  simp only[eD]at hs
  simp only[qW]
  by_cases e:s=t
  ·subst e
   rw[if_pos rfl]at hs
   exact⟨v,by simp[h.size,wO],hv d' hs⟩
  ·rw[if_neg e]at hs
   obtain⟨u,h1,X⟩:=h.get s d' hs
   grind
theorem z3X{v:Value}:RD O TM undef:=.eZ [] [] rfl (λi h=>absurd h (qN i))
theorem z9l{o:Oper}{d:Option D}{qm:St}(h:wC c.P (execOp a.eval o) O d qm){K:Act->World->Prop}{Q:Exit->Act->World->Prop}
  (hK:∀ (v:Value) (E:KS),E.st=qm->Inv E->Ext O E->(∀ d',d=some d'->RD E d' v)->K (a.put o.dst v) E.w):o.wp c.P a O.w K Q:=by
 obtain⟨E,nx,v,h1,X,h3,h4,h5,h6⟩:=h
 unfold Oper.wp
 rw[h1]
 rcases X with rfl | ⟨rfl,rfl⟩
 ·exact hK v E h3 h4 h5 h6
 ·exact hK undef E h3 h4 h5 h6
theorem Mx(h:Rel O n f a)(x:Option Operand):JZ O (x.map (wD f)) (x.map a.eval):=by
 cases x with
 | none=>trivial
 | some x=>exact λy hy=>h.eval hy
theorem CF(hI:Inv O)(hR:Rel O n f a){b:Builtin}{args:Array Operand}{sV:Array TypeId}{o:Oper}(ho:o.op=.call ⟨.builtin b,args,sV⟩){d:Option D}{qm:St}
  (h:(qt (ml c b sV.toList (args.toList.map (wD f))) O.st).leads (d,qm)):wC c.P (execOp a.eval o) O d qm:=by
 have two:∀ {g:Value->Value->Sem Value} {m:Int->Int->Int},(∀ k k' a b,(g (.int k a) (.int k' b)).run c.P O.w=.ok (.int k (m a b)) O.w)->(qt (Gt m (args.toList.map (wD f))) O.st).leads (d,qm) ->
   (∀ p q,args = #[p,q]->execOp a.eval o=(do xG (.value (<- g (a.eval p) (a.eval q))):Sem Next))->wC c.P (execOp a.eval o) O d qm:=by
  intro g m hg h he
  match B:args.toList,h with
  | [p,q],h =>
   have hpq:args = #[p,q]:=by rw[<- zR (xs:=args),B]
   rw[he p q hpq]
   obtain⟨r,h1,rfl,h3⟩:=Mg hg hI (λz hz=>hR.eval (x:=p) hz) (λz hz=>hR.eval (x:=q) hz) h
   exact⟨O,.value r,r,by simp[h1],.inl rfl,rfl,hI,Ext.refl O,h3⟩
  | [],h=>exact absurd h zi
  | [_],h=>exact absurd h zi
  | _::_::_::_,h=>exact absurd h zi
 unfold ml at h
 split at h
 ·rename_i t ts x xs h1 X
  have ht:sV[0]? = some t:=by rw[<- qI,h1]; rfl
  obtain⟨y,hy,rfl⟩:∃ y,args[0]? = some y/\x=wD f y:=by
   cases B:args.toList with
   | nil=>grind
   | cons y ys=>rw[B]at X; simp at X; exact⟨y,by rw[<- qI,B]; rfl,X.1.symm⟩
  have:=z7E (c:=c) (ty:=o.type) (ts:=sV) (vs:=args.map a.eval) hI (λz hz=>hR.eval (x:=y) hz) ht (by simp[hy]) h
  simp only[execOp,ho,resolve,invoke,builtin,pure_bind]
  exact this
 ·rename_i t t' s x h1 X
  obtain⟨p,q,rfl,rfl,hpq⟩:∃ p q,s=wD f p/\x=wD f q/\args = #[p,q]:=by
   cases B:args.toList with
   | nil=>grind
   | cons p r=>rw[B]at X; cases r with
    | nil=>simp at X
    | cons q r=>cases r with
     | nil=>grind
     | cons _ _=>simp at X
  subst hpq
  cases J:zU t t' with
  | false =>
   rw[J,cond_false]at h
   have z1M:sV = #[t,t']:=by rw[<- zR (xs:=sV),h1]
   subst z1M
   have:=Yx (c:=c) (ty:=o.type) hI (λz hz=>hR.eval (x:=p) hz) (λz hz=>hR.eval (x:=q) hz) h
   have e2:(#[p,q]:Array Operand).map a.eval = #[a.eval p,a.eval q]:=qu
   simp only[execOp,ho,resolve,invoke,builtin,pure_bind,e2]
   exact this
  | true =>
   rw[J,cond_true]at h
   have e:=Y J
   subst e
   have z1M:sV = #[t,t]:=by rw[<- zR (xs:=sV),h1]
   subst z1M
   have:=Eu (c:=c) (ty:=o.type) hI (λz hz=>hR.eval (x:=p) hz) (λz hz=>hR.eval (x:=q) hz) h
   have e2:(#[p,q]:Array Operand).map a.eval = #[a.eval p,a.eval q]:=qu
   simp only[execOp,ho,resolve,invoke,builtin,pure_bind,e2]
   exact this
 ·rename_i t t' s x h1 X
  obtain⟨p,q,rfl,rfl,hpq⟩:∃ p q,s=wD f p/\x=wD f q/\args = #[p,q]:=by
   cases B:args.toList with
   | nil=>grind
   | cons p r=>rw[B]at X; cases r with
    | nil=>simp at X
    | cons q r=>cases r with
     | nil=>simp at X; exact⟨p,q,X.1.symm,X.2.symm,by rw[<- zR (xs:=args),B]⟩
     | cons _ _=>simp at X
  subst hpq
  have z1M:sV = #[t,t']:=by rw[<- zR (xs:=sV),h1]
  subst z1M
  have:=Sh (c:=c) (ty:=o.type) (t':=t') hI (λz hz=>hR.eval (x:=p) hz) (λz hz=>hR.eval (x:=q) hz) h
  have e2:(#[p,q]:Array Operand).map a.eval = #[a.eval p,a.eval q]:=qu
  simp only[execOp,ho,resolve,invoke,builtin,pure_bind,e2]
  exact this
 ·rename_i X
  exact two (g:=Builtin.min2) (λk k' a b=>by simp[Builtin.min2,Vs]) h λp q hpq=>by
   subst hpq
   have e2:(#[p,q]:Array Operand).map a.eval = #[a.eval p,a.eval q]:=qu
   simp only[execOp,ho,resolve,invoke,builtin,pure_bind,e2]
   simp[Builtin.min_]
 ·rename_i X
  exact two (g:=Builtin.max2) (λk k' a b=>by simp[Builtin.max2,lU]) h λp q hpq=>by
   subst hpq
   have e2:(#[p,q]:Array Operand).map a.eval = #[a.eval p,a.eval q]:=qu
   simp only[execOp,ho,resolve,invoke,builtin,pure_bind,e2]
   simp[Builtin.max_]
 ·exact absurd h zi
theorem z6p{o:Oper}{g:Nat}{caps:Array Value}{args:Array Value}{oE:Ending->World->Prop}(jV:(execOp a.eval o).run c.P O.w=(callFunc g args).run c.P O.w)
  (h:gO c.P g args O.w oE) {K:Act->World->Prop} {Q:Exit->Act->World->Prop} (hR:∀ e w',oE e w'->∃ v,e=.returned v/\K (a.put o.dst v) w'):o.wp c.P a O.w K Q:=by
 unfold Oper.wp
 rw[jV]
 rcases h with⟨h1,X⟩ | ⟨v,w',h1,X⟩
 ·rw[h1]
  refine X.mono λe w' he => ?_
  grind
 ·rw[h1]
  obtain⟨u,hu,hk⟩:=hR _ _ X
  cases hu
  exact hk
theorem YH(g:Nat){l caps:List D}{vs us:List Value}(h1:wQ O l vs)(X:wQ O caps us):wQ O (cm g l caps) (cm g vs us):=by
 unfold cm
 cases Nat.ble 1000000 g with
 | true=>exact X.append h1
 | false=>exact h1.append X
theorem EE{dst:Option Nat}{p:Operand}{args:Array Operand}{sV:Array TypeId}{ty:TypeId}{pos:String}{after:Array Edge}{guard:Option (Nat×Bool)}{g:Nat}{us:List Value}{P:Program}{w:World}(Fv:a.eval p=QR g us) :
  (execOp a.eval ⟨dst,.call ⟨.value p,args,sV⟩,ty,pos,after,guard⟩).run P w=(callFunc (eM g) (cm g (args.toList.map a.eval) us).toArray).run P w:=by
 unfold QR at Fv
 unfold eM cm
 cases J:Nat.ble 1000000 g with
 | true =>
  rw[J]at Fv
  simp at Fv ⊢
  have e:us.toArray++args.map a.eval=(us++args.toList.map a.eval).toArray:=by apply qP; simp
  simp only[execOp,resolve,Fv,xE,pure_bind,invoke,Array.append_empty,e]
 | false =>
  rw[J]at Fv
  simp at Fv ⊢
  have e:args.map a.eval++us.toArray=(args.toList.map a.eval++us).toArray:=by apply qP; simp
  simp only[execOp,resolve,Fv,xE,pure_bind,invoke,Array.empty_append,e]
theorem I8{o:Oper}{d:Option D}{qm:St}(hC:∀ g,E8 c.P g (c.fn g))(hI:Inv O)(hR:Rel O n f a)(h:(qt (wS c (wD f) o) O.st).leads (d,qm)){K:Act->World->Prop}{Q:Exit->Act->World->Prop}
  (hK:∀ (v:Value) (E:KS),E.st=qm->Inv E->Ext O E->(∀ d',d=some d'->RD E d' v)->K (a.put o.dst v) E.w):o.wp c.P a O.w K Q:=by
 have lX:∀ (x:Operand) (z:D),wD f x=some z->RD O z (a.eval x):=λx z hz=>hR.eval hz
 obtain⟨dst,op,ty,pos,after,guard⟩:=o
 have fin:wC c.P (execOp a.eval ⟨dst,op,ty,pos,after,guard⟩) O d qm->Oper.wp c.P ⟨dst,op,ty,pos,after,guard⟩ a O.w K Q:=λV=>z9l V hK
 cases op with
 | move x =>
  simp only[wS,ya,T.leads]at h
  obtain⟨h,rfl⟩:=h
  exact fin (wC.val hI λd' dM=>lX x d' (h.trans dM))
 | assign x =>
  simp only[wS,ya,T.leads]at h
  obtain⟨h,rfl⟩:=h
  exact fin (wC.val hI λd' dM=>lX x d' (h.trans dM))
 | pick x p q =>
  simp only[wS,MD]at h
  split at h
  ·rename_i b J
   have hv:=Z6 J (lX x)
   rw[ya]at h
   obtain⟨h,rfl⟩:=h
   refine fin ⟨O,.value (if b then a.eval p else a.eval q),if b then a.eval p else a.eval q,?_,.inl rfl,rfl,hI,Ext.refl O,λd' dM => ?_⟩
   ·simp[execOp,hv,Go.asBool]
   ·rcases h with⟨rfl,h⟩ | ⟨rfl,h⟩
    ·exact lX p d' (h.trans dM)
    ·exact lX q d' (h.trans dM)
  ·exact absurd h zi
 | alloc t=>exact fin (L8 hI h)
 | box t x=>exact fin (Lp hI (lX x) h)
 | load t x=>exact fin (Ta hI (lX x) h)
 | store t x y=>exact fin (MX hI (lX x) (lX y) h)
 | nilCheck x=>exact fin (HR rfl hI (lX x) h)
 | binOp op t x y ty' =>
  have h:(qt (Lk c op t y (wD f x) (wD f y)) O.st).leads (d,qm):=h
  unfold Lk at h
  split at h
  ·exact fin (Mj hI (lX x) h)
  ·exact fin (Ml hI (lX x) (λh=>YC hI (lX x) (lX _) h) h)
  ·exact fin (Mk hI (lX x) (λh=>YC hI (lX x) (lX _) h) h)
  ·exact fin (YC hI (lX x) (lX y) h)
 | typeAssert x xt t ok=>exact fin (KX hI (lX x) h)
 | unOp op t x=>exact fin (za8 hI (lX x) h)
 | convert s t x=>exact fin (CL hI (lX x) h)
 | makeInterface t x=>exact fin (Gm hI (lX x) h)
 | makeFunc fn first cap =>
  cases fn with
  | func g =>
   simp only[wS]at h
   cases J:zU first.size 0&&qL g 1000000 with
   | false =>
    rw[J,cond_false]at h
    cases Fk:zU cap.size 0&&qL g 1000000 with
    | false=>rw[Fk]at h; exact absurd h zi
    | true =>
     rw[Fk,cond_true]at h
     simp only[zF]at Fk
     have hf:cap = #[]:=zV (Y Fk.1)
     subst hf
     split at h
     ·rename_i l B
      rw[dP]at h
      obtain⟨rfl,rfl⟩:=h
      have hr:=ig (O:=O) (vs:=first.toList.map a.eval) B (qu) (λi d v V hv=>by
       simp only[qR]at V hv
       cases hi:first.toList[i]? with
       | none=>grind
       | some x=>rw[hi]at V hv; simp at V hv; subst hv; exact lX x d V)
      refine fin (wC.pure hI ?_ (.wj (g+1000000) l _ hr.1 hr.2))
      have e:(first.toList.map a.eval).toArray=first.map a.eval:=by apply qP; simp
      rw[Lu Fk.2,e]
      simp[Instr.makeFunc]
     ·exact absurd h zi
   | true =>
    rw[J,cond_true]at h
    simp only[zF]at J
    have hf:first = #[]:=zV (Y J.1)
    subst hf
    split at h
    ·rename_i l B
     rw[dP]at h
     obtain⟨rfl,rfl⟩:=h
     have hr:=ig (O:=O) (vs:=cap.toList.map a.eval) B (qu) (λi d v V hv=>by
      simp only[qR]at V hv
      cases hi:cap.toList[i]? with
      | none=>grind
      | some x=>rw[hi]at V hv; simp at V hv; subst hv; exact lX x d V)
     refine fin (wC.pure hI ?_ (.wj g l _ hr.1 hr.2))
     have e:(cap.toList.map a.eval).toArray=cap.map a.eval:=by apply qP; simp
     rw[CI J.2,e]
     simp[Instr.makeFunc]
    ·exact absurd h zi
  | _=>exact absurd h zi
 | makeSlice t x y=>exact fin (Td hI (lX x) (lX y) h)
 | slice t x lo hi mx=>exact fin (MQ hI (lX x) (Mx hR lo) (Mx hR hi) (Mx hR mx) h)
 | fieldAddr s x fl=>exact fin (YQ hI (lX x) h)
 | field s x fl=>exact fin (LH hI (lX x) h)
 | indexAddr t x i=>exact fin (YZ hI (lX x) (lX i) h)
 | index t x i=>exact fin (M5 hI (lX x) (lX i) h)
 | extract x i=>exact fin (CU hI (lX x) h)
 | build t ps =>
  have:=Lr (L:=ps.toList) (G:=a.eval) hI lX h
  refine fin ?_
  have e:(ps.toList.map λp=>(p.1,a.eval p.2)).toArray=ps.map λp=>(p.1,a.eval p.2):=by apply qP; simp
  rw[e]at this
  exact this
 | buildSlice t k ps =>
  have h:(qt (bif z47 c dst&&zU k 0&&zU ps.size 0 then U7 c t (cy c t k (ps.toList.map λp=>(p.1,wD f p.2)))else cy c t k (ps.toList.map λp=>(p.1,wD f p.2))) O.st).leads (d,qm):=h
  refine fin ?_
  have e:(ps.toList.map λp=>(p.1,a.eval p.2)).toArray=ps.map λp=>(p.1,a.eval p.2):=by apply qP; simp
  have key:(qt (cy c t k (ps.toList.map λp=>(p.1,wD f p.2))) O.st).leads (d,qm)->wC c.P (do xG (.value (<- Instr.buildSlice t k (ps.map λp=>(p.1,a.eval p.2))))) O d qm:=λh=>by
   have:=KJ (L:=ps.toList) (G:=a.eval) hI lX h
   rw[e]at this
   exact this
  cases J:z47 c dst&&zU k 0&&zU ps.size 0 with
  | false=>rw[J]at h; exact key h
  | true =>
   rw[J,cond_true]at h
   simp only[zF]at J
   have hk:=Y J.1.2
   have hp:ps = #[]:=zV (Y J.2)
   subst hk hp
   have e0:((#[]:Array (Nat×Operand)).map λp=>(p.1,a.eval p.2)) = #[]:=qu
   rw[e0]at key
   have r:=Hv hI key h
   rw[<- e0]at r
   exact r
 | call cl =>
  obtain⟨callee,args,sV⟩:=cl
  cases callee with
  | builtin b=>exact fin (CF hI hR rfl h)
  | invoke r m=>exact absurd h zi
  | value p =>
   simp only[wS,fx]at h
   split at h
   ·rename_i g caps l hp B
    have hpv:=lX p _ hp
    have hr:=ig (O:=O) (vs:=args.toList.map a.eval) B (qu) (λi d v V hv=>by
      simp only[qR]at V hv
      cases hi:args.toList[i]? with
      | none=>rw[hi]at V; cases V
      | some x=>rw[hi]at V hv; simp at V hv; subst hv; exact lX x d V)
    generalize Fv:a.eval p=pv at hpv
    cases hpv with
    | wj _ _ us Q7 hh2 =>
     have Q6:=YH g hr (⟨Q7,hh2⟩:wQ O caps us)
     refine z6p (c:=c) (O:=O) (g:=eM g) (caps := #[]) (args:=(cm g (args.toList.map a.eval) us).toArray) ?_ (Sc (hC (eM g)) hI Q6 h) ?_
     ·exact EE Fv
     ·rintro e w' ⟨E,v,rfl,h1,X,h3,rfl,h4⟩
      exact⟨v,rfl,hK v E h1 X h3 h4⟩
   ·exact absurd h zi
 | makeMap t r=>exact fin (Dj hI h)
 | lookup t m x ok=>exact fin (FD hI (lX m) (lX x) h)
 | mapUpdate t m x y=>exact fin (Gq hI (lX m) (lX x) (lX y) h)
 | _=>exact absurd h zi
end
end Go.AM
namespace Go.AM
set_option linter.unusedSectionVars false
variable [gB] [B8]
section
variable {c:Ctx} {n:Nat} {ops:Array Oper}
theorem D0(j:Nat):bR ops j=(ops[j]?).bind (·.dst):=by
 unfold bR; cases ops[j]? <;> rfl
theorem ZB{O:KS}{f:F}{a:Act}{o:Oper}{b:Bool}(hR:Rel O n f a)(h:jO ops f o=some b):qU o (yielded ops a.tmps)=b:=by
 unfold jO at h
 unfold qU
 split at h
 ·grind
 ·rename_i j w hg
  rw[hg]
  split at h
  ·cases h
  ·rename_i t ht
   rw[D0]at ht
   simp only[yielded,ht,Option.bind_some]
   split at h
   ·rename_i x U
    obtain⟨v,h1,X⟩:=hR.get t _ U
    have:=X.cL
    cases h
    grind
   ·rename_i U
    obtain⟨v,h1,X⟩:=hR.get t _ U
    cases h
    rw[h1]
    cases X with
    | eZ _ vs B hh=>rfl
   ·cases h
def pY(ops:Array Oper)(a a':Act):Prop:=∀ s:Nat,(∀ o∈ops.toList,o.dst≠some s)->a'.tmps[s]? = a.tmps[s]?
theorem pY.refl(ops:Array Oper)(a:Act):pY ops a a:=λ_ _=>rfl
theorem pY.trans{ops:Array Oper}{a b d:Act}(h:pY ops a b)(k:pY ops b d):pY ops a d:=λs hs=>(k s hs).trans (h s hs)
theorem Xu{ops:Array Oper}{i:Nat}{o:Oper}{a:Act}{v:Value}(ho:ops[i]? = some o):pY ops a (a.put o.dst v):=by
 intro s hs
 have hm:o∈ops.toList:=by have:=Array.mem_of_getElem? ho; simpa using this
 have:=hs o hm
 cases V:o.dst with
 | none=>rfl
 | some t =>
  rw[V]at this
  have kB:t≠s:=λe=>this (by rw[e])
  simp[qW,zH kB]
theorem GG{O:KS}{a:Act}{i k:Nat}{s s':F×St}(hC:∀ g,E8 c.P g (c.fn g))(hI:Inv O)(hR:Rel O n s.1 a)(ud:O.st=s.2)(h:fK c n ops i s s' k){K:Act->World->Prop}{Q:Exit->Act->World->Prop}
  (hK:∀ (a':Act) (E:KS),E.st=s'.2->Inv E->Ext O E->Rel E n s'.1 a'->pY ops a a'->K a' E.w):wpOp c.P ops Q i K a O.w:=by
 obtain⟨o,ho,V,h⟩:=h
 unfold wpOp
 rw[ho]
 simp only
 rcases h with⟨hw,_,d,qm,B,rfl⟩ | ⟨hw,_,rfl⟩
 ·rw[if_pos (ZB hR hw)]
  refine .inl (I8 hC hI hR (ud▸B) λv E h1 X h3 h4=>hK _ E h1 X h3 ((hR.mono h3).put V h4) (Xu ho))
 ·rw[if_neg (by rw[ZB hR hw]; exact Bool.false_ne_true)]
  exact hK _ O ud hI (Ext.refl O) (hR.put V λd' dM=>by cases dM; exact z3X (v:=undef)) (Xu ho)
theorem Ra{Q:Exit->Act->World->Prop}(hC:∀ g,E8 c.P g (c.fn g)):∀ (l:List Nat) {O:KS} {a:Act} {s s':F×St} {ks:List Nat},Inv O->Rel O n s.1 a->O.st=s.2->RZ c n ops l s s' ks ->
  (∀ (a':Act) (E:KS),E.st=s'.2->Inv E->Ext O E->Rel E n s'.1 a'->pY ops a a'->Q .normal a' E.w)->wpOps c.P ops Q l a O.w
 | [],O,a,s,s',ks,hI,hR,ud,h,hQ=>by
  obtain⟨rfl,_⟩:=h
  exact hQ a O ud hI (Ext.refl O) hR (pY.refl _ _)
 | i::l,O,a,s,s',ks,hI,hR,ud,h,hQ=>by
  obtain⟨s1,k,M9,_,h1,X⟩:=h
  refine GG hC hI hR ud h1 λa1 κ1 g1 g2 g3 g4 g5 => ?_
  exact Ra hC l g2 g4 g1 X λa' E e1 e2 e3 e4 e5=>hQ a' E e1 e2 (g3.trans e3) e4 (g5.trans e5)
theorem JT{Q:Exit->Act->World->Prop}(hC:∀ g,E8 c.P g (c.fn g)):∀ (l m:List Nat) {O:KS} {a:Act} {s s':F×St} {ks:List Nat},Inv O->Rel O n s.1 a->O.st=s.2->RZ c n ops l s s' ks ->
  (∀ (a':Act) (E:KS),E.st=s'.2->Inv E->Ext O E->Rel E n s'.1 a'->pY ops a a'->wpOps c.P ops Q m a' E.w)->wpOps c.P ops Q (l++m) a O.w
 | [],m,O,a,s,s',ks,hI,hR,ud,h,hQ=>by
  obtain⟨rfl,_⟩:=h
  exact hQ a O ud hI (Ext.refl O) hR (pY.refl _ _)
 | i::l,m,O,a,s,s',ks,hI,hR,ud,h,hQ=>by
  obtain⟨s1,k,M9,_,h1,X⟩:=h
  refine GG hC hI hR ud h1 λa1 κ1 g1 g2 g3 g4 g5 => ?_
  exact JT hC l m g2 g4 g1 X λa' E e1 e2 e3 e4 e5=>hQ a' E e1 e2 (g3.trans e3) e4 (g5.trans e5)
theorem GF{kd:Nat->Nat}:∀ (l:List Nat) (s s':F×St) (ks:List Nat),RZ c n ops l s s' ks->ks=l.map kd->QA c n ops kd l s s'
 | [],s,s',ks,h,_=>h.1
 | i::l,s,s',ks,⟨s1,k,M9,e,h1,X⟩,hk=>by
  subst e
  simp at hk
  obtain⟨rfl,hk⟩:=hk
  exact⟨s1,h1,GF l s1 s' M9 X hk⟩
theorem Ib:∀ (l:List Nat) (s s':F×St) (ks:List Nat),RZ c n ops l s s' ks->ks.length=l.length
 | [],_,_,_,h=>by rw[h.2]
 | i::l,s,s',ks,⟨s1,k,M9,e,h1,X⟩=>by subst e; simp[Ib l s1 s' M9 X]
theorem Fa(acc:List Nat):∀ (es:List Edge) (s0 p:Nat),qS (es.foldl (λs e=>bif zZ .any e then s ||| 2 ^ e.on ||| acc.getD e.on 0 else s) s0) p=true ->
  qS s0 p=true\/∃ e∈es,zZ .any e=true/\(p=e.on\/qS (acc.getD e.on 0) p=true)
 | [],s0,p,h=>.inl h
 | e::es,s0,p,h=>by
  rcases Fa acc es _ p h with h1 | ⟨e',h1,X⟩
  ·grind
  ·grind
theorem ZJ:∀ (l:List Oper) (acc:List Nat),∃ r,uc l acc=acc++r/\r.length=l.length /\
  ∀ j o,l[j]? = some o->∀ p,qS ((uc l acc).getD (acc.length+j) 0) p=true ->
   ∃ e∈o.after.toList,zZ .any e=true/\(p=e.on\/(e.on<acc.length+j/\qS ((uc l acc).getD e.on 0) p=true))
 | [],acc=>⟨[],by simp[uc],rfl,λj o h=>by simp at h⟩
 | o::l,acc=>by
  let b:=o.after.toList.foldl (λs e=>bif zZ .any e then s ||| 2 ^ e.on ||| acc.getD e.on 0 else s) 0
  obtain⟨r,h1,X,h3⟩:=ZJ l (acc++[b])
  have J:uc (o::l) acc=uc l (acc++[b]):=rfl
  have SE:∀ i,i<acc.length->(uc l (acc++[b])).getD i 0=acc.getD i 0:=λi hi=>by
   grind
  refine⟨b::r,by rw[J,h1]; simp,by simp[X],?_⟩
  rw[J]
  intro j o' ho p hp
  cases j with
  | zero =>
   simp at ho
   subst ho
   have he:(uc l (acc++[b])).getD (acc.length+0) 0=b:=by rw[h1]; simp[xF]
   rw[he]at hp
   rcases Fa acc _ 0 p hp with h | ⟨e,k1,k2,k3⟩
   ·simp at h
   ·grind
  | succ j =>
   have:=h3 j o' (by simpa using ho) p (by rw[show(acc++[b]).length+j=acc.length+(j+1) by simp; omega]; exact hp)
   grind
theorem ZV:∀ (l:List Oper) (k:Nat),iO l k=true->∀ j o,l[j]? = some o->∀ e∈o.after.toList,zZ .any e=true->e.on<k+j
 | [],_,_,j,o,h,_,_,_=>by simp at h
 | o::l,k,h,j,o',ho,e,he,J=>by
  simp only[iO,zF,zJ]at h
  cases j with
  | zero =>
   simp at ho
   subst ho
   have:=h.1 e he
   rw[J]at this
   exact I this
  | succ j =>
   have:=ZV l (k+1) h.2 j o' (wa) e he J
   omega
def z07{K:Type}(cl:K->K->Bool)(ops:Array Oper)(x:Oper)(kx:K)(y:Oper)(ky:K):Prop:=(∀ d,x.dst=some d->d ∉ tmpsOf ops y)/\(∀ d,y.dst=some d->d ∉ tmpsOf ops x)/\cl kx ky=false
theorem Ie{K:Type}{cl:K->K->Bool}{bs:List Nat}{xs:List (Nat×Option Nat×List Nat×K)}{j:Nat}{ky:K}{y:Oper}(h:MC cl bs xs j y.dst (tmpsOf ops y) ky=true){i:Nat}{kx:K}{x:Oper}(U:(i,x.dst,tmpsOf ops x,kx)∈xs) :
  ordered bs i j=true\/z07 cl ops x kx y ky:=by
 simp only[MC,zJ]at h
 have:=h _ U
 simp at this
 rcases this with h1 | ⟨⟨h1,X⟩,h3⟩
 ·grind
 ·refine .inr ⟨λd V hm => ?_,λd V hm => ?_,h3⟩
  ·grind
  ·grind
theorem Ql{K:Type}{cl:K->K->Bool}{bs:List Nat}:∀ (l:List Oper) (ks:List K) (k0:Nat) (xs:List (Nat×Option Nat×List Nat×K)),Qk cl ops bs l ks k0 xs=true ->
  (∀ j y ky,l[j]? = some y->ks[j]? = some ky->(∀ i x kx,(i,x.dst,tmpsOf ops x,kx)∈xs->ordered bs i (k0+j)=true\/z07 cl ops x kx y ky) /\
   (∀ i x kx,i<j->l[i]? = some x->ks[i]? = some kx->ordered bs (k0+i) (k0+j)=true\/z07 cl ops x kx y ky))
 | [],_,_,_,_,j,y,ky,hy,_=>by simp at hy
 | o::l,[],_,_,h,_,_,_,_,_=>by simp[Qk]at h
 | o::l,k::ks,k0,xs,h,j,y,ky,hy,hk=>by
  simp only[Qk,zF]at h
  obtain⟨h1,X⟩:=h
  have ih:=Ql l ks (k0+1) _ X
  cases j with
  | zero =>
   simp at hy hk
   subst hy hk
   exact⟨λi x kx U=>by simpa using Ie h1 U,λi x kx hi=>absurd hi (qN i)⟩
  | succ j =>
   obtain⟨g1,g2⟩:=ih j y ky (by simpa using hy) (by simpa using hk)
   have e:k0+1+j=k0+(j+1):=Z
   rw[e]at g1 g2
   refine⟨λi x kx U=>g1 i x kx (zS _ U),λi x kx hi U hkx => ?_⟩
   cases i with
   | zero =>
    grind
   | succ i =>
    grind
def rest(ops:Array Oper)(listed:Array Bool):List Nat:=(qF ops.size).filter λi => !listed.getD i true
def V8(ops:Array Oper)(listed:Array Bool):Prop:=∀ q,q<ops.size->listed.getD q true=true->∀ p,ordered (uc ops.toList []) p q=true->p<ops.size->listed.getD p true=true
theorem cN{listed:Array Bool}{i j:Nat}(hi:i<listed.size):(listed.setIfInBounds i true).getD j true=if j=i then true else listed.getD j true:=by
 simp
 grind
theorem iW{p q:Nat->Bool}{i:Nat}:∀ (l:List Nat),l.Pairwise (· < ·)->i∈l->p i=true->(∀ j,q j=(p j && !(j==i))) ->
  ∃ pre post,l.filter p=pre++i::post/\l.filter q=pre++post/\∀ x∈pre,p x=true/\x∈l/\x<i
 | [],_,hi,_,_=>by simp at hi
 | a::l,hn,hi,hp,hq=>by
  have hn':=qE.1 hn
  by_cases ha:a=i
  ·subst ha
   refine⟨[],l.filter p,wa,?_,qu⟩
   have hqa:q a=false:=by rw[hq]; simp
   simp only[List.filter_cons,hqa]
   refine List.filter_congr λx U => ?_
   rw[hq]
   have:(x==a)=false:=by simp; exact λe=>absurd (hn'.1 x U) (Z)
   simp[this]
  ·have Ya:i∈l:=by rcases qA.1 hi with h | h; exact absurd h.symm ha; exact h
   obtain⟨pre,post,h1,X,h3⟩:=iW l hn'.2 Ya hp hq
   grind
theorem Qp{listed:Array Bool}{i:Nat}:i∈qY .any ops listed↔i<ops.size/\listed.getD i true=false/\∀ o,ops[i]? = some o->∀ e∈o.after.toList,zZ .any e=true->listed.getD e.on false=true:=by
 unfold qY
 simp only[zX,W,zF,zL]
 constructor
 ·rintro⟨h1,X,h3⟩
  refine⟨h1,X,λo ho e he J => ?_⟩
  rw[ho]at h3
  simp only[Option.map_some,Option.getD_some,Array.all_eq_true_iff_forall_mem]at h3
  grind
 ·grind
theorem GQ(LV:iO ops.toList 0=true){listed:Array Bool}(cp:listed.size=ops.size):qY .any ops listed=[]->rest ops listed=[]:=by
 intro hr
 cases hre:rest ops listed with
 | nil=>rfl
 | cons i l =>
  have hi:i∈rest ops listed:=by rw[hre]; exact zK
  simp only[rest,zX,W,zL]at hi
  have zcU:∀ j,j<i->listed.getD j true=true:=by
   intro j hj
   cases B:listed.getD j true with
   | true=>rfl
   | false =>
    have hpw:(rest ops listed).Pairwise (· < ·):=List.Pairwise.filter _ zN
    have hjm:j∈rest ops listed:=by simp only[rest,zX,W,zL]; exact⟨Z,B⟩
    rw[hre]at hpw hjm
    rcases qA.1 hjm with rfl | hjm
    ·grind
    ·have:=(qE.1 hpw).1 j hjm; omega
  have:i∈qY .any ops listed:=by
   rw[Qp]
   refine⟨hi.1,hi.2,λo ho e he J => ?_⟩
   have wO:=ZV ops.toList 0 LV i o (wa) e he J
   grind
  grind
def Ys(Stp:Nat->F×St->F×St->Prop):List Nat->F×St->F×St->Prop
 | [],s,s'=>s'=s
 | i::l,s,s'=>∃ s1,Stp i s s1/\Ys Stp l s1 s'
theorem Cf{Stp:Nat->F×St->F×St->Prop}{In:Nat->Nat->Prop}(Fl:∀ p i,In p i->∀ s s1 s2,Stp p s s1->Stp i s1 s2->∃ s',Stp i s s'/\Stp p s' s2){i:Nat}{post:List Nat}{s':F×St}:∀ {pre:List Nat} {s:F×St},(∀ p∈pre,In p i)->Ys Stp (pre++i::post) s s' ->
  ∃ s1,Stp i s s1/\Ys Stp (pre++post) s1 s'
 | [],s,_,h=>h
 | p::pre,s,hp,⟨sp,h1,X⟩=>by
  obtain⟨s1,h3,h4⟩:=Cf Fl (λq hq=>hp q (zS _ hq)) X
  obtain⟨s2,h5,h6⟩:=Fl _ _ (hp p zK) _ _ _ h1 h3
  exact⟨s2,h5,s1,h6,h4⟩
theorem JS{Stp:Nat->F×St->F×St->Prop}{In:Nat->Nat->Prop}(z1J:∀ i s s',Stp i s s'->∃ k,fK c n ops i s s' k)(Fl:∀ p i,In p i->∀ s s1 s2,Stp p s s1->Stp i s1 s2->∃ s',Stp i s s'/\Stp p s' s2){Q:Exit->Act->World->Prop}(hC:∀ g,E8 c.P g (c.fn g))(LV:iO ops.toList 0=true)
  {sf:F×St}:∀ (fuel:Nat) (listed:Array Bool) {O:KS} {a:Act} {s:F×St},(∀ p i,p<i->i<ops.size->listed.getD p true=false->ordered (uc ops.toList []) p i=true\/In p i) ->
  listed.size=ops.size->fuel=(rest ops listed).length->V8 ops listed->Inv O->Rel O n s.1 a->O.st=s.2->Ys Stp (rest ops listed) s sf ->
  (∀ (a':Act) (E:KS),E.st=sf.2->Inv E->Ext O E->Rel E n sf.1 a'->pY ops a a'->Q .normal a' E.w)->wpAny c.P .any ops Q fuel listed a O.w
 | fuel,listed,O,a,s,eI,cp,hfuel,Y9,hI,hR,ud,jV,hQ=>by
  have zd0:=GQ LV (listed:=listed) cp
  have z1w:rest ops listed=[]->Q .normal a O.w:=by
   intro h
   rw[h]at jV
   cases jV
   exact hQ a O ud hI (Ext.refl O) hR (pY.refl _ _)
  cases fuel with
  | zero =>
   have hre:rest ops listed=[]:=zW hfuel.symm
   refine⟨?_,z1w hre⟩
   apply List.eq_nil_iff_forall_not_mem.2
   intro i hi
   rw[Qp]at hi
   have:i∈rest ops listed:=by simp only[rest,zX,W,zL]; exact⟨hi.1,hi.2.1⟩
   grind
  | succ fuel =>
   refine⟨λh=>z1w (zd0 h),λi hi => ?_⟩
   rw[Qp]at hi
   obtain⟨h1,X,h3⟩:=hi
   have ho:ops[i]? = some ops[i]:=zP h1
   obtain⟨pre,post,g1,g2,g3⟩:=iW (p:=λi => !listed.getD i true) (q:=λj => !(listed.setIfInBounds i true).getD j true) (i:=i) (qF ops.size) zN
    (W.2 h1) (by simp[X]) (λj=>by
     rw[cN (Z)]
     by_cases h:j=i
     ·grind
     ·simp[h])
   have z1q:∀ p,ordered (uc ops.toList []) p i=true->p<ops.size->listed.getD p true=true:=by
    intro p hp wO
    obtain⟨r,_,_,J⟩:=ZJ ops.toList []
    obtain⟨e,k1,k2,k3⟩:=J i ops[i] (qu) p (by simpa[ordered]using hp)
    have hle:=h3 _ ho e k1 k2
    have HJ:=ZV ops.toList 0 LV i ops[i] (qu) e k1 k2
    have HH:listed.getD e.on true=true:=by
     grind
    rcases k3 with rfl | ⟨_,k3⟩
    ·exact HH
    ·exact Y9 e.on (Z) HH p k3 wO
   have z1B:∀ p∈pre,In p i:=by
    grind
   have Fw:Ys Stp (pre++i::post) s sf:=by
    have:rest ops listed=pre++i::post:=g1
    grind
   obtain⟨s1,k1,k2⟩:=Cf Fl z1B Fw
   have Xq:rest ops (listed.setIfInBounds i true)=pre++post:=g2
   obtain⟨kk,k1⟩:=z1J _ _ _ k1
   refine GG hC hI hR ud k1 λa1 κ1 e1 e2 e3 e4 e5 => ?_
   refine JS z1J Fl hC LV fuel (listed.setIfInBounds i true) (λp j hpj hj hp=>eI p j hpj hj (by
    rw[cN (Z)]at hp
    split at hp
    ·cases hp
    ·exact hp)) (by simp[cp]) ?_ ?_ e2 e4 e1 (by rw[Xq]; exact k2) λa' E d1 d2 d3 d4 d5=>hQ a' E d1 d2 (e3.trans d3) d4 (e5.trans d5)
   ·have:rest ops listed=pre++i::post:=g1
    rw[this]at hfuel
    rw[Xq]
    simp only[List.length_append,List.length_cons]at hfuel ⊢
    omega
   ·intro q hq SG p hp wO
    rw[cN (Z)]at SG ⊢
    split
    ·rfl
    ·split at SG
     ·rename_i e; subst e; exact z1q p hp wO
     ·exact Y9 q hq SG p hp wO
theorem Ia{kd:Nat->Nat}:∀ (l:List Nat) (s s':F×St),QA c n ops kd l s s'->Ys (λi s s'=>fK c n ops i s s' (kd i)) l s s'
 | [],_,_,h=>h
 | i::l,s,s',⟨s1,h1,X⟩=>⟨s1,h1,Ia l s1 s' X⟩
theorem GD{kd:Nat->Nat}{Q:Exit->Act->World->Prop}(hC:∀ g,E8 c.P g (c.fn g))(LV:iO ops.toList 0=true)
  {sf:F×St}:∀ (fuel:Nat) (listed:Array Bool) {O:KS} {a:Act} {s:F×St},(∀ p i,p<i->i<ops.size->listed.getD p true=false->ordered (uc ops.toList []) p i=true\/Ind ops kd p i) ->
  listed.size=ops.size->fuel=(rest ops listed).length->V8 ops listed->Inv O->Rel O n s.1 a->O.st=s.2->QA c n ops kd (rest ops listed) s sf ->
  (∀ (a':Act) (E:KS),E.st=sf.2->Inv E->Ext O E->Rel E n sf.1 a'->pY ops a a'->Q .normal a' E.w)->wpAny c.P .any ops Q fuel listed a O.w
 | fuel,listed,O,a,s,eI,cp,hfuel,Y9,hI,hR,ud,jV,hQ =>
  JS (Stp:=λi s s'=>fK c n ops i s s' (kd i)) (In:=λp i=>Ind ops kd p i) (λi s s' h=>⟨_,h⟩) (λp i hi s s1 s2 h1 X=>Ca hi h1 X) hC LV fuel listed eI cp hfuel Y9 hI hR ud (Ia _ _ _ jV) hQ
end
end Go.AM
namespace Go.AM
set_option linter.unusedSectionVars false
variable [gB] [B8]
open Go.RowKit
structure Up(O E:KS):Prop where
 same:L6 O.w E.w O.ok E.ok
 var:∀ (b:Nat) (d:D),O.st[b]? = some (.var d)->(∃ d',E.st[b]? = some (.var d'))/\E.ph[b]? = O.ph[b]?
 old:∀ (b vk:Nat),Old O.st b vk->Old E.st b vk
 row:∀ (b v:Nat) (e:Ty) (xs:List (den e)),Old O.st b v->E.st[b]? = some (.arr v e xs)->O.st[b]? = some (.arr v e xs)/\E.ph[b]? = O.ph[b]?
theorem RD.up{O E:KS}(x:Up O E){d:D}{v:Value}(h:RD O d v):RD E d v:=by
 induction h with
 | qi τ y cs h=>exact .qi τ y cs (h.mono x.same)
 | sT e l b v h ht hf=>exact .sT e l b v (h.mono x.same) ht hf
 | vD e a=>exact .vD e a
 | tight e l ne blk off f kB j9 h hc=>exact .tight e l ne blk off f kB (x.same _ j9).1 (λi hi=>(h i hi).mono x.same) λi hi j v hv=>by rw[mm (x.same _ j9).2]; exact hc i hi j v hv
 | wH=>exact .wH
 | br=>exact .br
 | vb=>exact .vb
 | gF=>exact .gF
 | uX=>exact .uX
 | V6 v h=>exact .V6 v h
 | nw T=>exact .nw T
 | nS b T d V =>
  obtain⟨⟨d',dM⟩,hp⟩:=x.var b d V
  exact .nS b T d' dM
 | gj b blk n d V h =>
  obtain⟨⟨d',dM⟩,hp⟩:=x.var b d V
  exact .gj b blk n d' dM (hp.trans h)
 | nT b T blk n d V h =>
  obtain⟨⟨d',dM⟩,hp⟩:=x.var b d V
  exact .nT b T blk n d' dM (hp.trans h)
 | ptr b off blk n d V h =>
  obtain⟨⟨d',dM⟩,hp⟩:=x.var b d V
  exact .ptr b off blk n d' dM (hp.trans h)
 | vE τ y cs blk off j9 h hc=>exact .vE τ y cs blk off (x.same _ j9).1 (h.mono x.same) λj v hv=>by rw[mm (x.same _ j9).2]; exact hc j v hv
 | gW b vk e idx off blk o J h =>
  refine .gW b vk e idx off blk o (x.old b vk J) λxs U hi => ?_
  obtain⟨h1,X⟩:=x.row b vk e xs J U
  grind
 | ms b vk e off len cap a J jq ha WO h =>
  refine .ms b vk e off len cap a (x.old b vk J) jq ha WO λxs U => ?_
  obtain⟨h1,X⟩:=x.row b vk e xs J U
  have:=h xs h1
  unfold No at this ⊢
  grind
 | wj f l vs B h ih=>exact .wj f l vs B ih
 | agg l vs B ho h ih=>exact .agg l vs B ho ih
 | eZ l vs B h ih=>exact .eZ l vs B ih
 | iface t d v h ih=>exact .iface t d v ih
structure Nob(O:KS)(blk:Nat):Prop where
 lt:blk<O.w.heap.size
 ok:¬ O.ok blk
 ph:∀ (b n:Nat),O.ph[b]? ≠ some (some (blk,n))
theorem Nob.ext{O E:KS}(x:Ext O E){blk:Nat}(h:Nob O blk):Nob E blk/\E.w.heap[blk]? = O.w.heap[blk]? := by
 refine⟨⟨Nat.lt_of_lt_of_le h.lt x.size,λhk => ?_,λb n J => ?_⟩,x.frame blk h.lt h.ph⟩
 ·rcases x.fresh blk hk with h1 | h1 | ⟨b,n,h1⟩
  ·exact h.ok h1
  ·have:=h.lt; omega
  ·exact h.ph b n h1
 ·rcases x.phs b blk n J with h1 | h1
  ·exact h.ph b n h1
  ·have:=h.lt; omega
def KS.push(O:KS)(blk n:Nat)(d:D):KS:={ O with ph:=O.ph++[some (blk,n)],st:=O.st++[.var d] }
theorem Zt{α:Type}{l:List α}{x y:α}{b:Nat}(h:l[b]? = some y):(l++[x])[b]? = some y:=wa
theorem Wt{α:Type}{l:List α}{x y:α}{b:Nat}(h:(l++[x])[b]? = some y):l[b]? = some y\/(b=l.length/\y=x):=wa
theorem Rf{O:KS}(hI:Inv O)(blk n:Nat)(d:D):Up O (O.push blk n d):=by
 have Hm:∀ {b:Nat} {y:de},O.st[b]? = some y->(O.ph++[some (blk,n)])[b]? = O.ph[b]? := λh=>by
  rw[zI]; rw[hI.len]; exact(zQ.1 h).1
 refine⟨λk hk=>⟨hk,rfl⟩,λb d' h=>⟨⟨d',Zt h⟩,Hm h⟩,λb vk h => ?_,λb v e xs ho h => ?_⟩
 ·rcases h with h | ⟨v0,e0,VU,h,hv⟩
  ·exact .inl (Zt h)
  ·exact .inr ⟨v0,e0,VU,Zt h,hv⟩
 ·rcases Wt h with h1 | ⟨_,h1⟩
  ·exact⟨h1,Hm h1⟩
  ·cases h1
theorem z9K{κ0 O:KS}{blk:Nat}{d:D}{z:Value}{t:TypeId}(hI:Inv O)(U:Ext κ0 O)(J:Nob O blk)(h0:κ0.w.heap.size<=blk)(hz:RD O d z)(ht:d.bT=false)(NS:∀ T,d.typed=some T->t=T)(hh:O.w.heap[blk]? = some (.cells z.cells t (0,0))) :
  Inv (O.push blk z.cells.size d)/\Ext κ0 (O.push blk z.cells.size d)/\RD (O.push blk z.cells.size d) (.ptr O.st.length 0) (.pointer (some ⟨blk,0,none⟩)):=by
 have hu:=Rf hI blk z.cells.size d
 have ud:(O.push blk z.cells.size d).st[O.st.length]? = some (.var d):=by simp[KS.push]
 have Hm:(O.push blk z.cells.size d).ph[O.st.length]? = some (some (blk,z.cells.size)):=by simp[KS.push,<- hI.len]
 have z1I:∀ {b k m:Nat},(O.push blk z.cells.size d).ph[b]? = some (some (k,m))->O.ph[b]? = some (some (k,m))\/(b=O.ph.length/\k=blk):=by
  intro b k m h
  rcases Wt h with h1 | ⟨h1,X⟩
  ·grind
  ·grind
 refine⟨⟨by simp[KS.push,hI.len],hI.cq,λb k m h => ?_,λb b' k m m' h h' => ?_,λb y h => ?_,hI.gl⟩,?_,.ptr _ 0 blk _ d ud Hm⟩
 ·rcases z1I h with h1 | ⟨_,rfl⟩
  ·exact hI.apart b k m h1
  ·exact⟨J.lt,J.ok⟩
 ·rcases z1I h with h1 | ⟨h1,rfl⟩
  ·rcases z1I h' with X | ⟨X,rfl⟩
   ·exact hI.inj b b' k m m' h1 X
   ·exact(J.ph b m h1).elim
  ·rcases z1I h' with X | ⟨X,_⟩
   ·exact(J.ph b' m' X).elim
   ·omega
 ·rcases Wt h with h1 | ⟨h1,X⟩
  ·have hp:(O.push blk z.cells.size d).ph[b]? = O.ph[b]? := by
    show(O.ph++[_])[b]? = _
    grind
   have hy:=hI.blk b y h1
   cases y with
   | dead=>trivial
   | var d' =>
    refine yf.elim hy (λhm ⟨k,m,cs,T,g1,g2,g3,g4,g5⟩=>.mk hm ⟨k,m,cs,T,hp.trans g1,g2,g3,⟨g4.1,λi h1 X=>(g4.2 i h1 X).up hu⟩,g5⟩) λl e ⟨k,o,g1,g2⟩ => ?_
    subst e
    exact⟨k,o,hp.trans g1,g2⟩
   | arr vk e xs =>
    obtain⟨g0,g⟩:=hy
    refine⟨g0,so g (λh=>⟨h.1,hp.trans h.2⟩) ?_⟩
    rintro⟨k,m,cs,T,g1,g2⟩
    exact⟨k,m,cs,T,hp.trans g1,g2⟩
  ·subst h1
   subst X
   have hf:=cQ hz ht
   exact .mk hz.z3p ⟨blk,z.cells.size,z.cells,t,Hm,hh,rfl,⟨hf.1,λi h1 X=>(hf.2 i h1 X).up hu⟩,cP hz,NS⟩
 ·refine⟨U.os,U.tape,U.output,U.size,U.same,U.fresh,λb k m h => ?_,λb d' h => ?_,λb v0 e xs h => ?_,λb h=>Zt (U.dead b h),Nat.le_trans U.Iq (by simp[KS.push]),U.frame⟩
  ·rcases z1I h with h1 | ⟨_,rfl⟩
   ·exact U.phs b k m h1
   ·exact .inr h0
  ·obtain⟨⟨d1,h1⟩,X⟩:=U.var b d' h
   obtain⟨h3,h4⟩:=hu.var b d1 h1
   exact⟨h3,h4.trans X⟩
  ·rcases U.arr b v0 e xs h with h1 | ⟨v1,xs1,h1,X,h3⟩
   ·exact .inl (Zt h1)
   ·refine .inr ⟨v1,xs1,Zt h1,X,λhe=>⟨?_,(h3 he).2⟩⟩
    have hp:(O.push blk z.cells.size d).ph[b]? = O.ph[b]? := by
     show(O.ph++[_])[b]? = _
     rw[zI]; rw[hI.len]; exact(zQ.1 h1).1
    exact hp.trans (h3 he).1
theorem z6M{O:KS}(hI:Inv O)(o:Obj):Inv { O with w:=O.w.alloc o }/\Ext O { O with w:=O.w.alloc o }/\Nob { O with w:=O.w.alloc o } O.w.heap.size/\(O.w.alloc o).heap[O.w.heap.size]? = some o:=by
 have hs:(O.w.alloc o).heap.size=O.w.heap.size+1:=qu
 have hold:∀ k,k<O.w.heap.size->(O.w.alloc o).heap[k]? = O.w.heap[k]? := λk hk=>by
  show(O.w.heap.push o)[k]? = _
  grind
 have U:Ext O { O with w:=O.w.alloc o }:=⟨rfl,rfl,rfl,qu,λk hk=>⟨hk,hold k (hI.cq k hk)⟩,λk hk=>.inl hk,λ_ _ _ h=>.inl h,λb d h=>⟨⟨d,h⟩,rfl⟩,
  λb v0 e xs h=>.inr ⟨v0,xs,h,qG _,λ_=>⟨rfl,rfl⟩⟩,λ_ h=>h,qG _,λk hk _=>hold k hk⟩
 refine⟨⟨hI.len,λk hk => ?_,λb blk n h => ?_,hI.inj,λb y hy=>(hI.blk b y hy).mono U rfl λblk n h=>hold _ (hI.apart b blk n h).1,hI.gl.mono U.same⟩,U,⟨?_,λhk => ?_,λb n h => ?_⟩,?_⟩
 ·have:=hI.cq k hk; show k<(O.w.alloc o).heap.size; omega
 ·have:=hI.apart b blk n h; exact⟨wa,this.2⟩
 ·simp
 ·have:=hI.cq _ hk; omega
 ·have:=(hI.apart b _ n h).1; omega
 ·show(O.w.heap.push o)[O.w.heap.size]? = some o
  simp
section
variable {c:Ctx} {n:Nat} {ops:Array Oper}
structure Em where
 i:Nat
 d:Nat
 blk:Nat
 t:TypeId
 z:Value
 D:D
structure IY(c:Ctx)(ops:Array Oper)(κ0 O:KS)(a:Act)(e:Em):Prop where
 op:∃ o,ops[e.i]? = some o/\o.op=.alloc e.t/\o.guard=none/\o.dst=some e.d
 zero:KH c e.t=some e.D
 z:∃ i,c.P.info? e.t=some i/\i.zero=some e.z/\ZD e.t e.D e.z
 val:a.tmps[e.d]? = some (.pointer (some ⟨e.blk,0,none⟩))
 heap:O.w.heap[e.blk]? = some (.cells e.z.cells e.t (0,0))
 nob:Nob O e.blk
 new:κ0.w.heap.size<=e.blk
theorem IY.mono{κ0 O E:KS}{a a':Act}{e:Em}(h:IY c ops κ0 O a e)(x:Ext O E)(ha:a'.tmps[e.d]? = a.tmps[e.d]?):IY c ops κ0 E a' e:=by
 obtain⟨h1,X⟩:=h.nob.ext x
 exact⟨h.op,h.zero,h.z,ha.trans h.val,X.trans h.heap,h1,h.new⟩
def eJ(es:List Em)(f:F):F:=λs=>if es.any (λe=>zU e.d s)then none else f s
theorem UF{es:List Em}{f:F}{s:Nat}(h:∀ e∈es,e.d≠s):eJ es f s=f s:=by
 unfold eJ
 rw[if_neg]
 intro hh
 obtain⟨e,he,J⟩:=zO.1 hh
 exact h e he (Y J)
theorem BQ{es:List Em}{f:F}{s:Nat}{d:D}(h:eJ es f s=some d):f s=some d/\∀ e∈es,e.d≠s:=by
 unfold eJ at h
 split at h
 ·cases h
 ·rename_i hh
  refine⟨h,λe he hs=>hh (zO.2 ⟨e,he,?_⟩)⟩
  subst hs; simp
def rT(ops:Array Oper)(i:Nat):Prop:=∃ o,ops[i]? = some o/\KR o=true
theorem SP{o:Oper}(h:KR o=true):∃ t d,o.op=.alloc t/\o.guard=none/\o.dst=some d:=by
 unfold KR at h
 simp only[zF]at h
 obtain⟨⟨h1,X⟩,h3⟩:=h
 split at h1
 ·rename_i t ht
  obtain⟨d,V⟩:=Option.isSome_iff_exists.1 h3
  exact⟨t,d,ht,Option.isNone_iff_eq_none.1 X,V⟩
 ·cases h1
theorem Dh{o:Oper}{t d:Nat}(h1:o.op=.alloc t)(X:o.guard=none)(h3:o.dst=some d):KR o=true:=by
 unfold KR; rw[h1,X,h3]; rfl
theorem Ic{kd:Nat->Nat}:∀ {l:List Nat} {s sf:F×St} {i:Nat},QA c n ops kd l s sf->i∈l->∃ s1 s2,fK c n ops i s1 s2 (kd i)
 | [],_,_,_,_,h=>by cases h
 | j::l,s,sf,i,⟨s1,h1,X⟩,h=>by
  rcases qA.1 h with rfl | h
  ·grind
  ·exact Ic X h
theorem Yw{kd:Nat->Nat}{i t d:Nat}{o:Oper}(ho:ops[i]? = some o)(h1:o.op=.alloc t)(X:o.guard=none)(h3:o.dst=some d){s s':F×St}(h:fK c n ops i s s' (kd i)) :
  ∃ D,KH c t=some D/\d<n/\s'=(eD s.1 (some d) (some (.ptr s.2.length 0)),s.2++[.var D]):=by
 obtain⟨o',ho',V,h⟩:=h
 rw[ho]at ho'
 cases ho'
 rw[h3]at V
 have wO:d<n:=I V
 have hw:jO ops s.1 o=some true:=by unfold jO; rw[X]
 rcases h with⟨_,_,D,qm,B,rfl⟩ | ⟨hw',_,_⟩
 ·have he:wS c (wD s.1) o=p8 c t:=by
   obtain⟨dst,op,ty,pos,after,guard⟩:=o
   cases h1
   rfl
  rw[he]at B
  unfold p8 at B
  split at B
  ·rename_i y hy
   simp only[qt,T.leads]at B
   grind
  ·exact absurd B zi
 ·grind
theorem Mz{es:List Em}{i k:Nat}{s s':F×St}(h:fK c n ops i s s' k)(V:∀ o,ops[i]? = some o->∀ e∈es,e.d ∉ tmpsOf ops o) :
  fK c n ops i (eJ es s.1,s.2) (eJ es s'.1,s'.2) k:=by
 obtain⟨o,ho,z7a,h⟩:=h
 have TZ:=V o ho
 have zhC:∀ x:Option D,eD (eJ es s.1) o.dst x=eJ es (eD s.1 o.dst x):=by
  intro x
  cases hds:o.dst with
  | none=>rfl
  | some t =>
   funext u
   simp only[eD,eJ]
   by_cases hu:u=t
   ·subst hu
    rw[if_pos rfl]
    rw[if_neg,if_pos rfl]
    intro hh
    obtain⟨e,he,J⟩:=zO.1 hh
    exact TZ e he (by rw[Y J]; exact eA hds)
   ·grind
 have lX:∀ x∈o.op.operands,wD (eJ es s.1) x=wD s.1 x:=by
  intro x U
  cases x with
  | tmp t=>exact UF λe he ht=>TZ e he (ht▸XA U)
  | _=>rfl
 have hw:jO ops (eJ es s.1) o=jO ops s.1 o:=by
  unfold jO
  cases hg:o.guard with
  | none=>rfl
  | some jw =>
   obtain⟨j,w⟩:=jw
   simp only
   cases hs:bR ops j with
   | none=>rfl
   | some t =>
    simp only
    rw[UF λe he ht=>TZ e he (ht▸Xz hg hs)]
 refine⟨o,ho,z7a,?_⟩
 rcases h with⟨h1,X,d,qm,h3,rfl⟩ | ⟨h1,X,rfl⟩
 ·refine .inl ⟨hw.trans h1,?_,d,qm,?_,?_⟩
  ·rw[show wS c (wD (eJ es s.1)) o=wS c (wD s.1) o from Vk o lX]; exact X
  ·rw[show wS c (wD (eJ es s.1)) o=wS c (wD s.1) o from Vk o lX]; exact h3
  ·rw[zhC]
 ·grind
theorem Tm{O:KS}{a:Act}{i k:Nat}{s s':F×St}(hC:∀ g,E8 c.P g (c.fn g))(hI:Inv O)(hR:Rel O n s.1 a)(ud:O.st=s.2)(h:fK c n ops i s s' k){K:Act->World->Prop}{Q:Exit->Act->World->Prop}
  (hK:∀ (a':Act) (E:KS),E.st=s'.2->Inv E->Ext O E->Rel E n s'.1 a'->pY ops a a'->(∀ u:Nat,(∀ o,ops[i]? = some o->o.dst≠some u)->a'.tmps[u]? = a.tmps[u]?)->K a' E.w):wpOp c.P ops Q i K a O.w:=by
 obtain⟨o,ho,V,h⟩:=h
 have hu:∀ (v:Value) (u:Nat),(∀ o,ops[i]? = some o->o.dst≠some u)->(a.put o.dst v).tmps[u]? = a.tmps[u]? := by
  intro v u hn
  have:=hn o ho
  cases hds:o.dst with
  | none=>rfl
  | some t =>
   rw[hds]at this
   have kB:t≠u:=λe=>this (by rw[e])
   simp[qW,zH kB]
 unfold wpOp
 rw[ho]
 simp only
 rcases h with⟨hw,_,d,qm,B,rfl⟩ | ⟨hw,_,rfl⟩
 ·rw[if_pos (ZB hR hw)]
  refine .inl (I8 hC hI hR (ud▸B) λv E h1 X h3 h4=>hK _ E h1 X h3 ((hR.mono h3).put V h4) (Xu ho) (hu v))
 ·rw[if_neg (by rw[ZB hR hw]; exact Bool.false_ne_true)]
  exact hK _ O ud hI (Ext.refl O) (hR.put V λd' dM=>by cases dM; exact z3X (v:=undef)) (Xu ho) (hu undef)
def kd3(kd:Nat->Nat)(o:Oper)(i:Nat):Nat:=bif KR o then 3 else kd i
def z6g(ops:Array Oper)(kd:Nat->Nat)(p i:Nat):Prop:=∀ x y,ops[p]? = some x->ops[i]? = some y ->
 (∀ d,x.dst=some d->d ∉ tmpsOf ops y)/\(∀ d,y.dst=some d->d ∉ tmpsOf ops x)/\X9 (kd3 kd x p) (kd3 kd y i)=false
theorem z0y{k l:Nat}(hk:k<=2)(B:l<=2)(h:X9 k l=false):cr k l=false:=by
 have h1:zU k 3=false:=Qh (Z)
 have X:zU l 3=false:=Qh (Z)
 simpa[X9,h1,X]using h
theorem z6r{k l:Nat}(B:l<=2)(h:X9 3 l=false):cr k l=false:=by
 have X:zU l 3=false:=Qh (Z)
 have h3:cr 2 l=false:=by simpa[X9,X]using h
 have h0:l=0:=by
  match l,B,h3 with
  | 0,_,_=>rfl
  | 1,_,h3=>cases h3
  | 2,_,h3=>cases h3
 subst h0
 simp[cr]
theorem z6s{k l:Nat}(hk:k<=2)(h:X9 k 3=false):cr k l=false:=by
 have X:zU k 3=false:=Qh (Z)
 have h3:cr k 2=false:=by simpa[X9,X]using h
 have h0:k=0:=by
  match k,hk,h3 with
  | 0,_,_=>rfl
  | 1,_,h3=>cases h3
  | 2,_,h3=>cases h3
 subst h0
 simp[cr]
theorem Db{kd:Nat->Nat}{p i:Nat}(h:z6g ops kd p i)(hp:kd p<=2)(hi:kd i<=2)(hn:¬ (rT ops p/\rT ops i)):Ind ops kd p i:=by
 intro x y U hy
 obtain⟨h1,X,h3⟩:=h x y U hy
 refine⟨h1,X,?_⟩
 unfold kd3 at h3
 cases hax:KR x with
 | true =>
  cases hay:KR y with
  | true=>exact(hn ⟨⟨x,U,hax⟩,y,hy,hay⟩).elim
  | false=>rw[hax,hay]at h3; exact z6r hi h3
 | false =>
  cases hay:KR y with
  | true=>rw[hax,hay]at h3; exact z6s hp h3
  | false=>rw[hax,hay]at h3; exact z0y hp hi h3
theorem least{es:List Em}(h:es≠[]):∃ e∈es,∀ f∈es,e.i<=f.i:=by
 induction es with
 | nil=>grind
 | cons e r ih =>
  by_cases hr:r=[]
  ·subst hr; exact⟨e,zK,λf hf=>wa⟩
  ·grind
def Dis(e f:Em):Prop:=e.i≠f.i/\e.blk≠f.blk/\e.d≠f.d
theorem Dis.symm{e f:Em}(h:Dis e f):Dis f e:=⟨h.1.symm,h.2.1.symm,h.2.2.symm⟩
theorem flush{kd:Nat->Nat}{κ0:KS}(eI:∀ p i,p<i->i<ops.size->ordered (uc ops.toList []) p i=true\/z6g ops kd p i)(nI:∀ i,i<ops.size->kd i<=2)
  {listed:Array Bool} (Y9:V8 ops listed) (Q6:∀ q,q<ops.size->rT ops q->listed.getD q true=true) {a:Act} {sf:F×St} :
  ∀ (m:Nat) (es:List Em) (v8:Array Bool) (O:KS) (s:F×St),es.length=m->v8.size=ops.size->(∀ j,j<ops.size->v8.getD j true=true->listed.getD j true=true) ->
  (∀ j,j<ops.size->listed.getD j true=true->v8.getD j true=false->∃ e∈es,e.i=j)->(∀ e∈es,e.i<ops.size/\listed.getD e.i true=true/\v8.getD e.i true=false)->es.Pairwise Dis ->
  Inv O->Rel O n (eJ es s.1) a->O.st=s.2->Ext κ0 O->(∀ e∈es,IY c ops κ0 O a e)->QA c n ops kd (rest ops v8) s sf ->
  ∃ (E:KS) (s':F×St),E.w=O.w/\E.st=s'.2/\Inv E/\Ext κ0 E/\Rel E n s'.1 a/\QA c n ops kd (rest ops listed) s' sf:=by
 intro m
 induction m with
 | zero =>
  intro es v8 O s B _ h1 X _ _ hI hR ud U _ jV
  obtain rfl:es=[]:=zW B
  refine⟨O,s,rfl,ud,hI,U,hR,?_⟩
  have:rest ops v8=rest ops listed:=by
   unfold rest
   refine List.filter_congr λi hi => ?_
   grind
  grind
 | succ m ih =>
  intro es v8 O s B cp h1 X h3 LS hI hR ud U hem jV
  obtain⟨e,he,zcU⟩:=least (es:=es) (λh=>by rw[h]at B; cases B)
  obtain⟨l1,l2,rfl⟩:=List.append_of_mem he
  obtain⟨hei,hel,hea⟩:=h3 e he
  have HK:∀ f,f∈l1++l2->f∈l1++e::l2:=λf hf=>by
   grind
  have zaV:∀ f,f∈l1++e::l2->f=e\/f∈l1++l2:=λf hf=>by
   rcases xA.1 hf with hf | hf
   ·exact .inr (List.mem_append_left _ hf)
   ·rcases qA.1 hf with rfl | hf
    ·exact .inl rfl
    ·exact .inr (List.mem_append_right _ hf)
  have hde:∀ f∈l1++l2,Dis e f:=by
   intro f hf
   rw[List.pairwise_append]at LS
   obtain⟨_,d2,d3⟩:=LS
   rcases xA.1 hf with hf | hf
   ·exact(d3 f hf e zK).symm
   ·exact(qE.1 d2).1 f hf
  have NP:(l1++l2).Pairwise Dis:=LS.sublist (List.Sublist.append_left (List.sublist_cons_self e l2) l1)
  obtain⟨pre,post,g1,g2,g3⟩:=iW (p:=λi => !v8.getD i true) (q:=λj => !(v8.setIfInBounds e.i true).getD j true) (i:=e.i) (qF ops.size) zN
   (W.2 hei) (by simp[hea]) (λj=>by
    rw[cN (Z)]
    by_cases h:j=e.i
    ·subst h; simp
    ·simp[h])
  have z1B:∀ p∈pre,Ind ops kd p e.i:=by
   intro p hp
   obtain⟨q1,q2,q3⟩:=g3 p hp
   have q2:=W.1 q2
   have hpa:v8.getD p true=false:=by simpa using q1
   have YX:listed.getD p true=false:=by
    cases J:listed.getD p true with
    | false=>rfl
    | true =>
     obtain⟨f,hf,Fp⟩:=X p q2 J hpa
     have:=zcU f hf
     omega
   have hna:¬ rT ops p:=λh=>by rw[Q6 p q2 h]at YX; cases YX
   rcases eI p e.i q3 hei with h | h
   ·have:=Y9 e.i hei hel p h q2
    rw[this]at YX; cases YX
   ·exact Db h (nI p q2) (nI e.i hei) λhh=>hna hh.1
  have Fw:QA c n ops kd (pre++e.i::post) s sf:=by
   have:rest ops v8=pre++e.i::post:=g1
   rw[<- this]; exact jV
  obtain⟨s1,k1,k2⟩:=H6 z1B Fw
  have hE:=hem e he
  obtain⟨o,o1,o2,o3,o4⟩:=hE.op
  obtain⟨D,d1,d2,rfl⟩:=Yw o1 o2 o3 o4 k1
  obtain rfl:D=e.D:=Option.some.inj (d1.symm.trans hE.zero)
  obtain⟨iz,z1,z2,z3⟩:=hE.z
  obtain⟨p1,p2,p3⟩:=z9K hI U hE.nob hE.new (z3.rd O) z3.eZ z3.ty hE.heap
  have hup:=Rf hI e.blk e.z.cells.size e.D
  refine ih (l1++l2) (v8.setIfInBounds e.i true) (O.push e.blk e.z.cells.size e.D) (eD s.1 (some e.d) (some (.ptr s.2.length 0)),s.2++[.var e.D]) (by simp at B ⊢; omega) (by simp[cp]) (λj hj ha => ?_) (λj hj J ha => ?_) (λf hf => ?_) NP p1 ?_ (by show O.st++_=s.2++_; rw[ud]) p2 (λf hf => ?_) ?_
  ·rw[cN (Z)]at ha
   split at ha
   ·rename_i h; subst h; exact hel
   ·exact h1 j hj ha
  ·rw[cN (Z)]at ha
   split at ha
   ·cases ha
   ·rename_i kB
    obtain⟨f,hf,Fp⟩:=X j hj J ha
    rcases zaV f hf with rfl | hf
    ·exact absurd Fp.symm kB
    ·exact⟨f,hf,Fp⟩
  ·obtain⟨f1,f2,f3⟩:=h3 f (HK f hf)
   refine⟨f1,f2,?_⟩
   rw[cN (Z),if_neg (hde f hf).1.symm]
   exact f3
  ·refine⟨hR.size,hR.defers,λu d0 hu => ?_⟩
   obtain⟨u1,u2⟩:=BQ hu
   simp only[eD]at u1
   by_cases hue:u=e.d
   ·subst hue
    rw[if_pos rfl]at u1
    cases u1
    rw[<- ud]
    exact⟨_,hE.val,p3⟩
   ·rw[if_neg hue]at u1
    have:eJ (l1++e::l2) s.1 u=some d0:=by
     rw[UF λf hf hfu => ?_]
     ·exact u1
     ·rcases zaV f hf with rfl | hf
      ·exact hue hfu.symm
      ·exact u2 f hf hfu
    obtain⟨v,v1,v2⟩:=hR.get u d0 this
    exact⟨v,v1,v2.up hup⟩
  ·have hF:=hem f (HK f hf)
   refine⟨hF.op,hF.zero,hF.z,hF.val,hF.heap,⟨hF.nob.lt,hF.nob.ok,λb m J => ?_⟩,hF.new⟩
   rcases Wt J with J | ⟨_,J⟩
   ·exact hF.nob.ph b m J
   ·exact(hde f hf).2.1 (congrArg Prod.fst (Option.some.inj J)).symm
  ·have:rest ops (v8.setIfInBounds e.i true)=pre++post:=g2
   rw[this]; exact k2
theorem z43{listed:Array Bool}{i:Nat}(cp:listed.size=ops.size)(h1:i<ops.size)(X:listed.getD i true=false):(rest ops listed).length=(rest ops (listed.setIfInBounds i true)).length+1:=by
 obtain⟨pre,post,g1,g2,_⟩:=iW (p:=λi => !listed.getD i true) (q:=λj => !(listed.setIfInBounds i true).getD j true) (i:=i) (qF ops.size) zN
  (W.2 h1) (wa) (λj=>by
   rw[cN (Z)]
   by_cases h:j=i
   ·grind
   ·simp[h])
 have e1:rest ops listed=pre++i::post:=g1
 have e2:rest ops (listed.setIfInBounds i true)=pre++post:=g2
 grind
theorem Lv{listed:Array Bool}{i:Nat}(LV:iO ops.toList 0=true)(cp:listed.size=ops.size)(Y9:V8 ops listed)(h1:i<ops.size)
  (h3:∀ o,ops[i]? = some o->∀ e∈o.after.toList,zZ .any e=true->listed.getD e.on false=true) :
  (∀ p,ordered (uc ops.toList []) p i=true->p<ops.size->listed.getD p true=true)/\V8 ops (listed.setIfInBounds i true):=by
 have z1q:∀ p,ordered (uc ops.toList []) p i=true->p<ops.size->listed.getD p true=true:=by
  intro p hp wO
  obtain⟨r,_,_,J⟩:=ZJ ops.toList []
  obtain⟨e,k1,k2,k3⟩:=J i ops[i] (qu) p (by simpa[ordered]using hp)
  have HJ:=ZV ops.toList 0 LV i ops[i] (qu) e k1 k2
  have HH:listed.getD e.on true=true:=by
   grind
  rcases k3 with rfl | ⟨_,k3⟩
  ·exact HH
  ·exact Y9 e.on (Z) HH p k3 wO
 refine⟨z1q,λq hq SG p hp wO => ?_⟩
 rw[cN (Z)]at SG ⊢
 split
 ·rfl
 ·split at SG
  ·grind
  ·exact Y9 q hq SG p hp wO
theorem DH{O:KS}{a:Act}{es:List Em}{f:F}{e:Em}{v:Value}(hR:Rel O n (eJ es f) a):Rel O n (eJ (e::es) f) (a.put (some e.d) v):=by
 refine⟨by simp[qW,hR.size],hR.defers,λu d hu => ?_⟩
 obtain⟨u1,u2⟩:=BQ hu
 have kB:e.d≠u:=u2 e zK
 have:eJ es f u=some d:=by rw[UF λg hg=>u2 g (zS _ hg)]; exact u1
 obtain⟨w,w1,w2⟩:=hR.get u d this
 exact⟨w,by simp[qW,zH kB]; exact w1,w2⟩
theorem VH{kd:Nat->Nat}{Q:Exit->Act->World->Prop}(hC:∀ g,E8 c.P g (c.fn g))(LV:iO ops.toList 0=true)
  (eI:∀ p i,p<i->i<ops.size->ordered (uc ops.toList []) p i=true\/z6g ops kd p i) (nI:∀ i,i<ops.size->kd i<=2)
  (Q6:∀ p j,p<ops.size->rT ops p->j<ops.size->ordered (uc ops.toList []) p j=true->∀ q,q<ops.size->rT ops q->ordered (uc ops.toList []) q j=true)
  {κ0:KS} {a0:Act} {sf:F×St}:∀ (fuel:Nat) (listed v8:Array Bool) (es:List Em) {O:KS} {a:Act} {s:F×St},
  listed.size=ops.size->v8.size=ops.size->fuel=(rest ops listed).length->V8 ops listed->(∀ j,j<ops.size->v8.getD j true=true->listed.getD j true=true) ->
  (∀ j,j<ops.size->listed.getD j true=true->v8.getD j true=false->∃ e∈es,e.i=j)->(∀ e∈es,e.i<ops.size/\listed.getD e.i true=true/\v8.getD e.i true=false)->es.Pairwise Dis ->
  (∃ q,q<ops.size/\rT ops q/\listed.getD q true=false)->Inv O->Rel O n (eJ es s.1) a->O.st=s.2->Ext κ0 O->(∀ e∈es,IY c ops κ0 O a e)->QA c n ops kd (rest ops v8) s sf->pY ops a0 a ->
  (∀ (a':Act) (E:KS),E.st=sf.2->Inv E->Ext κ0 E->Rel E n sf.1 a'->pY ops a0 a'->Q .normal a' E.w)->wpAny c.P .any ops Q fuel listed a O.w
 | 0,listed,v8,es,O,a,s,cp,hszA,hfuel,Y9,h1,X,h3,LS,⟨q,q1,q2,q3⟩,hI,hR,ud,U,hem,jV,hkp,hQ=>by
  have hre:rest ops listed=[]:=zW hfuel.symm
  have:q∈rest ops listed:=by simp only[rest,zX,W,zL]; exact⟨q1,q3⟩
  grind
 | fuel+1,listed,v8,es,O,a,s,cp,hszA,hfuel,Y9,h1,X,h3,LS,⟨q,q1,q2,q3⟩,hI,hR,ud,U,hem,jV,hkp,hQ=>by
  refine⟨λh => ?_,λi hi => ?_⟩
  ·have hre:=GQ LV cp h
   grind
  rw[Qp]at hi
  obtain⟨i1,i2,i3⟩:=hi
  obtain⟨z1q,SD⟩:=Lv LV cp Y9 i1 i3
  have LW:fuel=(rest ops (listed.setIfInBounds i true)).length:=by have:=z43 cp i1 i2; omega
  have hia:v8.getD i true=false:=by
   grind
  have z1F:∀ p,p<ops.size->rT ops p->ordered (uc ops.toList []) p i=true->False:=by
   grind
  have ov:∀ j,(listed.setIfInBounds i true).getD j true=if j=i then true else listed.getD j true:=λj=>cN (Z)
  by_cases KM:rT ops i
  ·-- a new variable is laid
   obtain⟨o,ho,hao⟩:=KM
   obtain⟨t,d,o1,o2,o3⟩:=SP hao
   have him:i∈rest ops v8:=by simp only[rest,zX,W,zL]; exact⟨i1,hia⟩
   obtain⟨t1,t2,hos⟩:=Ic jV him
   obtain⟨D,d1,d2,_⟩:=Yw ho o1 o2 o3 hos
   obtain⟨iz,z,z1,z2,z3⟩:=sS d1
   obtain⟨w1,w2,w3,w4⟩:=z6M hI (.cells z.cells t)
   let e:Em:=⟨i,d,O.w.heap.size,t,z,D⟩
   have zhG:(execOp a.eval o).run c.P O.w=.ok (.value (.pointer (some ⟨O.w.heap.size,0,none⟩))) (O.w.alloc (.cells z.cells t)):=by
    obtain⟨dst,op,ty,pos,after,guard⟩:=o
    cases o1
    simp[execOp,Instr.alloc,zeroValue,typeInfo,z1,z2,newVar,newRow]
   have zhR:qU o (yielded ops a.tmps)=true:=by unfold qU; rw[o2]
   unfold wpOp
   rw[ho]
   simp only
   rw[if_pos zhR]
   refine .inl ?_
   unfold Oper.wp
   rw[zhG]
   show wpAny c.P Region.Mode.any ops Q fuel (listed.setIfInBounds i true) (a.put o.dst (Value.pointer (some { block:=O.w.heap.size,off:=0 }))) (O.w.alloc (Obj.cells z.cells t))
   rw[o3]
   have kB:∀ f∈es,f.d≠d:=by
    intro f hf hfd
    obtain⟨f1,f2,f3⟩:=h3 f hf
    obtain⟨fo,fo1,fo2,fo3,fo4⟩:=(hem f hf).op
    have Fp:f.i≠i:=λh=>by rw[h,i2]at f2; cases f2
    rcases Nat.lt_or_gt_of_ne Fp with wO | wO
    ·rcases eI f.i i wO i1 with h | h
     ·exact z1F f.i f1 ⟨fo,fo1,Dh fo2 fo3 fo4⟩ h
     ·exact(h fo o fo1 ho).1 f.d fo4 (hfd▸eA o3)
    ·rcases eI i f.i wO f1 with h | h
     ·have:=Y9 f.i f1 f2 i h i1; rw[i2]at this; cases this
     ·exact(h o fo ho fo1).1 d o3 (hfd▸eA fo4)
   have zoC:IY c ops κ0 { O with w:=O.w.alloc (.cells z.cells t) } (a.put (some d) (.pointer (some ⟨O.w.heap.size,0,none⟩))) e :=
    ⟨⟨o,ho,o1,o2,o3⟩,d1,⟨iz,z1,z2,z3⟩,by simp[e,qW,hR.size,d2],w4,w3,U.size⟩
   have zh8:∀ f∈e::es,IY c ops κ0 { O with w:=O.w.alloc (.cells z.cells t) } (a.put (some d) (.pointer (some ⟨O.w.heap.size,0,none⟩))) f:=by
    intro f hf
    rcases qA.1 hf with rfl | hf
    ·exact zoC
    ·exact(hem f hf).mono w2 (by simp[qW,zH (λe'=>kB f hf e'.symm)])
   have hR':Rel { O with w:=O.w.alloc (.cells z.cells t) } n (eJ (e::es) s.1) (a.put (some d) (.pointer (some ⟨O.w.heap.size,0,none⟩))):=DH (e:=e) (hR.mono w2)
   have hdE:∀ f∈es,Dis e f:=by
    intro f hf
    unfold Dis
    refine⟨λh => ?_,λh => ?_,λh=>kB f hf h.symm⟩
    ·have hf2:=(h3 f hf).2.1
     rw[<- h]at hf2
     have i2':listed.getD e.i true=false:=i2
     rw[i2']at hf2
     cases hf2
    ·have B:=(hem f hf).nob.lt
     rw[<- h]at B
     exact Nat.lt_irrefl _ B
   have NP:(e::es).Pairwise Dis:=qE.2 ⟨hdE,LS⟩
   have zhi:pY ops a0 (a.put (some d) (.pointer (some ⟨O.w.heap.size,0,none⟩))):=hkp.trans (by have:=Xu (a:=a) (v:=.pointer (some ⟨O.w.heap.size,0,none⟩)) ho; rw[o3]at this; exact this)
   have Hk:∀ j,j<ops.size->v8.getD j true=true->(listed.setIfInBounds i true).getD j true=true:=λj hj ha=>by
    rw[ov]; split
    ·rfl
    ·exact h1 j hj ha
   have h2':∀ j,j<ops.size->(listed.setIfInBounds i true).getD j true=true->v8.getD j true=false->∃ f∈e::es,f.i=j:=λj hj J ha=>by
    rw[ov]at J
    split at J
    ·rename_i h; exact⟨e,zK,h.symm⟩
    ·obtain⟨f,hf,Fp⟩:=X j hj J ha; exact⟨f,zS _ hf,Fp⟩
   have h3':∀ f∈e::es,f.i<ops.size/\(listed.setIfInBounds i true).getD f.i true=true/\v8.getD f.i true=false:=λf hf=>by
    rcases qA.1 hf with rfl | hf
    ·exact⟨i1,by rw[ov]; exact if_pos rfl,hia⟩
    ·obtain⟨f1,f2,f3⟩:=h3 f hf
     exact⟨f1,by rw[ov]; split<;>first | rfl | exact f2,f3⟩
   by_cases hmore:∃ q,q<ops.size/\rT ops q/\(listed.setIfInBounds i true).getD q true=false
   ·exact VH hC LV eI nI Q6 fuel (listed.setIfInBounds i true) v8 (e::es) (O:={ O with w:=O.w.alloc (.cells z.cells t) }) (by simp[cp]) hszA LW SD Hk h2' h3' NP hmore w1 hR' ud (U.trans w2) zh8 jV zhi hQ
   ·-- all are laid
    have zaG:∀ q,q<ops.size->rT ops q->(listed.setIfInBounds i true).getD q true=true:=λq q1 q2=>by
     cases J:(listed.setIfInBounds i true).getD q true with
     | true=>rfl
     | false=>exact(hmore ⟨q,q1,q2,J⟩).elim
    obtain⟨E,s',f1,f2,f3,f4,f5,f6⟩:=flush (c:=c) (n:=n) eI nI SD zaG (e::es).length (e::es) v8 { O with w:=O.w.alloc (.cells z.cells t) } s rfl hszA Hk h2' h3' NP w1 hR' ud (U.trans w2) zh8 jV
    have hgo:=GD (O:=E) hC LV fuel (listed.setIfInBounds i true) (Q:=Q) (λp j hpj hj hp=>(eI p j hpj hj).elim .inl λh=>.inr (Db h (nI p (Z)) (nI j hj) λhh=>by
     rw[zaG p (Z) hh.1]at hp; cases hp)) (by simp[cp]) LW SD f3 f5 f2 f6 λa' TQ e1 e2 e3 e4 e5=>hQ a' TQ e1 e2 (f4.trans e3) e4 (zhi.trans e5)
    rw[f1]at hgo
    exact hgo
  ·-- another operation
   have zaU:∀ o,ops[i]? = some o->∀ e∈es,e.d ∉ tmpsOf ops o:=by
    intro o ho f hf
    obtain⟨f1,f2,f3⟩:=h3 f hf
    obtain⟨fo,fo1,fo2,fo3,fo4⟩:=(hem f hf).op
    have Fp:f.i≠i:=λh=>by rw[h,i2]at f2; cases f2
    rcases Nat.lt_or_gt_of_ne Fp with wO | wO
    ·rcases eI f.i i wO i1 with h | h
     ·exact(z1F f.i f1 ⟨fo,fo1,Dh fo2 fo3 fo4⟩ h).elim
     ·exact(h fo o fo1 ho).1 f.d fo4
    ·rcases eI i f.i wO f1 with h | h
     ·have:=Y9 f.i f1 f2 i h i1; rw[i2]at this; cases this
     ·exact(h o fo ho fo1).2.1 f.d fo4
   obtain⟨pre,post,g1,g2,g3⟩:=iW (p:=λi => !v8.getD i true) (q:=λj => !(v8.setIfInBounds i true).getD j true) (i:=i) (qF ops.size) zN
    (W.2 i1) (by simp[hia]) (λj=>by
     rw[cN (Z)]
     by_cases h:j=i
     ·subst h; simp
     ·simp[h])
   have z1B:∀ p∈pre,Ind ops kd p i:=by
    intro p hp
    obtain⟨r1,r2,r3⟩:=g3 p hp
    have r2:=W.1 r2
    have r1:v8.getD p true=false:=by simpa using r1
    rcases eI p i r3 i1 with h | h
    ·obtain⟨f,hf,Fp⟩:=X p r2 (z1q p h r2) r1
     obtain⟨fo,fo1,fo2,fo3,fo4⟩:=(hem f hf).op
     exact(z1F p r2 ⟨fo,by rw[<- Fp]; exact fo1,Dh fo2 fo3 fo4⟩ h).elim
    ·exact Db h (nI p r2) (nI i i1) λhh=>KM hh.2
   have Fw:QA c n ops kd (pre++i::post) s sf:=by
    have:rest ops v8=pre++i::post:=g1
    rw[<- this]; exact jV
   obtain⟨s1,k1,k2⟩:=H6 z1B Fw
   refine Tm (s:=(eJ es s.1,s.2)) (s':=(eJ es s1.1,s1.2)) hC hI hR ud (Mz k1 zaU) λa1 κ1 e1 e2 e3 e4 e5 e6 => ?_
   have z1K:∀ j,(v8.setIfInBounds i true).getD j true=if j=i then true else v8.getD j true:=λj=>cN (Z)
   refine VH hC LV eI nI Q6 fuel (listed.setIfInBounds i true) (v8.setIfInBounds i true) es (O:=κ1) (s:=s1) (by simp[cp]) (by simp[hszA]) LW SD (λj hj ha => ?_) (λj hj J ha => ?_) (λf hf => ?_) LS
    ⟨q,q1,q2,?_⟩ e2 e4 e1 (U.trans e3) (λf hf=>(hem f hf).mono e3 (e6 f.d λo ho hod=>zaU o ho f hf (eA hod))) ?_ (hkp.trans e5) hQ
   ·rw[z1K]at ha; rw[ov]
    split
    ·rfl
    ·rename_i h; rw[if_neg h]at ha; exact h1 j hj ha
   ·rw[z1K]at ha; rw[ov]at J
    split at ha
    ·cases ha
    ·rename_i h; rw[if_neg h]at J; exact X j hj J ha
   ·obtain⟨f1,f2,f3⟩:=h3 f hf
    have Fp:f.i≠i:=λh=>by rw[h,i2]at f2; cases f2
    exact⟨f1,by rw[ov,if_neg Fp]; exact f2,by rw[z1K,if_neg Fp]; exact f3⟩
   ·have hqi:q≠i:=λh=>KM (by rw[<- h]; exact q2)
    rw[ov,if_neg hqi]; exact q3
   ·have:rest ops (v8.setIfInBounds i true)=pre++post:=g2
    rw[this]; exact k2
theorem Vo{kd:Nat->Nat}:∀ {l:List Oper} {ks:List Nat} {i j:Nat} {o:Oper},l[i]? = some o->ks[i]? = some (kd j)->(G9 l ks)[i]? = some (kd3 kd o j)
 | [],_,i,_,_,h,_=>by simp at h
 | _::_,[],i,_,_,_,h=>by simp at h
 | x::l,k::ks,0,j,o,h1,X=>by simp at h1 X; subst h1; subst X; rfl
 | x::l,k::ks,i+1,j,o,h1,X=>by
  have:=Vo (kd:=kd) (l:=l) (ks:=ks) (i:=i) (j:=j) (o:=o) (wa) (wa)
  simpa[G9]using this
theorem Bc:∀ {l:List Oper} {k i:Nat} {o:Oper},l[i]? = some o->KR o=true->k+i∈Yv l k
 | [],_,_,_,h,_=>by simp at h
 | x::l,k,0,o,h1,X=>by simp at h1; subst h1; simp[Yv,X]
 | x::l,k,i+1,o,h1,X=>by
  have:=Bc (l:=l) (k:=k+1) (i:=i) (o:=o) (wa) X
  simp only[Yv]
  grind
theorem Kw{kd:Nat->RK}:∀ (l:List Nat) (s s':F×St) (ks:List RK),Np c n ops l s s' ks->ks=l.map kd->Ys (λi s s'=>o6 c n ops i s s' (kd i)) l s s'
 | [],s,s',ks,h,_=>h.1
 | i::l,s,s',ks,⟨s1,k,M9,e,h1,X⟩,hk=>by
  subst e
  simp at hk
  obtain⟨rfl,hk⟩:=hk
  exact⟨s1,h1,Kw l s1 s' M9 X hk⟩
theorem TA{O:KS}{a:Act}{id:Nat}{draw:Bool}{fr:Fr}{kn:Kn}{s':oX}(hm:c.P.follows .mixedOrders=true)(hC:∀ g,E8 c.P g (c.fn g))(hI:Inv O)(hR:Rel O n fr.get a)(hk:yV kn fr.get)
  (h:(pW c n ops draw fr kn O.st).leads s') {Q:Exit->Act->World->Prop} (hQ:∀ (a':Act) (E:KS),E.st=s'.st->Inv E->Ext O E->Rel E n s'.fr.get a'->pY ops a a'->Q .normal a' E.w) :
  (Code.region id ops draw).wp c.P Q a O.w/\yV s'.kn s'.fr.get:=by
 simp only[pW,T.xg]at h
 obtain⟨s1,h1,X⟩:=h
 obtain⟨ks,g1,g2,g3⟩:=sx ops.toList 0 ⟨fr,kn,O.st,[],[]⟩ s1 (λj=>.inl (qu)) hk h1
 simp only[List.append_nil]at g3
 have B:ops.toList.length=ops.size:=qu
 rw[B,<- xC]at g1
 cases V:(!draw||Vi ops s1.ks.reverse s1.bk.reverse)with
 | false=>rw[V]at X; exact X.elim
 | true =>
  rw[V,cond_true]at X
  cases X
  refine⟨?_,g2⟩
  cases draw with
  | false=>exact wp_region (Ra hC _ hI hR rfl g1 hQ)
  | true =>
   simp only[Bool.not_true,Bool.false_or,Vi,Bool.or_eq_true]at V
   obtain⟨rks,r1,r3⟩:=Kx (ops:=ops) ops.toList 0 ⟨fr,kn,O.st,[],[]⟩ _ (λj=>.inl (qu)) hk h1
   simp only[List.append_nil]at r3
   rw[B,<- xC]at r1
   let kd:Nat->Nat:=λi=>ks.getD i 0
   have hkl:ks.length=ops.size:=by rw[Ib _ _ _ _ g1]; simp
   have hks:ks=(qF ops.size).map kd:=by
    apply List.ext_getElem?
    intro i
    grind
   have jV:=GF (kd:=kd) _ _ _ _ g1 hks
   refine wp_region_any hm ?_
   let κd:KS:={ O with w:=O.w.drew }
   have U:Ext O κd:=⟨rfl,rfl,rfl,qG _,λk hk=>⟨hk,rfl⟩,λk hk=>.inl hk,λ_ _ _ h=>.inl h,λb d h=>⟨⟨d,h⟩,rfl⟩,
    λb v0 e xs h=>.inr ⟨v0,xs,h,qG _,λ_=>⟨rfl,rfl⟩⟩,λ_ h=>h,qG _,λk _ _=>rfl⟩
   have hId:Inv κd:=⟨hI.len,hI.cq,hI.apart,hI.inj,λb y hy=>(hI.blk b y hy).mono U rfl λ_ _ _=>rfl,hI.gl.mono U.same⟩
   have Xq:rest ops (qB ops.size false)=qF ops.size:=by
    unfold rest
    rw[List.filter_eq_self]
    intro i hi
    have:=W.1 hi
    simp[zY,this]
   have Bw:∀ j,j<ops.size->(qB ops.size false).getD j true=false:=λj hj=>by simp[zY,hj]
   have z6V:V8 ops (qB ops.size false):=λq hq SG=>by rw[Bw q hq]at SG; cases SG
   have Fu:∀ i,i<ops.size->ks[i]? = some (kd i):=λi hi=>by simp[kd,xF,zT (show i<ks.length by omega)]
   have Kf:∀ i (hi:i<ops.size),ops.toList[i]? = some ops[i]:=λi hi=>qu
   rcases V with(V | V) | V
   ·simp only[NF,zF]at V
    obtain⟨d1,d2⟩:=V
    rw[g3,qM]at d2
    have eI:∀ p i,p<i->i<ops.size->ordered (uc ops.toList []) p i=true\/Ind ops kd p i:=by
     intro p i Ed hi
     have hp:=Ql ops.toList ks 0 [] d2 i ops[i] (kd i) (Kf i hi) (Fu i hi)
     have:=hp.2 p ops[p] (kd p) Ed (Kf p (Z)) (Fu p (Z))
     simp only[qO]at this
     refine so this (λh=>h) λhap x y U hy => ?_
     rw[zP (Z)]at U hy
     cases U
     cases hy
     exact hap
    exact GD (O:=κd) hC d1 ops.size _ (λp i h1 X _=>eI p i h1 X) (qu) (by rw[Xq]; simp) z6V hId (hR.mono U) rfl (by rw[Xq]; exact jV) λa' E e1 e2 e3 e4 e5=>hQ a' E e1 e2 (U.trans e3) e4 e5
   ·simp only[NG,zF]at V
    obtain⟨⟨⟨d1,d0⟩,d2⟩,d3⟩:=V
    rw[g3,qM]at d0 d2
    have nI:∀ i,i<ops.size->kd i<=2:=λi hi=>I (zJ.1 d0 _ (xB (Fu i hi)))
    have eI:∀ p i,p<i->i<ops.size->ordered (uc ops.toList []) p i=true\/z6g ops kd p i:=by
     intro p i Ed hi
     have hp:=Ql ops.toList (G9 ops.toList ks) 0 [] d2 i ops[i] (kd3 kd ops[i] i) (Kf i hi) (Vo (Kf i hi) (Fu i hi))
     have:=hp.2 p ops[p] (kd3 kd ops[p] p) Ed (Kf p (Z)) (Vo (Kf p (Z)) (Fu p (Z)))
     simp only[qO]at this
     refine so this (λh=>h) λhap x y U hy => ?_
     rw[zP (Z)]at U hy
     cases U
     cases hy
     exact hap
    have Q6:∀ p j,p<ops.size->rT ops p->j<ops.size->ordered (uc ops.toList []) p j=true->∀ q,q<ops.size->rT ops q->ordered (uc ops.toList []) q j=true:=by
     intro p j hp hap hj ho q hq haq
     unfold Es at d3
     have:=zJ.1 d3 j (W.2 (by simpa using hj))
     simp only[Bool.or_eq_true,zL,qQ,zJ]at this
     have hm:∀ r,rT ops r->r∈Yv ops.toList 0:=λr ⟨o,h1,X⟩=>by
      have:=Bc (l:=ops.toList) (k:=0) (i:=r) (o:=o) (by rw[qI]; exact h1) X
      rwa [qO]at this
     rcases this with h | h
     ·have:=h p (hm p hap); rw[ho]at this; exact absurd rfl this
     ·exact h q (hm q haq)
    by_cases hex:∃ q,q<ops.size/\rT ops q
    ·obtain⟨q,q1,q2⟩:=hex
     exact VH (κ0:=κd) (O:=κd) (a0:=a) hC d1 eI nI Q6 ops.size _ (qB ops.size false) [] (qu) (qu) (by rw[Xq]; simp) z6V (λj hj h=>by rw[Bw j hj]at h; cases h)
      (λj hj h _=>by rw[Bw j hj]at h; cases h) (λe he=>by cases he) .nil ⟨q,q1,q2,Bw q q1⟩ hId (hR.mono U) rfl (Ext.refl _) (λe he=>by cases he) (by rw[Xq]; exact jV) (pY.refl _ _)
      λa' E e1 e2 e3 e4 e5=>hQ a' E e1 e2 (U.trans e3) e4 e5
    ·exact GD (O:=κd) hC d1 ops.size _ (λp i h1 X _=>(eI p i h1 X).elim .inl λh=>.inr (Db h (nI p (Z)) (nI i X) λhh=>hex ⟨p,Z,hh.1⟩)) (qu) (by rw[Xq]; simp) z6V hId (hR.mono U) rfl (by rw[Xq]; exact jV) λa' E e1 e2 e3 e4 e5=>hQ a' E e1 e2 (U.trans e3) e4 e5
   ·simp only[NH,zF]at V
    obtain⟨d1,d2⟩:=V
    rw[r3,qM]at d2
    let kr:Nat->RK:=λi=>rks.getD i (.z 0)
    have hrl:rks.length=ops.size:=by rw[BW _ _ _ _ r1]; simp
    have zp0:rks=(qF ops.size).map kr:=by
     apply List.ext_getElem?
     intro i
     by_cases hi:i<ops.size
     ·simp[kr,hi,xF,zT (show i<rks.length by omega)]
     ·rw[qJ (Z),qJ (by simp; omega)]
    have zaY:∀ i,i<ops.size->rks[i]? = some (kr i):=λi hi=>by simp[kr,xF,zT (show i<rks.length by omega)]
    have zhH:=Kw (kd:=kr) _ _ _ _ r1 zp0
    have eI:∀ p i,p<i->i<ops.size->ordered (uc ops.toList []) p i=true\/zbP ops kr p i:=by
     intro p i Ed hi
     have hp:=Ql ops.toList rks 0 [] d2 i ops[i] (kr i) (Kf i hi) (zaY i hi)
     have:=hp.2 p ops[p] (kr p) Ed (Kf p (Z)) (zaY p (Z))
     simp only[qO]at this
     refine so this (λh=>h) λhap x y U hy => ?_
     rw[zP (Z)]at U hy
     cases U
     cases hy
     exact hap
    exact JS (O:=κd) (Stp:=λi s s'=>o6 c n ops i s s' (kr i)) (In:=λp i=>zbP ops kr p i) (λi s s' h=>h.plain) (λp i hi s s1 s2 h1 X=>MW hi h1 X) hC d1 ops.size _ (λp i h1 X _=>eI p i h1 X) (qu) (by rw[Xq]; simp) z6V hId (hR.mono U) rfl (by rw[Xq]; exact zhH) λa' E e1 e2 e3 e4 e5=>hQ a' E e1 e2 (U.trans e3) e4 e5
end
end Go.AM
namespace Go.AM
set_option linter.unusedSectionVars false
variable [gB] [B8]
def Ej(O:KS):Ex->Exit->Prop
 | .normal,e=>e=.normal
 | .exit id,e=>e=.exit id
 | .ret,e=>e=.ret
 | .bE d,e=>∃ v,e=.panic [{ v,recovered:=false }]/\RD O d v
section
variable {c:Ctx} {n:Nat}
def uh:Code->List (Nat×Code)
 | .seq a b=>uh a++uh b
 | .cond _ a b=>uh a++uh b
 | .block id (.loop b)=>[(id,b)]
 | .block _ a=>uh a
 | _=>[]
theorem Tz{ops:Array Oper}{draw:Bool}{fr:Fr}{kn:Kn}{st:St}{s':oX}(hk:yV kn fr.get)(h:(pW c n ops draw fr kn st).leads s'):yV s'.kn s'.fr.get:=by
 simp only[pW,T.xg]at h
 obtain⟨s1,h1,X⟩:=h
 obtain⟨ks,g1,g2,g3⟩:=sx ops.toList 0 ⟨fr,kn,st,[],[]⟩ s1 (λj=>.inl (qu)) hk h1
 cases V:(!draw||Vi ops s1.ks.reverse s1.bk.reverse)with
 | false=>rw[V]at X; exact X.elim
 | true=>rw[V,cond_true]at X; cases X; exact g2
theorem nK(f:F):yV [] f:=by nofun
theorem FE{id:Nat}{b:Code}(J:∀ b',b≠.loop b'):uh (.block id b)=uh b:=by
 cases b<;>first | rfl | exact absurd rfl (J _)
end
end Go.AM
namespace Go.AM
set_option linter.unusedSectionVars false
variable [gB] [B8]
section
variable {c:Ctx} {n:Nat}
theorem Be:∀ (ds:List D) (i s:Nat),(yK ds i).get s=if i<=s then ds[s-i]? else none
 | [],i,s=>by simp[yK,Fr.get]
 | d::r,i,s=>by
  simp only[yK,Fr.get]
  by_cases h:i=s
  ·subst h; simp
  ·rw[Qh h,cond_false,Be r (i+1) s]
   grind
theorem Y0{O:KS}{args:List D}{xa:List Value}(h:wQ O args xa)(hn:args.length<=n) :
  Rel O n (yK args 0).get { tmps:=xa.toArray++qB (n-xa.toArray.size) undef,defers:=B8.df }:=by
 have B:=h.1
 refine⟨wa,rfl,λs d V => ?_⟩
 rw[Be]at V
 obtain⟨v,h1,X⟩:=h.get V
 grind
theorem VM{O:KS}{fr:Fr}{a:Act}(hI:Inv O)(hR:Rel O n fr.get a):∀ (rvs:List ResultVar) (ds:List D),(nU c fr O.st rvs).leads ds ->
  ∃ vs:List Value,Sem.run c.P (rvs.mapM λr=>match r with | ResultVar.tmp t=>(xG (a.tmps.getD t undef):Sem Value) | ResultVar.cell p t=>do loadVar t (<- asAddr (a.tmps.getD p undef))) O.w=Result.ok vs O.w/\wQ O ds vs
 | [],ds,h=>by cases h; exact⟨[],qu,.nil⟩
 | .tmp t::r,ds,h=>by
  simp only[nU]at h
  split at h
  ·rename_i d V
   simp only[T.xg]at h
   obtain⟨l,B,rfl⟩:=h
   obtain⟨v,h1,X⟩:=hR.get t d V
   obtain⟨vs,h3,h4⟩:=VM hI hR r l B
   refine⟨v::vs,?_,.cons X h4⟩
   simp only[List.mapM_cons,qZ,xD,qT,h3]
   simp[h1]
  ·exact h.elim
 | .cell p t::r,ds,h=>by
  simp only[nU]at h
  split at h
  ·rename_i b off V
   split at h
   ·rename_i d J
    cases KO:d.G2 with
    | true=>rw[KO]at h; exact h.elim
    | false =>
    rw[KO,cond_false]at h
    split at h
    ·rename_i x U
     simp only[T.xg]at h
     obtain⟨l,B,rfl⟩:=h
     obtain⟨v,h1,X⟩:=hR.get p _ V
     obtain⟨vs,h3,h4⟩:=VM hI hR r l B
     cases X with
     | ptr _ _ blk m d1 hd1 hp =>
      obtain⟨r7,n',cs,T,g1,g2,g3,g4,g5⟩:=(hI.blk b _ J:yf O b d).cells KO
      rw[hp]at g1
      cases g1
      obtain⟨u,e1,e2⟩:=Gk (c:=c) (blk:=blk) 0 U g4 g5.1 (λj v hj=>by rw[Wn g2]; simpa using hj)
      rw[qO]at e1
      refine⟨u::vs,?_,.cons e2 h4⟩
      have hA:(asAddr (a.tmps.getD p undef)).run c.P O.w=.ok ⟨blk,off,none⟩ O.w:=by simp[h1,asAddr]
      simp only[List.mapM_cons,qZ,hA,qT,e1,h3,xD]
    ·exact h.elim
   ·exact h.elim
  ·exact h.elim
def z3P:List Value->Value
 | [v]=>v
 | vs=>.tuple vs.toArray
theorem J6{O:KS}{fr:Fr}{a:Act}{fn:Func}{ds:List D}(hI:Inv O)(hR:Rel O n fr.get a)(h:(nU c fr O.st fn.results.toList).leads ds) :
  ∃ vs:List Value,(results fn a.tmps).run c.P O.w=.ok (z3P vs) O.w/\wQ O ds vs:=by
 obtain⟨vs,h1,X⟩:=VM hI hR _ _ h
 simp only[results,Array.mapM_eq_mapM_toList,qZ,Sem.run_map]
 have key:∀ r:Result (List Value),r=.ok vs O.w->((r.andThen λa w'=>.ok a.toArray w').andThen λa w'=>(xG (if h:a.size=1 then a[0]else .tuple a):Sem Value).run c.P w')=.ok (z3P vs) O.w:=by
  rintro _ rfl
  match vs with
  | []=>rfl
  | [v]=>rfl
  | _::_::_=>rfl
 grind
theorem GK{O:KS}{ds:List D}{vs:List Value}(h:wQ O ds vs):RD O (ft ds) (z3P vs):=by
 match ds,vs,h with
 | [],vs,h=>rw[h.wh]; exact .eZ [] [] rfl (λi h=>absurd h (qN i))
 | [d],vs,h =>
  obtain⟨v,r,rfl,h1,X⟩:=h.cons_inv
  rw[X.wh]
  exact h1
 | d::e::r,vs,h =>
  obtain⟨v,us,rfl,h1,X⟩:=h.cons_inv
  obtain⟨u,ws,rfl,h3,h4⟩:=X.cons_inv
  exact .eZ _ _ h.1 h.2
def KS.cut(O:KS)(m:Nat):KS:={ O with ph:=O.ph.take m,st:=O.st.take m }
theorem xy{α:Type}{l:List α}{m i:Nat}{a:α}(h:l[i]? = some a)(hi:i<m):(l.take m)[i]? = some a:=wa
theorem lP{α:Type}{l:List α}{m i:Nat}{a:α}(h:(l.take m)[i]? = some a):l[i]? = some a/\i<m:=wa
theorem nn{O:KS}{m:Nat}{d:D}{v:Value}(h:RD O d v)(V:yv m d=true):RD (O.cut m) d v:=by
 cases h with
 | qi τ y cs h=>exact .qi τ y cs h
 | sT e l b v h ht hf=>exact .sT e l b v h ht hf
 | vD e a=>exact .vD e a
 | tight e l ne blk off f kB j9 h hc=>exact .tight e l ne blk off f kB j9 h hc
 | wH=>exact .wH
 | br=>exact .br
 | vb=>exact .vb
 | gF=>exact .gF
 | uX=>exact .uX
 | V6 v h=>exact .V6 v h
 | nw T=>exact .nw T
 | gj b blk n d J h=>exact .gj b blk n d (xy J (I V)) (xy h (I V))
 | nS b T d J=>exact .nS b T d (xy J (I V))
 | nT b T blk n d J h=>exact .nT b T blk n d (xy J (I V)) (xy h (I V))
 | ptr b off blk n d J h=>exact .ptr b off blk n d (xy J (I V)) (xy h (I V))
 | vE τ y cs blk off j9 h hc=>exact .vE τ y cs blk off j9 h hc
 | gW b vk e idx off blk o J h =>
  have wO:b<m:=I V
  refine .gW b vk e idx off blk o (so J (λh=>xy h wO) ?_) λxs U hi => ?_
  ·rintro⟨v0,e0,x0,h1,X⟩; exact⟨v0,e0,x0,xy h1 wO,X⟩
  ·obtain⟨n,h1,X⟩:=h xs (lP U).1 hi
   exact⟨n,xy h1 wO,X⟩
 | ms b vk e off len cap a J jq ha WO h =>
  have wO:b<m:=I V
  refine .ms b vk e off len cap a (so J (λh=>xy h wO) ?_) jq ha WO λxs U => ?_
  ·rintro⟨v0,e0,x0,h1,X⟩; exact⟨v0,e0,x0,xy h1 wO,X⟩
  ·obtain⟨h1,X⟩:=h xs (lP U).1
   refine⟨h1,so X ?_ ?_⟩
   ·rintro⟨g1,g2,g3,g4⟩; exact⟨g1,g2,g3,xy g4 wO⟩
   ·rintro⟨blk,n,o,U8,g1,g2⟩; exact⟨blk,n,o,U8,xy g1 wO,g2⟩
 | wj=>cases V
 | agg=>cases V
 | eZ=>cases V
 | iface=>cases V
theorem MH{O:KS}{m:Nat}{d:D}{v:Value}(h:RD O d v)(V:iD m d=true):RD (O.cut m) d v:=by
 cases d with
 | wj f l =>
  cases h with
  | wj _ _ vs B hh =>
   simp only[iD,zJ]at V
   exact .wj f l vs B λi h1 X=>nn (hh i h1 X) (V _ (qV h1))
 | agg l =>
  cases h with
  | agg _ vs B ho hh =>
   simp only[iD,zJ]at V
   exact .agg l vs B ho λi h1 X=>nn (hh i h1 X) (V _ (qV h1))
 | eZ l=>cases V
 | iface t d =>
  cases h with
  | iface _ _ v h=>exact .iface t _ v (nn h V)
 | _=>exact nn h V
theorem Rj{O:KS}{m:Nat}{l:List D}{vs:List Value}(h:wQ O l vs)(V:∀ d∈l,iD m d=true):wQ (O.cut m) l vs:=⟨h.1,λi h1 X=>MH (h.2 i h1 X) (V _ (qV h1))⟩
theorem CK{m:Nat}{d:D}(h:iD m d=true):∀ x∈wb d,iD m x=true:=by
 have Ke:∀ (τ:Ty) (x:den τ),∀ y∈flat τ x,iD m y=true:=by
  intro τ x y hy
  have:∃ σ z,y=.qi σ z:=by
   induction τ with
   | cons a b ia ib =>
    simp only[flat]at hy
    grind
   | nil=>simp[flat]at hy
   | expr=>simp[flat]at hy; rcases hy with rfl | rfl | rfl | rfl | rfl | rfl<;>exact⟨_,_,rfl⟩
   | _=>simp[flat]at hy; subst hy; exact⟨_,_,rfl⟩
  obtain⟨σ,z,rfl⟩:=this
  rfl
 cases d with
 | qi τ x=>exact Ke τ x
 | agg l =>
  intro x U
  simp only[iD,zJ]at h
  have:=h x U
  cases x<;>first | exact this | cases this
 | eZ l=>cases h
 | BU l=>intro x U; cases U
 | _=>intro x U; simp[wb]at U; subst U; exact h
theorem z6t{O:KS}{m:Nat}(hI:Inv O)(hc:∀ x∈O.st.take m,CJ m x=true):Inv (O.cut m):=by
 refine⟨by simp[KS.cut,hI.len],hI.cq,λb blk n h=>hI.apart b blk n (lP h).1,λb b' blk n n' h h'=>hI.inj b b' blk n n' (lP h).1 (lP h').1,λb x h => ?_,hI.gl⟩
 obtain⟨h1,X⟩:=lP h
 have J:=hI.blk b x h1
 have hcx:=hc x (xB h)
 cases x with
 | dead=>trivial
 | var d =>
  refine yf.elim J (λhm ⟨blk,n,cs,t,g1,g2,g3,g4,g5⟩=>.mk hm ⟨blk,n,cs,t,xy g1 X,g2,g3,Rj g4 (CK hcx),g5⟩) λl e ⟨blk,o,g1,g2⟩ => ?_
  subst e
  exact⟨blk,o,xy g1 X,g2⟩
 | arr vk e xs =>
  obtain⟨h0,J⟩:=J
  refine⟨h0,so J (λh=>⟨h.1,xy h.2 X⟩) ?_⟩
  rintro⟨blk,n,cs,t,g1,g2⟩
  exact⟨blk,n,cs,t,xy g1 X,g2⟩
end
end Go.AM
namespace Go.AM
set_option linter.unusedSectionVars false
variable [gB]
section
variable {c:Ctx}
theorem uW{P:Program}{f:Nat}{fn:Func}{args:Array Value}(hf:P.funcs[f]? = some fn) (hn:(fn.name == "runtime.NumGoroutine")=false) (J:fn.body.isNone=false) (w:World) :
  (callFunc f args).run P w=.ok (.enter f args) w:=by
 simp only[callFunc,qZ,run_program,qT,hf,hn,J,Bool.false_eq_true,if_false,xD]
theorem Tt{O κe:KS}(hI:Inv O)(ud:O.st=[])(hIe:Inv κe)(U:Ext O κe):Inv (κe.bare (okS κe))/\Ext O (κe.bare (okS κe)):=by
 have wO:∀ k,okS κe k->k<κe.w.heap.size:=by
  rintro k (hk | ⟨b,n,hk⟩)
  ·exact hIe.cq k hk
  ·exact(hIe.apart b k n hk).1
 refine⟨YA hIe (λ_ h=>.inl h) wO,U.os,U.tape,U.output,U.size,λk hk=>⟨.inl (U.same k hk).1,(U.same k hk).2⟩,?_,λb blk n h=>by simp[KS.bare]at h,λb d h=>wa,
  λb v0 e xs h=>wa,λb h=>wa,wa,U.frame⟩
 rintro k (hk | ⟨b,n,hk⟩)
 ·exact U.fresh k hk
 ·rcases U.phs b k n hk with h | h
  ·grind
  ·grind
end
end Go.AM
namespace Go.AM
set_option linter.unusedSectionVars false
variable [gB] [B8]
open Go.RowKit
def z6F(s:Nat)(fr:Fr)(st:St):T (Fr×St):=match fr.get s with
 | some (.ms b vk e off len)=>match st[b]? with
  | some (.arr dZ e' xs)=>match(jY (a:=.sl e') (b:=.sl e) xs:Option (List (den e)))with
   | some ys=>.zl (vk=dZ) (.ret ((s,some (.qi (.sl e) ((ys.take (off+len)).drop off)))::fr,st.set b .dead))
   | none=>.fail
  | _=>.fail
 | _=>.ret (fr,st)
def z6H(j i:Nat)(fr:Fr)(st:St):T (Fr×St):=match st[j]? with
 | some (.var (.agg ds))=>match ds[i]? with
  | some (.ms b vk e off len)=>match st[b]? with
   | some (.arr dZ e' xs)=>match(jY (a:=.sl e') (b:=.sl e) xs:Option (List (den e)))with
    | some ys=>.zl (vk=dZ) (.ret (fr,(st.set b .dead).set j (.var (.agg (ds.set i (.qi (.sl e) ((ys.take (off+len)).drop off)))))))
    | none=>.fail
   | _=>.fail
  | _=>.ret (fr,st)
 | _=>.ret (fr,st)
def z6J(s:Nat)(fr:Fr)(st:St):T (Fr×St):=bif Nat.ble 1000000 s then z6H ((s-1000000) / 1000) ((s-1000000) % 1000) fr st else z6F s fr st
def frz:List Nat->Fr->St->T (Fr×St)
 | [],fr,st=>.ret (fr,st)
 | s::r,fr,st=>(z6J s fr st).bind λx=>frz r x.1 x.2
section
variable {c:Ctx} {O:KS} {n:Nat}
theorem zin{b vk off len:Nat}{e:Ty}{xs:List (den e)}{v:Value}(hI:Inv O)(h:RD O (.ms b vk e off len) v)(J:O.st[b]? = some (.arr vk e xs)){Kt:Nat->Prop}(h1:∀ k,O.ok k->Kt k)(X:∀ k n,O.ph[b]? = some (some (k,n))->Kt k) :
  Rc O.w Kt (.sl e) ((xs.take (off+len)).drop off) [v]:=by
 obtain⟨D7,_⟩:=MS hI h J
 obtain⟨a,cap,f,hve,jq,hn,g1,g2⟩:=D7.ex
 have z1r:∀ blk o:Nat,v=.slice (some ⟨blk,o,none⟩) ((xs.take (off+len)).drop off).length cap->Kt blk:=by
  intro blk o he
  cases h with
  | ms _ _ _ _ _ U8 a' hold zh0 ha WO hm =>
   obtain⟨_,hm⟩:=hm xs J
   grind
 rw[hve]
 cases a with
 | none=>obtain⟨k1,k2⟩:=hn rfl; rw[k1,k2]; exact .ma e none
 | some p =>
  rcases g2 p rfl with⟨k1,k2⟩ | ⟨hp,_,hc⟩
  ·rw[k1,k2]; exact .ma e _
  ·obtain⟨blk,o,sp⟩:=p
   subst hp
   exact .sl e _ blk o cap f (z1r blk o hve) jq (λi hi=>(g1 i hi).mono λk hk=>⟨h1 k hk,rfl⟩) hc
theorem O1{b vk:Nat}{e:Ty}{xs:List (den e)}(J:O.st[b]? = some (.arr vk e xs))(hI:Inv O):∃ E:KS,E.w=O.w/\E.st=O.st.set b .dead/\Inv E/\Ext O E /\
  ∀ (off len:Nat) (v:Value),RD O (.ms b vk e off len) v->RD E (.qi (.sl e) ((xs.take (off+len)).drop off)) v:=by
 have wO:b<O.st.length:=(zQ.1 J).1
 let E:KS:=⟨O.w,λk=>O.ok k\/∃ n,O.ph[b]? = some (some (k,n)),O.ph.set b none,O.st.set b .dead⟩
 have ud:∀ i,i≠b->E.st[i]? = O.st[i]? := λi hi=>by show(O.st.set b .dead)[i]? = _; rw[zE (λe=>hi e.symm)]
 have Hm:∀ i,i≠b->E.ph[i]? = O.ph[i]? := λi hi=>by show(O.ph.set b none)[i]? = _; rw[zE (λe=>hi e.symm)]
 have z7l:∀ (i blk m:Nat),E.ph[i]? = some (some (blk,m))->i≠b/\O.ph[i]? = some (some (blk,m)):=by
  grind
 have U:Ext O E:=by
  refine⟨rfl,rfl,rfl,qG _,λk hk=>⟨.inl hk,rfl⟩,?_,λi blk m hi=>.inl (z7l i blk m hi).2,?_,?_,?_,by show _<=(O.st.set b .dead).length; simp,λ_ _ _=>rfl⟩
  ·grind
  ·grind
  ·grind
  ·grind
 have hI':Inv E:=by
  refine⟨by show(O.ph.set b none).length=(O.st.set b .dead).length; simp[hI.len],?_,?_,?_,?_,hI.gl.mono U.same⟩
  ·rintro k (hk | ⟨m,hk⟩)
   ·exact hI.cq k hk
   ·exact(hI.apart b k m hk).1
  ·intro i blk m hi
   obtain⟨hib,Ya⟩:=z7l i blk m hi
   obtain⟨g1,g2⟩:=hI.apart i blk m Ya
   refine⟨g1,?_⟩
   rintro(hk | ⟨m',hk⟩)
   ·exact g2 hk
   ·exact hib (hI.inj i b blk m m' Ya hk)
  ·intro i i' blk m m' hi Ya
   exact hI.inj i i' blk m m' (z7l i blk m hi).2 (z7l i' blk m' Ya).2
  ·intro i hl hB
   by_cases hib:i=b
   ·subst hib
    have:(O.st.set i .dead)[i]? = some hl:=hB
    rw[qX wO]at this
    cases this
    trivial
   ·rw[ud i hib]at hB
    exact(hI.blk i hl hB).mono U (Hm i hib) λ_ _ _=>rfl
 exact⟨E,rfl,rfl,hI',U,λoff len v V=>RD.Zk rfl (zin hI V J (λk hk=>.inl hk) λk m hk=>.inr ⟨m,hk⟩)⟩
theorem z6G{s:Nat}{fr:Fr}{a:Act}{r:Fr×St}(h:(z6F s fr O.st).leads r)(hI:Inv O)(hR:Rel O n fr.get a):∃ E:KS,E.w=O.w/\E.st=r.2/\Inv E/\Ext O E/\Rel E n r.1.get a:=by
 unfold z6F at h
 split at h
 ·rename_i b vk e off len hs
  split at h
  ·rename_i dZ e' xs J
   split at h
   ·rename_i ys hy
    obtain⟨he,U⟩:=wi hy
    obtain⟨rfl,h⟩:=h
    cases h
    obtain⟨v,hv,V⟩:=hR.get s _ hs
    obtain⟨E,e1,e2,hI',U,hk⟩:=O1 J hI
    refine⟨E,e1,e2,hI',U,hR.size,hR.defers,λt d dM => ?_⟩
    simp only[Fr.get]at dM
    cases ht:zU s t with
    | true =>
     rw[<- Y ht]
     grind
    | false =>
     rw[ht,cond_false]at dM
     obtain⟨u,g1,g2⟩:=hR.get t d dM
     exact⟨u,g1,g2.mono U⟩
   ·exact h.elim
  ·exact h.elim
 ·cases h; exact⟨O,rfl,rfl,hI,Ext.refl O,hR⟩
theorem Su{ds:List D}{i b vk off len:Nat}{e:Ty}{d':D}(V:ds[i]? = some (.ms b vk e off len))(hn:lQ [d']=none){T:Nat}(h:lQ (ds.set i d')=some T):lQ ds=some T:=by
 cases ds with
 | nil=>cases V
 | cons x r =>
  cases i with
  | zero =>
   have:lQ (d'::r)=lQ [d']:=by cases d'<;>rfl
   grind
  | succ i =>
   have:∀ r':List D,lQ (x::r')=lQ [x]:=by intro r'; cases x<;>rfl
   grind
theorem z6I{j i:Nat}{fr:Fr}{a:Act}{r:Fr×St}(h:(z6H j i fr O.st).leads r)(hI:Inv O)(hR:Rel O n fr.get a):∃ E:KS,E.w=O.w/\E.st=r.2/\Inv E/\Ext O E/\Rel E n r.1.get a:=by
 unfold z6H at h
 split at h
 ·rename_i ds hj
  split at h
  ·rename_i b vk e off len hi
   split at h
   ·rename_i dZ e' xs J
    split at h
    ·rename_i ys hy
     obtain⟨he,U⟩:=wi hy
     cases he
     cases U
     obtain⟨rfl,h⟩:=h
     cases h
     obtain⟨κ1,e1,e2,VZ,hx1,hk⟩:=O1 J hI
     have hjb:j≠b:=λq=>by subst q; rw[J]at hj; cases hj
     have hj1:κ1.st[j]? = some (.var (.agg ds)):=by rw[e2,zE (λq=>hjb q.symm)]; exact hj
     have TX:j<κ1.st.length:=(zQ.1 hj1).1
     let d':D:=.qi (.sl e) ((xs.take (off+len)).drop off)
     let κ2:KS:={ κ1 with st:=κ1.st.set j (.var (.agg (ds.set i d'))) }
     have ud:∀ k,k≠j->κ2.st[k]? = κ1.st[k]? := λk hk=>by show(κ1.st.set j _)[k]? = _; rw[zE (λq=>hk q.symm)]
     have zp3:κ2.st[j]? = some (.var (.agg (ds.set i d'))):=by show(κ1.st.set j _)[j]? = _; rw[qX TX]
     have Da:Ext κ1 κ2:=by
      refine⟨rfl,rfl,rfl,qG _,λk hk=>⟨hk,rfl⟩,λk hk=>.inl hk,λk blk m hk=>.inl hk,?_,?_,?_,by show _<=(κ1.st.set j _).length; simp,λ_ _ _=>rfl⟩
      ·grind
      ·grind
      ·grind
     have hI2:Inv κ2:=by
      refine⟨by show κ1.ph.length=(κ1.st.set j _).length; simp[VZ.len],VZ.cq,VZ.apart,VZ.inj,?_,VZ.gl⟩
      intro k hl hB
      by_cases q:k=j
      ·subst q
       rw[zp3]at hB
       cases hB
       obtain⟨blk,m,cs,t,g1,g2,g3,g4,g5,g6⟩:=hI.blk k _ hj
       obtain⟨r7,m',mX,t',p1,p2,p3,p4,p5,p6⟩:=VZ.blk k _ hj1
       have Hm:κ1.ph[k]? = O.ph[k]? := (hx1.var k _ hj).2
       rw[Hm,g1]at p1
       cases p1
       rw[e1,g2]at p2
       cases p2
       refine⟨blk,m,cs,t,Hm.trans g1,by show κ1.w.heap[blk]? = _; rw[e1]; exact g2,g3,?_,?_,λT hT=>g6 T (Su hi rfl hT)⟩
       ·have p4':wQ κ2 ds cs.toList:=wQ.mono Da p4
        refine⟨by show(ds.set i d').length=_; rw[List.length_set]; exact p4'.1,λk' h1 X => ?_⟩
        have Hk:k'<(ds.set i d').length:=h1
        rw[List.length_set]at Hk
        show RD κ2 ((ds.set i d')[k']) _
        by_cases q:i=k'
        ·subst q
         have hdi:ds[i]'Hk=.ms b vk e off len:=Option.some.inj ((zT Hk).symm.trans hi)
         have:=g4.2 i Hk X
         have Fp:(wb (D.agg ds))[i]'Hk=.ms b vk e off len:=hdi
         rw[Fp]at this
         have e3:(ds.set i d')[i]'h1=d':=List.getElem_set_self _
         rw[e3]
         exact(hk _ _ _ this).mono Da
        ·have e3:(ds.set i d')[k']'h1=ds[k']'Hk:=List.getElem_set_ne q _
         rw[e3]
         exact p4'.2 k' Hk X
       ·intro x U
        rcases List.mem_or_eq_of_mem_set U with U | rfl
        ·exact g5 x U
        ·rfl
      ·rw[ud k q]at hB
       exact(VZ.blk k hl hB).mono Da rfl λ_ _ _=>rfl
     refine⟨κ2,e1,by show κ1.st.set j _=_; rw[e2],hI2,hx1.trans Da,hR.size,hR.defers,λt d dM => ?_⟩
     obtain⟨u,q1,q2⟩:=hR.get t d dM
     exact⟨u,q1,(q2.mono hx1).mono Da⟩
    ·exact h.elim
   ·exact h.elim
  ·cases h; exact⟨O,rfl,rfl,hI,Ext.refl O,hR⟩
 ·cases h; exact⟨O,rfl,rfl,hI,Ext.refl O,hR⟩
theorem z6K{s:Nat}{fr:Fr}{a:Act}{r:Fr×St}(h:(z6J s fr O.st).leads r)(hI:Inv O)(hR:Rel O n fr.get a):∃ E:KS,E.w=O.w/\E.st=r.2/\Inv E/\Ext O E/\Rel E n r.1.get a:=by
 unfold z6J at h
 cases J:Nat.ble 1000000 s with
 | true=>rw[J,cond_true]at h; exact z6I h hI hR
 | false=>rw[J,cond_false]at h; exact z6G h hI hR
theorem z0Z:∀ (l:List Nat) {fr:Fr} {O:KS} {a:Act} {r:Fr×St},(frz l fr O.st).leads r->Inv O->Rel O n fr.get a->∃ E:KS,E.w=O.w/\E.st=r.2/\Inv E/\Ext O E/\Rel E n r.1.get a
 | [],fr,O,a,r,h,hI,hR=>by cases h; exact⟨O,rfl,rfl,hI,Ext.refl O,hR⟩
 | s::l,fr,O,a,r,h,hI,hR=>by
  simp only[frz,T.xg]at h
  obtain⟨x,h1,X⟩:=h
  obtain⟨κ1,e1,e2,e3,e4,e5⟩:=z6K h1 hI hR
  rw[<- e2]at X
  obtain⟨κ2,g1,g2,g3,g4,g5⟩:=z0Z l X e3 e5
  exact⟨κ2,g1.trans e1,g2,g3,e4.trans g4,g5⟩
end
end Go.AM