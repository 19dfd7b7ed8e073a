/-
  The abstract machine, part C: texts of our own, the same for each claim.
-/
import Derived.Test.YtgnfpdlhibjeeaaGreatDoorAmB
import Derived.Deep.LoopGhost
set_option linter.unusedVariables false
set_option linter.unusedSectionVars false
open Go.Op renaming operands -> zA
open Nat renaming eq_of_beq_eq_true -> Y, le_of_ble_eq_true -> I, beq -> zU, le_antisymm -> qC, le_refl -> qG, lt_or_ge -> qH, blt -> qL, not_lt_zero -> qN, zero_add -> qO, testBit -> qS
open List renaming mem_range -> R, getElem?_set_ne -> zE, getElem?_append_left -> zI, all_eq_true -> zJ, mem_cons_self -> zK, map_congr_left -> zM, pairwise_lt_range -> zN, any_eq_true -> zO, getElem?_eq_some_iff -> zQ, mem_cons_of_mem -> zS, getElem?_eq_getElem -> zT, eq_nil_of_length_eq_zero -> zW, mem_filter -> zX, mem_cons -> qA, pairwise_cons -> qE, range -> qF, getElem?_eq_none -> qJ, reverse_reverse -> qM, any_eq_false -> qQ, getElem?_map -> qR, getElem_mem -> qV, getElem?_set_self -> qX, mem_append -> xA, mem_of_getElem? -> xB, range_eq_range' -> xC, getD -> xF
open Bool renaming and_eq_true -> zF, not_eq_true' -> zL, not_eq_false' -> qD
open Array renaming mem_toList_iff -> zG, getElem?_setIfInBounds_ne -> zH, getElem?_eq_getElem -> zP, toArray_toList -> zR, eq_empty_of_size_eq_zero -> zV, getD_eq_getD_getElem? -> zY, replicate -> qB, getElem?_toList -> qI, ext' -> qP
open Go.Region renaming binds -> zZ, wanted -> qU, ready -> qY
open Go.Call renaming operands -> qK
open Go.Result renaming andThen_ok -> qT
open Go.Act renaming put -> qW
open Go.Sem renaming run_bind -> qZ, run_pure -> xD
open Go.Deferred renaming ofValue -> xE
open Pure renaming pure -> xG
namespace Go.AM
variable [gy]
abbrev F:=Nat->Option D
def wA(f:F):Operand->Option D
 | .tmp t=>f t
 | .const v=>KR v
 | .global _=>none
 | .func g=>bif qL g 1000000 then some (.wi g [])else none
theorem iR(fr:Fr):bM fr=wA fr.get:=by rfl
def eG(f:F)(dst:Option Nat)(d:Option D):F:=match dst with
 | some t=>λs=>if s=t then d else f s
 | none=>f
theorem Qn{a b:Nat}(h:a≠b):zU a b=false:=by
 cases J:zU a b with
 | false=>rfl
 | true=>exact absurd (Y J) h
theorem Qa(fr:Fr)(dst:Option Nat)(d:Option D):(fr.put dst d).get=eG fr.get dst d:=by
 cases dst with
 | none=>rfl
 | some t =>
  funext s
  simp only[Fr.put,Fr.get,eG]
  by_cases h:s=t
  ·subst h; simp
  ·rw[if_neg h,Qn (λe=>h e.symm),cond_false]
section
variable (c:Ctx) (n:Nat) (ops:Array Oper)
def jO(f:F)(o:Oper):Option Bool:=match o.guard with
 | none=>some true
 | some (j,w)=>match bP ops j with
  | none=>none
  | some t=>match f t with
   | some (.qj .bool b)=>some (b==w)
   | some (.fj [])=>some false
   | _=>none
def fP(i:Nat)(s s':F×St)(k:Nat):Prop:=∃ o,ops[i]? = some o/\gA n o.dst=true /\
 ((jO ops s.1 o=some true/\k=(wR c (wA s.1) o).kind/\∃ d qm,(qu (wR c (wA s.1) o) s.2).leads (d,qm)/\s'=(eG s.1 o.dst d,qm)) \/
  (jO ops s.1 o=some false/\k=0/\s'=(eG s.1 o.dst (some und),s.2)))
def SP:List Nat->F×St->F×St->List Nat->Prop
 | [],s,s',ks=>s'=s/\ks=[]
 | i::l,s,s',ks=>∃ s1 k MI,ks=k::MI/\fP c n ops i s s1 k/\SP l s1 s' MI
end
section
variable {c:Ctx} {n:Nat} {ops:Array Oper}
def yQ(kn:Kn)(f:F):Prop:=∀ t b,kn.get t=some b->f t=some (.qj .bool b)
theorem GD(t:Nat)(b:Option Bool)(kn:Kn)(s:Nat):Kn.get ((t,b)::kn) s=if s=t then b else kn.get s:=by
 simp only[Kn.get]
 by_cases h:s=t
 ·subst h; simp
 ·rw[if_neg h,Qn (λe=>h e.symm),cond_false]
theorem mJ{kn:Kn}{f:F}(h:yQ kn f){x:Operand}{b:Bool}(U:sn kn x=some b):wA f x=some (.qj .bool b):=by
 unfold sn at U
 split at U
 ·exact h _ _ U
 ·cases U; rfl
 ·cases U
theorem Fv{kn:Kn}{fr:Fr}{o:Oper}(hk:yQ kn fr.get){st:St}{r:Option D×St}(h:(qu (QY c kn fr o) st).leads r) :
  (qu (wR c (wA fr.get) o) st).leads r/\(QY c kn fr o).kind=(wR c (wA fr.get) o).kind/\∀ b,Be kn o.op=some b->r.1=some (.qj .bool b):=by
 obtain⟨dst,op,ty,pos,after,guard⟩:=o
 rw[<- iR]
 cases op with
 | pick x a b =>
  simp only[QY]at h ⊢
  cases U:sn kn x with
  | none =>
   rw[U]at h
   refine⟨h,rfl,λb' J => ?_⟩
   simp[Be,U]at J
  | some bx =>
   rw[U]at h
   have hval:=mJ hk U
   rw[<- iR]at hval
   have ziC:wR c (bM fr) ⟨dst,.pick x a b,ty,pos,after,guard⟩=.val (.ite bx (.ret (bM fr a)) (.ret (bM fr b))):=by
    simp only[wR,N6,hval,asBool]
   rw[ziC]
   obtain⟨d,qm⟩:=r
   cases bx with
   | true =>
    simp only[kX,T.leads]at h ⊢
    refine⟨⟨.inl ⟨by first | rfl | trivial,h.1⟩,h.2⟩,rfl,λb' J => ?_⟩
    simp only[Be,U]at J
    have:=mJ hk J
    rw[<- iR]at this
    grind
   | false =>
    simp only[kX,T.leads]at h ⊢
    refine⟨⟨.inr ⟨by first | rfl | trivial,h.1⟩,h.2⟩,rfl,λb' J => ?_⟩
    simp only[Be,U]at J
    have:=mJ hk J
    rw[<- iR]at this
    grind
 | move x =>
  refine⟨h,rfl,λb J => ?_⟩
  obtain⟨d,qm⟩:=r
  simp only[QY,wR,kX,T.leads]at h
  have:=mJ hk (show sn kn x=some b from J)
  rw[<- iR]at this
  grind
 | assign x =>
  refine⟨h,rfl,λb J => ?_⟩
  obtain⟨d,qm⟩:=r
  simp only[QY,wR,kX,T.leads]at h
  have:=mJ hk (show sn kn x=some b from J)
  rw[<- iR]at this
  grind
 | _=>exact⟨h,rfl,λb J=>by simp[Be]at J⟩
theorem S4{kn:Kn}{f:F}(hk:yQ kn f){dst:Option Nat}{d:Option D}{b:Option Bool}(J:∀ b',b=some b'->d=some (.qj .bool b')):yQ (Bj kn dst b) (eG f dst d):=by
 cases dst with
 | none=>exact hk
 | some t =>
  intro s b' h
  simp only[Bj,GD]at h
  simp only[eG]
  split at h
  ·grind
  ·rename_i e; rw[if_neg e]; exact hk s b' h
theorem Wz{kn:Kn}{f:F}(hk:yQ kn f){t:Nat}{b:Bool}(J:f t=some (.qj .bool b)):yQ ((t,some b)::kn) f:=by
 intro s b' h
 rw[GD]at h
 split at h
 ·grind
 ·exact hk s b' h
theorem Hq{o:Oper}{s s':pn}(hk:yQ s.kn s.fr.get)(h:(lN c n o s).leads s') :
  gA n o.dst=true/\(∃ d qm,(qu (wR c (wA s.fr.get) o) s.st).leads (d,qm)/\s'.fr.get=eG s.fr.get o.dst d/\s'.st=qm)/\yQ s'.kn s'.fr.get/\s'.ks=(wR c (wA s.fr.get) o).kind::s.ks:=by
 unfold lN at h
 cases V:gA n o.dst with
 | false=>rw[V]at h; exact h.elim
 | true =>
  rw[V,cond_true]at h
  simp only[T.xf]at h
  obtain⟨⟨d,qm⟩,h1,rfl⟩:=h
  obtain⟨X,h3,h4⟩:=Fv hk h1
  refine⟨rfl,⟨d,qm,X,Qa _ _ _,rfl⟩,?_,wa⟩
  rw[Qa]
  exact S4 hk h4
theorem Sc{o:Oper}{s:pn}(hk:yQ s.kn s.fr.get):yQ (de o s).kn (de o s).fr.get:=by
 show yQ (Bj s.kn o.dst none) (s.fr.put o.dst (some und)).get
 rw[Qa]
 exact S4 hk nofun
theorem CD{i:Nat}{o:Oper}{s s':pn}(ho:ops[i]? = some o)(hk:yQ s.kn s.fr.get)(h:(stepG c n ops o s).leads s') :
  ∃ k,fP c n ops i (s.fr.get,s.st) (s'.fr.get,s'.st) k/\yQ s'.kn s'.fr.get/\s'.ks=k::s.ks:=by
 have run:∀ (s0:pn),s0.fr=s.fr->s0.st=s.st->s0.ks=s.ks->yQ s0.kn s0.fr.get->jO ops s.fr.get o=some true->(lN c n o s0).leads s' ->
   ∃ k,fP c n ops i (s.fr.get,s.st) (s'.fr.get,s'.st) k/\yQ s'.kn s'.fr.get/\s'.ks=k::s.ks:=by
  intro s0 e1 e2 e3 EF hw h
  obtain⟨h1,⟨d,qm,X,h3,h4⟩,h5,h6⟩:=Hq EF h
  rw[e1]at X h3 h6
  rw[e2]at X
  rw[e3]at h6
  exact⟨_,⟨o,ho,h1,.inl ⟨hw,rfl,d,qm,X,by rw[h3,h4]⟩⟩,h5,h6⟩
 have skip:∀ (s0:pn),s0.fr=s.fr->s0.st=s.st->s0.ks=s.ks->yQ s0.kn s0.fr.get->jO ops s.fr.get o=some false->gA n o.dst=true->de o s0=s' ->
   ∃ k,fP c n ops i (s.fr.get,s.st) (s'.fr.get,s'.st) k/\yQ s'.kn s'.fr.get/\s'.ks=k::s.ks:=by
  intro s0 e1 e2 e3 EF hw V h
  subst h
  refine⟨0,⟨o,ho,V,.inr ⟨hw,rfl,?_⟩⟩,Sc EF,by simp[de,e3]⟩
  simp only[de,Qa,e1,e2]
 unfold stepG at h
 split at h
 ·rename_i hg
  exact run s rfl rfl rfl hk (by simp[jO,hg]) h
 ·rename_i j w hg
  split at h
  ·exact h.elim
  ·rename_i t ht
   split at h
   ·rename_i b J
    have hf:=hk t b J
    have hw:jO ops s.fr.get o=some (b==w):=by simp[jO,hg,ht,hf]
    cases hbw:(b==w)with
    | true=>grind
    | false =>
     rw[hbw,cond_false]at h
     cases V:gA n o.dst with
     | false=>rw[V]at h; exact h.elim
     | true=>rw[V,cond_true]at h; exact skip s rfl rfl rfl hk (by rw[hw,hbw]) V h
   ·split at h
    ·rename_i x U
     have hw:jO ops s.fr.get o=some (x==w):=by simp[jO,hg,ht,U]
     cases V:gA n o.dst with
     | false=>rw[V]at h; exact h.elim
     | true =>
      rw[V,cond_true]at h
      rcases h with⟨rfl,h⟩ | ⟨rfl,h⟩
      ·have YB:yQ (s.lY t true).kn (s.lY t true).fr.get:=Wz hk U
       cases w with
       | true=>exact run (s.lY t true) rfl rfl rfl YB hw h
       | false=>exact skip (s.lY t true) rfl rfl rfl YB hw V h
      ·have YB:yQ (s.lY t false).kn (s.lY t false).fr.get:=Wz hk U
       cases w with
       | true=>exact skip (s.lY t false) rfl rfl rfl YB hw V h
       | false=>exact run (s.lY t false) rfl rfl rfl YB hw h
    ·rename_i U
     have hw:jO ops s.fr.get o=some false:=by simp[jO,hg,ht,U]
     cases V:gA n o.dst with
     | false=>rw[V]at h; exact h.elim
     | true=>rw[V,cond_true]at h; exact skip s rfl rfl rfl hk hw V h
    ·exact h.elim
theorem sG:∀ (l:List Oper) (k0:Nat) (s s':pn),(∀ j,l[j]? = ops[k0+j]? \/ l.length<=j)->yQ s.kn s.fr.get->(Z4 c n ops l s).leads s' ->
  ∃ ks,SP c n ops (List.range' k0 l.length) (s.fr.get,s.st) (s'.fr.get,s'.st) ks/\yQ s'.kn s'.fr.get/\s'.ks=ks.reverse++s.ks
 | [],k0,s,s',_,hk,h=>by cases h; exact⟨[],⟨rfl,rfl⟩,hk,rfl⟩
 | o::l,k0,s,s',B,hk,h=>by
  simp only[Z4,T.xf]at h
  obtain⟨s1,h1,X⟩:=h
  have ho:ops[k0]? = some o:=by rcases B 0 with h | h<;>simp at h; exact h.symm
  obtain⟨k,g1,g2,g3⟩:=CD ho hk h1
  obtain⟨ks,g4,g5,g6⟩:=sG l (k0+1) s1 s' (λj=>by have:=B (j+1); simpa[Nat.add_assoc,Nat.add_comm 1 j]using this) g2 X
  refine⟨k::ks,?_,g5,wa⟩
  exact⟨_,k,ks,rfl,g1,g4⟩
end
section
variable {c:Ctx} {n:Nat} {ops:Array Oper}
theorem XN{α:Type}{ρ ρ':α->Option D}(L:List (Nat×α))(h:∀ p∈L,ρ p.2=ρ' p.2):(L.map λp=>(p.1,ρ p.2))=L.map λp=>(p.1,ρ' p.2) :=
 zM λp hp=>by rw[h p hp]
theorem VF{ρ ρ':Operand->Option D}(o:Oper)(h:∀ x∈o.op.operands,ρ x=ρ' x):wR c ρ o=wR c ρ' o:=by
 obtain⟨dst,op,ty,pos,after,guard⟩:=o
 cases op with
 | move x=>simp only[wR]; rw[h x (by simp[zA])]
 | assign x=>simp only[wR]; rw[h x (by simp[zA])]
 | pick x a b=>simp only[wR]; rw[h x (by simp[zA]),h a (by simp[zA]),h b (by simp[zA])]
 | box t x=>simp only[wR]; rw[h x (by simp[zA])]
 | load t x=>simp only[wR]; rw[h x (by simp[zA])]
 | store t x y=>simp only[wR]; rw[h x (by simp[zA]),h y (by simp[zA])]
 | nilCheck x=>simp only[wR]; rw[h x (by simp[zA])]
 | binOp op t x y _=>simp only[wR]; rw[h x (by simp[zA]),h y (by simp[zA])]
 | typeAssert x xt t ok=>simp only[wR]; rw[h x (by simp[zA])]
 | unOp op t x=>simp only[wR]; rw[h x (by simp[zA])]
 | convert s t x=>simp only[wR]; rw[h x (by simp[zA])]
 | makeInterface t x=>simp only[wR]; rw[h x (by simp[zA])]
 | makeFunc fn first cap =>
  cases fn<;>simp only[wR]
  rw[zM (l:=cap.toList) (λx U=>h x (by simp[zA,zG.1 U])),zM (l:=first.toList) (λx U=>h x (by simp[zA,zG.1 U]))]
 | makeSlice t x y=>simp only[wR]; rw[h x (by simp[zA]),h y (by simp[zA])]
 | slice t x lo hi mx =>
  simp only[wR]
  have ho:∀ o:Option Operand,(∀ y,o=some y->ρ y=ρ' y)->o.map ρ=o.map ρ':=λo ho=>by
   cases o with
   | none=>rfl
   | some y=>grind
  rw[h x (by simp[zA]),ho lo (λy hy=>h y (by simp[zA,hy])),ho hi (λy hy=>h y (by simp[zA,hy])),ho mx (λy hy=>h y (by simp[zA,hy]))]
 | fieldAddr s x f=>simp only[wR]; rw[h x (by simp[zA])]
 | field s x f=>simp only[wR]; rw[h x (by simp[zA])]
 | indexAddr t x y=>simp only[wR]; rw[h x (by simp[zA]),h y (by simp[zA])]
 | lookup t x y _=>simp only[wR]; rw[h x (by simp[zA]),h y (by simp[zA])]
 | mapUpdate t x y z=>simp only[wR]; rw[h x (by simp[zA]),h y (by simp[zA]),h z (by simp[zA])]
 | index t x y=>simp only[wR]; rw[h x (by simp[zA]),h y (by simp[zA])]
 | extract x i=>simp only[wR]; rw[h x (by simp[zA])]
 | build t ps=>simp only[wR]; rw[XN ps.toList λp hp=>h p.2 (by simp[zA]; exact⟨p.1,zG.1 hp⟩)]
 | buildSlice t k ps=>simp only[wR]; rw[XN ps.toList λp hp=>h p.2 (by simp[zA]; exact⟨p.1,zG.1 hp⟩)]
 | call cl =>
  obtain⟨callee,args,te⟩:=cl
  have fV:args.toList.map ρ=args.toList.map ρ':=zM λx U=>h x (by simp[zA,qK,zG.1 U])
  cases callee with
  | builtin b=>simp only[wR]; rw[fV]
  | value f=>simp only[wR]; rw[fV,h f (by simp[zA,qK])]
  | invoke r m=>rfl
 | _=>rfl
theorem BP{f:F}{dst:Option Nat}{d:Option D}{x:Operand}(h:∀ t,dst=some t->x≠.tmp t):wA (eG f dst d) x=wA f x:=by
 cases dst with
 | none=>rfl
 | some t=>cases x with
  | tmp s=>simp only[wA,eG]; rw[if_neg (λe=>h t rfl (by rw[e]))]
  | _=>rfl
theorem ig(f:F){a b:Option Nat}(d e:Option D)(h:∀ t,a=some t->b≠some t):eG (eG f a d) b e=eG (eG f b e) a d:=by
 cases a with
 | none=>rfl
 | some s=>cases b with
  | none=>rfl
  | some t =>
   simp only[eG]
   grind
def Ind(ops:Array Oper)(kd:Nat->Nat)(p i:Nat):Prop:=∀ x y,ops[p]? = some x->ops[i]? = some y ->
 (∀ d,x.dst=some d->d ∉ tmpsOf ops y)/\(∀ d,y.dst=some d->d ∉ tmpsOf ops x)/\cq (kd p) (kd i)=false
theorem eD{o:Oper}{d:Nat}(h:o.dst=some d):d∈tmpsOf ops o:=by simp[tmpsOf,h]
theorem XP{o:Oper}{d:Nat}(h:Operand.tmp d∈o.op.operands):d∈tmpsOf ops o:=by
 simp only[tmpsOf,xA,List.mem_filterMap]
 exact .inr ⟨.tmp d,wa,rfl⟩
theorem XO{o:Oper}{j:Nat}{w:Bool}{d:Nat}(h:o.guard=some (j,w))(hg:bP ops j=some d):d∈tmpsOf ops o:=by
 simp[tmpsOf,h,hg]
theorem jL{f:F}{o:Oper}{dst:Option Nat}{d:Option D}(h:∀ t,dst=some t->t ∉ tmpsOf ops o):jO ops (eG f dst d) o=jO ops f o:=by
 unfold jO
 cases hg:o.guard with
 | none=>rfl
 | some jw =>
  obtain⟨j,w⟩:=jw
  simp only
  cases hs:bP ops j with
  | none=>rfl
  | some t =>
   simp only
   have:eG f dst d t=f t:=by
    cases dst with
    | none=>rfl
    | some s=>simp only[eG]; rw[if_neg]; intro e; exact h s rfl (e▸XO hg hs)
   rw[this]
theorem dK{f:F}{o:Oper}{dst:Option Nat}{d:Option D}(h:∀ t,dst=some t->t ∉ tmpsOf ops o):wR c (wA (eG f dst d)) o=wR c (wA f) o :=
 VF o λx U=>BP λt ht e=>h t ht (XP (ops:=ops) (e▸U))
theorem tF{cl:eH}(h:cl.kind=0){st qm:St}{d:Option D}(B:(qu cl st).leads (d,qm)):qm=st/\∀ gz,(qu cl gz).leads (d,gz):=by
 cases cl with
 | val t=>rw[kX]at B; exact⟨B.2,λgz=>by rw[kX]; exact⟨B.1,rfl⟩⟩
 | rd k=>cases h
 | wr k=>cases h
theorem nQ{cl:eH}(h:cl.kind<=1){st qm:St}{d:Option D}(B:(qu cl st).leads (d,qm)):qm=st:=by
 cases cl with
 | val t=>rw[kX]at B; exact B.2
 | rd k=>rw[so]at B; exact B.2
 | wr k=>simp[eH.kind]at h
theorem UW(cl:eH):cl.kind<=2:=by cases cl<;>simp[eH.kind]
theorem CE{kd:Nat->Nat}{p i:Nat}(hi:Ind ops kd p i){s s1 s2:F×St}(h1:fP c n ops p s s1 (kd p))(X:fP c n ops i s1 s2 (kd i)) :
  ∃ s',fP c n ops i s s' (kd i)/\fP c n ops p s' s2 (kd p):=by
 obtain⟨x,U,hdx,HQ⟩:=h1
 obtain⟨y,hy,hdy,hy'⟩:=X
 obtain⟨a1,a2,a3⟩:=hi x y U hy
 have hdd:∀ t,x.dst=some t->y.dst≠some t:=λt ht e=>a1 t ht (eD e)
 obtain⟨f,st⟩:=s
 rcases HQ with⟨hw,hk,d,eb,B,rfl⟩ | ⟨hw,hk,rfl⟩
 ·rcases hy' with⟨UQ,nN,e,gz,Qd,rfl⟩ | ⟨UQ,nN,rfl⟩
  ·simp only[jL a1,dK (c:=c) a1]at UQ nN Qd
   simp only at hw hk B
   -- the two meet nowhere in the store
   have key:(qu (wR c (wA f) y) st).leads (e,(if(wR c (wA f) y).kind=2 then gz else st))/\(qu (wR c (wA f) x) (if(wR c (wA f) y).kind=2 then gz else st)).leads (d,gz):=by
    rw[hk,nN]at a3
    rcases qH (wR c (wA f) y).kind 2 with hy2 | hy2
    ·rw[if_neg (Z)]
     have e2:=nQ (Z) Qd
     subst e2
     rcases qH (wR c (wA f) x).kind 2 with DE | DE
     ·have e1:=nQ (Z) B
      grind
     ·have hx3:(wR c (wA f) x).kind=2:=qC (UW _) DE
      have hy0:(wR c (wA f) y).kind=0:=by
       rw[hx3]at a3
       cases hy0:(wR c (wA f) y).kind with
       | zero=>rfl
       | succ m=>rw[hy0]at a3; simp[cq]at a3
      exact⟨(tF hy0 Qd).2 st,B⟩
    ·have hy3:(wR c (wA f) y).kind=2:=qC (UW _) hy2
     rw[if_pos hy3]
     have YC:(wR c (wA f) x).kind=0:=by
      rw[hy3]at a3
      cases YC:(wR c (wA f) x).kind with
      | zero=>rfl
      | succ m=>rw[YC]at a3; simp[cq]at a3
     obtain⟨e1,h3⟩:=tF YC B
     grind
   refine⟨_,⟨y,hy,hdy,.inl ⟨UQ,nN,e,_,key.1,rfl⟩⟩,x,U,hdx,.inl ⟨?_,?_,d,gz,?_,?_⟩⟩
   ·rw[jL a2]; exact hw
   ·rw[dK (c:=c) a2]; exact hk
   ·rw[dK (c:=c) a2]; exact key.2
   ·simp only[ig f d e hdd]
  ·simp only[jL a1]at UQ
   refine⟨_,⟨y,hy,hdy,.inr ⟨UQ,nN,rfl⟩⟩,x,U,hdx,.inl ⟨?_,?_,d,eb,?_,?_⟩⟩
   ·rw[jL a2]; exact hw
   ·rw[dK (c:=c) a2]; exact hk
   ·rw[dK (c:=c) a2]; exact B
   ·simp only[ig f d (some und) hdd]
 ·rcases hy' with⟨UQ,nN,e,gz,Qd,rfl⟩ | ⟨UQ,nN,rfl⟩
  ·simp only[jL a1,dK (c:=c) a1]at UQ nN Qd
   refine⟨_,⟨y,hy,hdy,.inl ⟨UQ,nN,e,gz,Qd,rfl⟩⟩,x,U,hdx,.inr ⟨?_,hk,?_⟩⟩
   ·rw[jL a2]; exact hw
   ·simp only[ig f (some und) e hdd]
  ·simp only[jL a1]at UQ
   refine⟨_,⟨y,hy,hdy,.inr ⟨UQ,nN,rfl⟩⟩,x,U,hdx,.inr ⟨?_,hk,?_⟩⟩
   ·rw[jL a2]; exact hw
   ·simp only[ig f (some und) (some und) hdd]
def QQ(c:Ctx)(n:Nat)(ops:Array Oper)(kd:Nat->Nat):List Nat->F×St->F×St->Prop
 | [],s,s'=>s'=s
 | i::l,s,s'=>∃ s1,fP c n ops i s s1 (kd i)/\QQ c n ops kd l s1 s'
theorem Hv{kd:Nat->Nat}{i:Nat}{post:List Nat}{s':F×St}:∀ {pre:List Nat} {s:F×St},(∀ p∈pre,Ind ops kd p i)->QQ c n ops kd (pre++i::post) s s' ->
  ∃ s1,fP c n ops i s s1 (kd i)/\QQ c n ops kd (pre++post) s1 s'
 | [],s,_,h=>h
 | p::pre,s,hp,⟨sp,h1,X⟩=>by
  obtain⟨s1,h3,h4⟩:=Hv (λq hq=>hp q (zS _ hq)) X
  obtain⟨s2,h5,h6⟩:=CE (hp p zK) h1 h3
  exact⟨s2,h5,s1,h6,h4⟩
end
section
variable (c:Ctx) (n:Nat) (ops:Array Oper)
def og(i:Nat)(s s':F×St)(k:RK):Prop:=∃ o,ops[i]? = some o/\gA n o.dst=true /\
 ((jO ops s.1 o=some true/\k=vw c (wA s.1) s.2 o/\∃ d qm,(qu (wR c (wA s.1) o) s.2).leads (d,qm)/\s'=(eG s.1 o.dst d,qm)) \/
  (jO ops s.1 o=some false/\k=.z 0/\s'=(eG s.1 o.dst (some und),s.2)))
def NX:List Nat->F×St->F×St->List RK->Prop
 | [],s,s',ks=>s'=s/\ks=[]
 | i::l,s,s',ks=>∃ s1 k MI,ks=k::MI/\og c n ops i s s1 k/\NX l s1 s' MI
end
section
variable {c:Ctx} {n:Nat} {ops:Array Oper}
theorem og.plain{i:Nat}{s s':F×St}{k:RK}(h:og c n ops i s s' k):∃ k',fP c n ops i s s' k':=by
 obtain⟨o,h1,X,h3⟩:=h
 rcases h3 with⟨g1,_,g3⟩ | ⟨g1,_,g3⟩
 ·exact⟨_,o,h1,X,.inl ⟨g1,rfl,g3⟩⟩
 ·exact⟨_,o,h1,X,.inr ⟨g1,rfl,g3⟩⟩
theorem Nr{i:Nat}{o:Oper}{s s':pn}(ho:ops[i]? = some o)(hk:yQ s.kn s.fr.get)(h:(stepG c n ops o s).leads s') :
  ∃ k,og c n ops i (s.fr.get,s.st) (s'.fr.get,s'.st) k/\yQ s'.kn s'.fr.get/\s'.bk=k::s.bk:=by
 have bkS:∀ {s0:pn},(lN c n o s0).leads s'->s'.bk=vw c (bM s0.fr) s0.st o::s0.bk:=by
  intro s0 h
  unfold lN at h
  cases V:gA n o.dst with
  | false=>rw[V]at h; exact h.elim
  | true =>
   rw[V,cond_true]at h
   simp only[T.xf]at h
   obtain⟨⟨d,qm⟩,h1,rfl⟩:=h
   rfl
 have run:∀ (s0:pn),s0.fr=s.fr->s0.st=s.st->s0.bk=s.bk->yQ s0.kn s0.fr.get->jO ops s.fr.get o=some true->(lN c n o s0).leads s' ->
   ∃ k,og c n ops i (s.fr.get,s.st) (s'.fr.get,s'.st) k/\yQ s'.kn s'.fr.get/\s'.bk=k::s.bk:=by
  intro s0 e1 e2 e3 EF hw h
  obtain⟨h1,⟨d,qm,X,h3,h4⟩,h5,h6⟩:=Hq EF h
  have J:=bkS h
  rw[e1]at X h3 J
  rw[e2]at X J
  rw[e3]at J
  rw[iR]at J
  exact⟨_,⟨o,ho,h1,.inl ⟨hw,rfl,d,qm,X,by rw[h3,h4]⟩⟩,h5,J⟩
 have skip:∀ (s0:pn),s0.fr=s.fr->s0.st=s.st->s0.bk=s.bk->yQ s0.kn s0.fr.get->jO ops s.fr.get o=some false->gA n o.dst=true->de o s0=s' ->
   ∃ k,og c n ops i (s.fr.get,s.st) (s'.fr.get,s'.st) k/\yQ s'.kn s'.fr.get/\s'.bk=k::s.bk:=by
  intro s0 e1 e2 e3 EF hw V h
  subst h
  refine⟨.z 0,⟨o,ho,V,.inr ⟨hw,rfl,?_⟩⟩,Sc EF,by simp[de,e3]⟩
  simp only[de,Qa,e1,e2]
 unfold stepG at h
 split at h
 ·rename_i hg
  exact run s rfl rfl rfl hk (by simp[jO,hg]) h
 ·rename_i j w hg
  split at h
  ·exact h.elim
  ·rename_i t ht
   split at h
   ·rename_i b J
    have hf:=hk t b J
    have hw:jO ops s.fr.get o=some (b==w):=by simp[jO,hg,ht,hf]
    cases hbw:(b==w)with
    | true=>grind
    | false =>
     rw[hbw,cond_false]at h
     cases V:gA n o.dst with
     | false=>rw[V]at h; exact h.elim
     | true=>rw[V,cond_true]at h; exact skip s rfl rfl rfl hk (by rw[hw,hbw]) V h
   ·split at h
    ·rename_i x U
     have hw:jO ops s.fr.get o=some (x==w):=by simp[jO,hg,ht,U]
     cases V:gA n o.dst with
     | false=>rw[V]at h; exact h.elim
     | true =>
      rw[V,cond_true]at h
      rcases h with⟨rfl,h⟩ | ⟨rfl,h⟩
      ·have YB:yQ (s.lY t true).kn (s.lY t true).fr.get:=Wz hk U
       cases w with
       | true=>exact run (s.lY t true) rfl rfl rfl YB hw h
       | false=>exact skip (s.lY t true) rfl rfl rfl YB hw V h
      ·have YB:yQ (s.lY t false).kn (s.lY t false).fr.get:=Wz hk U
       cases w with
       | true=>exact skip (s.lY t false) rfl rfl rfl YB hw V h
       | false=>exact run (s.lY t false) rfl rfl rfl YB hw h
    ·rename_i U
     have hw:jO ops s.fr.get o=some false:=by simp[jO,hg,ht,U]
     cases V:gA n o.dst with
     | false=>rw[V]at h; exact h.elim
     | true=>rw[V,cond_true]at h; exact skip s rfl rfl rfl hk hw V h
    ·exact h.elim
theorem Y2:∀ (l:List Oper) (k0:Nat) (s s':pn),(∀ j,l[j]? = ops[k0+j]? \/ l.length<=j)->yQ s.kn s.fr.get->(Z4 c n ops l s).leads s' ->
  ∃ ks,NX c n ops (List.range' k0 l.length) (s.fr.get,s.st) (s'.fr.get,s'.st) ks/\s'.bk=ks.reverse++s.bk
 | [],k0,s,s',_,hk,h=>by cases h; exact⟨[],⟨rfl,rfl⟩,rfl⟩
 | o::l,k0,s,s',B,hk,h=>by
  simp only[Z4,T.xf]at h
  obtain⟨s1,h1,X⟩:=h
  have ho:ops[k0]? = some o:=by rcases B 0 with h | h<;>simp at h; exact h.symm
  obtain⟨k,g1,g2,g3⟩:=Nr ho hk h1
  obtain⟨ks,g4,g6⟩:=Y2 l (k0+1) s1 s' (λj=>by have:=B (j+1); simpa[Nat.add_assoc,Nat.add_comm 1 j]using this) g2 X
  refine⟨k::ks,?_,wa⟩
  exact⟨_,k,ks,rfl,g1,g4⟩
theorem GM{m b:Nat}{l:List Nat}:b∈others m l↔b<m/\∀ x∈l,b≠x:=by
 simp only[others]
 simp
theorem E4{d:Option D}{b:Nat}(h:zfc d=some b):(∃ off,d=some (.ptr b off))\/∃ v e i off,d=some (.gU b v e i off):=by
 cases d with
 | none=>cases h
 | some d=>cases d<;>first | (cases h; exact .inl ⟨_,rfl⟩) | (cases h; exact .inr ⟨_,_,_,_,rfl⟩) | cases h
theorem sk{bi:Builtin}{l:List (Option D)}{st:St}:C0 bi l st=.z 2\/(∃ b v e off len x,bi=.append/\l=[some (.ms b v e off len),some x]/\UT x=false/\C0 bi l st=.up b)\/∃ x,bi=.append/\l=[some .wF,some x]/\UT x=false/\C0 bi l st=.wr (others st.length []):=by
 unfold C0
 grind
theorem Gz(ρ:Operand->Option D)(st:St)(o:Oper):(vw c ρ st o).base=(wR c ρ o).kind:=by
 unfold vw
 split
 ·rename_i h
  rw[h]
  cases o.op with
  | load t a=>simp only; split<;>rfl
  | _=>rfl
 ·rename_i h
  rw[h]
  cases o.op with
  | call cl =>
   cases hc:cl.callee with
   | builtin bi =>
    simp only[hc]
    rcases sk (bi:=bi) (l:=cl.args.toList.map ρ)with e | ⟨b,v,e,off,len,x,_,_,_,e⟩ | ⟨x,_,_,_,e⟩<;>rw[e]<;>rfl
   | value f=>simp only[hc]; split<;>first | rfl | (split<;>rfl)
   | _=>simp only[hc]; rfl
  | store t a v=>simp only; split<;>rfl
  | _=>rfl
 ·rfl
theorem KI{ρ:Operand->Option D}{o:Oper}(h:(wR c ρ o).kind<=1)(st qm:St):vw c ρ st o=vw c ρ qm o:=by
 unfold vw
 grind
theorem nO{ρ:Operand->Option D}{st:St}{o:Oper}{b:Nat}(h:vw c ρ st o=.rd b){eb gz Br:St}{d:Option D}(B:(qu (wR c ρ o) eb).leads (d,Br))(J:gz[b]? = eb[b]?):(qu (wR c ρ o) gz).leads (d,gz):=by
 obtain⟨dst,op,ty,pos,after,guard⟩:=o
 cases op with
 | load t a =>
  have h':(∃ off,ρ a=some (.ptr b off))\/∃ v e i off,ρ a=some (.gU b v e i off):=by
   unfold vw at h
   simp only at h
   split at h
   ·split at h
    ·rename_i b' ha; cases h; exact E4 ha
    ·cases h
   ·cases h
   ·cases h
  have he:wR c ρ ⟨dst,.load t a,ty,pos,after,guard⟩=VK c t (ρ a):=rfl
  rcases h' with⟨off,ha⟩ | ⟨v,e,i,off,ha⟩
  all_goals
   rw[he,ha]at B ⊢
   simp only[VK]at B ⊢
   rw[so]at B ⊢
   grind
 | call cl =>
  obtain⟨callee,args,te⟩:=cl
  unfold vw at h
  split at h
  ·cases h
  ·cases callee with
   | builtin bi =>
    simp only at h
    rcases sk (bi:=bi) (l:=args.toList.map ρ)with e | ⟨b,v,e,off,len,x,_,_,_,e⟩ | ⟨x,_,_,_,e⟩<;>rw[e]at h<;>cases h
   | value f=>grind
   | _=>cases h
  ·cases h
 | _ =>
  unfold vw at h
  grind
theorem I3{ρ:Operand->Option D}{st:St}{o:Oper}{A:List Nat}(h:vw c ρ st o=.wr A){qm:St}{d:Option D}(B:(qu (wR c ρ o) st).leads (d,qm)):∀ b∈A,qm[b]? = st[b]? := by
 obtain⟨dst,op,ty,pos,after,guard⟩:=o
 cases op with
 | alloc t =>
  exfalso
  unfold vw at h
  grind
 | store t a v =>
  exfalso
  unfold vw at h
  grind
 | call cl =>
  obtain⟨callee,args,te⟩:=cl
  cases callee with
  | value f =>
   have h':(wR c ρ ⟨dst,.call ⟨.value f,args,te⟩,ty,pos,after,guard⟩).kind=2/\∃ g caps l,ρ f=some (.wi g caps)/\gO (args.toList.map ρ)=some l/\A=c.free (eP g) (cj g l caps) st:=by
    unfold vw at h
    grind
   obtain⟨hk,g,caps,l,hg,MB,rfl⟩:=h'
   intro b J
   have he:wR c ρ ⟨dst,.call ⟨.value f,args,te⟩,ty,pos,after,guard⟩=fB c (ρ f) (args.toList.map ρ):=rfl
   rw[he,hg]at B hk
   simp only[fB,MB]at B hk
   split at B
   ·rename_i s hs
    rw[hs]at hk
    simp only[eV]at hk
    cases hn:(!(cj g l caps).any Kg)<;>rw[hn]at hk<;>simp[eH.kind]at hk
   ·simp only[tk,qu,T.xf]at B
    obtain⟨⟨rs,eb⟩,h1,X⟩:=B
    cases rs with
    | ret ds=>cases X; exact c.z1G _ _ _ _ _ b h1 J
    | bC p=>exact X.elim
  | builtin bi =>
   have h':bi=.append/\∃ x,args.toList.map ρ=[some .wF,some x]/\UT x=false/\A=others st.length []:=by
    unfold vw at h
    simp only at h
    split at h
    ·cases h
    ·rcases sk (bi:=bi) (l:=args.toList.map ρ) (st:=st)with e | ⟨b,v,e,off,len,x,_,_,_,e⟩ | ⟨x,h1,X,h3,e⟩<;>rw[e]at h<;>cases h
     exact⟨h1,x,X,h3,rfl⟩
    ·cases h
   obtain⟨rfl,x,U,hm,rfl⟩:=h'
   have he:wR c ρ ⟨dst,.call ⟨.builtin .append,args,te⟩,ty,pos,after,guard⟩=mo c .append te.toList (args.toList.map ρ):=rfl
   rw[he,U]at B
   intro b J
   have J:=(GM.1 J).1
   have one:∀ {e':Ty} {ys:List (den e')} {ne:Bool} {Wn:Nat},(bI e' .wF ys ne Wn st).leads (d,qm)->qm[b]? = st[b]? := by
    intro e' ys ne Wn B
    simp only[bI,r9]at B
    cases ne with
    | true=>obtain⟨_,B⟩:=B; cases B; exact zI J
    | false =>
     rcases B with⟨_,B⟩ | ⟨_,B⟩
     ·cases B; rfl
     ·obtain⟨_,B⟩:=B; cases B; exact zI J
   have snp:∀ gz,ZF gz x=.ret x:=λgz=>by cases x<;>first | rfl | cases hm
   generalize te.toList=tl at B
   rcases tl with _ | ⟨t,_ | ⟨t',_ | ⟨t'',tl⟩⟩⟩
   ·exact absurd B zj
   ·exact absurd B zj
   rotate_left
   ·exact absurd B zj
   ·
    simp only[mo]at B
    cases ht:zU t t' with
    | true =>
     rw[ht,cond_true]at B
     unfold Xg at B
     cases het:nI c t with
     | none=>rw[het]at B; exact absurd B zj
     | some et =>
      rw[het]at B
      simp only at B
      cases h1:HB c 20 et with
      | none=>rw[h1]at B; exact absurd B zj
      | some ee =>
       rw[h1]at B
       try simp only at B
       cases X:rG c et with
       | none=>rw[X]at B; exact absurd B zj
       | some bytes =>
        rw[X]at B
        simp only at B
        cases hc:cF c et ee&&qL 0 ee.size&&qL 0 bytes&&(zeroOf c et ee).isSome with
        | false=>rw[hc]at B; exact absurd B zj
        | true =>
         rw[hc,cond_true]at B
         simp only[cond_true,qu,snp,T.bind]at B
         cases x<;>simp only at B<;>first | exact B.elim | exact one B | skip
         ·split at B
          ·exact one B
          ·exact B.elim
         ·split at B
          ·exact one B
          ·exact B.elim
    | false =>
     rw[ht,cond_false]at B
     unfold Zc at B
     cases het:nI c t with
     | none=>rw[het]at B; exact absurd B zj
     | some et =>
      rw[het]at B
      simp only at B
      split at B
      ·rename_i bytes h1 X h3
       cases hc:cF c et (.int .u8)&&qL 0 bytes&&(zeroOf c et (.int .u8)).isSome with
       | false=>rw[hc]at B; exact absurd B zj
       | true =>
        rw[hc,cond_true]at B
        split at B
        ·rename_i s l e1 e2
         cases e1
         cases e2
         simp only[qu]at B
         exact one B
        ·exact absurd B zj
      ·exact absurd B zj
  | invoke r m =>
   exfalso
   unfold vw at h
   simp only at h
   split at h<;>cases h
 | _ =>
  exfalso
  unfold vw at h
  simp only at h
  split at h
  ·first
    | cases h
    | (split at h<;>cases h)
  ·cases h
  ·cases h
theorem Gy{ρ:Operand->Option D}{st:St}{o:Oper}{A:List Nat}(h:vw c ρ st o=.al A){qm:St}{d:Option D}(B:(qu (wR c ρ o) st).leads (d,qm)) :
  (∀ b∈A,qm[b]? = st[b]?)/\A=others st.length []/\∃ z,qm=st++[.var z]/\d=some (.ptr st.length 0)/\∀ gz:St,(qu (wR c ρ o) gz).leads (some (.ptr gz.length 0),gz++[.var z])/\vw c ρ gz o=.al (others gz.length []):=by
 obtain⟨dst,op,ty,pos,after,guard⟩:=o
 cases op with
 | alloc t =>
  have X:(wR c ρ ⟨dst,.alloc t,ty,pos,after,guard⟩).kind=2/\A=others st.length []:=by
   unfold vw at h
   grind
  obtain⟨hk,rfl⟩:=X
  have B:(qu (pz c t) st).leads (d,qm):=B
  unfold pz at B
  split at B
  ·rename_i z hz
   have B:(some (D.ptr st.length 0),st++[dn.var z])=(d,qm):=B
   cases B
   refine⟨λb J => ?_,rfl,z,rfl,rfl,λgz=>⟨?_,?_⟩⟩
   ·obtain⟨J,_⟩:=GM.1 J
    exact zI J
   ·show(qu (pz c t) gz).leads _
    unfold pz
    rw[hz]
    rfl
   ·unfold vw
    simp only[hk]
  ·exact absurd B zj
 | call cl =>
  exfalso
  obtain⟨callee,args,te⟩:=cl
  unfold vw at h
  cases callee with
  | builtin bi =>
   simp only at h
   split at h
   ·cases h
   ·rcases sk (bi:=bi) (l:=args.toList.map ρ)with e | ⟨b,v,e,off,len,x,_,_,_,e⟩ | ⟨x,_,_,_,e⟩<;>rw[e]at h<;>cases h
   ·cases h
  | value f=>grind
  | invoke r m=>grind
 | _ =>
  exfalso
  unfold vw at h
  grind
theorem GB{ρ:Operand->Option D}{st:St}{o:Oper}{hx:List Nat}(h:vw c ρ st o=.wc hx){qm:St}{d:Option D}(B:(qu (wR c ρ o) st).leads (d,qm)) :
  qm.length=st.length/\(∀ b,b<st.length->b ∉ hx->qm[b]? = st[b]?)/\(∀ x,(qu (wR c ρ o) (st++[x])).leads (d,qm++[x]))/\∀ gz,vw c ρ gz o=.wc hx:=by
 obtain⟨dst,op,ty,pos,after,guard⟩:=o
 cases op with
 | call cl =>
  obtain⟨callee,args,te⟩:=cl
  cases callee with
  | value f =>
   have h':(wR c ρ ⟨dst,.call ⟨.value f,args,te⟩,ty,pos,after,guard⟩).kind=2/\∃ g caps l,ρ f=some (.wi g caps)/\gO (args.toList.map ρ)=some l/\c.X3 (eP g) (cj g l caps)=some hx:=by
    unfold vw at h
    grind
   obtain⟨hk,g,caps,l,hg,MB,hU⟩:=h'
   have nN:=hk
   have he:wR c ρ ⟨dst,.call ⟨.value f,args,te⟩,ty,pos,after,guard⟩=fB c (ρ f) (args.toList.map ρ):=rfl
   rw[he,hg]at B hk
   simp only[fB,MB]at B hk
   split at B
   ·rename_i s hs
    rw[hs]at hk
    simp only[eV]at hk
    cases hn:(!(cj g l caps).any Kg)<;>rw[hn]at hk<;>simp[eH.kind]at hk
   ·rename_i hs
    simp only[tk,qu,T.xf]at B
    obtain⟨⟨rs,eb⟩,h1,X⟩:=B
    cases rs with
    | bC p=>exact X.elim
    | ret ds =>
     cases X
     obtain⟨q1,q2,q3⟩:=c.Sh _ _ _ _ _ _ hU h1
     refine⟨q1,q2,λx => ?_,λgz => ?_⟩
     ·rw[he,hg]
      simp only[fB,MB,hs]
      simp only[tk,qu,T.xf]
      exact⟨_,q3 x,rfl⟩
     ·unfold vw
      rw[nN]
      simp only[hg,MB,hU]
  | builtin bi =>
   exfalso
   unfold vw at h
   simp only at h
   split at h
   ·cases h
   ·rcases sk (bi:=bi) (l:=args.toList.map ρ)with e | ⟨b,v,e,off,len,x,_,_,_,e⟩ | ⟨x,_,_,_,e⟩<;>rw[e]at h<;>cases h
   ·cases h
  | invoke r m =>
   exfalso
   unfold vw at h
   grind
 | _ =>
  exfalso
  unfold vw at h
  grind
theorem GA{ρ:Operand->Option D}{st:St}{o:Oper}{b:Nat}(h:vw c ρ st o=.rd b){eb Br:St}{d:Option D}(B:(qu (wR c ρ o) eb).leads (d,Br)):b<eb.length:=by
 rcases qH b eb.length with g | g
 ·exact g
 ·exfalso
  have hn:eb[b]? = none:=qJ g
  obtain⟨dst,op,ty,pos,after,guard⟩:=o
  cases op with
  | load t a =>
   have h':(∃ off,ρ a=some (.ptr b off))\/∃ v e i off,ρ a=some (.gU b v e i off):=by
    unfold vw at h
    simp only at h
    split at h
    ·split at h
     ·rename_i b' ha; cases h; exact E4 ha
     ·cases h
    ·cases h
    ·cases h
   have he:wR c ρ ⟨dst,.load t a,ty,pos,after,guard⟩=VK c t (ρ a):=rfl
   rcases h' with⟨off,ha⟩ | ⟨v,e,i,off,ha⟩
   all_goals
    rw[he,ha]at B
    simp only[VK]at B
    rw[so]at B
    simp only[hn]at B
    exact B.1.elim
  | call cl =>
   obtain⟨callee,args,te⟩:=cl
   unfold vw at h
   split at h
   ·cases h
   ·cases callee with
    | builtin bi =>
     simp only at h
     rcases sk (bi:=bi) (l:=args.toList.map ρ)with e | ⟨b,v,e,off,len,x,_,_,_,e⟩ | ⟨x,_,_,_,e⟩<;>rw[e]at h<;>cases h
    | value f=>grind
    | _=>cases h
   ·cases h
  | _ =>
   unfold vw at h
   grind
theorem UU{ρ:Operand->Option D}{st:St}{o:Oper}{b:Nat}(h:vw c ρ st o=.up b){eb Br:St}{d:Option D}(B:(qu (wR c ρ o) eb).leads (d,Br)) :
  ∃ y,Br=eb.set b y/\∀ gz:St,gz[b]? = eb[b]? -> (qu (wR c ρ o) gz).leads (d,gz.set b y):=by
 obtain⟨dst,op,ty,pos,after,guard⟩:=o
 cases op with
 | store t a v =>
  have h':(∃ off,ρ a=some (.ptr b off))\/∃ v e i off,ρ a=some (.gU b v e i off):=by
   unfold vw at h
   simp only at h
   split at h
   ·cases h
   ·split at h
    ·rename_i b ha; cases h; exact E4 ha
    ·cases h
   ·cases h
  have he:wR c ρ ⟨dst,.store t a v,ty,pos,after,guard⟩=YP c t (ρ a) (ρ v):=rfl
  rw[he]at B ⊢
  cases hv:ρ v with
  | none =>
   rw[hv]at B
   rcases h' with⟨off,ha⟩ | ⟨w,e,i,off,ha⟩<;>(rw[ha]at B; exact absurd B zj)
  | some x =>
   rw[hv]at B
   rcases h' with⟨off,ha⟩ | ⟨w,e,i,off,ha⟩
   ·rw[ha]at B ⊢
    have B:(match eb[b]? with
     | some (.var d)=>match Bi c t d off x with | some r=>bif Qo d r then T.ret ((none:Option D),eb.set b (.var r))else .fail | none=>.fail
     | _=>.fail:T (Option D×St)).leads (d,Br):=B
    split at B
    ·rename_i d0 J
     split at B
     ·rename_i r hr
      cases ho:Qo d0 r with
      | false=>rw[ho]at B; exact B.elim
      | true =>
       rw[ho]at B
       cases B
       refine⟨.var r,rfl,λgz X => ?_⟩
       show(match gz[b]? with
        | some (.var d)=>match Bi c t d off x with | some r=>bif Qo d r then T.ret ((none:Option D),gz.set b (.var r))else .fail | none=>.fail
        | _=>.fail:T (Option D×St)).leads _
       rw[X,J]
       simp only[hr,ho,cond_true]
       rfl
     ·exact B.elim
    ·exact B.elim
   ·rw[ha]at B ⊢
    have B:(match eb[b]? with
     | some (.arr ef e' xs)=>bif decide (e'=e)then
       .zl (w=ef/\i<xs.length) (match Bi c t (.qj e' (xs.getD i (zb e'))) off x with
        | some r=>match pA e' r with | some y=>T.ret ((none:Option D),eb.set b (.arr ef e' (xs.set i y))) | none=>.fail
        | none=>.fail)
      else .fail
     | _=>.fail:T (Option D×St)).leads (d,Br):=B
    split at B
    ·rename_i ef e' xs J
     cases V:decide (e'=e)with
     | false=>rw[V]at B; exact B.elim
     | true =>
      rw[V,cond_true]at B
      obtain⟨ho,B⟩:=B
      split at B
      ·rename_i r hr
       split at B
       ·rename_i y hy
        cases B
        refine⟨.arr ef e' (xs.set i y),rfl,λgz X => ?_⟩
        show(match gz[b]? with
         | some (.arr ef e' xs)=>bif decide (e'=e)then
           .zl (w=ef/\i<xs.length) (match Bi c t (.qj e' (xs.getD i (zb e'))) off x with
            | some r=>match pA e' r with | some y=>T.ret ((none:Option D),gz.set b (.arr ef e' (xs.set i y))) | none=>.fail
            | none=>.fail)
          else .fail
         | _=>.fail:T (Option D×St)).leads _
        rw[X,J]
        simp only[V,cond_true,hr,hy]
        exact⟨ho,rfl⟩
       ·exact B.elim
      ·exact B.elim
    ·exact B.elim
 | call cl =>
  obtain⟨callee,args,te⟩:=cl
  cases callee with
  | builtin bi =>
   have h':bi=.append/\∃ v e off len x,args.toList.map ρ=[some (.ms b v e off len),some x]/\UT x=false:=by
    unfold vw at h
    simp only at h
    split at h
    ·cases h
    ·rcases sk (bi:=bi) (l:=args.toList.map ρ) (st:=st)with e | ⟨b',v,e,off,len,x,h1,X,h3,e'⟩ | ⟨x,h1,X,h3,e'⟩
     ·grind
     ·rw[e']at h; cases h; exact⟨h1,v,e,off,len,x,X,h3⟩
     ·rw[e']at h; cases h
    ·cases h
   obtain⟨rfl,v,e,off,len,x,U,hm⟩:=h'
   have he:wR c ρ ⟨dst,.call ⟨.builtin .append,args,te⟩,ty,pos,after,guard⟩=mo c .append te.toList (args.toList.map ρ):=rfl
   rw[he,U]at B ⊢
   -- what the row gets
   have one:∀ {e':Ty} {ys:List (den e')} {ne:Bool} {Wn:Nat},(bI e' (.ms b v e off len) ys ne Wn eb).leads (d,Br)->∃ y,Br=eb.set b y/\∀ gz:St,gz[b]? = eb[b]? -> (bI e' (.ms b v e off len) ys ne Wn gz).leads (d,gz.set b y):=by
    intro e' ys ne Wn B
    simp only[bI]at B
    split at B
    ·rename_i ef e'' xs J
     split at B
     ·rename_i zs hz
      cases V:decide (e=e')with
      | false=>rw[V]at B; exact B.elim
      | true =>
       rw[V,cond_true]at B
       obtain⟨ho,B⟩:=B
       cases B
       refine⟨_,rfl,λgz X => ?_⟩
       simp only[bI]
       rw[X,J]
       simp only[hz,V,cond_true]
       exact⟨ho,rfl⟩
     ·exact B.elim
    ·exact B.elim
   have snp:∀ gz,ZF gz x=.ret x:=λgz=>by cases x<;>first | rfl | cases hm
   generalize te.toList=tl at B ⊢
   rcases tl with _ | ⟨t,_ | ⟨t',_ | ⟨t'',tl⟩⟩⟩
   ·exact absurd B zj
   ·exact absurd B zj
   rotate_left
   ·exact absurd B zj
   ·
    simp only[mo]at B ⊢
    cases ht:zU t t' with
    | true =>
     rw[ht,cond_true]at B
     simp only[cond_true]
     unfold Xg at B ⊢
     cases het:nI c t with
     | none=>rw[het]at B; exact absurd B zj
     | some et =>
      rw[het]at B
      simp only at B ⊢
      cases h1:HB c 20 et with
      | none=>rw[h1]at B; exact absurd B zj
      | some ee =>
       rw[h1]at B
       try simp only at B ⊢
       cases X:rG c et with
       | none=>rw[X]at B; exact absurd B zj
       | some bytes =>
        rw[X]at B
        simp only at B ⊢
        cases hc:cF c et ee&&qL 0 ee.size&&qL 0 bytes&&(zeroOf c et ee).isSome with
        | false=>rw[hc]at B; exact absurd B zj
        | true =>
         rw[hc,cond_true]at B
         simp only[cond_true,qu,snp,T.bind]at B ⊢
         cases x<;>simp only at B ⊢ <;> first | exact B.elim | exact one B | skip
         ·split at B
          ·exact one B
          ·exact B.elim
         ·split at B
          ·exact one B
          ·exact B.elim
    | false =>
     rw[ht,cond_false]at B
     simp only[cond_false]
     unfold Zc at B ⊢
     cases het:nI c t with
     | none=>rw[het]at B; exact absurd B zj
     | some et =>
      rw[het]at B
      simp only at B ⊢
      split at B
      ·rename_i bytes h1 X h3
       cases hc:cF c et (.int .u8)&&qL 0 bytes&&(zeroOf c et (.int .u8)).isSome with
       | false=>rw[hc]at B; exact absurd B zj
       | true =>
        rw[hc,cond_true]at B
        simp only[cond_true]
        split at B
        ·rename_i s l e1 e2
         cases e1
         cases e2
         simp only[qu]at B ⊢
         exact one B
        ·exact absurd B zj
      ·exact absurd B zj
  | _ =>
   exfalso
   unfold vw at h
   simp only at h
   split at h
   ·cases h
   ·first | cases h | (split at h<;>first | cases h | (split at h<;>cases h))
   ·cases h
 | _ =>
  exfalso
  unfold vw at h
  simp only at h
  split at h
  ·first
    | cases h
    | (split at h<;>cases h)
  ·cases h
  ·cases h
theorem Co:∀ (l:List Nat) (s s':F×St) (ks:List RK),NX c n ops l s s' ks->ks.length=l.length
 | [],_,_,_,h=>by rw[h.2]; rfl
 | i::l,s,s',ks,⟨s1,k,MI,e,h1,X⟩=>by subst e; simp[Co l s1 s' MI X]
theorem XJ{ρ:Operand->Option D}{st:St}{o:Oper}{b:Nat}(h:vw c ρ st o=.up b)(qm:St):vw c ρ qm o=.up b:=by
 obtain⟨dst,op,ty,pos,after,guard⟩:=o
 cases op with
 | alloc t =>
  unfold vw at h
  grind
 | call cl =>
  obtain⟨callee,args,te⟩:=cl
  cases callee with
  | value f =>
   unfold vw at h
   grind
  | builtin bi =>
   unfold vw at h ⊢
   simp only at h ⊢
   unfold C0 at h ⊢
   grind
  | _=>exact h
 | _=>exact h
def zcD(ops:Array Oper)(kd:Nat->RK)(p i:Nat):Prop:=∀ x y,ops[p]? = some x->ops[i]? = some y ->
 (∀ d,x.dst=some d->d ∉ tmpsOf ops y)/\(∀ d,y.dst=some d->d ∉ tmpsOf ops x)/\yS (kd p) (kd i)=false
theorem Wy{f:F}{o:Oper}{dst:Option Nat}{d:Option D}{st:St}(h:∀ t,dst=some t->t ∉ tmpsOf ops o):vw c (wA (eG f dst d)) st o=vw c (wA f) st o:=by
 have e1:wR c (wA (eG f dst d)) o=wR c (wA f) o:=dK h
 have e2:∀ x∈o.op.operands,wA (eG f dst d) x=wA f x:=λx U=>BP λt ht e=>h t ht (XP (ops:=ops) (e▸U))
 obtain⟨dd,op,ty,pos,after,guard⟩:=o
 unfold vw
 rw[e1]
 cases op with
 | load t a=>simp only[e2 a (by simp[zA])]
 | store t a v=>simp only[e2 a (by simp[zA])]
 | call cl =>
  obtain⟨callee,args,te⟩:=cl
  cases callee with
  | value g =>
   have fV:args.toList.map (wA (eG f dst d))=args.toList.map (wA f):=zM λx U=>e2 x (by simp[zA,qK,zG.1 U])
   simp only[fV,e2 g (by simp[zA,qK])]
  | builtin bi =>
   have fV:args.toList.map (wA (eG f dst d))=args.toList.map (wA f):=zM λx U=>e2 x (by simp[zA,qK,zG.1 U])
   grind
  | _=>rfl
 | _=>rfl
theorem Ns{kd:Nat->RK}{p i:Nat}(hi:zcD ops kd p i){s s1 s2:F×St}(h1:og c n ops p s s1 (kd p))(X:og c n ops i s1 s2 (kd i)) :
  ∃ s',og c n ops i s s' (kd i)/\og c n ops p s' s2 (kd p):=by
 obtain⟨x,U,hdx,HQ⟩:=h1
 obtain⟨y,hy,hdy,hy'⟩:=X
 obtain⟨a1,a2,a3⟩:=hi x y U hy
 have hdd:∀ t,x.dst=some t->y.dst≠some t:=λt ht e=>a1 t ht (eD e)
 obtain⟨f,st⟩:=s
 rcases HQ with⟨hw,hk,d,eb,B,rfl⟩ | ⟨hw,hk,rfl⟩
 ·rcases hy' with⟨UQ,nN,e,gz,Qd,rfl⟩ | ⟨UQ,nN,rfl⟩
  ·simp only[jL a1,dK (c:=c) a1,Wy (c:=c) a1]at UQ nN Qd
   simp only at hw hk B
   -- the two meet nowhere in the store
   have key:∃ qm,(qu (wR c (wA f) y) st).leads (e,qm)/\(qu (wR c (wA f) x) qm).leads (d,gz)/\vw c (wA f) st y=kd i/\vw c (wA f) qm x=kd p:=by
    have bx:=Gz (c:=c) (wA f) st x
    have Wn:=Gz (c:=c) (wA f) eb y
    rw[<- hk]at bx
    rw[<- nN]at Wn
    rcases qH (wR c (wA f) x).kind 2 with DE | DE
    ·-- x writes nothing
     have e1:=nQ (Z) B
     subst e1
     refine⟨gz,Qd,?_,nN.symm,(KI (Z) gz eb).trans hk.symm⟩
     rcases qH (wR c (wA f) y).kind 2 with hy2 | hy2
     ·have e2:=nQ (Z) Qd
      grind
     ·have hy3:(wR c (wA f) y).kind=2:=qC (UW _) hy2
      cases hp:kd p with
      | rd b =>
       cases hq:kd i with
       | wr A =>
        rw[hp,hq]at a3
        simp only[yS,qD,zO]at a3
        obtain⟨b',Yi,Mt⟩:=a3
        have:=Y Mt
        subst this
        exact nO (by rw[<- hk]; exact hp) B (I3 (by rw[<- nN]; exact hq) Qd b Yi)
       | al A =>
        rw[hp,hq]at a3
        simp only[yS,qD,zO]at a3
        obtain⟨b',Yi,Mt⟩:=a3
        have:=Y Mt
        subst this
        exact nO (by rw[<- hk]; exact hp) B ((Gy (by rw[<- nN]; exact hq) Qd).1 b Yi)
       | wc hx =>
        rw[hp,hq]at a3
        have hbu:b ∉ hx:=λhm=>by
         simp only[yS,qQ]at a3
         exact a3 b hm (Nat.beq_refl b)
        exact nO (by rw[<- hk]; exact hp) B ((GB (by rw[<- nN]; exact hq) Qd).2.1 b (GA (by rw[<- hk]; exact hp) B) hbu)
       | rd b'=>rw[hq]at Wn; simp[RK.base]at Wn; omega
       | z k=>rw[hp,hq]at a3; rw[hq,hy3]at Wn; simp only[RK.base]at Wn; subst Wn; simp[yS,cq,RK.base]at a3
       | up a =>
        rw[hp,hq]at a3
        have hab:a≠b:=λe=>by subst e; simp[yS]at a3
        obtain⟨z,e1,_⟩:=UU (by rw[<- nN]; exact hq) Qd
        subst e1
        exact nO (by rw[<- hk]; exact hp) B (by rw[zE hab])
      | wr A=>rw[hp]at bx; simp[RK.base]at bx; omega
      | al A=>rw[hp]at bx; simp[RK.base]at bx; omega
      | wc A=>rw[hp]at bx; simp[RK.base]at bx; omega
      | up A=>rw[hp]at bx; simp[RK.base]at bx; omega
      | z k =>
       rw[hp]at bx
       simp only[RK.base]at bx
       have EF:k=0:=by
        cases hq:kd i with
        | wr A =>
         rw[hp,hq]at a3
         simp only[yS,RK.base,cq]at a3
         cases k with
         | zero=>rfl
         | succ m=>simp at a3
        | al A =>
         rw[hp,hq]at a3
         simp only[yS,RK.base,cq]at a3
         cases k with
         | zero=>rfl
         | succ m=>simp at a3
        | wc A =>
         rw[hp,hq]at a3
         simp only[yS,RK.base,cq]at a3
         cases k with
         | zero=>rfl
         | succ m=>simp at a3
        | rd b'=>rw[hq]at Wn; simp[RK.base]at Wn; omega
        | z k' =>
         rw[hq,hy3]at Wn
         simp only[RK.base]at Wn
         subst Wn
         rw[hp,hq]at a3
         simp only[yS,RK.base,cq]at a3
         cases k with
         | zero=>rfl
         | succ m=>simp at a3
        | up A =>
         rw[hp,hq]at a3
         simp only[yS,RK.base,cq]at a3
         cases k with
         | zero=>rfl
         | succ m=>simp at a3
       subst EF
       exact(tF bx.symm B).2 gz
    ·have hx3:(wR c (wA f) x).kind=2:=qC (UW _) DE
     -- x writes
     rcases qH (wR c (wA f) y).kind 2 with hy2 | hy2
     ·have e2:=nQ (Z) Qd
      subst e2
      refine⟨st,?_,B,(KI (Z) st gz).trans nN.symm,hk.symm⟩
      cases hq:kd i with
      | wr A=>rw[hq]at Wn; simp[RK.base]at Wn; omega
      | al A=>rw[hq]at Wn; simp[RK.base]at Wn; omega
      | wc A=>rw[hq]at Wn; simp[RK.base]at Wn; omega
      | up A=>rw[hq]at Wn; simp[RK.base]at Wn; omega
      | rd b =>
       cases hp:kd p with
       | wr A =>
        rw[hp,hq]at a3
        simp only[yS,qD,zO]at a3
        obtain⟨b',Yi,Mt⟩:=a3
        have:=Y Mt
        subst this
        exact nO (st:=gz) (by rw[<- nN]; exact hq) Qd (I3 (by rw[<- hk]; exact hp) B b Yi).symm
       | al A =>
        rw[hp,hq]at a3
        simp only[yS,qD,zO]at a3
        obtain⟨b',Yi,Mt⟩:=a3
        have:=Y Mt
        subst this
        exact nO (st:=gz) (by rw[<- nN]; exact hq) Qd ((Gy (by rw[<- hk]; exact hp) B).1 b Yi).symm
       | wc hx =>
        rw[hp,hq]at a3
        have hbu:b ∉ hx:=λhm=>by
         simp only[yS,qQ]at a3
         exact a3 b hm (Nat.beq_refl b)
        obtain⟨q1,q2,_⟩:=GB (by rw[<- hk]; exact hp) B
        have wO:=GA (by rw[<- nN]; exact hq) Qd
        exact nO (st:=gz) (by rw[<- nN]; exact hq) Qd (q2 b (Z) hbu).symm
       | up a =>
        rw[hp,hq]at a3
        have hab:a≠b:=λe=>by subst e; simp[yS]at a3
        obtain⟨z,e1,_⟩:=UU (by rw[<- hk]; exact hp) B
        subst e1
        exact nO (st:=st.set a z) (by rw[<- nN]; exact hq) Qd (by rw[zE hab])
       | rd b'=>rw[hp]at bx; simp[RK.base]at bx; omega
       | z k=>rw[hp]at bx; simp only[RK.base]at bx; rw[hx3]at bx; subst bx; rw[hp,hq]at a3; simp[yS,RK.base,cq]at a3
      | z k =>
       rw[hq]at Wn
       simp only[RK.base]at Wn
       have EF:k=0:=by
        have a4:yS (kd p) (.z k)=false:=by rw[hq]at a3; exact a3
        have a5:cq 2 k=false:=by
         cases hp:kd p with
         | wr A=>rw[hp]at a4; exact a4
         | al A=>rw[hp]at a4; exact a4
         | wc A=>rw[hp]at a4; exact a4
         | up A=>rw[hp]at a4; exact a4
         | rd b'=>rw[hp]at bx; simp[RK.base]at bx; omega
         | z k'=>rw[hp]at bx a4; simp only[RK.base]at bx; rw[hx3]at bx; subst bx; exact a4
        cases k with
        | zero=>rfl
        | succ m=>simp[cq]at a5
       subst EF
       exact(tF Wn.symm Qd).2 st
     ·have hy3:(wR c (wA f) y).kind=2:=qC (UW _) hy2
      -- both write: one block each
      have hup:(∃ a b,kd p=.up a/\kd i=.up b/\a≠b)\/∃ hx A,kd p=.wc hx/\kd i=.al A:=by
       rw[hx3]at bx
       rw[hy3]at Wn
       cases hp:kd p<;>cases hq:kd i<;>rw[hp,hq]at a3<;>rw[hp]at bx<;>rw[hq]at Wn<;>simp only[RK.base]at bx Wn <;>
        first
         | exact .inr ⟨_,_,rfl,rfl⟩
         | exact .inl ⟨_,_,rfl,rfl,λe=>by subst e; simp[yS]at a3⟩
         | (exfalso; omega)
         | (exfalso; subst bx; simp[yS,RK.base,cq]at a3; done)
         | (exfalso; subst Wn; simp[yS,RK.base,cq]at a3; done)
         | (exfalso; simp[yS,RK.base,cq]at a3; done)
         | (exfalso; subst bx Wn; simp[yS,RK.base,cq]at a3; done)
      rcases hup with hup | ⟨hx,A,hp,hq⟩
      rotate_left
      ·obtain⟨q1,q2,q3,q4⟩:=GB (by rw[<- hk]; exact hp) B
       obtain⟨_,r2,z,r3,r4,r5⟩:=Gy (by rw[<- nN]; exact hq) Qd
       subst r3 r4
       refine⟨st++[.var z],?_,q3 _,?_,(q4 _).trans hp.symm⟩
       ·rw[q1]; exact(r5 st).1
       ·rw[(r5 st).2,hq,r2,q1]
      obtain⟨a,b,hp,hq,hab⟩:=hup
      obtain⟨z1,e1,w1⟩:=UU (by rw[<- hk]; exact hp) B
      subst e1
      obtain⟨z2,e2,w2⟩:=UU (by rw[<- nN]; exact hq) Qd
      subst e2
      refine⟨st.set b z2,w2 st (by rw[zE hab]),?_,(XJ (by rw[<- nN]; exact hq) st).trans hq.symm,(XJ (by rw[<- hk]; exact hp) _).trans hp.symm⟩
      rw[List.set_comm _ _ hab]
      exact w1 (st.set b z2) (by rw[zE (λe=>hab e.symm)])
   obtain⟨qm,k1,k2,k3,k4⟩:=key
   refine⟨_,⟨y,hy,hdy,.inl ⟨UQ,k3.symm,e,_,k1,rfl⟩⟩,x,U,hdx,.inl ⟨?_,?_,d,gz,?_,?_⟩⟩
   ·rw[jL a2]; exact hw
   ·rw[Wy (c:=c) a2]; exact k4.symm
   ·rw[dK (c:=c) a2]; exact k2
   ·simp only[ig f d e hdd]
  ·simp only[jL a1]at UQ
   refine⟨_,⟨y,hy,hdy,.inr ⟨UQ,nN,rfl⟩⟩,x,U,hdx,.inl ⟨?_,?_,d,eb,?_,?_⟩⟩
   ·rw[jL a2]; exact hw
   ·rw[Wy (c:=c) a2]; exact hk
   ·rw[dK (c:=c) a2]; exact B
   ·simp only[ig f d (some und) hdd]
 ·rcases hy' with⟨UQ,nN,e,gz,Qd,rfl⟩ | ⟨UQ,nN,rfl⟩
  ·simp only[jL a1,dK (c:=c) a1,Wy (c:=c) a1]at UQ nN Qd
   refine⟨_,⟨y,hy,hdy,.inl ⟨UQ,nN,e,gz,Qd,rfl⟩⟩,x,U,hdx,.inr ⟨?_,hk,?_⟩⟩
   ·rw[jL a2]; exact hw
   ·simp only[ig f (some und) e hdd]
  ·simp only[jL a1]at UQ
   refine⟨_,⟨y,hy,hdy,.inr ⟨UQ,nN,rfl⟩⟩,x,U,hdx,.inr ⟨?_,hk,?_⟩⟩
   ·rw[jL a2]; exact hw
   ·simp only[ig f (some und) (some und) hdd]
end
class BB where
 df:List Deferred
instance Gf:BB:=⟨[]⟩
variable [BB]
structure Rel(O:KS)(n:Nat)(f:F)(a:Act):Prop where
 size:a.tmps.size=n
 defers:a.defers=BB.df
 get:∀ (s:Nat) (d:D),f s=some d->∃ v,a.tmps[s]? = some v/\RD O d v
section
variable {c:Ctx} {O:KS} {n:Nat} {f:F} {a:Act}
theorem Rel.eval(h:Rel O n f a){x:Operand}{d:D}(U:wA f x=some d):RD O d (a.eval x):=by
 cases x with
 | tmp t =>
  obtain⟨v,h1,X⟩:=h.get t d U
  simp only[Act.eval,zY,h1]
  exact X
 | const v=>exact(GY U).1
 | global g=>cases U
 | func g =>
  have U:(bif qL g 1000000 then some (D.wi g [])else none)=some d:=U
  cases J:qL g 1000000 with
  | false=>grind
  | true =>
   rw[J]at U
   cases U
   have:=RD.wi (O:=O) g [] [] rfl (λi h=>absurd h (qN i))
   rwa [D9 J]at this
theorem Rel.mono{E:KS}(x:Ext O E)(h:Rel O n f a):Rel E n f a:=⟨h.size,h.defers,λs d V=>by obtain⟨v,h1,X⟩:=h.get s d V; exact⟨v,h1,X.mono x⟩⟩
theorem Rel.put{dst:Option Nat}{d:Option D}{v:Value}(h:Rel O n f a)(V:gA n dst=true)(hv:∀ d',d=some d'->RD O d' v):Rel O n (eG f dst d) (a.put dst v):=by
 cases dst with
 | none=>exact h
 | some t =>
  have wO:t<n:=I V
  refine⟨by simp[qW,h.size],h.defers,λs d' hs => ?_⟩
  simp only[eG]at hs
  simp only[qW]
  by_cases e:s=t
  ·subst e
   rw[if_pos rfl]at hs
   exact⟨v,by simp[h.size,wO],hv d' hs⟩
  ·rw[if_neg e]at hs
   obtain⟨u,h1,X⟩:=h.get s d' hs
   grind
theorem z4J{v:Value}:RD O und undef:=.fj [] [] rfl (λi h=>absurd h (qN i))
theorem zac{o:Oper}{d:Option D}{qm:St}(h:wy c.P (execOp a.eval o) O d qm){K:Act->World->Prop}{Q:Exit->Act->World->Prop}
  (hK:∀ (v:Value) (E:KS),E.st=qm->Inv E->Ext O E->(∀ d',d=some d'->RD E d' v)->K (a.put o.dst v) E.w):o.wp c.P a O.w K Q:=by
 obtain⟨E,nx,v,h1,X,h3,h4,h5,h6⟩:=h
 unfold Oper.wp
 rw[h1]
 rcases X with rfl | ⟨rfl,rfl⟩
 ·exact hK v E h3 h4 h5 h6
 ·exact hK undef E h3 h4 h5 h6
theorem N0(h:Rel O n f a)(x:Option Operand):Ks O (x.map (wA f)) (x.map a.eval):=by
 cases x with
 | none=>trivial
 | some x=>exact λy hy=>h.eval hy
theorem D5(hI:Inv O)(hR:Rel O n f a){b:Builtin}{args:Array Operand}{te:Array TypeId}{o:Oper}(ho:o.op=.call ⟨.builtin b,args,te⟩){d:Option D}{qm:St}
  (h:(qu (mo c b te.toList (args.toList.map (wA f))) O.st).leads (d,qm)):wy c.P (execOp a.eval o) O d qm:=by
 have two:∀ {g:Value->Value->Sem Value} {m:Int->Int->Int},(∀ k k' a b,(g (.int k a) (.int k' b)).run c.P O.w=.ok (.int k (m a b)) O.w)->(qu (GO m (args.toList.map (wA f))) O.st).leads (d,qm) ->
   (∀ p q,args = #[p,q]->execOp a.eval o=(do xG (.value (<- g (a.eval p) (a.eval q))):Sem Next))->wy c.P (execOp a.eval o) O d qm:=by
  intro g m hg h he
  match B:args.toList,h with
  | [p,q],h =>
   have hpq:args = #[p,q]:=by rw[<- zR (xs:=args),B]
   rw[he p q hpq]
   obtain⟨r,h1,rfl,h3⟩:=MN hg hI (λz hz=>hR.eval (x:=p) hz) (λz hz=>hR.eval (x:=q) hz) h
   exact⟨O,.value r,r,by simp[h1],.inl rfl,rfl,hI,Ext.refl O,h3⟩
  | [],h=>exact absurd h zj
  | [_],h=>exact absurd h zj
  | _::_::_::_,h=>exact absurd h zj
 unfold mo at h
 split at h
 ·rename_i t ts x xs h1 X
  have ht:te[0]? = some t:=by rw[<- qI,h1]; rfl
  obtain⟨y,hy,rfl⟩:∃ y,args[0]? = some y/\x=wA f y:=by
   cases B:args.toList with
   | nil=>grind
   | cons y ys=>rw[B]at X; simp at X; exact⟨y,by rw[<- qI,B]; rfl,X.1.symm⟩
  have:=z8s (c:=c) (ty:=o.type) (ts:=te) (vs:=args.map a.eval) hI (λz hz=>hR.eval (x:=y) hz) ht (by simp[hy]) h
  simp only[execOp,ho,resolve,invoke,builtin,pure_bind]
  exact this
 ·rename_i t t' s x h1 X
  obtain⟨p,q,rfl,rfl,hpq⟩:∃ p q,s=wA f p/\x=wA f q/\args = #[p,q]:=by
   cases B:args.toList with
   | nil=>grind
   | cons p r=>rw[B]at X; cases r with
    | nil=>simp at X
    | cons q r=>cases r with
     | nil=>grind
     | cons _ _=>simp at X
  subst hpq
  cases J:zU t t' with
  | false =>
   rw[J,cond_false]at h
   have z2E:te = #[t,t']:=by rw[<- zR (xs:=te),h1]
   subst z2E
   have:=YZ (c:=c) (ty:=o.type) hI (λz hz=>hR.eval (x:=p) hz) (λz hz=>hR.eval (x:=q) hz) h
   have e2:(#[p,q]:Array Operand).map a.eval = #[a.eval p,a.eval q]:=qw
   simp only[execOp,ho,resolve,invoke,builtin,pure_bind,e2]
   exact this
  | true =>
   rw[J,cond_true]at h
   have e:=Y J
   subst e
   have z2E:te = #[t,t]:=by rw[<- zR (xs:=te),h1]
   subst z2E
   have:=F1 (c:=c) (ty:=o.type) hI (λz hz=>hR.eval (x:=p) hz) (λz hz=>hR.eval (x:=q) hz) h
   have e2:(#[p,q]:Array Operand).map a.eval = #[a.eval p,a.eval q]:=qw
   simp only[execOp,ho,resolve,invoke,builtin,pure_bind,e2]
   exact this
 ·rename_i t t' s x h1 X
  obtain⟨p,q,rfl,rfl,hpq⟩:∃ p q,s=wA f p/\x=wA f q/\args = #[p,q]:=by
   cases B:args.toList with
   | nil=>grind
   | cons p r=>rw[B]at X; cases r with
    | nil=>simp at X
    | cons q r=>cases r with
     | nil=>simp at X; exact⟨p,q,X.1.symm,X.2.symm,by rw[<- zR (xs:=args),B]⟩
     | cons _ _=>simp at X
  subst hpq
  have z2E:te = #[t,t']:=by rw[<- zR (xs:=te),h1]
  subst z2E
  have:=T7 (c:=c) (ty:=o.type) (t':=t') hI (λz hz=>hR.eval (x:=p) hz) (λz hz=>hR.eval (x:=q) hz) h
  have e2:(#[p,q]:Array Operand).map a.eval = #[a.eval p,a.eval q]:=qw
  simp only[execOp,ho,resolve,invoke,builtin,pure_bind,e2]
  exact this
 ·rename_i X
  exact two (g:=Builtin.min2) (λk k' a b=>by simp[Builtin.min2,V9]) h λp q hpq=>by
   subst hpq
   have e2:(#[p,q]:Array Operand).map a.eval = #[a.eval p,a.eval q]:=qw
   simp only[execOp,ho,resolve,invoke,builtin,pure_bind,e2]
   simp[Builtin.min_]
 ·rename_i X
  exact two (g:=Builtin.max2) (λk k' a b=>by simp[Builtin.max2,iA]) h λp q hpq=>by
   subst hpq
   have e2:(#[p,q]:Array Operand).map a.eval = #[a.eval p,a.eval q]:=qw
   simp only[execOp,ho,resolve,invoke,builtin,pure_bind,e2]
   simp[Builtin.max_]
 ·exact absurd h zj
theorem z7h{o:Oper}{g:Nat}{caps:Array Value}{args:Array Value}{zD:Ending->World->Prop}(jT:(execOp a.eval o).run c.P O.w=(callFunc g args).run c.P O.w)
  (h:gM c.P g args O.w zD) {K:Act->World->Prop} {Q:Exit->Act->World->Prop} (hR:∀ e w',zD e w'->∃ v,e=.returned v/\K (a.put o.dst v) w'):o.wp c.P a O.w K Q:=by
 unfold Oper.wp
 rw[jT]
 rcases h with⟨h1,X⟩ | ⟨v,w',h1,X⟩
 ·rw[h1]
  refine X.mono λe w' he => ?_
  grind
 ·rw[h1]
  obtain⟨u,hu,hk⟩:=hR _ _ X
  cases hu
  exact hk
theorem G9(g:Nat){l caps:List D}{vs us:List Value}(h1:wP O l vs)(X:wP O caps us):wP O (cj g l caps) (cj g vs us):=by
 unfold cj
 cases Nat.ble 1000000 g with
 | true=>exact X.append h1
 | false=>exact h1.append X
theorem Fb{dst:Option Nat}{p:Operand}{args:Array Operand}{te:Array TypeId}{ty:TypeId}{pos:String}{after:Array Edge}{guard:Option (Nat×Bool)}{g:Nat}{us:List Value}{P:Program}{w:World}(FX:a.eval p=X8 g us) :
  (execOp a.eval ⟨dst,.call ⟨.value p,args,te⟩,ty,pos,after,guard⟩).run P w=(callFunc (eP g) (cj g (args.toList.map a.eval) us).toArray).run P w:=by
 unfold X8 at FX
 unfold eP cj
 cases J:Nat.ble 1000000 g with
 | true =>
  rw[J]at FX
  simp at FX ⊢
  have e:us.toArray++args.map a.eval=(us++args.toList.map a.eval).toArray:=by apply qP; simp
  simp only[execOp,resolve,FX,xE,pure_bind,invoke,Array.append_empty,e]
 | false =>
  rw[J]at FX
  simp at FX ⊢
  have e:args.map a.eval++us.toArray=(args.toList.map a.eval++us).toArray:=by apply qP; simp
  simp only[execOp,resolve,FX,xE,pure_bind,invoke,Array.empty_append,e]
theorem Ix{o:Oper}{d:Option D}{qm:St}(hC:∀ g,EC c.P g (c.fn g))(hI:Inv O)(hR:Rel O n f a)(h:(qu (wR c (wA f) o) O.st).leads (d,qm)){K:Act->World->Prop}{Q:Exit->Act->World->Prop}
  (hK:∀ (v:Value) (E:KS),E.st=qm->Inv E->Ext O E->(∀ d',d=some d'->RD E d' v)->K (a.put o.dst v) E.w):o.wp c.P a O.w K Q:=by
 have mb:∀ (x:Operand) (z:D),wA f x=some z->RD O z (a.eval x):=λx z hz=>hR.eval hz
 obtain⟨dst,op,ty,pos,after,guard⟩:=o
 have fin:wy c.P (execOp a.eval ⟨dst,op,ty,pos,after,guard⟩) O d qm->Oper.wp c.P ⟨dst,op,ty,pos,after,guard⟩ a O.w K Q:=λV=>zac V hK
 cases op with
 | move x =>
  simp only[wR,kX,T.leads]at h
  obtain⟨h,rfl⟩:=h
  exact fin (wy.val hI λd' eR=>mb x d' (h.trans eR))
 | assign x =>
  simp only[wR,kX,T.leads]at h
  obtain⟨h,rfl⟩:=h
  exact fin (wy.val hI λd' eR=>mb x d' (h.trans eR))
 | pick x p q =>
  simp only[wR,N6]at h
  split at h
  ·rename_i b J
   have hv:=Zd J (mb x)
   rw[kX]at h
   obtain⟨h,rfl⟩:=h
   refine fin ⟨O,.value (if b then a.eval p else a.eval q),if b then a.eval p else a.eval q,?_,.inl rfl,rfl,hI,Ext.refl O,λd' eR => ?_⟩
   ·simp[execOp,hv,Go.asBool]
   ·rcases h with⟨rfl,h⟩ | ⟨rfl,h⟩
    ·exact mb p d' (h.trans eR)
    ·exact mb q d' (h.trans eR)
  ·exact absurd h zj
 | alloc t=>exact fin (LF hI h)
 | box t x=>exact fin (LW hI (mb x) h)
 | load t x=>exact fin (z00 hI (mb x) h)
 | store t x y=>exact fin (Nt hI (mb x) (mb y) h)
 | nilCheck x=>exact fin (Bg rfl hI (mb x) h)
 | binOp op t x y ty' =>
  have h:(qu (LQ c op t y (wA f x) (wA f y)) O.st).leads (d,qm):=h
  unfold LQ at h
  split at h
  ·exact fin (MP hI (mb x) h)
  ·exact fin (MR hI (mb x) (λh=>G4 hI (mb x) (mb _) h) h)
  ·exact fin (MQ hI (mb x) (λh=>G4 hI (mb x) (mb _) h) h)
  ·exact fin (G4 hI (mb x) (mb y) h)
 | typeAssert x xt t ok=>exact fin (Yo hI (mb x) h)
 | unOp op t x=>exact fin (zaY hI (mb x) h)
 | convert s t x=>exact fin (Dc hI (mb x) h)
 | makeInterface t x=>exact fin (GI hI (mb x) h)
 | makeFunc fn first cap =>
  cases fn with
  | func g =>
   simp only[wR]at h
   cases J:zU first.size 0&&qL g 1000000 with
   | false =>
    rw[J,cond_false]at h
    cases FK:zU cap.size 0&&qL g 1000000 with
    | false=>rw[FK]at h; exact absurd h zj
    | true =>
     rw[FK,cond_true]at h
     simp only[zF]at FK
     have hf:cap = #[]:=zV (Y FK.1)
     subst hf
     split at h
     ·rename_i l B
      rw[dR]at h
      obtain⟨rfl,rfl⟩:=h
      have hr:=ij (O:=O) (vs:=first.toList.map a.eval) B (qw) (λi d v V hv=>by
       simp only[qR]at V hv
       cases hi:first.toList[i]? with
       | none=>grind
       | some x=>rw[hi]at V hv; simp at V hv; subst hv; exact mb x d V)
      refine fin (wy.pure hI ?_ (.wi (g+1000000) l _ hr.1 hr.2))
      have e:(first.toList.map a.eval).toArray=first.map a.eval:=by apply qP; simp
      rw[M1 FK.2,e]
      simp[Instr.makeFunc]
     ·exact absurd h zj
   | true =>
    rw[J,cond_true]at h
    simp only[zF]at J
    have hf:first = #[]:=zV (Y J.1)
    subst hf
    split at h
    ·rename_i l B
     rw[dR]at h
     obtain⟨rfl,rfl⟩:=h
     have hr:=ij (O:=O) (vs:=cap.toList.map a.eval) B (qw) (λi d v V hv=>by
      simp only[qR]at V hv
      cases hi:cap.toList[i]? with
      | none=>grind
      | some x=>rw[hi]at V hv; simp at V hv; subst hv; exact mb x d V)
     refine fin (wy.pure hI ?_ (.wi g l _ hr.1 hr.2))
     have e:(cap.toList.map a.eval).toArray=cap.map a.eval:=by apply qP; simp
     rw[D9 J.2,e]
     simp[Instr.makeFunc]
    ·exact absurd h zj
  | _=>exact absurd h zj
 | makeSlice t x y=>exact fin (z02 hI (mb x) (mb y) h)
 | slice t x lo hi mx=>exact fin (Nl hI (mb x) (N0 hR lo) (N0 hR hi) (N0 hR mx) h)
 | fieldAddr s x fl=>exact fin (Gi hI (mb x) h)
 | field s x fl=>exact fin (Mg hI (mb x) h)
 | indexAddr t x i=>exact fin (Gs hI (mb x) (mb i) h)
 | index t x i=>exact fin (ME hI (mb x) (mb i) h)
 | extract x i=>exact fin (Dl hI (mb x) h)
 | build t ps =>
  have:=LY (L:=ps.toList) (G:=a.eval) hI mb h
  refine fin ?_
  have e:(ps.toList.map λp=>(p.1,a.eval p.2)).toArray=ps.map λp=>(p.1,a.eval p.2):=by apply qP; simp
  rw[e]at this
  exact this
 | buildSlice t k ps =>
  have h:(qu (bif z4Q c dst&&zU k 0&&zU ps.size 0 then Us c t (cu c t k (ps.toList.map λp=>(p.1,wA f p.2)))else cu c t k (ps.toList.map λp=>(p.1,wA f p.2))) O.st).leads (d,qm):=h
  refine fin ?_
  have e:(ps.toList.map λp=>(p.1,a.eval p.2)).toArray=ps.map λp=>(p.1,a.eval p.2):=by apply qP; simp
  have key:(qu (cu c t k (ps.toList.map λp=>(p.1,wA f p.2))) O.st).leads (d,qm)->wy c.P (do xG (.value (<- Instr.buildSlice t k (ps.map λp=>(p.1,a.eval p.2))))) O d qm:=λh=>by
   have:=Ye (L:=ps.toList) (G:=a.eval) hI mb h
   rw[e]at this
   exact this
  cases J:z4Q c dst&&zU k 0&&zU ps.size 0 with
  | false=>rw[J]at h; exact key h
  | true =>
   rw[J,cond_true]at h
   simp only[zF]at J
   have hk:=Y J.1.2
   have hp:ps = #[]:=zV (Y J.2)
   subst hk hp
   have e0:((#[]:Array (Nat×Operand)).map λp=>(p.1,a.eval p.2)) = #[]:=qw
   rw[e0]at key
   have r:=HX hI key h
   rw[<- e0]at r
   exact r
 | call cl =>
  obtain⟨callee,args,te⟩:=cl
  cases callee with
  | builtin b=>exact fin (D5 hI hR rfl h)
  | invoke r m=>exact absurd h zj
  | value p =>
   simp only[wR,fB]at h
   split at h
   ·rename_i g caps l hp B
    have hpv:=mb p _ hp
    have hr:=ij (O:=O) (vs:=args.toList.map a.eval) B (qw) (λi d v V hv=>by
      simp only[qR]at V hv
      cases hi:args.toList[i]? with
      | none=>rw[hi]at V; cases V
      | some x=>rw[hi]at V hv; simp at V hv; subst hv; exact mb x d V)
    generalize FX:a.eval p=pv at hpv
    cases hpv with
    | wi _ _ us Qd hh2 =>
     have Qc:=G9 g hr (⟨Qd,hh2⟩:wP O caps us)
     refine z7h (c:=c) (O:=O) (g:=eP g) (caps := #[]) (args:=(cj g (args.toList.map a.eval) us).toArray) ?_ (T4 (hC (eP g)) hI Qc h) ?_
     ·exact Fb FX
     ·rintro e w' ⟨E,v,rfl,h1,X,h3,rfl,h4⟩
      exact⟨v,rfl,hK v E h1 X h3 h4⟩
   ·exact absurd h zj
 | makeMap t r=>exact fin (DN hI h)
 | lookup t m x ok=>exact fin (I5 hI (mb m) (mb x) h)
 | mapUpdate t m x y=>exact fin (GL hI (mb m) (mb x) (mb y) h)
 | _=>exact absurd h zj
end
end Go.AM
namespace Go.AM
variable [gy] [BB]
section
variable {c:Ctx} {n:Nat} {ops:Array Oper}
theorem Dt(j:Nat):bP ops j=(ops[j]?).bind (·.dst):=by
 unfold bP; cases ops[j]? <;> rfl
theorem ZJ{O:KS}{f:F}{a:Act}{o:Oper}{b:Bool}(hR:Rel O n f a)(h:jO ops f o=some b):qU o (yielded ops a.tmps)=b:=by
 unfold jO at h
 unfold qU
 split at h
 ·grind
 ·rename_i j w hg
  rw[hg]
  split at h
  ·cases h
  ·rename_i t ht
   rw[Dt]at ht
   simp only[yielded,ht,Option.bind_some]
   split at h
   ·rename_i x U
    obtain⟨v,h1,X⟩:=hR.get t _ U
    have:=X.cK
    cases h
    grind
   ·rename_i U
    obtain⟨v,h1,X⟩:=hR.get t _ U
    cases h
    rw[h1]
    cases X with
    | fj _ vs B hh=>rfl
   ·cases h
def rD(ops:Array Oper)(a a':Act):Prop:=∀ s:Nat,(∀ o∈ops.toList,o.dst≠some s)->a'.tmps[s]? = a.tmps[s]?
theorem rD.refl(ops:Array Oper)(a:Act):rD ops a a:=λ_ _=>rfl
theorem rD.trans{ops:Array Oper}{a b d:Act}(h:rD ops a b)(k:rD ops b d):rD ops a d:=λs hs=>(k s hs).trans (h s hs)
theorem XI{ops:Array Oper}{i:Nat}{o:Oper}{a:Act}{v:Value}(ho:ops[i]? = some o):rD ops a (a.put o.dst v):=by
 intro s hs
 have hm:o∈ops.toList:=by have:=Array.mem_of_getElem? ho; simpa using this
 have:=hs o hm
 cases V:o.dst with
 | none=>rfl
 | some t =>
  rw[V]at this
  have ku:t≠s:=λe=>this (by rw[e])
  simp[qW,zH ku]
theorem H2{O:KS}{a:Act}{i k:Nat}{s s':F×St}(hC:∀ g,EC c.P g (c.fn g))(hI:Inv O)(hR:Rel O n s.1 a)(ud:O.st=s.2)(h:fP c n ops i s s' k){K:Act->World->Prop}{Q:Exit->Act->World->Prop}
  (hK:∀ (a':Act) (E:KS),E.st=s'.2->Inv E->Ext O E->Rel E n s'.1 a'->rD ops a a'->K a' E.w):wpOp c.P ops Q i K a O.w:=by
 obtain⟨o,ho,V,h⟩:=h
 unfold wpOp
 rw[ho]
 simp only
 rcases h with⟨hw,_,d,qm,B,rfl⟩ | ⟨hw,_,rfl⟩
 ·rw[if_pos (ZJ hR hw)]
  refine .inl (Ix hC hI hR (ud▸B) λv E h1 X h3 h4=>hK _ E h1 X h3 ((hR.mono h3).put V h4) (XI ho))
 ·rw[if_neg (by rw[ZJ hR hw]; exact Bool.false_ne_true)]
  exact hK _ O ud hI (Ext.refl O) (hR.put V λd' eR=>by cases eR; exact z4J (v:=undef)) (XI ho)
theorem S0{Q:Exit->Act->World->Prop}(hC:∀ g,EC c.P g (c.fn g)):∀ (l:List Nat) {O:KS} {a:Act} {s s':F×St} {ks:List Nat},Inv O->Rel O n s.1 a->O.st=s.2->SP c n ops l s s' ks ->
  (∀ (a':Act) (E:KS),E.st=s'.2->Inv E->Ext O E->Rel E n s'.1 a'->rD ops a a'->Q .normal a' E.w)->wpOps c.P ops Q l a O.w
 | [],O,a,s,s',ks,hI,hR,ud,h,hQ=>by
  obtain⟨rfl,_⟩:=h
  exact hQ a O ud hI (Ext.refl O) hR (rD.refl _ _)
 | i::l,O,a,s,s',ks,hI,hR,ud,h,hQ=>by
  obtain⟨s1,k,MI,_,h1,X⟩:=h
  refine H2 hC hI hR ud h1 λa1 κ1 g1 g2 g3 g4 g5 => ?_
  exact S0 hC l g2 g4 g1 X λa' E e1 e2 e3 e4 e5=>hQ a' E e1 e2 (g3.trans e3) e4 (g5.trans e5)
theorem Kj{Q:Exit->Act->World->Prop}(hC:∀ g,EC c.P g (c.fn g)):∀ (l m:List Nat) {O:KS} {a:Act} {s s':F×St} {ks:List Nat},Inv O->Rel O n s.1 a->O.st=s.2->SP c n ops l s s' ks ->
  (∀ (a':Act) (E:KS),E.st=s'.2->Inv E->Ext O E->Rel E n s'.1 a'->rD ops a a'->wpOps c.P ops Q m a' E.w)->wpOps c.P ops Q (l++m) a O.w
 | [],m,O,a,s,s',ks,hI,hR,ud,h,hQ=>by
  obtain⟨rfl,_⟩:=h
  exact hQ a O ud hI (Ext.refl O) hR (rD.refl _ _)
 | i::l,m,O,a,s,s',ks,hI,hR,ud,h,hQ=>by
  obtain⟨s1,k,MI,_,h1,X⟩:=h
  refine H2 hC hI hR ud h1 λa1 κ1 g1 g2 g3 g4 g5 => ?_
  exact Kj hC l m g2 g4 g1 X λa' E e1 e2 e3 e4 e5=>hQ a' E e1 e2 (g3.trans e3) e4 (g5.trans e5)
theorem H0{kd:Nat->Nat}:∀ (l:List Nat) (s s':F×St) (ks:List Nat),SP c n ops l s s' ks->ks=l.map kd->QQ c n ops kd l s s'
 | [],s,s',ks,h,_=>h.1
 | i::l,s,s',ks,⟨s1,k,MI,e,h1,X⟩,hk=>by
  subst e
  simp at hk
  obtain⟨rfl,hk⟩:=hk
  exact⟨s1,h1,H0 l s1 s' MI X hk⟩
theorem IA:∀ (l:List Nat) (s s':F×St) (ks:List Nat),SP c n ops l s s' ks->ks.length=l.length
 | [],_,_,_,h=>by rw[h.2]
 | i::l,s,s',ks,⟨s1,k,MI,e,h1,X⟩=>by subst e; simp[IA l s1 s' MI X]
theorem FC(acc:List Nat):∀ (es:List Edge) (s0 p:Nat),qS (es.foldl (λs e=>bif zZ .any e then s ||| 2 ^ e.on ||| acc.getD e.on 0 else s) s0) p=true ->
  qS s0 p=true\/∃ e∈es,zZ .any e=true/\(p=e.on\/qS (acc.getD e.on 0) p=true)
 | [],s0,p,h=>.inl h
 | e::es,s0,p,h=>by
  rcases FC acc es _ p h with h1 | ⟨e',h1,X⟩
  ·grind
  ·grind
theorem ZR:∀ (l:List Oper) (acc:List Nat),∃ r,uc l acc=acc++r/\r.length=l.length /\
  ∀ j o,l[j]? = some o->∀ p,qS ((uc l acc).getD (acc.length+j) 0) p=true ->
   ∃ e∈o.after.toList,zZ .any e=true/\(p=e.on\/(e.on<acc.length+j/\qS ((uc l acc).getD e.on 0) p=true))
 | [],acc=>⟨[],by simp[uc],rfl,λj o h=>by simp at h⟩
 | o::l,acc=>by
  let b:=o.after.toList.foldl (λs e=>bif zZ .any e then s ||| 2 ^ e.on ||| acc.getD e.on 0 else s) 0
  obtain⟨r,h1,X,h3⟩:=ZR l (acc++[b])
  have J:uc (o::l) acc=uc l (acc++[b]):=rfl
  have Tq:∀ i,i<acc.length->(uc l (acc++[b])).getD i 0=acc.getD i 0:=λi hi=>by
   grind
  refine⟨b::r,by rw[J,h1]; simp,by simp[X],?_⟩
  rw[J]
  intro j o' ho p hp
  cases j with
  | zero =>
   simp at ho
   subst ho
   have he:(uc l (acc++[b])).getD (acc.length+0) 0=b:=by rw[h1]; simp[xF]
   rw[he]at hp
   rcases FC acc _ 0 p hp with h | ⟨e,k1,k2,k3⟩
   ·simp at h
   ·grind
  | succ j =>
   have:=h3 j o' (by simpa using ho) p (by rw[show(acc++[b]).length+j=acc.length+(j+1) by simp; omega]; exact hp)
   grind
theorem Q2:∀ (l:List Oper) (k:Nat),iO l k=true->∀ j o,l[j]? = some o->∀ e∈o.after.toList,zZ .any e=true->e.on<k+j
 | [],_,_,j,o,h,_,_,_=>by simp at h
 | o::l,k,h,j,o',ho,e,he,J=>by
  simp only[iO,zF,zJ]at h
  cases j with
  | zero =>
   simp at ho
   subst ho
   have:=h.1 e he
   rw[J]at this
   exact I this
  | succ j =>
   have:=Q2 l (k+1) h.2 j o' (wa) e he J
   omega
def z0Q{K:Type}(cl:K->K->Bool)(ops:Array Oper)(x:Oper)(kx:K)(y:Oper)(ky:K):Prop:=(∀ d,x.dst=some d->d ∉ tmpsOf ops y)/\(∀ d,y.dst=some d->d ∉ tmpsOf ops x)/\cl kx ky=false
theorem IC{K:Type}{cl:K->K->Bool}{bs:List Nat}{xs:List (Nat×Option Nat×List Nat×K)}{j:Nat}{ky:K}{y:Oper}(h:N5 cl bs xs j y.dst (tmpsOf ops y) ky=true){i:Nat}{kx:K}{x:Oper}(U:(i,x.dst,tmpsOf ops x,kx)∈xs) :
  ordered bs i j=true\/z0Q cl ops x kx y ky:=by
 simp only[N5,zJ]at h
 have:=h _ U
 simp at this
 rcases this with h1 | ⟨⟨h1,X⟩,h3⟩
 ·grind
 ·refine .inr ⟨λd V hm => ?_,λd V hm => ?_,h3⟩
  ·grind
  ·grind
theorem Qr{K:Type}{cl:K->K->Bool}{bs:List Nat}:∀ (l:List Oper) (ks:List K) (k0:Nat) (xs:List (Nat×Option Nat×List Nat×K)),Qq cl ops bs l ks k0 xs=true ->
  (∀ j y ky,l[j]? = some y->ks[j]? = some ky->(∀ i x kx,(i,x.dst,tmpsOf ops x,kx)∈xs->ordered bs i (k0+j)=true\/z0Q cl ops x kx y ky) /\
   (∀ i x kx,i<j->l[i]? = some x->ks[i]? = some kx->ordered bs (k0+i) (k0+j)=true\/z0Q cl ops x kx y ky))
 | [],_,_,_,_,j,y,ky,hy,_=>by simp at hy
 | o::l,[],_,_,h,_,_,_,_,_=>by simp[Qq]at h
 | o::l,k::ks,k0,xs,h,j,y,ky,hy,hk=>by
  simp only[Qq,zF]at h
  obtain⟨h1,X⟩:=h
  have ih:=Qr l ks (k0+1) _ X
  cases j with
  | zero =>
   simp at hy hk
   subst hy hk
   exact⟨λi x kx U=>by simpa using IC h1 U,λi x kx hi=>absurd hi (qN i)⟩
  | succ j =>
   obtain⟨g1,g2⟩:=ih j y ky (by simpa using hy) (by simpa using hk)
   have e:k0+1+j=k0+(j+1):=Z
   rw[e]at g1 g2
   refine⟨λi x kx U=>g1 i x kx (zS _ U),λi x kx hi U hkx => ?_⟩
   cases i with
   | zero =>
    grind
   | succ i =>
    grind
def rest(ops:Array Oper)(listed:Array Bool):List Nat:=(qF ops.size).filter λi => !listed.getD i true
def Vs(ops:Array Oper)(listed:Array Bool):Prop:=∀ q,q<ops.size->listed.getD q true=true->∀ p,ordered (uc ops.toList []) p q=true->p<ops.size->listed.getD p true=true
theorem cM{listed:Array Bool}{i j:Nat}(hi:i<listed.size):(listed.setIfInBounds i true).getD j true=if j=i then true else listed.getD j true:=by
 simp
 grind
theorem iV{p q:Nat->Bool}{i:Nat}:∀ (l:List Nat),l.Pairwise (· < ·)->i∈l->p i=true->(∀ j,q j=(p j && !(j==i))) ->
  ∃ pre post,l.filter p=pre++i::post/\l.filter q=pre++post/\∀ x∈pre,p x=true/\x∈l/\x<i
 | [],_,hi,_,_=>by simp at hi
 | a::l,hn,hi,hp,hq=>by
  have hn':=qE.1 hn
  by_cases ha:a=i
  ·subst ha
   refine⟨[],l.filter p,wa,?_,qw⟩
   have hqa:q a=false:=by rw[hq]; simp
   simp only[List.filter_cons,hqa]
   refine List.filter_congr λx U => ?_
   rw[hq]
   have:(x==a)=false:=by simp; exact λe=>absurd (hn'.1 x U) (Z)
   simp[this]
  ·have YA:i∈l:=by rcases qA.1 hi with h | h; exact absurd h.symm ha; exact h
   obtain⟨pre,post,h1,X,h3⟩:=iV l hn'.2 YA hp hq
   grind
theorem Qv{listed:Array Bool}{i:Nat}:i∈qY .any ops listed↔i<ops.size/\listed.getD i true=false/\∀ o,ops[i]? = some o->∀ e∈o.after.toList,zZ .any e=true->listed.getD e.on false=true:=by
 unfold qY
 simp only[zX,R,zF,zL]
 constructor
 ·rintro⟨h1,X,h3⟩
  refine⟨h1,X,λo ho e he J => ?_⟩
  rw[ho]at h3
  simp only[Option.map_some,Option.getD_some,Array.all_eq_true_iff_forall_mem]at h3
  grind
 ·grind
theorem Hc(Mw:iO ops.toList 0=true){listed:Array Bool}(cm:listed.size=ops.size):qY .any ops listed=[]->rest ops listed=[]:=by
 intro hr
 cases hre:rest ops listed with
 | nil=>rfl
 | cons i l =>
  have hi:i∈rest ops listed:=by rw[hre]; exact zK
  simp only[rest,zX,R,zL]at hi
  have zdJ:∀ j,j<i->listed.getD j true=true:=by
   intro j hj
   cases B:listed.getD j true with
   | true=>rfl
   | false =>
    have hpw:(rest ops listed).Pairwise (· < ·):=List.Pairwise.filter _ zN
    have hjm:j∈rest ops listed:=by simp only[rest,zX,R,zL]; exact⟨Z,B⟩
    rw[hre]at hpw hjm
    rcases qA.1 hjm with rfl | hjm
    ·grind
    ·have:=(qE.1 hpw).1 j hjm; omega
  have:i∈qY .any ops listed:=by
   rw[Qv]
   refine⟨hi.1,hi.2,λo ho e he J => ?_⟩
   have wO:=Q2 ops.toList 0 Mw i o (wa) e he J
   grind
  grind
def YT(Stp:Nat->F×St->F×St->Prop):List Nat->F×St->F×St->Prop
 | [],s,s'=>s'=s
 | i::l,s,s'=>∃ s1,Stp i s s1/\YT Stp l s1 s'
theorem CJ{Stp:Nat->F×St->F×St->Prop}{In:Nat->Nat->Prop}(FL:∀ p i,In p i->∀ s s1 s2,Stp p s s1->Stp i s1 s2->∃ s',Stp i s s'/\Stp p s' s2){i:Nat}{post:List Nat}{s':F×St}:∀ {pre:List Nat} {s:F×St},(∀ p∈pre,In p i)->YT Stp (pre++i::post) s s' ->
  ∃ s1,Stp i s s1/\YT Stp (pre++post) s1 s'
 | [],s,_,h=>h
 | p::pre,s,hp,⟨sp,h1,X⟩=>by
  obtain⟨s1,h3,h4⟩:=CJ FL (λq hq=>hp q (zS _ hq)) X
  obtain⟨s2,h5,h6⟩:=FL _ _ (hp p zK) _ _ _ h1 h3
  exact⟨s2,h5,s1,h6,h4⟩
theorem Ki{Stp:Nat->F×St->F×St->Prop}{In:Nat->Nat->Prop}(z2B:∀ i s s',Stp i s s'->∃ k,fP c n ops i s s' k)(FL:∀ p i,In p i->∀ s s1 s2,Stp p s s1->Stp i s1 s2->∃ s',Stp i s s'/\Stp p s' s2){Q:Exit->Act->World->Prop}(hC:∀ g,EC c.P g (c.fn g))(Mw:iO ops.toList 0=true)
  {sf:F×St}:∀ (fuel:Nat) (listed:Array Bool) {O:KS} {a:Act} {s:F×St},(∀ p i,p<i->i<ops.size->listed.getD p true=false->ordered (uc ops.toList []) p i=true\/In p i) ->
  listed.size=ops.size->fuel=(rest ops listed).length->Vs ops listed->Inv O->Rel O n s.1 a->O.st=s.2->YT Stp (rest ops listed) s sf ->
  (∀ (a':Act) (E:KS),E.st=sf.2->Inv E->Ext O E->Rel E n sf.1 a'->rD ops a a'->Q .normal a' E.w)->wpAny c.P .any ops Q fuel listed a O.w
 | fuel,listed,O,a,s,eL,cm,hfuel,Yz,hI,hR,ud,jT,hQ=>by
  have zdP:=Hc Mw (listed:=listed) cm
  have z2o:rest ops listed=[]->Q .normal a O.w:=by
   intro h
   rw[h]at jT
   cases jT
   exact hQ a O ud hI (Ext.refl O) hR (rD.refl _ _)
  cases fuel with
  | zero =>
   have hre:rest ops listed=[]:=zW hfuel.symm
   refine⟨?_,z2o hre⟩
   apply List.eq_nil_iff_forall_not_mem.2
   intro i hi
   rw[Qv]at hi
   have:i∈rest ops listed:=by simp only[rest,zX,R,zL]; exact⟨hi.1,hi.2.1⟩
   grind
  | succ fuel =>
   refine⟨λh=>z2o (zdP h),λi hi => ?_⟩
   rw[Qv]at hi
   obtain⟨h1,X,h3⟩:=hi
   have ho:ops[i]? = some ops[i]:=zP h1
   obtain⟨pre,post,g1,g2,g3⟩:=iV (p:=λi => !listed.getD i true) (q:=λj => !(listed.setIfInBounds i true).getD j true) (i:=i) (qF ops.size) zN
    (R.2 h1) (by simp[X]) (λj=>by
     rw[cM (Z)]
     by_cases h:j=i
     ·grind
     ·simp[h])
   have z2i:∀ p,ordered (uc ops.toList []) p i=true->p<ops.size->listed.getD p true=true:=by
    intro p hp wO
    obtain⟨r,_,_,J⟩:=ZR ops.toList []
    obtain⟨e,k1,k2,k3⟩:=J i ops[i] (qw) p (by simpa[ordered]using hp)
    have hle:=h3 _ ho e k1 k2
    have B8:=Q2 ops.toList 0 Mw i ops[i] (qw) e k1 k2
    have B6:listed.getD e.on true=true:=by
     grind
    rcases k3 with rfl | ⟨_,k3⟩
    ·exact B6
    ·exact Yz e.on (Z) B6 p k3 wO
   have z2t:∀ p∈pre,In p i:=by
    grind
   have FY:YT Stp (pre++i::post) s sf:=by
    have:rest ops listed=pre++i::post:=g1
    grind
   obtain⟨s1,k1,k2⟩:=CJ FL z2t FY
   have XE:rest ops (listed.setIfInBounds i true)=pre++post:=g2
   obtain⟨kk,k1⟩:=z2B _ _ _ k1
   refine H2 hC hI hR ud k1 λa1 κ1 e1 e2 e3 e4 e5 => ?_
   refine Ki z2B FL hC Mw fuel (listed.setIfInBounds i true) (λp j hpj hj hp=>eL p j hpj hj (by
    rw[cM (Z)]at hp
    split at hp
    ·cases hp
    ·exact hp)) (by simp[cm]) ?_ ?_ e2 e4 e1 (by rw[XE]; exact k2) λa' E d1 d2 d3 d4 d5=>hQ a' E d1 d2 (e3.trans d3) d4 (e5.trans d5)
   ·have:rest ops listed=pre++i::post:=g1
    rw[this]at hfuel
    rw[XE]
    simp only[List.length_append,List.length_cons]at hfuel ⊢
    omega
   ·intro q hq Tt p hp wO
    rw[cM (Z)]at Tt ⊢
    split
    ·rfl
    ·split at Tt
     ·rename_i e; subst e; exact z2i p hp wO
     ·exact Yz q hq Tt p hp wO
theorem Iz{kd:Nat->Nat}:∀ (l:List Nat) (s s':F×St),QQ c n ops kd l s s'->YT (λi s s'=>fP c n ops i s s' (kd i)) l s s'
 | [],_,_,h=>h
 | i::l,s,s',⟨s1,h1,X⟩=>⟨s1,h1,Iz l s1 s' X⟩
theorem GZ{kd:Nat->Nat}{Q:Exit->Act->World->Prop}(hC:∀ g,EC c.P g (c.fn g))(Mw:iO ops.toList 0=true)
  {sf:F×St}:∀ (fuel:Nat) (listed:Array Bool) {O:KS} {a:Act} {s:F×St},(∀ p i,p<i->i<ops.size->listed.getD p true=false->ordered (uc ops.toList []) p i=true\/Ind ops kd p i) ->
  listed.size=ops.size->fuel=(rest ops listed).length->Vs ops listed->Inv O->Rel O n s.1 a->O.st=s.2->QQ c n ops kd (rest ops listed) s sf ->
  (∀ (a':Act) (E:KS),E.st=sf.2->Inv E->Ext O E->Rel E n sf.1 a'->rD ops a a'->Q .normal a' E.w)->wpAny c.P .any ops Q fuel listed a O.w
 | fuel,listed,O,a,s,eL,cm,hfuel,Yz,hI,hR,ud,jT,hQ =>
  Ki (Stp:=λi s s'=>fP c n ops i s s' (kd i)) (In:=λp i=>Ind ops kd p i) (λi s s' h=>⟨_,h⟩) (λp i hi s s1 s2 h1 X=>CE hi h1 X) hC Mw fuel listed eL cm hfuel Yz hI hR ud (Iz _ _ _ jT) hQ
end
open Go.RowKit
structure Up(O E:KS):Prop where
 same:LC O.w E.w O.ok E.ok
 var:∀ (b:Nat) (d:D),O.st[b]? = some (.var d)->(∃ d',E.st[b]? = some (.var d'))/\E.ph[b]? = O.ph[b]?
 old:∀ (b vn:Nat),Old O.st b vn->Old E.st b vn
 row:∀ (b v:Nat) (e:Ty) (xs:List (den e)),Old O.st b v->E.st[b]? = some (.arr v e xs)->O.st[b]? = some (.arr v e xs)/\E.ph[b]? = O.ph[b]?
theorem RD.up{O E:KS}(x:Up O E){d:D}{v:Value}(h:RD O d v):RD E d v:=by
 induction h with
 | qj τ y cs h=>exact .qj τ y cs (h.mono x.same)
 | tc e l b v h ht hf=>exact .tc e l b v (h.mono x.same) ht hf
 | vB e a=>exact .vB e a
 | tight e l ne blk off f ku ja h hc=>exact .tight e l ne blk off f ku (x.same _ ja).1 (λi hi=>(h i hi).mono x.same) λi hi j v hv=>by rw[mq (x.same _ ja).2]; exact hc i hi j v hv
 | wF=>exact .wF
 | bq=>exact .bq
 | vb=>exact .vb
 | gC=>exact .gC
 | uX=>exact .uX
 | Vq v h=>exact .Vq v h
 | nD T=>exact .nD T
 | nV b T d V =>
  obtain⟨⟨d',eR⟩,hp⟩:=x.var b d V
  exact .nV b T d' eR
 | yY b blk n d V h =>
  obtain⟨⟨d',eR⟩,hp⟩:=x.var b d V
  exact .yY b blk n d' eR (hp.trans h)
 | nW b T blk n d V h =>
  obtain⟨⟨d',eR⟩,hp⟩:=x.var b d V
  exact .nW b T blk n d' eR (hp.trans h)
 | ptr b off blk n d V h =>
  obtain⟨⟨d',eR⟩,hp⟩:=x.var b d V
  exact .ptr b off blk n d' eR (hp.trans h)
 | vC τ y cs blk off ja h hc=>exact .vC τ y cs blk off (x.same _ ja).1 (h.mono x.same) λj v hv=>by rw[mq (x.same _ ja).2]; exact hc j v hv
 | gU b vn e idx off blk o J h =>
  refine .gU b vn e idx off blk o (x.old b vn J) λxs U hi => ?_
  obtain⟨h1,X⟩:=x.row b vn e xs J U
  grind
 | ms b vn e off len cap a J ju ha V7 h =>
  refine .ms b vn e off len cap a (x.old b vn J) ju ha V7 λxs U => ?_
  obtain⟨h1,X⟩:=x.row b vn e xs J U
  have:=h xs h1
  unfold NW at this ⊢
  grind
 | wi f l vs B h ih=>exact .wi f l vs B ih
 | agg l vs B ho h ih=>exact .agg l vs B ho ih
 | fj l vs B h ih=>exact .fj l vs B ih
 | iface t d v h ih=>exact .iface t d v ih
structure Nob(O:KS)(blk:Nat):Prop where
 lt:blk<O.w.heap.size
 ok:¬ O.ok blk
 ph:∀ (b n:Nat),O.ph[b]? ≠ some (some (blk,n))
theorem Nob.ext{O E:KS}(x:Ext O E){blk:Nat}(h:Nob O blk):Nob E blk/\E.w.heap[blk]? = O.w.heap[blk]? := by
 refine⟨⟨Nat.lt_of_lt_of_le h.lt x.size,λhk => ?_,λb n J => ?_⟩,x.frame blk h.lt h.ph⟩
 ·rcases x.fresh blk hk with h1 | h1 | ⟨b,n,h1⟩
  ·exact h.ok h1
  ·have:=h.lt; omega
  ·exact h.ph b n h1
 ·rcases x.phs b blk n J with h1 | h1
  ·exact h.ph b n h1
  ·have:=h.lt; omega
def KS.push(O:KS)(blk n:Nat)(d:D):KS:={ O with ph:=O.ph++[some (blk,n)],st:=O.st++[.var d] }
theorem Zz{α:Type}{l:List α}{x y:α}{b:Nat}(h:l[b]? = some y):(l++[x])[b]? = some y:=wa
theorem WK{α:Type}{l:List α}{x y:α}{b:Nat}(h:(l++[x])[b]? = some y):l[b]? = some y\/(b=l.length/\y=x):=wa
theorem S2{O:KS}(hI:Inv O)(blk n:Nat)(d:D):Up O (O.push blk n d):=by
 have HO:∀ {b:Nat} {y:dn},O.st[b]? = some y->(O.ph++[some (blk,n)])[b]? = O.ph[b]? := λh=>by
  rw[zI]; rw[hI.len]; exact(zQ.1 h).1
 refine⟨λk hk=>⟨hk,rfl⟩,λb d' h=>⟨⟨d',Zz h⟩,HO h⟩,λb vn h => ?_,λb v e xs ho h => ?_⟩
 ·rcases h with h | ⟨v0,e0,Uf,h,hv⟩
  ·exact .inl (Zz h)
  ·exact .inr ⟨v0,e0,Uf,Zz h,hv⟩
 ·rcases WK h with h1 | ⟨_,h1⟩
  ·exact⟨h1,HO h1⟩
  ·cases h1
theorem zaB{κ0 O:KS}{blk:Nat}{d:D}{z:Value}{t:TypeId}(hI:Inv O)(U:Ext κ0 O)(J:Nob O blk)(h0:κ0.w.heap.size<=blk)(hz:RD O d z)(ht:d.bQ=false)(Ou:∀ T,d.typed=some T->t=T)(hh:O.w.heap[blk]? = some (.cells z.cells t (0,0))) :
  Inv (O.push blk z.cells.size d)/\Ext κ0 (O.push blk z.cells.size d)/\RD (O.push blk z.cells.size d) (.ptr O.st.length 0) (.pointer (some ⟨blk,0,none⟩)):=by
 have hu:=S2 hI blk z.cells.size d
 have ud:(O.push blk z.cells.size d).st[O.st.length]? = some (.var d):=by simp[KS.push]
 have HO:(O.push blk z.cells.size d).ph[O.st.length]? = some (some (blk,z.cells.size)):=by simp[KS.push,<- hI.len]
 have z2A:∀ {b k m:Nat},(O.push blk z.cells.size d).ph[b]? = some (some (k,m))->O.ph[b]? = some (some (k,m))\/(b=O.ph.length/\k=blk):=by
  intro b k m h
  rcases WK h with h1 | ⟨h1,X⟩
  ·grind
  ·grind
 refine⟨⟨by simp[KS.push,hI.len],hI.cp,λb k m h => ?_,λb b' k m m' h h' => ?_,λb y h => ?_,hI.gl⟩,?_,.ptr _ 0 blk _ d ud HO⟩
 ·rcases z2A h with h1 | ⟨_,rfl⟩
  ·exact hI.apart b k m h1
  ·exact⟨J.lt,J.ok⟩
 ·rcases z2A h with h1 | ⟨h1,rfl⟩
  ·rcases z2A h' with X | ⟨X,rfl⟩
   ·exact hI.inj b b' k m m' h1 X
   ·exact(J.ph b m h1).elim
  ·rcases z2A h' with X | ⟨X,_⟩
   ·exact(J.ph b' m' X).elim
   ·omega
 ·rcases WK h with h1 | ⟨h1,X⟩
  ·have hp:(O.push blk z.cells.size d).ph[b]? = O.ph[b]? := by
    show(O.ph++[_])[b]? = _
    grind
   have hy:=hI.blk b y h1
   cases y with
   | dead=>trivial
   | var d' =>
    refine y7.elim hy (λhm ⟨k,m,cs,T,g1,g2,g3,g4,g5⟩=>.mk hm ⟨k,m,cs,T,hp.trans g1,g2,g3,⟨g4.1,λi h1 X=>(g4.2 i h1 X).up hu⟩,g5⟩) λl e ⟨k,o,g1,g2⟩ => ?_
    subst e
    exact⟨k,o,hp.trans g1,g2⟩
   | arr vn e xs =>
    obtain⟨g0,g⟩:=hy
    refine⟨g0,sC g (λh=>⟨h.1,hp.trans h.2⟩) ?_⟩
    rintro⟨k,m,cs,T,g1,g2⟩
    exact⟨k,m,cs,T,hp.trans g1,g2⟩
  ·subst h1
   subst X
   have hf:=cR hz ht
   exact .mk hz.z4f ⟨blk,z.cells.size,z.cells,t,HO,hh,rfl,⟨hf.1,λi h1 X=>(hf.2 i h1 X).up hu⟩,cQ hz,Ou⟩
 ·refine⟨U.os,U.tape,U.output,U.size,U.same,U.fresh,λb k m h => ?_,λb d' h => ?_,λb v0 e xs h => ?_,λb h=>Zz (U.dead b h),Nat.le_trans U.IW (by simp[KS.push]),U.frame⟩
  ·rcases z2A h with h1 | ⟨_,rfl⟩
   ·exact U.phs b k m h1
   ·exact .inr h0
  ·obtain⟨⟨d1,h1⟩,X⟩:=U.var b d' h
   obtain⟨h3,h4⟩:=hu.var b d1 h1
   exact⟨h3,h4.trans X⟩
  ·rcases U.arr b v0 e xs h with h1 | ⟨v1,xs1,h1,X,h3⟩
   ·exact .inl (Zz h1)
   ·refine .inr ⟨v1,xs1,Zz h1,X,λhe=>⟨?_,(h3 he).2⟩⟩
    have hp:(O.push blk z.cells.size d).ph[b]? = O.ph[b]? := by
     show(O.ph++[_])[b]? = _
     rw[zI]; rw[hI.len]; exact(zQ.1 h1).1
    exact hp.trans (h3 he).1
theorem z7E{O:KS}(hI:Inv O)(o:Obj):Inv { O with w:=O.w.alloc o }/\Ext O { O with w:=O.w.alloc o }/\Nob { O with w:=O.w.alloc o } O.w.heap.size/\(O.w.alloc o).heap[O.w.heap.size]? = some o:=by
 have hs:(O.w.alloc o).heap.size=O.w.heap.size+1:=qw
 have hold:∀ k,k<O.w.heap.size->(O.w.alloc o).heap[k]? = O.w.heap[k]? := λk hk=>by
  show(O.w.heap.push o)[k]? = _
  grind
 have U:Ext O { O with w:=O.w.alloc o }:=⟨rfl,rfl,rfl,qw,λk hk=>⟨hk,hold k (hI.cp k hk)⟩,λk hk=>.inl hk,λ_ _ _ h=>.inl h,λb d h=>⟨⟨d,h⟩,rfl⟩,
  λb v0 e xs h=>.inr ⟨v0,xs,h,qG _,λ_=>⟨rfl,rfl⟩⟩,λ_ h=>h,qG _,λk hk _=>hold k hk⟩
 refine⟨⟨hI.len,λk hk => ?_,λb blk n h => ?_,hI.inj,λb y hy=>(hI.blk b y hy).mono U rfl λblk n h=>hold _ (hI.apart b blk n h).1,hI.gl.mono U.same⟩,U,⟨?_,λhk => ?_,λb n h => ?_⟩,?_⟩
 ·have:=hI.cp k hk; show k<(O.w.alloc o).heap.size; omega
 ·have:=hI.apart b blk n h; exact⟨wa,this.2⟩
 ·simp
 ·have:=hI.cp _ hk; omega
 ·have:=(hI.apart b _ n h).1; omega
 ·show(O.w.heap.push o)[O.w.heap.size]? = some o
  simp
section
variable {c:Ctx} {n:Nat} {ops:Array Oper}
structure Em where
 i:Nat
 d:Nat
 blk:Nat
 t:TypeId
 z:Value
 D:D
structure Lw(c:Ctx)(ops:Array Oper)(κ0 O:KS)(a:Act)(e:Em):Prop where
 op:∃ o,ops[e.i]? = some o/\o.op=.alloc e.t/\o.guard=none/\o.dst=some e.d
 zero:Yc c e.t=some e.D
 z:∃ i,c.P.info? e.t=some i/\i.zero=some e.z/\ZD e.t e.D e.z
 val:a.tmps[e.d]? = some (.pointer (some ⟨e.blk,0,none⟩))
 heap:O.w.heap[e.blk]? = some (.cells e.z.cells e.t (0,0))
 nob:Nob O e.blk
 new:κ0.w.heap.size<=e.blk
theorem Lw.mono{κ0 O E:KS}{a a':Act}{e:Em}(h:Lw c ops κ0 O a e)(x:Ext O E)(ha:a'.tmps[e.d]? = a.tmps[e.d]?):Lw c ops κ0 E a' e:=by
 obtain⟨h1,X⟩:=h.nob.ext x
 exact⟨h.op,h.zero,h.z,ha.trans h.val,X.trans h.heap,h1,h.new⟩
def eM(es:List Em)(f:F):F:=λs=>if es.any (λe=>zU e.d s)then none else f s
theorem UZ{es:List Em}{f:F}{s:Nat}(h:∀ e∈es,e.d≠s):eM es f s=f s:=by
 unfold eM
 rw[if_neg]
 intro hh
 obtain⟨e,he,J⟩:=zO.1 hh
 exact h e he (Y J)
theorem Cg{es:List Em}{f:F}{s:Nat}{d:D}(h:eM es f s=some d):f s=some d/\∀ e∈es,e.d≠s:=by
 unfold eM at h
 split at h
 ·cases h
 ·rename_i hh
  refine⟨h,λe he hs=>hh (zO.2 ⟨e,he,?_⟩)⟩
  subst hs; simp
def sj(ops:Array Oper)(i:Nat):Prop:=∃ o,ops[i]? = some o/\Yl o=true
theorem TE{o:Oper}(h:Yl o=true):∃ t d,o.op=.alloc t/\o.guard=none/\o.dst=some d:=by
 unfold Yl at h
 simp only[zF]at h
 obtain⟨⟨h1,X⟩,h3⟩:=h
 split at h1
 ·rename_i t ht
  obtain⟨d,V⟩:=Option.isSome_iff_exists.1 h3
  exact⟨t,d,ht,Option.isNone_iff_eq_none.1 X,V⟩
 ·cases h1
theorem DL{o:Oper}{t d:Nat}(h1:o.op=.alloc t)(X:o.guard=none)(h3:o.dst=some d):Yl o=true:=by
 unfold Yl; rw[h1,X,h3]; rfl
theorem IB{kd:Nat->Nat}:∀ {l:List Nat} {s sf:F×St} {i:Nat},QQ c n ops kd l s sf->i∈l->∃ s1 s2,fP c n ops i s1 s2 (kd i)
 | [],_,_,_,_,h=>by cases h
 | j::l,s,sf,i,⟨s1,h1,X⟩,h=>by
  rcases qA.1 h with rfl | h
  ·grind
  ·exact IB X h
theorem YX{kd:Nat->Nat}{i t d:Nat}{o:Oper}(ho:ops[i]? = some o)(h1:o.op=.alloc t)(X:o.guard=none)(h3:o.dst=some d){s s':F×St}(h:fP c n ops i s s' (kd i)) :
  ∃ D,Yc c t=some D/\d<n/\s'=(eG s.1 (some d) (some (.ptr s.2.length 0)),s.2++[.var D]):=by
 obtain⟨o',ho',V,h⟩:=h
 rw[ho]at ho'
 cases ho'
 rw[h3]at V
 have wO:d<n:=I V
 have hw:jO ops s.1 o=some true:=by unfold jO; rw[X]
 rcases h with⟨_,_,D,qm,B,rfl⟩ | ⟨hw',_,_⟩
 ·have he:wR c (wA s.1) o=pz c t:=by
   obtain⟨dst,op,ty,pos,after,guard⟩:=o
   cases h1
   rfl
  rw[he]at B
  unfold pz at B
  split at B
  ·rename_i y hy
   simp only[qu,T.leads]at B
   grind
  ·exact absurd B zj
 ·grind
theorem N2{es:List Em}{i k:Nat}{s s':F×St}(h:fP c n ops i s s' k)(V:∀ o,ops[i]? = some o->∀ e∈es,e.d ∉ tmpsOf ops o) :
  fP c n ops i (eM es s.1,s.2) (eM es s'.1,s'.2) k:=by
 obtain⟨o,ho,z7V,h⟩:=h
 have hno:=V o ho
 have ziE:∀ x:Option D,eG (eM es s.1) o.dst x=eM es (eG s.1 o.dst x):=by
  intro x
  cases hds:o.dst with
  | none=>rfl
  | some t =>
   funext u
   simp only[eG,eM]
   by_cases hu:u=t
   ·subst hu
    rw[if_pos rfl]
    rw[if_neg,if_pos rfl]
    intro hh
    obtain⟨e,he,J⟩:=zO.1 hh
    exact hno e he (by rw[Y J]; exact eD hds)
   ·grind
 have mb:∀ x∈o.op.operands,wA (eM es s.1) x=wA s.1 x:=by
  intro x U
  cases x with
  | tmp t=>exact UZ λe he ht=>hno e he (ht▸XP U)
  | _=>rfl
 have hw:jO ops (eM es s.1) o=jO ops s.1 o:=by
  unfold jO
  cases hg:o.guard with
  | none=>rfl
  | some jw =>
   obtain⟨j,w⟩:=jw
   simp only
   cases hs:bP ops j with
   | none=>rfl
   | some t =>
    simp only
    rw[UZ λe he ht=>hno e he (ht▸XO hg hs)]
 refine⟨o,ho,z7V,?_⟩
 rcases h with⟨h1,X,d,qm,h3,rfl⟩ | ⟨h1,X,rfl⟩
 ·refine .inl ⟨hw.trans h1,?_,d,qm,?_,?_⟩
  ·rw[show wR c (wA (eM es s.1)) o=wR c (wA s.1) o from VF o mb]; exact X
  ·rw[show wR c (wA (eM es s.1)) o=wR c (wA s.1) o from VF o mb]; exact h3
  ·rw[ziE]
 ·grind
theorem z0b{O:KS}{a:Act}{i k:Nat}{s s':F×St}(hC:∀ g,EC c.P g (c.fn g))(hI:Inv O)(hR:Rel O n s.1 a)(ud:O.st=s.2)(h:fP c n ops i s s' k){K:Act->World->Prop}{Q:Exit->Act->World->Prop}
  (hK:∀ (a':Act) (E:KS),E.st=s'.2->Inv E->Ext O E->Rel E n s'.1 a'->rD ops a a'->(∀ u:Nat,(∀ o,ops[i]? = some o->o.dst≠some u)->a'.tmps[u]? = a.tmps[u]?)->K a' E.w):wpOp c.P ops Q i K a O.w:=by
 obtain⟨o,ho,V,h⟩:=h
 have hu:∀ (v:Value) (u:Nat),(∀ o,ops[i]? = some o->o.dst≠some u)->(a.put o.dst v).tmps[u]? = a.tmps[u]? := by
  intro v u hn
  have:=hn o ho
  cases hds:o.dst with
  | none=>rfl
  | some t =>
   rw[hds]at this
   have ku:t≠u:=λe=>this (by rw[e])
   simp[qW,zH ku]
 unfold wpOp
 rw[ho]
 simp only
 rcases h with⟨hw,_,d,qm,B,rfl⟩ | ⟨hw,_,rfl⟩
 ·rw[if_pos (ZJ hR hw)]
  refine .inl (Ix hC hI hR (ud▸B) λv E h1 X h3 h4=>hK _ E h1 X h3 ((hR.mono h3).put V h4) (XI ho) (hu v))
 ·rw[if_neg (by rw[ZJ hR hw]; exact Bool.false_ne_true)]
  exact hK _ O ud hI (Ext.refl O) (hR.put V λd' eR=>by cases eR; exact z4J (v:=undef)) (XI ho) (hu undef)
def kd3(kd:Nat->Nat)(o:Oper)(i:Nat):Nat:=bif Yl o then 3 else kd i
def z73(ops:Array Oper)(kd:Nat->Nat)(p i:Nat):Prop:=∀ x y,ops[p]? = some x->ops[i]? = some y ->
 (∀ d,x.dst=some d->d ∉ tmpsOf ops y)/\(∀ d,y.dst=some d->d ∉ tmpsOf ops x)/\Xm (kd3 kd x p) (kd3 kd y i)=false
theorem z1i{k l:Nat}(hk:k<=2)(B:l<=2)(h:Xm k l=false):cq k l=false:=by
 have h1:zU k 3=false:=Qn (Z)
 have X:zU l 3=false:=Qn (Z)
 simpa[Xm,h1,X]using h
theorem z7j{k l:Nat}(B:l<=2)(h:Xm 3 l=false):cq k l=false:=by
 have X:zU l 3=false:=Qn (Z)
 have h3:cq 2 l=false:=by simpa[Xm,X]using h
 have h0:l=0:=by
  match l,B,h3 with
  | 0,_,_=>rfl
  | 1,_,h3=>cases h3
  | 2,_,h3=>cases h3
 subst h0
 simp[cq]
theorem z7k{k l:Nat}(hk:k<=2)(h:Xm k 3=false):cq k l=false:=by
 have X:zU k 3=false:=Qn (Z)
 have h3:cq k 2=false:=by simpa[Xm,X]using h
 have h0:k=0:=by
  match k,hk,h3 with
  | 0,_,_=>rfl
  | 1,_,h3=>cases h3
  | 2,_,h3=>cases h3
 subst h0
 simp[cq]
theorem DF{kd:Nat->Nat}{p i:Nat}(h:z73 ops kd p i)(hp:kd p<=2)(hi:kd i<=2)(hn:¬ (sj ops p/\sj ops i)):Ind ops kd p i:=by
 intro x y U hy
 obtain⟨h1,X,h3⟩:=h x y U hy
 refine⟨h1,X,?_⟩
 unfold kd3 at h3
 cases hax:Yl x with
 | true =>
  cases hay:Yl y with
  | true=>exact(hn ⟨⟨x,U,hax⟩,y,hy,hay⟩).elim
  | false=>rw[hax,hay]at h3; exact z7j hi h3
 | false =>
  cases hay:Yl y with
  | true=>rw[hax,hay]at h3; exact z7k hp h3
  | false=>rw[hax,hay]at h3; exact z1i hp hi h3
theorem least{es:List Em}(h:es≠[]):∃ e∈es,∀ f∈es,e.i<=f.i:=by
 induction es with
 | nil=>grind
 | cons e r ih =>
  by_cases hr:r=[]
  ·subst hr; exact⟨e,zK,λf hf=>wa⟩
  ·grind
def Dis(e f:Em):Prop:=e.i≠f.i/\e.blk≠f.blk/\e.d≠f.d
theorem Dis.symm{e f:Em}(h:Dis e f):Dis f e:=⟨h.1.symm,h.2.1.symm,h.2.2.symm⟩
theorem flush{kd:Nat->Nat}{κ0:KS}(eL:∀ p i,p<i->i<ops.size->ordered (uc ops.toList []) p i=true\/z73 ops kd p i)(nN:∀ i,i<ops.size->kd i<=2)
  {listed:Array Bool} (Yz:Vs ops listed) (Qc:∀ q,q<ops.size->sj ops q->listed.getD q true=true) {a:Act} {sf:F×St} :
  ∀ (m:Nat) (es:List Em) (wZ:Array Bool) (O:KS) (s:F×St),es.length=m->wZ.size=ops.size->(∀ j,j<ops.size->wZ.getD j true=true->listed.getD j true=true) ->
  (∀ j,j<ops.size->listed.getD j true=true->wZ.getD j true=false->∃ e∈es,e.i=j)->(∀ e∈es,e.i<ops.size/\listed.getD e.i true=true/\wZ.getD e.i true=false)->es.Pairwise Dis ->
  Inv O->Rel O n (eM es s.1) a->O.st=s.2->Ext κ0 O->(∀ e∈es,Lw c ops κ0 O a e)->QQ c n ops kd (rest ops wZ) s sf ->
  ∃ (E:KS) (s':F×St),E.w=O.w/\E.st=s'.2/\Inv E/\Ext κ0 E/\Rel E n s'.1 a/\QQ c n ops kd (rest ops listed) s' sf:=by
 intro m
 induction m with
 | zero =>
  intro es wZ O s B _ h1 X _ _ hI hR ud U _ jT
  obtain rfl:es=[]:=zW B
  refine⟨O,s,rfl,ud,hI,U,hR,?_⟩
  have:rest ops wZ=rest ops listed:=by
   unfold rest
   refine List.filter_congr λi hi => ?_
   grind
  grind
 | succ m ih =>
  intro es wZ O s B cm h1 X h3 Mu hI hR ud U hem jT
  obtain⟨e,he,zdJ⟩:=least (es:=es) (λh=>by rw[h]at B; cases B)
  obtain⟨l1,l2,rfl⟩:=List.append_of_mem he
  obtain⟨hei,hel,hea⟩:=h3 e he
  have B9:∀ f,f∈l1++l2->f∈l1++e::l2:=λf hf=>by
   grind
  have zbG:∀ f,f∈l1++e::l2->f=e\/f∈l1++l2:=λf hf=>by
   rcases xA.1 hf with hf | hf
   ·exact .inr (List.mem_append_left _ hf)
   ·rcases qA.1 hf with rfl | hf
    ·exact .inl rfl
    ·exact .inr (List.mem_append_right _ hf)
  have hde:∀ f∈l1++l2,Dis e f:=by
   intro f hf
   rw[List.pairwise_append]at Mu
   obtain⟨_,d2,d3⟩:=Mu
   rcases xA.1 hf with hf | hf
   ·exact(d3 f hf e zK).symm
   ·exact(qE.1 d2).1 f hf
  have Oo:(l1++l2).Pairwise Dis:=Mu.sublist (List.Sublist.append_left (List.sublist_cons_self e l2) l1)
  obtain⟨pre,post,g1,g2,g3⟩:=iV (p:=λi => !wZ.getD i true) (q:=λj => !(wZ.setIfInBounds e.i true).getD j true) (i:=e.i) (qF ops.size) zN
   (R.2 hei) (by simp[hea]) (λj=>by
    rw[cM (Z)]
    by_cases h:j=e.i
    ·subst h; simp
    ·simp[h])
  have z2t:∀ p∈pre,Ind ops kd p e.i:=by
   intro p hp
   obtain⟨q1,q2,q3⟩:=g3 p hp
   have q2:=R.1 q2
   have hpa:wZ.getD p true=false:=by simpa using q1
   have Gq:listed.getD p true=false:=by
    cases J:listed.getD p true with
    | false=>rfl
    | true =>
     obtain⟨f,hf,FP⟩:=X p q2 J hpa
     have:=zdJ f hf
     omega
   have hna:¬ sj ops p:=λh=>by rw[Qc p q2 h]at Gq; cases Gq
   rcases eL p e.i q3 hei with h | h
   ·have:=Yz e.i hei hel p h q2
    rw[this]at Gq; cases Gq
   ·exact DF h (nN p q2) (nN e.i hei) λhh=>hna hh.1
  have FY:QQ c n ops kd (pre++e.i::post) s sf:=by
   have:rest ops wZ=pre++e.i::post:=g1
   rw[<- this]; exact jT
  obtain⟨s1,k1,k2⟩:=Hv z2t FY
  have hE:=hem e he
  obtain⟨o,o1,o2,o3,o4⟩:=hE.op
  obtain⟨D,d1,d2,rfl⟩:=YX o1 o2 o3 o4 k1
  obtain rfl:D=e.D:=Option.some.inj (d1.symm.trans hE.zero)
  obtain⟨iz,z1,z2,z3⟩:=hE.z
  obtain⟨p1,p2,p3⟩:=zaB hI U hE.nob hE.new (z3.rd O) z3.fj z3.ty hE.heap
  have hup:=S2 hI e.blk e.z.cells.size e.D
  refine ih (l1++l2) (wZ.setIfInBounds e.i true) (O.push e.blk e.z.cells.size e.D) (eG s.1 (some e.d) (some (.ptr s.2.length 0)),s.2++[.var e.D]) (by simp at B ⊢; omega) (by simp[cm]) (λj hj ha => ?_) (λj hj J ha => ?_) (λf hf => ?_) Oo p1 ?_ (by show O.st++_=s.2++_; rw[ud]) p2 (λf hf => ?_) ?_
  ·rw[cM (Z)]at ha
   split at ha
   ·rename_i h; subst h; exact hel
   ·exact h1 j hj ha
  ·rw[cM (Z)]at ha
   split at ha
   ·cases ha
   ·rename_i ku
    obtain⟨f,hf,FP⟩:=X j hj J ha
    rcases zbG f hf with rfl | hf
    ·exact absurd FP.symm ku
    ·exact⟨f,hf,FP⟩
  ·obtain⟨f1,f2,f3⟩:=h3 f (B9 f hf)
   refine⟨f1,f2,?_⟩
   rw[cM (Z),if_neg (hde f hf).1.symm]
   exact f3
  ·refine⟨hR.size,hR.defers,λu d0 hu => ?_⟩
   obtain⟨u1,u2⟩:=Cg hu
   simp only[eG]at u1
   by_cases hue:u=e.d
   ·subst hue
    rw[if_pos rfl]at u1
    cases u1
    rw[<- ud]
    exact⟨_,hE.val,p3⟩
   ·rw[if_neg hue]at u1
    have:eM (l1++e::l2) s.1 u=some d0:=by
     rw[UZ λf hf hfu => ?_]
     ·exact u1
     ·rcases zbG f hf with rfl | hf
      ·exact hue hfu.symm
      ·exact u2 f hf hfu
    obtain⟨v,v1,v2⟩:=hR.get u d0 this
    exact⟨v,v1,v2.up hup⟩
  ·have hF:=hem f (B9 f hf)
   refine⟨hF.op,hF.zero,hF.z,hF.val,hF.heap,⟨hF.nob.lt,hF.nob.ok,λb m J => ?_⟩,hF.new⟩
   rcases WK J with J | ⟨_,J⟩
   ·exact hF.nob.ph b m J
   ·exact(hde f hf).2.1 (congrArg Prod.fst (Option.some.inj J)).symm
  ·have:rest ops (wZ.setIfInBounds e.i true)=pre++post:=g2
   rw[this]; exact k2
theorem z4O{listed:Array Bool}{i:Nat}(cm:listed.size=ops.size)(h1:i<ops.size)(X:listed.getD i true=false):(rest ops listed).length=(rest ops (listed.setIfInBounds i true)).length+1:=by
 obtain⟨pre,post,g1,g2,_⟩:=iV (p:=λi => !listed.getD i true) (q:=λj => !(listed.setIfInBounds i true).getD j true) (i:=i) (qF ops.size) zN
  (R.2 h1) (wa) (λj=>by
   rw[cM (Z)]
   by_cases h:j=i
   ·grind
   ·simp[h])
 have e1:rest ops listed=pre++i::post:=g1
 have e2:rest ops (listed.setIfInBounds i true)=pre++post:=g2
 grind
theorem M4{listed:Array Bool}{i:Nat}(Mw:iO ops.toList 0=true)(cm:listed.size=ops.size)(Yz:Vs ops listed)(h1:i<ops.size)
  (h3:∀ o,ops[i]? = some o->∀ e∈o.after.toList,zZ .any e=true->listed.getD e.on false=true) :
  (∀ p,ordered (uc ops.toList []) p i=true->p<ops.size->listed.getD p true=true)/\Vs ops (listed.setIfInBounds i true):=by
 have z2i:∀ p,ordered (uc ops.toList []) p i=true->p<ops.size->listed.getD p true=true:=by
  intro p hp wO
  obtain⟨r,_,_,J⟩:=ZR ops.toList []
  obtain⟨e,k1,k2,k3⟩:=J i ops[i] (qw) p (by simpa[ordered]using hp)
  have B8:=Q2 ops.toList 0 Mw i ops[i] (qw) e k1 k2
  have B6:listed.getD e.on true=true:=by
   grind
  rcases k3 with rfl | ⟨_,k3⟩
  ·exact B6
  ·exact Yz e.on (Z) B6 p k3 wO
 refine⟨z2i,λq hq Tt p hp wO => ?_⟩
 rw[cM (Z)]at Tt ⊢
 split
 ·rfl
 ·split at Tt
  ·grind
  ·exact Yz q hq Tt p hp wO
theorem E9{O:KS}{a:Act}{es:List Em}{f:F}{e:Em}{v:Value}(hR:Rel O n (eM es f) a):Rel O n (eM (e::es) f) (a.put (some e.d) v):=by
 refine⟨by simp[qW,hR.size],hR.defers,λu d hu => ?_⟩
 obtain⟨u1,u2⟩:=Cg hu
 have ku:e.d≠u:=u2 e zK
 have:eM es f u=some d:=by rw[UZ λg hg=>u2 g (zS _ hg)]; exact u1
 obtain⟨w,w1,w2⟩:=hR.get u d this
 exact⟨w,by simp[qW,zH ku]; exact w1,w2⟩
theorem VZ{kd:Nat->Nat}{Q:Exit->Act->World->Prop}(hC:∀ g,EC c.P g (c.fn g))(Mw:iO ops.toList 0=true)
  (eL:∀ p i,p<i->i<ops.size->ordered (uc ops.toList []) p i=true\/z73 ops kd p i) (nN:∀ i,i<ops.size->kd i<=2)
  (Qc:∀ p j,p<ops.size->sj ops p->j<ops.size->ordered (uc ops.toList []) p j=true->∀ q,q<ops.size->sj ops q->ordered (uc ops.toList []) q j=true)
  {κ0:KS} {a0:Act} {sf:F×St}:∀ (fuel:Nat) (listed wZ:Array Bool) (es:List Em) {O:KS} {a:Act} {s:F×St},
  listed.size=ops.size->wZ.size=ops.size->fuel=(rest ops listed).length->Vs ops listed->(∀ j,j<ops.size->wZ.getD j true=true->listed.getD j true=true) ->
  (∀ j,j<ops.size->listed.getD j true=true->wZ.getD j true=false->∃ e∈es,e.i=j)->(∀ e∈es,e.i<ops.size/\listed.getD e.i true=true/\wZ.getD e.i true=false)->es.Pairwise Dis ->
  (∃ q,q<ops.size/\sj ops q/\listed.getD q true=false)->Inv O->Rel O n (eM es s.1) a->O.st=s.2->Ext κ0 O->(∀ e∈es,Lw c ops κ0 O a e)->QQ c n ops kd (rest ops wZ) s sf->rD ops a0 a ->
  (∀ (a':Act) (E:KS),E.st=sf.2->Inv E->Ext κ0 E->Rel E n sf.1 a'->rD ops a0 a'->Q .normal a' E.w)->wpAny c.P .any ops Q fuel listed a O.w
 | 0,listed,wZ,es,O,a,s,cm,hszA,hfuel,Yz,h1,X,h3,Mu,⟨q,q1,q2,q3⟩,hI,hR,ud,U,hem,jT,hkp,hQ=>by
  have hre:rest ops listed=[]:=zW hfuel.symm
  have:q∈rest ops listed:=by simp only[rest,zX,R,zL]; exact⟨q1,q3⟩
  grind
 | fuel+1,listed,wZ,es,O,a,s,cm,hszA,hfuel,Yz,h1,X,h3,Mu,⟨q,q1,q2,q3⟩,hI,hR,ud,U,hem,jT,hkp,hQ=>by
  refine⟨λh => ?_,λi hi => ?_⟩
  ·have hre:=Hc Mw cm h
   grind
  rw[Qv]at hi
  obtain⟨i1,i2,i3⟩:=hi
  obtain⟨z2i,Tp⟩:=M4 Mw cm Yz i1 i3
  have Mx:fuel=(rest ops (listed.setIfInBounds i true)).length:=by have:=z4O cm i1 i2; omega
  have hia:wZ.getD i true=false:=by
   grind
  have z2x:∀ p,p<ops.size->sj ops p->ordered (uc ops.toList []) p i=true->False:=by
   grind
  have oH:∀ j,(listed.setIfInBounds i true).getD j true=if j=i then true else listed.getD j true:=λj=>cM (Z)
  by_cases Yh:sj ops i
  ·-- a new variable is laid
   obtain⟨o,ho,hao⟩:=Yh
   obtain⟨t,d,o1,o2,o3⟩:=TE hao
   have him:i∈rest ops wZ:=by simp only[rest,zX,R,zL]; exact⟨i1,hia⟩
   obtain⟨t1,t2,hos⟩:=IB jT him
   obtain⟨D,d1,d2,_⟩:=YX ho o1 o2 o3 hos
   obtain⟨iz,z,z1,z2,z3⟩:=ta d1
   obtain⟨w1,w2,w3,w4⟩:=z7E hI (.cells z.cells t)
   let e:Em:=⟨i,d,O.w.heap.size,t,z,D⟩
   have ziH:(execOp a.eval o).run c.P O.w=.ok (.value (.pointer (some ⟨O.w.heap.size,0,none⟩))) (O.w.alloc (.cells z.cells t)):=by
    obtain⟨dst,op,ty,pos,after,guard⟩:=o
    cases o1
    simp[execOp,Instr.alloc,zeroValue,typeInfo,z1,z2,newVar,newRow]
   have ziS:qU o (yielded ops a.tmps)=true:=by unfold qU; rw[o2]
   unfold wpOp
   rw[ho]
   simp only
   rw[if_pos ziS]
   refine .inl ?_
   unfold Oper.wp
   rw[ziH]
   show wpAny c.P Region.Mode.any ops Q fuel (listed.setIfInBounds i true) (a.put o.dst (Value.pointer (some { block:=O.w.heap.size,off:=0 }))) (O.w.alloc (Obj.cells z.cells t))
   rw[o3]
   have ku:∀ f∈es,f.d≠d:=by
    intro f hf hfd
    obtain⟨f1,f2,f3⟩:=h3 f hf
    obtain⟨fo,fo1,fo2,fo3,fo4⟩:=(hem f hf).op
    have FP:f.i≠i:=λh=>by rw[h,i2]at f2; cases f2
    rcases Nat.lt_or_gt_of_ne FP with wO | wO
    ·rcases eL f.i i wO i1 with h | h
     ·exact z2x f.i f1 ⟨fo,fo1,DL fo2 fo3 fo4⟩ h
     ·exact(h fo o fo1 ho).1 f.d fo4 (hfd▸eD o3)
    ·rcases eL i f.i wO f1 with h | h
     ·have:=Yz f.i f1 f2 i h i1; rw[i2]at this; cases this
     ·exact(h o fo ho fo1).1 d o3 (hfd▸eD fo4)
   have zpT:Lw c ops κ0 { O with w:=O.w.alloc (.cells z.cells t) } (a.put (some d) (.pointer (some ⟨O.w.heap.size,0,none⟩))) e :=
    ⟨⟨o,ho,o1,o2,o3⟩,d1,⟨iz,z1,z2,z3⟩,by simp[e,qW,hR.size,d2],w4,w3,U.size⟩
   have zi9:∀ f∈e::es,Lw c ops κ0 { O with w:=O.w.alloc (.cells z.cells t) } (a.put (some d) (.pointer (some ⟨O.w.heap.size,0,none⟩))) f:=by
    intro f hf
    rcases qA.1 hf with rfl | hf
    ·exact zpT
    ·exact(hem f hf).mono w2 (by simp[qW,zH (λe'=>ku f hf e'.symm)])
   have hR':Rel { O with w:=O.w.alloc (.cells z.cells t) } n (eM (e::es) s.1) (a.put (some d) (.pointer (some ⟨O.w.heap.size,0,none⟩))):=E9 (e:=e) (hR.mono w2)
   have hdE:∀ f∈es,Dis e f:=by
    intro f hf
    unfold Dis
    refine⟨λh => ?_,λh => ?_,λh=>ku f hf h.symm⟩
    ·have hf2:=(h3 f hf).2.1
     rw[<- h]at hf2
     have i2':listed.getD e.i true=false:=i2
     rw[i2']at hf2
     cases hf2
    ·have B:=(hem f hf).nob.lt
     rw[<- h]at B
     exact Nat.lt_irrefl _ B
   have Oo:(e::es).Pairwise Dis:=qE.2 ⟨hdE,Mu⟩
   have zij:rD ops a0 (a.put (some d) (.pointer (some ⟨O.w.heap.size,0,none⟩))):=hkp.trans (by have:=XI (a:=a) (v:=.pointer (some ⟨O.w.heap.size,0,none⟩)) ho; rw[o3]at this; exact this)
   have HL:∀ j,j<ops.size->wZ.getD j true=true->(listed.setIfInBounds i true).getD j true=true:=λj hj ha=>by
    rw[oH]; split
    ·rfl
    ·exact h1 j hj ha
   have h2':∀ j,j<ops.size->(listed.setIfInBounds i true).getD j true=true->wZ.getD j true=false->∃ f∈e::es,f.i=j:=λj hj J ha=>by
    rw[oH]at J
    split at J
    ·rename_i h; exact⟨e,zK,h.symm⟩
    ·obtain⟨f,hf,FP⟩:=X j hj J ha; exact⟨f,zS _ hf,FP⟩
   have h3':∀ f∈e::es,f.i<ops.size/\(listed.setIfInBounds i true).getD f.i true=true/\wZ.getD f.i true=false:=λf hf=>by
    rcases qA.1 hf with rfl | hf
    ·exact⟨i1,by rw[oH]; exact if_pos rfl,hia⟩
    ·obtain⟨f1,f2,f3⟩:=h3 f hf
     exact⟨f1,by rw[oH]; split<;>first | rfl | exact f2,f3⟩
   by_cases hmore:∃ q,q<ops.size/\sj ops q/\(listed.setIfInBounds i true).getD q true=false
   ·exact VZ hC Mw eL nN Qc fuel (listed.setIfInBounds i true) wZ (e::es) (O:={ O with w:=O.w.alloc (.cells z.cells t) }) (by simp[cm]) hszA Mx Tp HL h2' h3' Oo hmore w1 hR' ud (U.trans w2) zi9 jT zij hQ
   ·-- all are laid
    have zbr:∀ q,q<ops.size->sj ops q->(listed.setIfInBounds i true).getD q true=true:=λq q1 q2=>by
     cases J:(listed.setIfInBounds i true).getD q true with
     | true=>rfl
     | false=>exact(hmore ⟨q,q1,q2,J⟩).elim
    obtain⟨E,s',f1,f2,f3,f4,f5,f6⟩:=flush (c:=c) (n:=n) eL nN Tp zbr (e::es).length (e::es) wZ { O with w:=O.w.alloc (.cells z.cells t) } s rfl hszA HL h2' h3' Oo w1 hR' ud (U.trans w2) zi9 jT
    have hgo:=GZ (O:=E) hC Mw fuel (listed.setIfInBounds i true) (Q:=Q) (λp j hpj hj hp=>(eL p j hpj hj).elim .inl λh=>.inr (DF h (nN p (Z)) (nN j hj) λhh=>by
     rw[zbr p (Z) hh.1]at hp; cases hp)) (by simp[cm]) Mx Tp f3 f5 f2 f6 λa' κ'' e1 e2 e3 e4 e5=>hQ a' κ'' e1 e2 (f4.trans e3) e4 (zij.trans e5)
    rw[f1]at hgo
    exact hgo
  ·-- another operation
   have zbF:∀ o,ops[i]? = some o->∀ e∈es,e.d ∉ tmpsOf ops o:=by
    intro o ho f hf
    obtain⟨f1,f2,f3⟩:=h3 f hf
    obtain⟨fo,fo1,fo2,fo3,fo4⟩:=(hem f hf).op
    have FP:f.i≠i:=λh=>by rw[h,i2]at f2; cases f2
    rcases Nat.lt_or_gt_of_ne FP with wO | wO
    ·rcases eL f.i i wO i1 with h | h
     ·exact(z2x f.i f1 ⟨fo,fo1,DL fo2 fo3 fo4⟩ h).elim
     ·exact(h fo o fo1 ho).1 f.d fo4
    ·rcases eL i f.i wO f1 with h | h
     ·have:=Yz f.i f1 f2 i h i1; rw[i2]at this; cases this
     ·exact(h o fo ho fo1).2.1 f.d fo4
   obtain⟨pre,post,g1,g2,g3⟩:=iV (p:=λi => !wZ.getD i true) (q:=λj => !(wZ.setIfInBounds i true).getD j true) (i:=i) (qF ops.size) zN
    (R.2 i1) (by simp[hia]) (λj=>by
     rw[cM (Z)]
     by_cases h:j=i
     ·subst h; simp
     ·simp[h])
   have z2t:∀ p∈pre,Ind ops kd p i:=by
    intro p hp
    obtain⟨r1,r2,r3⟩:=g3 p hp
    have r2:=R.1 r2
    have r1:wZ.getD p true=false:=by simpa using r1
    rcases eL p i r3 i1 with h | h
    ·obtain⟨f,hf,FP⟩:=X p r2 (z2i p h r2) r1
     obtain⟨fo,fo1,fo2,fo3,fo4⟩:=(hem f hf).op
     exact(z2x p r2 ⟨fo,by rw[<- FP]; exact fo1,DL fo2 fo3 fo4⟩ h).elim
    ·exact DF h (nN p r2) (nN i i1) λhh=>Yh hh.2
   have FY:QQ c n ops kd (pre++i::post) s sf:=by
    have:rest ops wZ=pre++i::post:=g1
    rw[<- this]; exact jT
   obtain⟨s1,k1,k2⟩:=Hv z2t FY
   refine z0b (s:=(eM es s.1,s.2)) (s':=(eM es s1.1,s1.2)) hC hI hR ud (N2 k1 zbF) λa1 κ1 e1 e2 e3 e4 e5 e6 => ?_
   have z2C:∀ j,(wZ.setIfInBounds i true).getD j true=if j=i then true else wZ.getD j true:=λj=>cM (Z)
   refine VZ hC Mw eL nN Qc fuel (listed.setIfInBounds i true) (wZ.setIfInBounds i true) es (O:=κ1) (s:=s1) (by simp[cm]) (by simp[hszA]) Mx Tp (λj hj ha => ?_) (λj hj J ha => ?_) (λf hf => ?_) Mu
    ⟨q,q1,q2,?_⟩ e2 e4 e1 (U.trans e3) (λf hf=>(hem f hf).mono e3 (e6 f.d λo ho hod=>zbF o ho f hf (eD hod))) ?_ (hkp.trans e5) hQ
   ·rw[z2C]at ha; rw[oH]
    split
    ·rfl
    ·rename_i h; rw[if_neg h]at ha; exact h1 j hj ha
   ·rw[z2C]at ha; rw[oH]at J
    split at ha
    ·cases ha
    ·rename_i h; rw[if_neg h]at J; exact X j hj J ha
   ·obtain⟨f1,f2,f3⟩:=h3 f hf
    have FP:f.i≠i:=λh=>by rw[h,i2]at f2; cases f2
    exact⟨f1,by rw[oH,if_neg FP]; exact f2,by rw[z2C,if_neg FP]; exact f3⟩
   ·have hqi:q≠i:=λh=>Yh (by rw[<- h]; exact q2)
    rw[oH,if_neg hqi]; exact q3
   ·have:rest ops (wZ.setIfInBounds i true)=pre++post:=g2
    rw[this]; exact k2
theorem VI{kd:Nat->Nat}:∀ {l:List Oper} {ks:List Nat} {i j:Nat} {o:Oper},l[i]? = some o->ks[i]? = some (kd j)->(GC l ks)[i]? = some (kd3 kd o j)
 | [],_,i,_,_,h,_=>by simp at h
 | _::_,[],i,_,_,_,h=>by simp at h
 | x::l,k::ks,0,j,o,h1,X=>by simp at h1 X; subst h1; subst X; rfl
 | x::l,k::ks,i+1,j,o,h1,X=>by
  have:=VI (kd:=kd) (l:=l) (ks:=ks) (i:=i) (j:=j) (o:=o) (wa) (wa)
  simpa[GC]using this
theorem BF:∀ {l:List Oper} {k i:Nat} {o:Oper},l[i]? = some o->Yl o=true->k+i∈YW l k
 | [],_,_,_,h,_=>by simp at h
 | x::l,k,0,o,h1,X=>by simp at h1; subst h1; simp[YW,X]
 | x::l,k,i+1,o,h1,X=>by
  have:=BF (l:=l) (k:=k+1) (i:=i) (o:=o) (wa) X
  simp only[YW]
  grind
theorem KX{kd:Nat->RK}:∀ (l:List Nat) (s s':F×St) (ks:List RK),NX c n ops l s s' ks->ks=l.map kd->YT (λi s s'=>og c n ops i s s' (kd i)) l s s'
 | [],s,s',ks,h,_=>h.1
 | i::l,s,s',ks,⟨s1,k,MI,e,h1,X⟩,hk=>by
  subst e
  simp at hk
  obtain⟨rfl,hk⟩:=hk
  exact⟨s1,h1,KX l s1 s' MI X hk⟩
theorem z0l{O:KS}{a:Act}{id:Nat}{draw:Bool}{fr:Fr}{kn:Kn}{s':pn}(hm:c.P.follows .mixedOrders=true)(hC:∀ g,EC c.P g (c.fn g))(hI:Inv O)(hR:Rel O n fr.get a)(hk:yQ kn fr.get)
  (h:(ry c n ops draw fr kn O.st).leads s') {Q:Exit->Act->World->Prop} (hQ:∀ (a':Act) (E:KS),E.st=s'.st->Inv E->Ext O E->Rel E n s'.fr.get a'->rD ops a a'->Q .normal a' E.w) :
  (Code.region id ops draw).wp c.P Q a O.w/\yQ s'.kn s'.fr.get:=by
 simp only[ry,T.xf]at h
 obtain⟨s1,h1,X⟩:=h
 obtain⟨ks,g1,g2,g3⟩:=sG ops.toList 0 ⟨fr,kn,O.st,[],[]⟩ s1 (λj=>.inl (qw)) hk h1
 simp only[List.append_nil]at g3
 have B:ops.toList.length=ops.size:=qw
 rw[B,<- xC]at g1
 cases V:(!draw||VD ops s1.ks.reverse s1.bk.reverse)with
 | false=>rw[V]at X; exact X.elim
 | true =>
  rw[V,cond_true]at X
  cases X
  refine⟨?_,g2⟩
  cases draw with
  | false=>exact wp_region (S0 hC _ hI hR rfl g1 hQ)
  | true =>
   simp only[Bool.not_true,Bool.false_or,VD,Bool.or_eq_true]at V
   obtain⟨rks,r1,r3⟩:=Y2 (ops:=ops) ops.toList 0 ⟨fr,kn,O.st,[],[]⟩ _ (λj=>.inl (qw)) hk h1
   simp only[List.append_nil]at r3
   rw[B,<- xC]at r1
   let kd:Nat->Nat:=λi=>ks.getD i 0
   have hkl:ks.length=ops.size:=by rw[IA _ _ _ _ g1]; simp
   have hks:ks=(qF ops.size).map kd:=by
    apply List.ext_getElem?
    intro i
    grind
   have jT:=H0 (kd:=kd) _ _ _ _ g1 hks
   refine wp_region_any hm ?_
   let κd:KS:={ O with w:=O.w.drew }
   have U:Ext O κd:=⟨rfl,rfl,rfl,qG _,λk hk=>⟨hk,rfl⟩,λk hk=>.inl hk,λ_ _ _ h=>.inl h,λb d h=>⟨⟨d,h⟩,rfl⟩,
    λb v0 e xs h=>.inr ⟨v0,xs,h,qG _,λ_=>⟨rfl,rfl⟩⟩,λ_ h=>h,qG _,λk _ _=>rfl⟩
   have hId:Inv κd:=⟨hI.len,hI.cp,hI.apart,hI.inj,λb y hy=>(hI.blk b y hy).mono U rfl λ_ _ _=>rfl,hI.gl.mono U.same⟩
   have XE:rest ops (qB ops.size false)=qF ops.size:=by
    unfold rest
    rw[List.filter_eq_self]
    intro i hi
    have:=R.1 hi
    simp[zY,this]
   have BV:∀ j,j<ops.size->(qB ops.size false).getD j true=false:=λj hj=>by simp[zY,hj]
   have z7N:Vs ops (qB ops.size false):=λq hq Tt=>by rw[BV q hq]at Tt; cases Tt
   have FU:∀ i,i<ops.size->ks[i]? = some (kd i):=λi hi=>by simp[kd,xF,zT (show i<ks.length by omega)]
   have KF:∀ i (hi:i<ops.size),ops.toList[i]? = some ops[i]:=λi hi=>qw
   rcases V with(V | V) | V
   ·simp only[Od,zF]at V
    obtain⟨d1,d2⟩:=V
    rw[g3,qM]at d2
    have eL:∀ p i,p<i->i<ops.size->ordered (uc ops.toList []) p i=true\/Ind ops kd p i:=by
     intro p i EH hi
     have hp:=Qr ops.toList ks 0 [] d2 i ops[i] (kd i) (KF i hi) (FU i hi)
     have:=hp.2 p ops[p] (kd p) EH (KF p (Z)) (FU p (Z))
     simp only[qO]at this
     refine sC this (λh=>h) λhap x y U hy => ?_
     rw[zP (Z)]at U hy
     cases U
     cases hy
     exact hap
    exact GZ (O:=κd) hC d1 ops.size _ (λp i h1 X _=>eL p i h1 X) (qw) (by rw[XE]; simp) z7N hId (hR.mono U) rfl (by rw[XE]; exact jT) λa' E e1 e2 e3 e4 e5=>hQ a' E e1 e2 (U.trans e3) e4 e5
   ·simp only[Oe,zF]at V
    obtain⟨⟨⟨d1,d0⟩,d2⟩,d3⟩:=V
    rw[g3,qM]at d0 d2
    have nN:∀ i,i<ops.size->kd i<=2:=λi hi=>I (zJ.1 d0 _ (xB (FU i hi)))
    have eL:∀ p i,p<i->i<ops.size->ordered (uc ops.toList []) p i=true\/z73 ops kd p i:=by
     intro p i EH hi
     have hp:=Qr ops.toList (GC ops.toList ks) 0 [] d2 i ops[i] (kd3 kd ops[i] i) (KF i hi) (VI (KF i hi) (FU i hi))
     have:=hp.2 p ops[p] (kd3 kd ops[p] p) EH (KF p (Z)) (VI (KF p (Z)) (FU p (Z)))
     simp only[qO]at this
     refine sC this (λh=>h) λhap x y U hy => ?_
     rw[zP (Z)]at U hy
     cases U
     cases hy
     exact hap
    have Qc:∀ p j,p<ops.size->sj ops p->j<ops.size->ordered (uc ops.toList []) p j=true->∀ q,q<ops.size->sj ops q->ordered (uc ops.toList []) q j=true:=by
     intro p j hp hap hj ho q hq haq
     unfold EY at d3
     have:=zJ.1 d3 j (R.2 (by simpa using hj))
     simp only[Bool.or_eq_true,zL,qQ,zJ]at this
     have hm:∀ r,sj ops r->r∈YW ops.toList 0:=λr ⟨o,h1,X⟩=>by
      have:=BF (l:=ops.toList) (k:=0) (i:=r) (o:=o) (by rw[qI]; exact h1) X
      rwa [qO]at this
     rcases this with h | h
     ·have:=h p (hm p hap); rw[ho]at this; exact absurd rfl this
     ·exact h q (hm q haq)
    by_cases hex:∃ q,q<ops.size/\sj ops q
    ·obtain⟨q,q1,q2⟩:=hex
     exact VZ (κ0:=κd) (O:=κd) (a0:=a) hC d1 eL nN Qc ops.size _ (qB ops.size false) [] (qw) (qw) (by rw[XE]; simp) z7N (λj hj h=>by rw[BV j hj]at h; cases h)
      (λj hj h _=>by rw[BV j hj]at h; cases h) (λe he=>by cases he) .nil ⟨q,q1,q2,BV q q1⟩ hId (hR.mono U) rfl (Ext.refl _) (λe he=>by cases he) (by rw[XE]; exact jT) (rD.refl _ _)
      λa' E e1 e2 e3 e4 e5=>hQ a' E e1 e2 (U.trans e3) e4 e5
    ·exact GZ (O:=κd) hC d1 ops.size _ (λp i h1 X _=>(eL p i h1 X).elim .inl λh=>.inr (DF h (nN p (Z)) (nN i X) λhh=>hex ⟨p,Z,hh.1⟩)) (qw) (by rw[XE]; simp) z7N hId (hR.mono U) rfl (by rw[XE]; exact jT) λa' E e1 e2 e3 e4 e5=>hQ a' E e1 e2 (U.trans e3) e4 e5
   ·simp only[Of,zF]at V
    obtain⟨d1,d2⟩:=V
    rw[r3,qM]at d2
    let kr:Nat->RK:=λi=>rks.getD i (.z 0)
    have hrl:rks.length=ops.size:=by rw[Co _ _ _ _ r1]; simp
    have zqi:rks=(qF ops.size).map kr:=by
     apply List.ext_getElem?
     intro i
     by_cases hi:i<ops.size
     ·simp[kr,hi,xF,zT (show i<rks.length by omega)]
     ·rw[qJ (Z),qJ (by simp; omega)]
    have zbJ:∀ i,i<ops.size->rks[i]? = some (kr i):=λi hi=>by simp[kr,xF,zT (show i<rks.length by omega)]
    have ziI:=KX (kd:=kr) _ _ _ _ r1 zqi
    have eL:∀ p i,p<i->i<ops.size->ordered (uc ops.toList []) p i=true\/zcD ops kr p i:=by
     intro p i EH hi
     have hp:=Qr ops.toList rks 0 [] d2 i ops[i] (kr i) (KF i hi) (zbJ i hi)
     have:=hp.2 p ops[p] (kr p) EH (KF p (Z)) (zbJ p (Z))
     simp only[qO]at this
     refine sC this (λh=>h) λhap x y U hy => ?_
     rw[zP (Z)]at U hy
     cases U
     cases hy
     exact hap
    exact Ki (O:=κd) (Stp:=λi s s'=>og c n ops i s s' (kr i)) (In:=λp i=>zcD ops kr p i) (λi s s' h=>h.plain) (λp i hi s s1 s2 h1 X=>Ns hi h1 X) hC d1 ops.size _ (λp i h1 X _=>eL p i h1 X) (qw) (by rw[XE]; simp) z7N hId (hR.mono U) rfl (by rw[XE]; exact ziI) λa' E e1 e2 e3 e4 e5=>hQ a' E e1 e2 (U.trans e3) e4 e5
end
end Go.AM
namespace Go.AM
variable [gy] [BB]
def EP(O:KS):Ex->Exit->Prop
 | .normal,e=>e=.normal
 | .exit id,e=>e=.exit id
 | .ret,e=>e=.ret
 | .bC d,e=>∃ v,e=.panic [{ v,recovered:=false }]/\RD O d v
section
variable {c:Ctx} {n:Nat}
def uh:Code->List (Nat×Code)
 | .seq a b=>uh a++uh b
 | .cond _ a b=>uh a++uh b
 | .block id (.loop b)=>[(id,b)]
 | .block _ a=>uh a
 | _=>[]
theorem z0k{ops:Array Oper}{draw:Bool}{fr:Fr}{kn:Kn}{st:St}{s':pn}(hk:yQ kn fr.get)(h:(ry c n ops draw fr kn st).leads s'):yQ s'.kn s'.fr.get:=by
 simp only[ry,T.xf]at h
 obtain⟨s1,h1,X⟩:=h
 obtain⟨ks,g1,g2,g3⟩:=sG ops.toList 0 ⟨fr,kn,st,[],[]⟩ s1 (λj=>.inl (qw)) hk h1
 cases V:(!draw||VD ops s1.ks.reverse s1.bk.reverse)with
 | false=>rw[V]at X; exact X.elim
 | true=>rw[V,cond_true]at X; cases X; exact g2
theorem nP(f:F):yQ [] f:=by nofun
theorem I6{id:Nat}{b:Code}(J:∀ b',b≠.loop b'):uh (.block id b)=uh b:=by
 cases b<;>first | rfl | exact absurd rfl (J _)
end
section
variable {c:Ctx} {n:Nat}
theorem BG:∀ (ds:List D) (i s:Nat),(yD ds i).get s=if i<=s then ds[s-i]? else none
 | [],i,s=>by simp[yD,Fr.get]
 | d::r,i,s=>by
  simp only[yD,Fr.get]
  by_cases h:i=s
  ·subst h; simp
  ·rw[Qn h,cond_false,BG r (i+1) s]
   grind
theorem Yr{O:KS}{args:List D}{xa:List Value}(h:wP O args xa)(hn:args.length<=n) :
  Rel O n (yD args 0).get { tmps:=xa.toArray++qB (n-xa.toArray.size) undef,defers:=BB.df }:=by
 have B:=h.1
 refine⟨wa,rfl,λs d V => ?_⟩
 rw[BG]at V
 obtain⟨v,h1,X⟩:=h.get V
 grind
theorem U6{O:KS}{fr:Fr}{a:Act}(hI:Inv O)(hR:Rel O n fr.get a):∀ (rvs:List ResultVar) (ds:List D),(nX c fr O.st rvs).leads ds ->
  ∃ vs:List Value,Sem.run c.P (rvs.mapM λr=>match r with | ResultVar.tmp t=>(xG (a.tmps.getD t undef):Sem Value) | ResultVar.cell p t=>do loadVar t (<- asAddr (a.tmps.getD p undef))) O.w=Result.ok vs O.w/\wP O ds vs
 | [],ds,h=>by cases h; exact⟨[],qw,.nil⟩
 | .tmp t::r,ds,h=>by
  simp only[nX]at h
  split at h
  ·rename_i d V
   simp only[T.xf]at h
   obtain⟨l,B,rfl⟩:=h
   obtain⟨v,h1,X⟩:=hR.get t d V
   obtain⟨vs,h3,h4⟩:=U6 hI hR r l B
   refine⟨v::vs,?_,.cons X h4⟩
   simp only[List.mapM_cons,qZ,xD,qT,h3]
   simp[h1]
  ·exact h.elim
 | .cell p t::r,ds,h=>by
  simp only[nX]at h
  split at h
  ·rename_i b off V
   split at h
   ·rename_i d J
    cases Yj:d.Gv with
    | true=>rw[Yj]at h; exact h.elim
    | false =>
    rw[Yj,cond_false]at h
    split at h
    ·rename_i x U
     simp only[T.xf]at h
     obtain⟨l,B,rfl⟩:=h
     obtain⟨v,h1,X⟩:=hR.get p _ V
     obtain⟨vs,h3,h4⟩:=U6 hI hR r l B
     cases X with
     | ptr _ _ blk m d1 hd1 hp =>
      obtain⟨rF,n',cs,T,g1,g2,g3,g4,g5⟩:=(hI.blk b _ J:y7 O b d).cells Yj
      rw[hp]at g1
      cases g1
      obtain⟨u,e1,e2⟩:=GG (c:=c) (blk:=blk) 0 U g4 g5.1 (λj v hj=>by rw[WD g2]; simpa using hj)
      rw[qO]at e1
      refine⟨u::vs,?_,.cons e2 h4⟩
      have hA:(asAddr (a.tmps.getD p undef)).run c.P O.w=.ok ⟨blk,off,none⟩ O.w:=by simp[h1,asAddr]
      simp only[List.mapM_cons,qZ,hA,qT,e1,h3,xD]
    ·exact h.elim
   ·exact h.elim
  ·exact h.elim
def z4B:List Value->Value
 | [v]=>v
 | vs=>.tuple vs.toArray
theorem Jq{O:KS}{fr:Fr}{a:Act}{fn:Func}{ds:List D}(hI:Inv O)(hR:Rel O n fr.get a)(h:(nX c fr O.st fn.results.toList).leads ds) :
  ∃ vs:List Value,(results fn a.tmps).run c.P O.w=.ok (z4B vs) O.w/\wP O ds vs:=by
 obtain⟨vs,h1,X⟩:=U6 hI hR _ _ h
 simp only[results,Array.mapM_eq_mapM_toList,qZ,Sem.run_map]
 have key:∀ r:Result (List Value),r=.ok vs O.w->((r.andThen λa w'=>.ok a.toArray w').andThen λa w'=>(xG (if h:a.size=1 then a[0]else .tuple a):Sem Value).run c.P w')=.ok (z4B vs) O.w:=by
  rintro _ rfl
  match vs with
  | []=>rfl
  | [v]=>rfl
  | _::_::_=>rfl
 grind
theorem H6{O:KS}{ds:List D}{vs:List Value}(h:wP O ds vs):RD O (fy ds) (z4B vs):=by
 match ds,vs,h with
 | [],vs,h=>rw[h.wg]; exact .fj [] [] rfl (λi h=>absurd h (qN i))
 | [d],vs,h =>
  obtain⟨v,r,rfl,h1,X⟩:=h.cons_inv
  rw[X.wg]
  exact h1
 | d::e::r,vs,h =>
  obtain⟨v,us,rfl,h1,X⟩:=h.cons_inv
  obtain⟨u,ws,rfl,h3,h4⟩:=X.cons_inv
  exact .fj _ _ h.1 h.2
def KS.cut(O:KS)(m:Nat):KS:={ O with ph:=O.ph.take m,st:=O.st.take m }
theorem xv{α:Type}{l:List α}{m i:Nat}{a:α}(h:l[i]? = some a)(hi:i<m):(l.take m)[i]? = some a:=wa
theorem lO{α:Type}{l:List α}{m i:Nat}{a:α}(h:(l.take m)[i]? = some a):l[i]? = some a/\i<m:=wa
theorem nu{O:KS}{m:Nat}{d:D}{v:Value}(h:RD O d v)(V:yn m d=true):RD (O.cut m) d v:=by
 cases h with
 | qj τ y cs h=>exact .qj τ y cs h
 | tc e l b v h ht hf=>exact .tc e l b v h ht hf
 | vB e a=>exact .vB e a
 | tight e l ne blk off f ku ja h hc=>exact .tight e l ne blk off f ku ja h hc
 | wF=>exact .wF
 | bq=>exact .bq
 | vb=>exact .vb
 | gC=>exact .gC
 | uX=>exact .uX
 | Vq v h=>exact .Vq v h
 | nD T=>exact .nD T
 | yY b blk n d J h=>exact .yY b blk n d (xv J (I V)) (xv h (I V))
 | nV b T d J=>exact .nV b T d (xv J (I V))
 | nW b T blk n d J h=>exact .nW b T blk n d (xv J (I V)) (xv h (I V))
 | ptr b off blk n d J h=>exact .ptr b off blk n d (xv J (I V)) (xv h (I V))
 | vC τ y cs blk off ja h hc=>exact .vC τ y cs blk off ja h hc
 | gU b vn e idx off blk o J h =>
  have wO:b<m:=I V
  refine .gU b vn e idx off blk o (sC J (λh=>xv h wO) ?_) λxs U hi => ?_
  ·rintro⟨v0,e0,x0,h1,X⟩; exact⟨v0,e0,x0,xv h1 wO,X⟩
  ·obtain⟨n,h1,X⟩:=h xs (lO U).1 hi
   exact⟨n,xv h1 wO,X⟩
 | ms b vn e off len cap a J ju ha V7 h =>
  have wO:b<m:=I V
  refine .ms b vn e off len cap a (sC J (λh=>xv h wO) ?_) ju ha V7 λxs U => ?_
  ·rintro⟨v0,e0,x0,h1,X⟩; exact⟨v0,e0,x0,xv h1 wO,X⟩
  ·obtain⟨h1,X⟩:=h xs (lO U).1
   refine⟨h1,sC X ?_ ?_⟩
   ·rintro⟨g1,g2,g3,g4⟩; exact⟨g1,g2,g3,xv g4 wO⟩
   ·rintro⟨blk,n,o,Ut,g1,g2⟩; exact⟨blk,n,o,Ut,xv g1 wO,g2⟩
 | wi=>cases V
 | agg=>cases V
 | fj=>cases V
 | iface=>cases V
theorem Na{O:KS}{m:Nat}{d:D}{v:Value}(h:RD O d v)(V:iC m d=true):RD (O.cut m) d v:=by
 cases d with
 | wi f l =>
  cases h with
  | wi _ _ vs B hh =>
   simp only[iC,zJ]at V
   exact .wi f l vs B λi h1 X=>nu (hh i h1 X) (V _ (qV h1))
 | agg l =>
  cases h with
  | agg _ vs B ho hh =>
   simp only[iC,zJ]at V
   exact .agg l vs B ho λi h1 X=>nu (hh i h1 X) (V _ (qV h1))
 | fj l=>cases V
 | iface t d =>
  cases h with
  | iface _ _ v h=>exact .iface t _ v (nu h V)
 | _=>exact nu h V
theorem S6{O:KS}{m:Nat}{l:List D}{vs:List Value}(h:wP O l vs)(V:∀ d∈l,iC m d=true):wP (O.cut m) l vs:=⟨h.1,λi h1 X=>Na (h.2 i h1 X) (V _ (qV h1))⟩
theorem Db{m:Nat}{d:D}(h:iC m d=true):∀ x∈xz d,iC m x=true:=by
 have KE:∀ (τ:Ty) (x:den τ),∀ y∈flat τ x,iC m y=true:=by
  intro τ x y hy
  have:∃ σ z,y=.qj σ z:=by
   induction τ with
   | cons a b ia ib =>
    simp only[flat]at hy
    grind
   | nil=>simp[flat]at hy
   | expr=>simp[flat]at hy; rcases hy with rfl | rfl | rfl | rfl | rfl | rfl<;>exact⟨_,_,rfl⟩
   | _=>simp[flat]at hy; subst hy; exact⟨_,_,rfl⟩
  obtain⟨σ,z,rfl⟩:=this
  rfl
 cases d with
 | qj τ x=>exact KE τ x
 | agg l =>
  intro x U
  simp only[iC,zJ]at h
  have:=h x U
  cases x<;>first | exact this | cases this
 | fj l=>cases h
 | Cm l=>intro x U; cases U
 | _=>intro x U; simp[xz]at U; subst U; exact h
theorem z7l{O:KS}{m:Nat}(hI:Inv O)(hc:∀ x∈O.st.take m,Da m x=true):Inv (O.cut m):=by
 refine⟨by simp[KS.cut,hI.len],hI.cp,λb blk n h=>hI.apart b blk n (lO h).1,λb b' blk n n' h h'=>hI.inj b b' blk n n' (lO h).1 (lO h').1,λb x h => ?_,hI.gl⟩
 obtain⟨h1,X⟩:=lO h
 have J:=hI.blk b x h1
 have hcx:=hc x (xB h)
 cases x with
 | dead=>trivial
 | var d =>
  refine y7.elim J (λhm ⟨blk,n,cs,t,g1,g2,g3,g4,g5⟩=>.mk hm ⟨blk,n,cs,t,xv g1 X,g2,g3,S6 g4 (Db hcx),g5⟩) λl e ⟨blk,o,g1,g2⟩ => ?_
  subst e
  exact⟨blk,o,xv g1 X,g2⟩
 | arr vn e xs =>
  obtain⟨h0,J⟩:=J
  refine⟨h0,sC J (λh=>⟨h.1,xv h.2 X⟩) ?_⟩
  rintro⟨blk,n,cs,t,g1,g2⟩
  exact⟨blk,n,cs,t,xv g1 X,g2⟩
end
end Go.AM
namespace Go.AM
variable [gy]
section
variable {c:Ctx}
theorem uW{P:Program}{f:Nat}{fn:Func}{args:Array Value}(hf:P.funcs[f]? = some fn) (hn:(fn.name == "runtime.NumGoroutine")=false) (J:fn.body.isNone=false) (w:World) :
  (callFunc f args).run P w=.ok (.enter f args) w:=by
 simp only[callFunc,qZ,run_program,qT,hf,hn,J,Bool.false_eq_true,if_false,xD]
theorem z0h{O κe:KS}(hI:Inv O)(ud:O.st=[])(hIe:Inv κe)(U:Ext O κe):Inv (κe.bare (okS κe))/\Ext O (κe.bare (okS κe)):=by
 have wO:∀ k,okS κe k->k<κe.w.heap.size:=by
  rintro k (hk | ⟨b,n,hk⟩)
  ·exact hIe.cp k hk
  ·exact(hIe.apart b k n hk).1
 refine⟨G2 hIe (λ_ h=>.inl h) wO,U.os,U.tape,U.output,U.size,λk hk=>⟨.inl (U.same k hk).1,(U.same k hk).2⟩,?_,λb blk n h=>by simp[KS.bare]at h,λb d h=>wa,
  λb v0 e xs h=>wa,λb h=>wa,wa,U.frame⟩
 rintro k (hk | ⟨b,n,hk⟩)
 ·exact U.fresh k hk
 ·rcases U.phs b k n hk with h | h
  ·grind
  ·grind
end
end Go.AM
namespace Go.AM
variable [gy] [BB]
open Go.RowKit
def z7x(s:Nat)(fr:Fr)(st:St):T (Fr×St):=match fr.get s with
 | some (.ms b vn e off len)=>match st[b]? with
  | some (.arr ef e' xs)=>match(jX (a:=.sl e') (b:=.sl e) xs:Option (List (den e)))with
   | some ys=>.zl (vn=ef) (.ret ((s,some (.qj (.sl e) ((ys.take (off+len)).drop off)))::fr,st.set b .dead))
   | none=>.fail
  | _=>.fail
 | _=>.ret (fr,st)
def z7z(j i:Nat)(fr:Fr)(st:St):T (Fr×St):=match st[j]? with
 | some (.var (.agg ds))=>match ds[i]? with
  | some (.ms b vn e off len)=>match st[b]? with
   | some (.arr ef e' xs)=>match(jX (a:=.sl e') (b:=.sl e) xs:Option (List (den e)))with
    | some ys=>.zl (vn=ef) (.ret (fr,(st.set b .dead).set j (.var (.agg (ds.set i (.qj (.sl e) ((ys.take (off+len)).drop off)))))))
    | none=>.fail
   | _=>.fail
  | _=>.ret (fr,st)
 | _=>.ret (fr,st)
def z7B(s:Nat)(fr:Fr)(st:St):T (Fr×St):=bif Nat.ble 1000000 s then z7z ((s-1000000) / 1000) ((s-1000000) % 1000) fr st else z7x s fr st
def frz:List Nat->Fr->St->T (Fr×St)
 | [],fr,st=>.ret (fr,st)
 | s::r,fr,st=>(z7B s fr st).bind λx=>frz r x.1 x.2
section
variable {c:Ctx} {O:KS} {n:Nat}
theorem zjo{b vn off len:Nat}{e:Ty}{xs:List (den e)}{v:Value}(hI:Inv O)(h:RD O (.ms b vn e off len) v)(J:O.st[b]? = some (.arr vn e xs)){KU:Nat->Prop}(h1:∀ k,O.ok k->KU k)(X:∀ k n,O.ph[b]? = some (some (k,n))->KU k) :
  Rc O.w KU (.sl e) ((xs.take (off+len)).drop off) [v]:=by
 obtain⟨DC,_⟩:=No hI h J
 obtain⟨a,cap,f,hve,ju,hn,g1,g2⟩:=DC.ex
 have z2j:∀ blk o:Nat,v=.slice (some ⟨blk,o,none⟩) ((xs.take (off+len)).drop off).length cap->KU blk:=by
  intro blk o he
  cases h with
  | ms _ _ _ _ _ Ut a' hold zi1 ha V7 hm =>
   obtain⟨_,hm⟩:=hm xs J
   grind
 rw[hve]
 cases a with
 | none=>obtain⟨k1,k2⟩:=hn rfl; rw[k1,k2]; exact .mf e none
 | some p =>
  rcases g2 p rfl with⟨k1,k2⟩ | ⟨hp,_,hc⟩
  ·rw[k1,k2]; exact .mf e _
  ·obtain⟨blk,o,sp⟩:=p
   subst hp
   exact .sl e _ blk o cap f (z2j blk o hve) ju (λi hi=>(g1 i hi).mono λk hk=>⟨h1 k hk,rfl⟩) hc
theorem OF{b vn:Nat}{e:Ty}{xs:List (den e)}(J:O.st[b]? = some (.arr vn e xs))(hI:Inv O):∃ E:KS,E.w=O.w/\E.st=O.st.set b .dead/\Inv E/\Ext O E /\
  ∀ (off len:Nat) (v:Value),RD O (.ms b vn e off len) v->RD E (.qj (.sl e) ((xs.take (off+len)).drop off)) v:=by
 have wO:b<O.st.length:=(zQ.1 J).1
 let E:KS:=⟨O.w,λk=>O.ok k\/∃ n,O.ph[b]? = some (some (k,n)),O.ph.set b none,O.st.set b .dead⟩
 have ud:∀ i,i≠b->E.st[i]? = O.st[i]? := λi hi=>by show(O.st.set b .dead)[i]? = _; rw[zE (λe=>hi e.symm)]
 have HO:∀ i,i≠b->E.ph[i]? = O.ph[i]? := λi hi=>by show(O.ph.set b none)[i]? = _; rw[zE (λe=>hi e.symm)]
 have z8a:∀ (i blk m:Nat),E.ph[i]? = some (some (blk,m))->i≠b/\O.ph[i]? = some (some (blk,m)):=by
  grind
 have U:Ext O E:=by
  refine⟨rfl,rfl,rfl,qG _,λk hk=>⟨.inl hk,rfl⟩,?_,λi blk m hi=>.inl (z8a i blk m hi).2,?_,?_,?_,by show _<=(O.st.set b .dead).length; simp,λ_ _ _=>rfl⟩
  ·grind
  ·grind
  ·grind
  ·grind
 have hI':Inv E:=by
  refine⟨by show(O.ph.set b none).length=(O.st.set b .dead).length; simp[hI.len],?_,?_,?_,?_,hI.gl.mono U.same⟩
  ·rintro k (hk | ⟨m,hk⟩)
   ·exact hI.cp k hk
   ·exact(hI.apart b k m hk).1
  ·intro i blk m hi
   obtain⟨hib,YA⟩:=z8a i blk m hi
   obtain⟨g1,g2⟩:=hI.apart i blk m YA
   refine⟨g1,?_⟩
   rintro(hk | ⟨m',hk⟩)
   ·exact g2 hk
   ·exact hib (hI.inj i b blk m m' YA hk)
  ·intro i i' blk m m' hi YA
   exact hI.inj i i' blk m m' (z8a i blk m hi).2 (z8a i' blk m' YA).2
  ·intro i hl hB
   by_cases hib:i=b
   ·subst hib
    have:(O.st.set i .dead)[i]? = some hl:=hB
    rw[qX wO]at this
    cases this
    trivial
   ·rw[ud i hib]at hB
    exact(hI.blk i hl hB).mono U (HO i hib) λ_ _ _=>rfl
 exact⟨E,rfl,rfl,hI',U,λoff len v V=>RD.Zr rfl (zjo hI V J (λk hk=>.inl hk) λk m hk=>.inr ⟨m,hk⟩)⟩
theorem z7y{s:Nat}{fr:Fr}{a:Act}{r:Fr×St}(h:(z7x s fr O.st).leads r)(hI:Inv O)(hR:Rel O n fr.get a):∃ E:KS,E.w=O.w/\E.st=r.2/\Inv E/\Ext O E/\Rel E n r.1.get a:=by
 unfold z7x at h
 split at h
 ·rename_i b vn e off len hs
  split at h
  ·rename_i ef e' xs J
   split at h
   ·rename_i ys hy
    obtain⟨he,U⟩:=wh hy
    obtain⟨rfl,h⟩:=h
    cases h
    obtain⟨v,hv,V⟩:=hR.get s _ hs
    obtain⟨E,e1,e2,hI',U,hk⟩:=OF J hI
    refine⟨E,e1,e2,hI',U,hR.size,hR.defers,λt d eR => ?_⟩
    simp only[Fr.get]at eR
    cases ht:zU s t with
    | true =>
     rw[<- Y ht]
     grind
    | false =>
     rw[ht,cond_false]at eR
     obtain⟨u,g1,g2⟩:=hR.get t d eR
     exact⟨u,g1,g2.mono U⟩
   ·exact h.elim
  ·exact h.elim
 ·cases h; exact⟨O,rfl,rfl,hI,Ext.refl O,hR⟩
theorem Tg{ds:List D}{i b vn off len:Nat}{e:Ty}{d':D}(V:ds[i]? = some (.ms b vn e off len))(hn:lV [d']=none){T:Nat}(h:lV (ds.set i d')=some T):lV ds=some T:=by
 cases ds with
 | nil=>cases V
 | cons x r =>
  cases i with
  | zero =>
   have:lV (d'::r)=lV [d']:=by cases d'<;>rfl
   grind
  | succ i =>
   have:∀ r':List D,lV (x::r')=lV [x]:=by intro r'; cases x<;>rfl
   grind
theorem z7A{j i:Nat}{fr:Fr}{a:Act}{r:Fr×St}(h:(z7z j i fr O.st).leads r)(hI:Inv O)(hR:Rel O n fr.get a):∃ E:KS,E.w=O.w/\E.st=r.2/\Inv E/\Ext O E/\Rel E n r.1.get a:=by
 unfold z7z at h
 split at h
 ·rename_i ds hj
  split at h
  ·rename_i b vn e off len hi
   split at h
   ·rename_i ef e' xs J
    split at h
    ·rename_i ys hy
     obtain⟨he,U⟩:=wh hy
     cases he
     cases U
     obtain⟨rfl,h⟩:=h
     cases h
     obtain⟨κ1,e1,e2,Uk,hx1,hk⟩:=OF J hI
     have hjb:j≠b:=λq=>by subst q; rw[J]at hj; cases hj
     have hj1:κ1.st[j]? = some (.var (.agg ds)):=by rw[e2,zE (λq=>hjb q.symm)]; exact hj
     have hjl:j<κ1.st.length:=(zQ.1 hj1).1
     let d':D:=.qj (.sl e) ((xs.take (off+len)).drop off)
     let κ2:KS:={ κ1 with st:=κ1.st.set j (.var (.agg (ds.set i d'))) }
     have ud:∀ k,k≠j->κ2.st[k]? = κ1.st[k]? := λk hk=>by show(κ1.st.set j _)[k]? = _; rw[zE (λq=>hk q.symm)]
     have zql:κ2.st[j]? = some (.var (.agg (ds.set i d'))):=by show(κ1.st.set j _)[j]? = _; rw[qX hjl]
     have DE:Ext κ1 κ2:=by
      refine⟨rfl,rfl,rfl,qG _,λk hk=>⟨hk,rfl⟩,λk hk=>.inl hk,λk blk m hk=>.inl hk,?_,?_,?_,by show _<=(κ1.st.set j _).length; simp,λ_ _ _=>rfl⟩
      ·grind
      ·grind
      ·grind
     have hI2:Inv κ2:=by
      refine⟨by show κ1.ph.length=(κ1.st.set j _).length; simp[Uk.len],Uk.cp,Uk.apart,Uk.inj,?_,Uk.gl⟩
      intro k hl hB
      by_cases q:k=j
      ·subst q
       rw[zql]at hB
       cases hB
       obtain⟨blk,m,cs,t,g1,g2,g3,g4,g5,g6⟩:=hI.blk k _ hj
       obtain⟨rF,m',nd,t',p1,p2,p3,p4,p5,p6⟩:=Uk.blk k _ hj1
       have HO:κ1.ph[k]? = O.ph[k]? := (hx1.var k _ hj).2
       rw[HO,g1]at p1
       cases p1
       rw[e1,g2]at p2
       cases p2
       refine⟨blk,m,cs,t,HO.trans g1,by show κ1.w.heap[blk]? = _; rw[e1]; exact g2,g3,?_,?_,λT hT=>g6 T (Tg hi rfl hT)⟩
       ·have p4':wP κ2 ds cs.toList:=wP.mono DE p4
        refine⟨by show(ds.set i d').length=_; rw[List.length_set]; exact p4'.1,λk' h1 X => ?_⟩
        have HL:k'<(ds.set i d').length:=h1
        rw[List.length_set]at HL
        show RD κ2 ((ds.set i d')[k']) _
        by_cases q:i=k'
        ·subst q
         have hdi:ds[i]'HL=.ms b vn e off len:=Option.some.inj ((zT HL).symm.trans hi)
         have:=g4.2 i HL X
         have FP:(xz (D.agg ds))[i]'HL=.ms b vn e off len:=hdi
         rw[FP]at this
         have e3:(ds.set i d')[i]'h1=d':=List.getElem_set_self _
         rw[e3]
         exact(hk _ _ _ this).mono DE
        ·have e3:(ds.set i d')[k']'h1=ds[k']'HL:=List.getElem_set_ne q _
         rw[e3]
         exact p4'.2 k' HL X
       ·intro x U
        rcases List.mem_or_eq_of_mem_set U with U | rfl
        ·exact g5 x U
        ·rfl
      ·rw[ud k q]at hB
       exact(Uk.blk k hl hB).mono DE rfl λ_ _ _=>rfl
     refine⟨κ2,e1,by show κ1.st.set j _=_; rw[e2],hI2,hx1.trans DE,hR.size,hR.defers,λt d eR => ?_⟩
     obtain⟨u,q1,q2⟩:=hR.get t d eR
     exact⟨u,q1,(q2.mono hx1).mono DE⟩
    ·exact h.elim
   ·exact h.elim
  ·cases h; exact⟨O,rfl,rfl,hI,Ext.refl O,hR⟩
 ·cases h; exact⟨O,rfl,rfl,hI,Ext.refl O,hR⟩
theorem z7C{s:Nat}{fr:Fr}{a:Act}{r:Fr×St}(h:(z7B s fr O.st).leads r)(hI:Inv O)(hR:Rel O n fr.get a):∃ E:KS,E.w=O.w/\E.st=r.2/\Inv E/\Ext O E/\Rel E n r.1.get a:=by
 unfold z7B at h
 cases J:Nat.ble 1000000 s with
 | true=>rw[J,cond_true]at h; exact z7A h hI hR
 | false=>rw[J,cond_false]at h; exact z7y h hI hR
theorem z1J:∀ (l:List Nat) {fr:Fr} {O:KS} {a:Act} {r:Fr×St},(frz l fr O.st).leads r->Inv O->Rel O n fr.get a->∃ E:KS,E.w=O.w/\E.st=r.2/\Inv E/\Ext O E/\Rel E n r.1.get a
 | [],fr,O,a,r,h,hI,hR=>by cases h; exact⟨O,rfl,rfl,hI,Ext.refl O,hR⟩
 | s::l,fr,O,a,r,h,hI,hR=>by
  simp only[frz,T.xf]at h
  obtain⟨x,h1,X⟩:=h
  obtain⟨κ1,e1,e2,e3,e4,e5⟩:=z7C h1 hI hR
  rw[<- e2]at X
  obtain⟨κ2,g1,g2,g3,g4,g5⟩:=z1J l X e3 e5
  exact⟨κ2,g1.trans e1,g2,g3,e4.trans g4,g5⟩
end
end Go.AM