/-
  The abstract machine, part C: texts of our own, the same for each claim.
-/
import Derived.Test.YtjklmealdnfhfaaGreatDoorAmB
import Derived.Deep.LoopGhost
set_option linter.unusedVariables false
open Go.Op renaming operands -> zA
open Nat renaming eq_of_beq_eq_true -> Y, le_of_ble_eq_true -> X, beq -> zU, le_antisymm -> qC, le_refl -> qG, lt_or_ge -> qH, blt -> qL, not_lt_zero -> qN, zero_add -> qO, testBit -> qS
open List renaming mem_range -> V, getElem?_set_ne -> zE, getElem?_append_left -> zI, all_eq_true -> zJ, mem_cons_self -> zK, map_congr_left -> zM, pairwise_lt_range -> zN, any_eq_true -> zO, getElem?_eq_some_iff -> zQ, mem_cons_of_mem -> zS, getElem?_eq_getElem -> zT, eq_nil_of_length_eq_zero -> zW, mem_filter -> zX, mem_cons -> qA, pairwise_cons -> qE, range -> qF, getElem?_eq_none -> qJ, reverse_reverse -> qM, any_eq_false -> qQ, getElem?_map -> qR, getElem_mem -> qV, getElem?_set_self -> qX, mem_append -> xA, mem_of_getElem? -> xB, range_eq_range' -> xC, getD -> xF
open Bool renaming and_eq_true -> zF, not_eq_true' -> zL, not_eq_false' -> qD
open Array renaming mem_toList_iff -> zG, getElem?_setIfInBounds_ne -> zH, getElem?_eq_getElem -> zP, toArray_toList -> zR, eq_empty_of_size_eq_zero -> zV, getD_eq_getD_getElem? -> zY, replicate -> qB, getElem?_toList -> qI, ext' -> qP
open Go.Region renaming binds -> zZ, wanted -> qU, ready -> qY
open Go.Call renaming operands -> qK
open Go.Result renaming andThen_ok -> qT
open Go.Act renaming put -> qW
open Go.Sem renaming run_bind -> qZ, run_pure -> xD
open Go.Deferred renaming ofValue -> xE
open Pure renaming pure -> xG
namespace Go.AM
set_option linter.unusedSectionVars false
variable [yV]
abbrev F:=Nat->Option D
def wz(f:F):Operand->Option D
 | .tmp t=>f t
 | .const v=>JQ v
 | .global _=>none
 | .func g=>bif qL g 1000000 then some (.wg g [])else none
theorem fY(fr:Fr):bn fr=wz fr.get:=by rfl
def dN(f:F)(dst:Option Nat)(d:Option D):F:=match dst with
 | some t=>λs=>if s=t then d else f s
 | none=>f
theorem ZV{a b:Nat}(h:a≠b):zU a b=false:=by
 cases I:zU a b with
 | false=>rfl
 | true=>exact absurd (Y I) h
theorem ZG(fr:Fr)(dst:Option Nat)(d:Option D):(fr.put dst d).get=dN fr.get dst d:=by
 cases dst with
 | none=>rfl
 | some t =>
  funext s
  simp only[Fr.put,Fr.get,dN]
  by_cases h:s=t
  ·subst h; simp
  ·rw[if_neg h,ZV (λe=>h e.symm),cond_false]
section
variable (c:Ctx) (n:Nat) (ops:Array Oper)
def jC(f:F)(o:Oper):Option Bool:=match o.guard with
 | none=>some true
 | some (j,w)=>match br ops j with
  | none=>none
  | some t=>match f t with
   | some (.qi .bool b)=>some (b==w)
   | some (.eA [])=>some false
   | _=>none
def eV(i:Nat)(s s':F×St)(k:Nat):Prop:=∃ o,ops[i]? = some o/\yX n o.dst=true /\
 ((jC ops s.1 o=some true/\k=(wP c (wz s.1) o).kind/\∃ d ql,(qt (wP c (wz s.1) o) s.2).leads (d,ql)/\s'=(dN s.1 o.dst d,ql)) \/
  (jC ops s.1 o=some false/\k=0/\s'=(dN s.1 o.dst (some SU),s.2)))
def R4:List Nat->F×St->F×St->List Nat->Prop
 | [],s,s',ks=>s'=s/\ks=[]
 | i::l,s,s',ks=>∃ s1 k L5,ks=k::L5/\eV c n ops i s s1 k/\R4 l s1 s' L5
end
section
variable {c:Ctx} {n:Nat} {ops:Array Oper}
def yy(kn:Kn)(f:F):Prop:=∀ t b,kn.get t=some b->f t=some (.qi .bool b)
theorem Yz(t:Nat)(b:Option Bool)(kn:Kn)(s:Nat):Kn.get ((t,b)::kn) s=if s=t then b else kn.get s:=by
 simp only[Kn.get]
 by_cases h:s=t
 ·subst h; simp
 ·rw[if_neg h,ZV (λe=>h e.symm),cond_false]
theorem lW{kn:Kn}{f:F}(h:yy kn f){x:Operand}{b:Bool}(N:rj kn x=some b):wz f x=some (.qi .bool b):=by
 unfold rj at N
 split at N
 ·exact h _ _ N
 ·cases N; rfl
 ·cases N
theorem Ea{kn:Kn}{fr:Fr}{o:Oper}(hk:yy kn fr.get){st:St}{r:Option D×St}(h:(qt (Qm c kn fr o) st).leads r) :
  (qt (wP c (wz fr.get) o) st).leads r/\(Qm c kn fr o).kind=(wP c (wz fr.get) o).kind/\∀ b,H5 kn o.op=some b->r.1=some (.qi .bool b):=by
 obtain⟨dst,op,ty,pos,after,guard⟩:=o
 rw[<- fY]
 cases op with
 | pick x a b =>
  simp only[Qm]at h ⊢
  cases N:rj kn x with
  | none =>
   rw[N]at h
   refine⟨h,rfl,λb' I => ?_⟩
   simp[H5,N]at I
  | some bx =>
   rw[N]at h
   have hval:=lW hk N
   rw[<- fY]at hval
   have zg8:wP c (bn fr) ⟨dst,.pick x a b,ty,pos,after,guard⟩=.val (.ite bx (.ret (bn fr a)) (.ret (bn fr b))):=by
    simp only[wP,Lr,hval,asBool]
   rw[zg8]
   obtain⟨d,ql⟩:=r
   cases bx with
   | true =>
    simp only[kL,T.leads]at h ⊢
    refine⟨⟨.inl ⟨by first | rfl | trivial,h.1⟩,h.2⟩,rfl,λb' I => ?_⟩
    simp only[H5,N]at I
    have:=lW hk I
    rw[<- fY]at this
    grind
   | false =>
    simp only[kL,T.leads]at h ⊢
    refine⟨⟨.inr ⟨by first | rfl | trivial,h.1⟩,h.2⟩,rfl,λb' I => ?_⟩
    simp only[H5,N]at I
    have:=lW hk I
    rw[<- fY]at this
    grind
 | move x =>
  refine⟨h,rfl,λb I => ?_⟩
  obtain⟨d,ql⟩:=r
  simp only[Qm,wP,kL,T.leads]at h
  have:=lW hk (show rj kn x=some b from I)
  rw[<- fY]at this
  grind
 | assign x =>
  refine⟨h,rfl,λb I => ?_⟩
  obtain⟨d,ql⟩:=r
  simp only[Qm,wP,kL,T.leads]at h
  have:=lW hk (show rj kn x=some b from I)
  rw[<- fY]at this
  grind
 | _=>exact⟨h,rfl,λb I=>by simp[H5]at I⟩
theorem Pd{kn:Kn}{f:F}(hk:yy kn f){dst:Option Nat}{d:Option D}{b:Option Bool}(I:∀ b',b=some b'->d=some (.qi .bool b')):yy (Hb kn dst b) (dN f dst d):=by
 cases dst with
 | none=>exact hk
 | some t =>
  intro s b' h
  simp only[Hb,Yz]at h
  simp only[dN]
  split at h
  ·grind
  ·rename_i e; rw[if_neg e]; exact hk s b' h
theorem XR{kn:Kn}{f:F}(hk:yy kn f){t:Nat}{b:Bool}(I:f t=some (.qi .bool b)):yy ((t,some b)::kn) f:=by
 intro s b' h
 rw[Yz]at h
 split at h
 ·grind
 ·exact hk s b' h
theorem Gk{o:Oper}{s s':oh}(hk:yy s.kn s.fr.get)(h:(iW c n o s).leads s') :
  yX n o.dst=true/\(∃ d ql,(qt (wP c (wz s.fr.get) o) s.st).leads (d,ql)/\s'.fr.get=dN s.fr.get o.dst d/\s'.st=ql)/\yy s'.kn s'.fr.get/\s'.ks=(wP c (wz s.fr.get) o).kind::s.ks:=by
 unfold iW at h
 cases J:yX n o.dst with
 | false=>rw[J]at h; exact h.elim
 | true =>
  rw[J,cond_true]at h
  simp only[T.xg]at h
  obtain⟨⟨d,ql⟩,h1,rfl⟩:=h
  obtain⟨M,h3,h4⟩:=Ea hk h1
  refine⟨rfl,⟨d,ql,M,ZG _ _ _,rfl⟩,?_,xy⟩
  rw[ZG]
  exact Pd hk h4
theorem Pl{o:Oper}{s:oh}(hk:yy s.kn s.fr.get):yy (cD o s).kn (cD o s).fr.get:=by
 show yy (Hb s.kn o.dst none) (s.fr.put o.dst (some SU)).get
 rw[ZG]
 exact Pd hk nofun
theorem Bz{i:Nat}{o:Oper}{s s':oh}(ho:ops[i]? = some o)(hk:yy s.kn s.fr.get)(h:(stepG c n ops o s).leads s') :
  ∃ k,eV c n ops i (s.fr.get,s.st) (s'.fr.get,s'.st) k/\yy s'.kn s'.fr.get/\s'.ks=k::s.ks:=by
 have run:∀ (s0:oh),s0.fr=s.fr->s0.st=s.st->s0.ks=s.ks->yy s0.kn s0.fr.get->jC ops s.fr.get o=some true->(iW c n o s0).leads s' ->
   ∃ k,eV c n ops i (s.fr.get,s.st) (s'.fr.get,s'.st) k/\yy s'.kn s'.fr.get/\s'.ks=k::s.ks:=by
  intro s0 e1 e2 e3 Dn hw h
  obtain⟨h1,⟨d,ql,M,h3,h4⟩,h5,h6⟩:=Gk Dn h
  rw[e1]at M h3 h6
  rw[e2]at M
  rw[e3]at h6
  exact⟨_,⟨o,ho,h1,.inl ⟨hw,rfl,d,ql,M,by rw[h3,h4]⟩⟩,h5,h6⟩
 have skip:∀ (s0:oh),s0.fr=s.fr->s0.st=s.st->s0.ks=s.ks->yy s0.kn s0.fr.get->jC ops s.fr.get o=some false->yX n o.dst=true->cD o s0=s' ->
   ∃ k,eV c n ops i (s.fr.get,s.st) (s'.fr.get,s'.st) k/\yy s'.kn s'.fr.get/\s'.ks=k::s.ks:=by
  intro s0 e1 e2 e3 Dn hw J h
  subst h
  refine⟨0,⟨o,ho,J,.inr ⟨hw,rfl,?_⟩⟩,Pl Dn,by simp[cD,e3]⟩
  simp only[cD,ZG,e1,e2]
 unfold stepG at h
 split at h
 ·rename_i hg
  exact run s rfl rfl rfl hk (by simp[jC,hg]) h
 ·rename_i j w hg
  split at h
  ·exact h.elim
  ·rename_i t ht
   split at h
   ·rename_i b I
    have hf:=hk t b I
    have hw:jC ops s.fr.get o=some (b==w):=by simp[jC,hg,ht,hf]
    cases T0:(b==w)with
    | true=>grind
    | false =>
     rw[T0,cond_false]at h
     cases J:yX n o.dst with
     | false=>rw[J]at h; exact h.elim
     | true=>rw[J,cond_true]at h; exact skip s rfl rfl rfl hk (by rw[hw,T0]) J h
   ·split at h
    ·rename_i x N
     have hw:jC ops s.fr.get o=some (x==w):=by simp[jC,hg,ht,N]
     cases J:yX n o.dst with
     | false=>rw[J]at h; exact h.elim
     | true =>
      rw[J,cond_true]at h
      rcases h with⟨rfl,h⟩ | ⟨rfl,h⟩
      ·have Kw:yy (s.l0 t true).kn (s.l0 t true).fr.get:=XR hk N
       cases w with
       | true=>exact run (s.l0 t true) rfl rfl rfl Kw hw h
       | false=>exact skip (s.l0 t true) rfl rfl rfl Kw hw J h
      ·have Kw:yy (s.l0 t false).kn (s.l0 t false).fr.get:=XR hk N
       cases w with
       | true=>exact skip (s.l0 t false) rfl rfl rfl Kw hw J h
       | false=>exact run (s.l0 t false) rfl rfl rfl Kw hw h
    ·rename_i N
     have hw:jC ops s.fr.get o=some false:=by simp[jC,hg,ht,N]
     cases J:yX n o.dst with
     | false=>rw[J]at h; exact h.elim
     | true=>rw[J,cond_true]at h; exact skip s rfl rfl rfl hk hw J h
    ·exact h.elim
theorem rO:∀ (l:List Oper) (k0:Nat) (s s':oh),(∀ j,l[j]? = ops[k0+j]? \/ l.length<=j)->yy s.kn s.fr.get->(tv c n ops l s).leads s' ->
  ∃ ks,R4 c n ops (List.range' k0 l.length) (s.fr.get,s.st) (s'.fr.get,s'.st) ks/\yy s'.kn s'.fr.get/\s'.ks=ks.reverse++s.ks
 | [],k0,s,s',_,hk,h=>by cases h; exact⟨[],⟨rfl,rfl⟩,hk,rfl⟩
 | o::l,k0,s,s',R,hk,h=>by
  simp only[tv,T.xg]at h
  obtain⟨s1,h1,M⟩:=h
  have ho:ops[k0]? = some o:=by rcases R 0 with h | h<;>simp at h; exact h.symm
  obtain⟨k,g1,g2,g3⟩:=Bz ho hk h1
  obtain⟨ks,g4,g5,g6⟩:=rO l (k0+1) s1 s' (λj=>by have:=R (j+1); simpa[Nat.add_assoc,Nat.add_comm 1 j]using this) g2 M
  refine⟨k::ks,?_,g5,xy⟩
  exact⟨_,k,ks,rfl,g1,g4⟩
end
end Go.AM
namespace Go.AM
set_option linter.unusedSectionVars false
variable [yV]
section
variable {c:Ctx} {n:Nat} {ops:Array Oper}
theorem Xb{α:Type}{ρ ρ':α->Option D}(L:List (Nat×α))(h:∀ p∈L,ρ p.2=ρ' p.2):(L.map λp=>(p.1,ρ p.2))=L.map λp=>(p.1,ρ' p.2) :=
 zM λp hp=>by rw[h p hp]
theorem WU{ρ ρ':Operand->Option D}(o:Oper)(h:∀ x∈o.op.operands,ρ x=ρ' x):wP c ρ o=wP c ρ' o:=by
 obtain⟨dst,op,ty,pos,after,guard⟩:=o
 cases op with
 | move x=>simp only[wP]; rw[h x (by simp[zA])]
 | assign x=>simp only[wP]; rw[h x (by simp[zA])]
 | pick x a b=>simp only[wP]; rw[h x (by simp[zA]),h a (by simp[zA]),h b (by simp[zA])]
 | box t x=>simp only[wP]; rw[h x (by simp[zA])]
 | load t x=>simp only[wP]; rw[h x (by simp[zA])]
 | store t x y=>simp only[wP]; rw[h x (by simp[zA]),h y (by simp[zA])]
 | nilCheck x=>simp only[wP]; rw[h x (by simp[zA])]
 | binOp op t x y _=>simp only[wP]; rw[h x (by simp[zA]),h y (by simp[zA])]
 | typeAssert x xt t ok=>simp only[wP]; rw[h x (by simp[zA])]
 | unOp op t x=>simp only[wP]; rw[h x (by simp[zA])]
 | convert s t x=>simp only[wP]; rw[h x (by simp[zA])]
 | makeInterface t x=>simp only[wP]; rw[h x (by simp[zA])]
 | makeFunc fn first cap =>
  cases fn<;>simp only[wP]
  rw[zM (l:=cap.toList) (λx N=>h x (by simp[zA,zG.1 N])),zM (l:=first.toList) (λx N=>h x (by simp[zA,zG.1 N]))]
 | makeSlice t x y=>simp only[wP]; rw[h x (by simp[zA]),h y (by simp[zA])]
 | slice t x lo hi mx =>
  simp only[wP]
  have ho:∀ o:Option Operand,(∀ y,o=some y->ρ y=ρ' y)->o.map ρ=o.map ρ':=λo ho=>by
   cases o with
   | none=>rfl
   | some y=>grind
  rw[h x (by simp[zA]),ho lo (λy hy=>h y (by simp[zA,hy])),ho hi (λy hy=>h y (by simp[zA,hy])),ho mx (λy hy=>h y (by simp[zA,hy]))]
 | fieldAddr s x f=>simp only[wP]; rw[h x (by simp[zA])]
 | field s x f=>simp only[wP]; rw[h x (by simp[zA])]
 | indexAddr t x y=>simp only[wP]; rw[h x (by simp[zA]),h y (by simp[zA])]
 | lookup t x y _=>simp only[wP]; rw[h x (by simp[zA]),h y (by simp[zA])]
 | mapUpdate t x y z=>simp only[wP]; rw[h x (by simp[zA]),h y (by simp[zA]),h z (by simp[zA])]
 | index t x y=>simp only[wP]; rw[h x (by simp[zA]),h y (by simp[zA])]
 | extract x i=>simp only[wP]; rw[h x (by simp[zA])]
 | build t ps=>simp only[wP]; rw[Xb ps.toList λp hp=>h p.2 (by simp[zA]; exact⟨p.1,zG.1 hp⟩)]
 | buildSlice t k ps=>simp only[wP]; rw[Xb ps.toList λp hp=>h p.2 (by simp[zA]; exact⟨p.1,zG.1 hp⟩)]
 | call cl =>
  obtain⟨callee,args,sn⟩:=cl
  have fc:args.toList.map ρ=args.toList.map ρ':=zM λx N=>h x (by simp[zA,qK,zG.1 N])
  cases callee with
  | builtin b=>simp only[wP]; rw[fc]
  | value f=>simp only[wP]; rw[fc,h f (by simp[zA,qK])]
  | invoke r m=>rfl
 | _=>rfl
theorem HE{f:F}{dst:Option Nat}{d:Option D}{x:Operand}(h:∀ t,dst=some t->x≠.tmp t):wz (dN f dst d) x=wz f x:=by
 cases dst with
 | none=>rfl
 | some t=>cases x with
  | tmp s=>simp only[wz,dN]; rw[if_neg (λe=>h t rfl (by rw[e]))]
  | _=>rfl
theorem fp(f:F){a b:Option Nat}(d e:Option D)(h:∀ t,a=some t->b≠some t):dN (dN f a d) b e=dN (dN f b e) a d:=by
 cases a with
 | none=>rfl
 | some s=>cases b with
  | none=>rfl
  | some t =>
   simp only[dN]
   grind
def Ind(ops:Array Oper)(kd:Nat->Nat)(p i:Nat):Prop:=∀ x y,ops[p]? = some x->ops[i]? = some y ->
 (∀ d,x.dst=some d->d ∉ tmpsOf ops y)/\(∀ d,y.dst=some d->d ∉ tmpsOf ops x)/\bJ (kd p) (kd i)=false
theorem dK{o:Oper}{d:Nat}(h:o.dst=some d):d∈tmpsOf ops o:=by simp[tmpsOf,h]
theorem Xd{o:Oper}{d:Nat}(h:Operand.tmp d∈o.op.operands):d∈tmpsOf ops o:=by
 simp only[tmpsOf,xA,List.mem_filterMap]
 exact .inr ⟨.tmp d,xy,rfl⟩
theorem Xc{o:Oper}{j:Nat}{w:Bool}{d:Nat}(h:o.guard=some (j,w))(hg:br ops j=some d):d∈tmpsOf ops o:=by
 simp[tmpsOf,h,hg]
theorem jx{f:F}{o:Oper}{dst:Option Nat}{d:Option D}(h:∀ t,dst=some t->t ∉ tmpsOf ops o):jC ops (dN f dst d) o=jC ops f o:=by
 unfold jC
 cases hg:o.guard with
 | none=>rfl
 | some jw =>
  obtain⟨j,w⟩:=jw
  simp only
  cases hs:br ops j with
  | none=>rfl
  | some t =>
   simp only
   have:dN f dst d t=f t:=by
    cases dst with
    | none=>rfl
    | some s=>simp only[dN]; rw[if_neg]; intro e; exact h s rfl (e▸Xc hg hs)
   rw[this]
theorem db{f:F}{o:Oper}{dst:Option Nat}{d:Option D}(h:∀ t,dst=some t->t ∉ tmpsOf ops o):wP c (wz (dN f dst d)) o=wP c (wz f) o :=
 WU o λx N=>HE λt ht e=>h t ht (Xd (ops:=ops) (e▸N))
theorem sI{cl:dO}(h:cl.kind=0){st ql:St}{d:Option D}(R:(qt cl st).leads (d,ql)):ql=st/\∀ yW,(qt cl yW).leads (d,yW):=by
 cases cl with
 | val t=>rw[kL]at R; exact⟨R.2,λyW=>by rw[kL]; exact⟨R.1,rfl⟩⟩
 | rd k=>cases h
 | wr k=>cases h
theorem mZ{cl:dO}(h:cl.kind<=1){st ql:St}{d:Option D}(R:(qt cl st).leads (d,ql)):ql=st:=by
 cases cl with
 | val t=>rw[kL]at R; exact R.2
 | rd k=>rw[rC]at R; exact R.2
 | wr k=>simp[dO.kind]at h
theorem U6(cl:dO):cl.kind<=2:=by cases cl<;>simp[dO.kind]
theorem BA{kd:Nat->Nat}{p i:Nat}(hi:Ind ops kd p i){s s1 s2:F×St}(h1:eV c n ops p s s1 (kd p))(M:eV c n ops i s1 s2 (kd i)) :
  ∃ s',eV c n ops i s s' (kd i)/\eV c n ops p s' s2 (kd p):=by
 obtain⟨x,N,hdx,GJ⟩:=h1
 obtain⟨y,hy,hdy,hy'⟩:=M
 obtain⟨a1,a2,a3⟩:=hi x y N hy
 have hdd:∀ t,x.dst=some t->y.dst≠some t:=λt ht e=>a1 t ht (dK e)
 obtain⟨f,st⟩:=s
 rcases GJ with⟨hw,hk,d,dz,R,rfl⟩ | ⟨hw,hk,rfl⟩
 ·rcases hy' with⟨Kd,mW,e,yW,ZJ,rfl⟩ | ⟨Kd,mW,rfl⟩
  ·simp only[jx a1,db (c:=c) a1]at Kd mW ZJ
   simp only at hw hk R
   -- the two meet nowhere in the store
   have key:(qt (wP c (wz f) y) st).leads (e,(if(wP c (wz f) y).kind=2 then yW else st))/\(qt (wP c (wz f) x) (if(wP c (wz f) y).kind=2 then yW else st)).leads (d,yW):=by
    rw[hk,mW]at a3
    rcases qH (wP c (wz f) y).kind 2 with hy2 | hy2
    ·rw[if_neg (Z)]
     have e2:=mZ (Z) ZJ
     subst e2
     rcases qH (wP c (wz f) x).kind 2 with MO | MO
     ·have e1:=mZ (Z) R
      grind
     ·have hx3:(wP c (wz f) x).kind=2:=qC (U6 _) MO
      have hy0:(wP c (wz f) y).kind=0:=by
       rw[hx3]at a3
       cases hy0:(wP c (wz f) y).kind with
       | zero=>rfl
       | succ m=>rw[hy0]at a3; simp[bJ]at a3
      exact⟨(sI hy0 ZJ).2 st,R⟩
    ·have hy3:(wP c (wz f) y).kind=2:=qC (U6 _) hy2
     rw[if_pos hy3]
     have Kx:(wP c (wz f) x).kind=0:=by
      rw[hy3]at a3
      cases Kx:(wP c (wz f) x).kind with
      | zero=>rfl
      | succ m=>rw[Kx]at a3; simp[bJ]at a3
     obtain⟨e1,h3⟩:=sI Kx R
     grind
   refine⟨_,⟨y,hy,hdy,.inl ⟨Kd,mW,e,_,key.1,rfl⟩⟩,x,N,hdx,.inl ⟨?_,?_,d,yW,?_,?_⟩⟩
   ·rw[jx a2]; exact hw
   ·rw[db (c:=c) a2]; exact hk
   ·rw[db (c:=c) a2]; exact key.2
   ·simp only[fp f d e hdd]
  ·simp only[jx a1]at Kd
   refine⟨_,⟨y,hy,hdy,.inr ⟨Kd,mW,rfl⟩⟩,x,N,hdx,.inl ⟨?_,?_,d,dz,?_,?_⟩⟩
   ·rw[jx a2]; exact hw
   ·rw[db (c:=c) a2]; exact hk
   ·rw[db (c:=c) a2]; exact R
   ·simp only[fp f d (some SU) hdd]
 ·rcases hy' with⟨Kd,mW,e,yW,ZJ,rfl⟩ | ⟨Kd,mW,rfl⟩
  ·simp only[jx a1,db (c:=c) a1]at Kd mW ZJ
   refine⟨_,⟨y,hy,hdy,.inl ⟨Kd,mW,e,yW,ZJ,rfl⟩⟩,x,N,hdx,.inr ⟨?_,hk,?_⟩⟩
   ·rw[jx a2]; exact hw
   ·simp only[fp f (some SU) e hdd]
  ·simp only[jx a1]at Kd
   refine⟨_,⟨y,hy,hdy,.inr ⟨Kd,mW,rfl⟩⟩,x,N,hdx,.inr ⟨?_,hk,?_⟩⟩
   ·rw[jx a2]; exact hw
   ·simp only[fp f (some SU) (some SU) hdd]
def Qe(c:Ctx)(n:Nat)(ops:Array Oper)(kd:Nat->Nat):List Nat->F×St->F×St->Prop
 | [],s,s'=>s'=s
 | i::l,s,s'=>∃ s1,eV c n ops i s s1 (kd i)/\Qe c n ops kd l s1 s'
theorem Gq{kd:Nat->Nat}{i:Nat}{post:List Nat}{s':F×St}:∀ {pre:List Nat} {s:F×St},(∀ p∈pre,Ind ops kd p i)->Qe c n ops kd (pre++i::post) s s' ->
  ∃ s1,eV c n ops i s s1 (kd i)/\Qe c n ops kd (pre++post) s1 s'
 | [],s,_,h=>h
 | p::pre,s,hp,⟨sp,h1,M⟩=>by
  obtain⟨s1,h3,h4⟩:=Gq (λq hq=>hp q (zS _ hq)) M
  obtain⟨s2,h5,h6⟩:=BA (hp p zK) h1 h3
  exact⟨s2,h5,s1,h6,h4⟩
end
end Go.AM
namespace Go.AM
set_option linter.unusedSectionVars false
variable [yV]
section
variable (c:Ctx) (n:Nat) (ops:Array Oper)
def nA(i:Nat)(s s':F×St)(k:RK):Prop:=∃ o,ops[i]? = some o/\yX n o.dst=true /\
 ((jC ops s.1 o=some true/\k=vu c (wz s.1) s.2 o/\∃ d ql,(qt (wP c (wz s.1) o) s.2).leads (d,ql)/\s'=(dN s.1 o.dst d,ql)) \/
  (jC ops s.1 o=some false/\k=.z 0/\s'=(dN s.1 o.dst (some SU),s.2)))
def Mh:List Nat->F×St->F×St->List RK->Prop
 | [],s,s',ks=>s'=s/\ks=[]
 | i::l,s,s',ks=>∃ s1 k L5,ks=k::L5/\nA c n ops i s s1 k/\Mh l s1 s' L5
end
section
variable {c:Ctx} {n:Nat} {ops:Array Oper}
theorem nA.plain{i:Nat}{s s':F×St}{k:RK}(h:nA c n ops i s s' k):∃ k',eV c n ops i s s' k':=by
 obtain⟨o,h1,M,h3⟩:=h
 rcases h3 with⟨g1,_,g3⟩ | ⟨g1,_,g3⟩
 ·exact⟨_,o,h1,M,.inl ⟨g1,rfl,g3⟩⟩
 ·exact⟨_,o,h1,M,.inr ⟨g1,rfl,g3⟩⟩
theorem LL{i:Nat}{o:Oper}{s s':oh}(ho:ops[i]? = some o)(hk:yy s.kn s.fr.get)(h:(stepG c n ops o s).leads s') :
  ∃ k,nA c n ops i (s.fr.get,s.st) (s'.fr.get,s'.st) k/\yy s'.kn s'.fr.get/\s'.bk=k::s.bk:=by
 have bkS:∀ {s0:oh},(iW c n o s0).leads s'->s'.bk=vu c (bn s0.fr) s0.st o::s0.bk:=by
  intro s0 h
  unfold iW at h
  cases J:yX n o.dst with
  | false=>rw[J]at h; exact h.elim
  | true =>
   rw[J,cond_true]at h
   simp only[T.xg]at h
   obtain⟨⟨d,ql⟩,h1,rfl⟩:=h
   rfl
 have run:∀ (s0:oh),s0.fr=s.fr->s0.st=s.st->s0.bk=s.bk->yy s0.kn s0.fr.get->jC ops s.fr.get o=some true->(iW c n o s0).leads s' ->
   ∃ k,nA c n ops i (s.fr.get,s.st) (s'.fr.get,s'.st) k/\yy s'.kn s'.fr.get/\s'.bk=k::s.bk:=by
  intro s0 e1 e2 e3 Dn hw h
  obtain⟨h1,⟨d,ql,M,h3,h4⟩,h5,h6⟩:=Gk Dn h
  have I:=bkS h
  rw[e1]at M h3 I
  rw[e2]at M I
  rw[e3]at I
  rw[fY]at I
  exact⟨_,⟨o,ho,h1,.inl ⟨hw,rfl,d,ql,M,by rw[h3,h4]⟩⟩,h5,I⟩
 have skip:∀ (s0:oh),s0.fr=s.fr->s0.st=s.st->s0.bk=s.bk->yy s0.kn s0.fr.get->jC ops s.fr.get o=some false->yX n o.dst=true->cD o s0=s' ->
   ∃ k,nA c n ops i (s.fr.get,s.st) (s'.fr.get,s'.st) k/\yy s'.kn s'.fr.get/\s'.bk=k::s.bk:=by
  intro s0 e1 e2 e3 Dn hw J h
  subst h
  refine⟨.z 0,⟨o,ho,J,.inr ⟨hw,rfl,?_⟩⟩,Pl Dn,by simp[cD,e3]⟩
  simp only[cD,ZG,e1,e2]
 unfold stepG at h
 split at h
 ·rename_i hg
  exact run s rfl rfl rfl hk (by simp[jC,hg]) h
 ·rename_i j w hg
  split at h
  ·exact h.elim
  ·rename_i t ht
   split at h
   ·rename_i b I
    have hf:=hk t b I
    have hw:jC ops s.fr.get o=some (b==w):=by simp[jC,hg,ht,hf]
    cases T0:(b==w)with
    | true=>grind
    | false =>
     rw[T0,cond_false]at h
     cases J:yX n o.dst with
     | false=>rw[J]at h; exact h.elim
     | true=>rw[J,cond_true]at h; exact skip s rfl rfl rfl hk (by rw[hw,T0]) J h
   ·split at h
    ·rename_i x N
     have hw:jC ops s.fr.get o=some (x==w):=by simp[jC,hg,ht,N]
     cases J:yX n o.dst with
     | false=>rw[J]at h; exact h.elim
     | true =>
      rw[J,cond_true]at h
      rcases h with⟨rfl,h⟩ | ⟨rfl,h⟩
      ·have Kw:yy (s.l0 t true).kn (s.l0 t true).fr.get:=XR hk N
       cases w with
       | true=>exact run (s.l0 t true) rfl rfl rfl Kw hw h
       | false=>exact skip (s.l0 t true) rfl rfl rfl Kw hw J h
      ·have Kw:yy (s.l0 t false).kn (s.l0 t false).fr.get:=XR hk N
       cases w with
       | true=>exact skip (s.l0 t false) rfl rfl rfl Kw hw J h
       | false=>exact run (s.l0 t false) rfl rfl rfl Kw hw h
    ·rename_i N
     have hw:jC ops s.fr.get o=some false:=by simp[jC,hg,ht,N]
     cases J:yX n o.dst with
     | false=>rw[J]at h; exact h.elim
     | true=>rw[J,cond_true]at h; exact skip s rfl rfl rfl hk hw J h
    ·exact h.elim
theorem JW:∀ (l:List Oper) (k0:Nat) (s s':oh),(∀ j,l[j]? = ops[k0+j]? \/ l.length<=j)->yy s.kn s.fr.get->(tv c n ops l s).leads s' ->
  ∃ ks,Mh c n ops (List.range' k0 l.length) (s.fr.get,s.st) (s'.fr.get,s'.st) ks/\s'.bk=ks.reverse++s.bk
 | [],k0,s,s',_,hk,h=>by cases h; exact⟨[],⟨rfl,rfl⟩,rfl⟩
 | o::l,k0,s,s',R,hk,h=>by
  simp only[tv,T.xg]at h
  obtain⟨s1,h1,M⟩:=h
  have ho:ops[k0]? = some o:=by rcases R 0 with h | h<;>simp at h; exact h.symm
  obtain⟨k,g1,g2,g3⟩:=LL ho hk h1
  obtain⟨ks,g4,g6⟩:=JW l (k0+1) s1 s' (λj=>by have:=R (j+1); simpa[Nat.add_assoc,Nat.add_comm 1 j]using this) g2 M
  refine⟨k::ks,?_,xy⟩
  exact⟨_,k,ks,rfl,g1,g4⟩
theorem YN{m b:Nat}{l:List Nat}:b∈others m l↔b<m/\∀ x∈l,b≠x:=by
 simp only[others]
 simp
theorem CV{d:Option D}{b:Nat}(h:zcP d=some b):(∃ off,d=some (.ptr b off))\/∃ v e i off,d=some (.gD b v e i off):=by
 cases d with
 | none=>cases h
 | some d=>cases d<;>first | (cases h; exact .inl ⟨_,rfl⟩) | (cases h; exact .inr ⟨_,_,_,_,rfl⟩) | cases h
theorem ri{bi:Builtin}{l:List (Option D)}{st:St}:HP bi l st=.z 2\/(∃ b v e off len x,bi=.append/\l=[some (.ms b v e off len),some x]/\U4 x=false/\HP bi l st=.up b)\/∃ x,bi=.append/\l=[some .wE,some x]/\U4 x=false/\HP bi l st=.wr (others st.length []):=by
 unfold HP
 grind
theorem Yv(ρ:Operand->Option D)(st:St)(o:Oper):(vu c ρ st o).base=(wP c ρ o).kind:=by
 unfold vu
 split
 ·rename_i h
  rw[h]
  cases o.op with
  | load t a=>simp only; split<;>rfl
  | _=>rfl
 ·rename_i h
  rw[h]
  cases o.op with
  | call cl =>
   cases hc:cl.callee with
   | builtin bi =>
    simp only[hc]
    rcases ri (bi:=bi) (l:=cl.args.toList.map ρ)with e | ⟨b,v,e,off,len,x,_,_,_,e⟩ | ⟨x,_,_,_,e⟩<;>rw[e]<;>rfl
   | value f=>simp only[hc]; split<;>first | rfl | (split<;>rfl)
   | _=>simp only[hc]; rfl
  | store t a v=>simp only; split<;>rfl
  | _=>rfl
 ·rfl
theorem JI{ρ:Operand->Option D}{o:Oper}(h:(wP c ρ o).kind<=1)(st ql:St):vu c ρ st o=vu c ρ ql o:=by
 unfold vu
 grind
theorem mX{ρ:Operand->Option D}{st:St}{o:Oper}{b:Nat}(h:vu c ρ st o=.rd b){dz yW Hd:St}{d:Option D}(R:(qt (wP c ρ o) dz).leads (d,Hd))(I:yW[b]? = dz[b]?):(qt (wP c ρ o) yW).leads (d,yW):=by
 obtain⟨dst,op,ty,pos,after,guard⟩:=o
 cases op with
 | load t a =>
  have h':(∃ off,ρ a=some (.ptr b off))\/∃ v e i off,ρ a=some (.gD b v e i off):=by
   unfold vu at h
   simp only at h
   split at h
   ·split at h
    ·rename_i b' ha; cases h; exact CV ha
    ·cases h
   ·cases h
   ·cases h
  have he:wP c ρ ⟨dst,.load t a,ty,pos,after,guard⟩=WZ c t (ρ a):=rfl
  rcases h' with⟨off,ha⟩ | ⟨v,e,i,off,ha⟩
  all_goals
   rw[he,ha]at R ⊢
   simp only[WZ]at R ⊢
   rw[rC]at R ⊢
   grind
 | call cl =>
  obtain⟨callee,args,sn⟩:=cl
  unfold vu at h
  split at h
  ·cases h
  ·cases callee with
   | builtin bi =>
    simp only at h
    rcases ri (bi:=bi) (l:=args.toList.map ρ)with e | ⟨b,v,e,off,len,x,_,_,_,e⟩ | ⟨x,_,_,_,e⟩<;>rw[e]at h<;>cases h
   | value f=>grind
   | _=>cases h
  ·cases h
 | _ =>
  unfold vu at h
  grind
theorem EL{ρ:Operand->Option D}{st:St}{o:Oper}{A:List Nat}(h:vu c ρ st o=.wr A){ql:St}{d:Option D}(R:(qt (wP c ρ o) st).leads (d,ql)):∀ b∈A,ql[b]? = st[b]? := by
 obtain⟨dst,op,ty,pos,after,guard⟩:=o
 cases op with
 | alloc t =>
  exfalso
  unfold vu at h
  grind
 | store t a v =>
  exfalso
  unfold vu at h
  grind
 | call cl =>
  obtain⟨callee,args,sn⟩:=cl
  cases callee with
  | value f =>
   have h':(wP c ρ ⟨dst,.call ⟨.value f,args,sn⟩,ty,pos,after,guard⟩).kind=2/\∃ g caps l,ρ f=some (.wg g caps)/\gx (args.toList.map ρ)=some l/\A=c.free (dX g) (bG g l caps) st:=by
    unfold vu at h
    grind
   obtain⟨hk,g,caps,l,hg,IW,rfl⟩:=h'
   intro b I
   have he:wP c ρ ⟨dst,.call ⟨.value f,args,sn⟩,ty,pos,after,guard⟩=eL c (ρ f) (args.toList.map ρ):=rfl
   rw[he,hg]at R hk
   simp only[eL,IW]at R hk
   split at R
   ·rename_i s hs
    rw[hs]at hk
    simp only[eb]at hk
    cases hn:(!(bG g l caps).any Jj)<;>rw[hn]at hk<;>simp[dO.kind]at hk
   ·simp only[sr,qt,T.xg]at R
    obtain⟨⟨rs,dz⟩,h1,M⟩:=R
    cases rs with
    | ret ds=>cases M; exact c.z05 _ _ _ _ _ b h1 I
    | hH p=>exact M.elim
  | builtin bi =>
   have h':bi=.append/\∃ x,args.toList.map ρ=[some .wE,some x]/\U4 x=false/\A=others st.length []:=by
    unfold vu at h
    simp only at h
    split at h
    ·cases h
    ·rcases ri (bi:=bi) (l:=args.toList.map ρ) (st:=st)with e | ⟨b,v,e,off,len,x,_,_,_,e⟩ | ⟨x,h1,M,h3,e⟩<;>rw[e]at h<;>cases h
     exact⟨h1,x,M,h3,rfl⟩
    ·cases h
   obtain⟨rfl,x,N,hm,rfl⟩:=h'
   have he:wP c ρ ⟨dst,.call ⟨.builtin .append,args,sn⟩,ty,pos,after,guard⟩=lG c .append sn.toList (args.toList.map ρ):=rfl
   rw[he,N]at R
   intro b I
   have I:=(YN.1 I).1
   have one:∀ {e':Ty} {ys:List (den e')} {ne:Bool} {XF:Nat},(bg e' .wE ys ne XF st).leads (d,ql)->ql[b]? = st[b]? := by
    intro e' ys ne XF R
    simp only[bg,p7]at R
    cases ne with
    | true=>obtain⟨_,R⟩:=R; cases R; exact zI I
    | false =>
     rcases R with⟨_,R⟩ | ⟨_,R⟩
     ·cases R; rfl
     ·obtain⟨_,R⟩:=R; cases R; exact zI I
   have snp:∀ yW,Z8 yW x=.ret x:=λyW=>by cases x<;>first | rfl | cases hm
   generalize sn.toList=tl at R
   rcases tl with _ | ⟨t,_ | ⟨t',_ | ⟨t'',tl⟩⟩⟩
   ·exact absurd R zg
   ·exact absurd R zg
   rotate_left
   ·exact absurd R zg
   ·
    simp only[lG]at R
    cases ht:zU t t' with
    | true =>
     rw[ht,cond_true]at R
     unfold QD at R
     cases het:mR c t with
     | none=>rw[het]at R; exact absurd R zg
     | some et =>
      rw[het]at R
      simp only at R
      cases h1:Gt c 20 et with
      | none=>rw[h1]at R; exact absurd R zg
      | some ee =>
       rw[h1]at R
       try simp only at R
       cases M:pC c et with
       | none=>rw[M]at R; exact absurd R zg
       | some bytes =>
        rw[M]at R
        simp only at R
        cases hc:bW c et ee&&qL 0 ee.size&&qL 0 bytes&&(zeroOf c et ee).isSome with
        | false=>rw[hc]at R; exact absurd R zg
        | true =>
         rw[hc,cond_true]at R
         simp only[cond_true,qt,snp,T.bind]at R
         cases x<;>simp only at R<;>first | exact R.elim | exact one R | skip
         ·split at R
          ·exact one R
          ·exact R.elim
         ·split at R
          ·exact one R
          ·exact R.elim
    | false =>
     rw[ht,cond_false]at R
     unfold tF at R
     cases het:mR c t with
     | none=>rw[het]at R; exact absurd R zg
     | some et =>
      rw[het]at R
      simp only at R
      split at R
      ·rename_i bytes h1 M h3
       cases hc:bW c et (.int .u8)&&qL 0 bytes&&(zeroOf c et (.int .u8)).isSome with
       | false=>rw[hc]at R; exact absurd R zg
       | true =>
        rw[hc,cond_true]at R
        split at R
        ·rename_i s l e1 e2
         cases e1
         cases e2
         simp only[qt]at R
         exact one R
        ·exact absurd R zg
      ·exact absurd R zg
  | invoke r m =>
   exfalso
   unfold vu at h
   simp only at h
   split at h<;>cases h
 | _ =>
  exfalso
  unfold vu at h
  simp only at h
  split at h
  ·first
    | cases h
    | (split at h<;>cases h)
  ·cases h
  ·cases h
theorem Yu{ρ:Operand->Option D}{st:St}{o:Oper}{A:List Nat}(h:vu c ρ st o=.al A){ql:St}{d:Option D}(R:(qt (wP c ρ o) st).leads (d,ql)) :
  (∀ b∈A,ql[b]? = st[b]?)/\A=others st.length []/\∃ z,ql=st++[.var z]/\d=some (.ptr st.length 0)/\∀ yW:St,(qt (wP c ρ o) yW).leads (some (.ptr yW.length 0),yW++[.var z])/\vu c ρ yW o=.al (others yW.length []):=by
 obtain⟨dst,op,ty,pos,after,guard⟩:=o
 cases op with
 | alloc t =>
  have M:(wP c ρ ⟨dst,.alloc t,ty,pos,after,guard⟩).kind=2/\A=others st.length []:=by
   unfold vu at h
   grind
  obtain⟨hk,rfl⟩:=M
  have R:(qt (om c t) st).leads (d,ql):=R
  unfold om at R
  split at R
  ·rename_i z hz
   have R:(some (D.ptr st.length 0),st++[cG.var z])=(d,ql):=R
   cases R
   refine⟨λb I => ?_,rfl,z,rfl,rfl,λyW=>⟨?_,?_⟩⟩
   ·obtain⟨I,_⟩:=YN.1 I
    exact zI I
   ·show(qt (om c t) yW).leads _
    unfold om
    rw[hz]
    rfl
   ·unfold vu
    simp only[hk]
  ·exact absurd R zg
 | call cl =>
  exfalso
  obtain⟨callee,args,sn⟩:=cl
  unfold vu at h
  cases callee with
  | builtin bi =>
   simp only at h
   split at h
   ·cases h
   ·rcases ri (bi:=bi) (l:=args.toList.map ρ)with e | ⟨b,v,e,off,len,x,_,_,_,e⟩ | ⟨x,_,_,_,e⟩<;>rw[e]at h<;>cases h
   ·cases h
  | value f=>grind
  | invoke r m=>grind
 | _ =>
  exfalso
  unfold vu at h
  grind
theorem Yx{ρ:Operand->Option D}{st:St}{o:Oper}{oE:List Nat}(h:vu c ρ st o=.wc oE){ql:St}{d:Option D}(R:(qt (wP c ρ o) st).leads (d,ql)) :
  ql.length=st.length/\(∀ b,b<st.length->b ∉ oE->ql[b]? = st[b]?)/\(∀ x,(qt (wP c ρ o) (st++[x])).leads (d,ql++[x]))/\∀ yW,vu c ρ yW o=.wc oE:=by
 obtain⟨dst,op,ty,pos,after,guard⟩:=o
 cases op with
 | call cl =>
  obtain⟨callee,args,sn⟩:=cl
  cases callee with
  | value f =>
   have h':(wP c ρ ⟨dst,.call ⟨.value f,args,sn⟩,ty,pos,after,guard⟩).kind=2/\∃ g caps l,ρ f=some (.wg g caps)/\gx (args.toList.map ρ)=some l/\c.Qr (dX g) (bG g l caps)=some oE:=by
    unfold vu at h
    grind
   obtain⟨hk,g,caps,l,hg,IW,hU⟩:=h'
   have mW:=hk
   have he:wP c ρ ⟨dst,.call ⟨.value f,args,sn⟩,ty,pos,after,guard⟩=eL c (ρ f) (args.toList.map ρ):=rfl
   rw[he,hg]at R hk
   simp only[eL,IW]at R hk
   split at R
   ·rename_i s hs
    rw[hs]at hk
    simp only[eb]at hk
    cases hn:(!(bG g l caps).any Jj)<;>rw[hn]at hk<;>simp[dO.kind]at hk
   ·rename_i hs
    simp only[sr,qt,T.xg]at R
    obtain⟨⟨rs,dz⟩,h1,M⟩:=R
    cases rs with
    | hH p=>exact M.elim
    | ret ds =>
     cases M
     obtain⟨q1,q2,q3⟩:=c.Pq _ _ _ _ _ _ hU h1
     refine⟨q1,q2,λx => ?_,λyW => ?_⟩
     ·rw[he,hg]
      simp only[eL,IW,hs]
      simp only[sr,qt,T.xg]
      exact⟨_,q3 x,rfl⟩
     ·unfold vu
      rw[mW]
      simp only[hg,IW,hU]
  | builtin bi =>
   exfalso
   unfold vu at h
   simp only at h
   split at h
   ·cases h
   ·rcases ri (bi:=bi) (l:=args.toList.map ρ)with e | ⟨b,v,e,off,len,x,_,_,_,e⟩ | ⟨x,_,_,_,e⟩<;>rw[e]at h<;>cases h
   ·cases h
  | invoke r m =>
   exfalso
   unfold vu at h
   grind
 | _ =>
  exfalso
  unfold vu at h
  grind
theorem Yw{ρ:Operand->Option D}{st:St}{o:Oper}{b:Nat}(h:vu c ρ st o=.rd b){dz Hd:St}{d:Option D}(R:(qt (wP c ρ o) dz).leads (d,Hd)):b<dz.length:=by
 rcases qH b dz.length with g | g
 ·exact g
 ·exfalso
  have hn:dz[b]? = none:=qJ g
  obtain⟨dst,op,ty,pos,after,guard⟩:=o
  cases op with
  | load t a =>
   have h':(∃ off,ρ a=some (.ptr b off))\/∃ v e i off,ρ a=some (.gD b v e i off):=by
    unfold vu at h
    simp only at h
    split at h
    ·split at h
     ·rename_i b' ha; cases h; exact CV ha
     ·cases h
    ·cases h
    ·cases h
   have he:wP c ρ ⟨dst,.load t a,ty,pos,after,guard⟩=WZ c t (ρ a):=rfl
   rcases h' with⟨off,ha⟩ | ⟨v,e,i,off,ha⟩
   all_goals
    rw[he,ha]at R
    simp only[WZ]at R
    rw[rC]at R
    simp only[hn]at R
    exact R.1.elim
  | call cl =>
   obtain⟨callee,args,sn⟩:=cl
   unfold vu at h
   split at h
   ·cases h
   ·cases callee with
    | builtin bi =>
     simp only at h
     rcases ri (bi:=bi) (l:=args.toList.map ρ)with e | ⟨b,v,e,off,len,x,_,_,_,e⟩ | ⟨x,_,_,_,e⟩<;>rw[e]at h<;>cases h
    | value f=>grind
    | _=>cases h
   ·cases h
  | _ =>
   unfold vu at h
   grind
theorem U5{ρ:Operand->Option D}{st:St}{o:Oper}{b:Nat}(h:vu c ρ st o=.up b){dz Hd:St}{d:Option D}(R:(qt (wP c ρ o) dz).leads (d,Hd)) :
  ∃ y,Hd=dz.set b y/\∀ yW:St,yW[b]? = dz[b]? -> (qt (wP c ρ o) yW).leads (d,yW.set b y):=by
 obtain⟨dst,op,ty,pos,after,guard⟩:=o
 cases op with
 | store t a v =>
  have h':(∃ off,ρ a=some (.ptr b off))\/∃ v e i off,ρ a=some (.gD b v e i off):=by
   unfold vu at h
   simp only at h
   split at h
   ·cases h
   ·split at h
    ·rename_i b ha; cases h; exact CV ha
    ·cases h
   ·cases h
  have he:wP c ρ ⟨dst,.store t a v,ty,pos,after,guard⟩=KL c t (ρ a) (ρ v):=rfl
  rw[he]at R ⊢
  cases hv:ρ v with
  | none =>
   rw[hv]at R
   rcases h' with⟨off,ha⟩ | ⟨w,e,i,off,ha⟩<;>(rw[ha]at R; exact absurd R zg)
  | some x =>
   rw[hv]at R
   rcases h' with⟨off,ha⟩ | ⟨w,e,i,off,ha⟩
   ·rw[ha]at R ⊢
    have R:(match dz[b]? with
     | some (.var d)=>match Ha c t d off x with | some r=>bif ZW d r then T.ret ((none:Option D),dz.set b (.var r))else .fail | none=>.fail
     | _=>.fail:T (Option D×St)).leads (d,Hd):=R
    split at R
    ·rename_i d0 I
     split at R
     ·rename_i r hr
      cases ho:ZW d0 r with
      | false=>rw[ho]at R; exact R.elim
      | true =>
       rw[ho]at R
       cases R
       refine⟨.var r,rfl,λyW M => ?_⟩
       show(match yW[b]? with
        | some (.var d)=>match Ha c t d off x with | some r=>bif ZW d r then T.ret ((none:Option D),yW.set b (.var r))else .fail | none=>.fail
        | _=>.fail:T (Option D×St)).leads _
       rw[M,I]
       simp only[hr,ho,cond_true]
       rfl
     ·exact R.elim
    ·exact R.elim
   ·rw[ha]at R ⊢
    have R:(match dz[b]? with
     | some (.arr dA e' xs)=>bif decide (e'=e)then
       .W (w=dA/\i<xs.length) (match Ha c t (.qi e' (xs.getD i (zb e'))) off x with
        | some r=>match oo e' r with | some y=>T.ret ((none:Option D),dz.set b (.arr dA e' (xs.set i y))) | none=>.fail
        | none=>.fail)
      else .fail
     | _=>.fail:T (Option D×St)).leads (d,Hd):=R
    split at R
    ·rename_i dA e' xs I
     cases J:decide (e'=e)with
     | false=>rw[J]at R; exact R.elim
     | true =>
      rw[J,cond_true]at R
      obtain⟨ho,R⟩:=R
      split at R
      ·rename_i r hr
       split at R
       ·rename_i y hy
        cases R
        refine⟨.arr dA e' (xs.set i y),rfl,λyW M => ?_⟩
        show(match yW[b]? with
         | some (.arr dA e' xs)=>bif decide (e'=e)then
           .W (w=dA/\i<xs.length) (match Ha c t (.qi e' (xs.getD i (zb e'))) off x with
            | some r=>match oo e' r with | some y=>T.ret ((none:Option D),yW.set b (.arr dA e' (xs.set i y))) | none=>.fail
            | none=>.fail)
          else .fail
         | _=>.fail:T (Option D×St)).leads _
        rw[M,I]
        simp only[J,cond_true,hr,hy]
        exact⟨ho,rfl⟩
       ·exact R.elim
      ·exact R.elim
    ·exact R.elim
 | call cl =>
  obtain⟨callee,args,sn⟩:=cl
  cases callee with
  | builtin bi =>
   have h':bi=.append/\∃ v e off len x,args.toList.map ρ=[some (.ms b v e off len),some x]/\U4 x=false:=by
    unfold vu at h
    simp only at h
    split at h
    ·cases h
    ·rcases ri (bi:=bi) (l:=args.toList.map ρ) (st:=st)with e | ⟨b',v,e,off,len,x,h1,M,h3,e'⟩ | ⟨x,h1,M,h3,e'⟩
     ·grind
     ·rw[e']at h; cases h; exact⟨h1,v,e,off,len,x,M,h3⟩
     ·rw[e']at h; cases h
    ·cases h
   obtain⟨rfl,v,e,off,len,x,N,hm⟩:=h'
   have he:wP c ρ ⟨dst,.call ⟨.builtin .append,args,sn⟩,ty,pos,after,guard⟩=lG c .append sn.toList (args.toList.map ρ):=rfl
   rw[he,N]at R ⊢
   -- what the row gets
   have one:∀ {e':Ty} {ys:List (den e')} {ne:Bool} {XF:Nat},(bg e' (.ms b v e off len) ys ne XF dz).leads (d,Hd)->∃ y,Hd=dz.set b y/\∀ yW:St,yW[b]? = dz[b]? -> (bg e' (.ms b v e off len) ys ne XF yW).leads (d,yW.set b y):=by
    intro e' ys ne XF R
    simp only[bg]at R
    split at R
    ·rename_i dA e'' xs I
     split at R
     ·rename_i zs hz
      cases J:decide (e=e')with
      | false=>rw[J]at R; exact R.elim
      | true =>
       rw[J,cond_true]at R
       obtain⟨ho,R⟩:=R
       cases R
       refine⟨_,rfl,λyW M => ?_⟩
       simp only[bg]
       rw[M,I]
       simp only[hz,J,cond_true]
       exact⟨ho,rfl⟩
     ·exact R.elim
    ·exact R.elim
   have snp:∀ yW,Z8 yW x=.ret x:=λyW=>by cases x<;>first | rfl | cases hm
   generalize sn.toList=tl at R ⊢
   rcases tl with _ | ⟨t,_ | ⟨t',_ | ⟨t'',tl⟩⟩⟩
   ·exact absurd R zg
   ·exact absurd R zg
   rotate_left
   ·exact absurd R zg
   ·
    simp only[lG]at R ⊢
    cases ht:zU t t' with
    | true =>
     rw[ht,cond_true]at R
     simp only[cond_true]
     unfold QD at R ⊢
     cases het:mR c t with
     | none=>rw[het]at R; exact absurd R zg
     | some et =>
      rw[het]at R
      simp only at R ⊢
      cases h1:Gt c 20 et with
      | none=>rw[h1]at R; exact absurd R zg
      | some ee =>
       rw[h1]at R
       try simp only at R ⊢
       cases M:pC c et with
       | none=>rw[M]at R; exact absurd R zg
       | some bytes =>
        rw[M]at R
        simp only at R ⊢
        cases hc:bW c et ee&&qL 0 ee.size&&qL 0 bytes&&(zeroOf c et ee).isSome with
        | false=>rw[hc]at R; exact absurd R zg
        | true =>
         rw[hc,cond_true]at R
         simp only[cond_true,qt,snp,T.bind]at R ⊢
         cases x<;>simp only at R ⊢ <;> first | exact R.elim | exact one R | skip
         ·split at R
          ·exact one R
          ·exact R.elim
         ·split at R
          ·exact one R
          ·exact R.elim
    | false =>
     rw[ht,cond_false]at R
     simp only[cond_false]
     unfold tF at R ⊢
     cases het:mR c t with
     | none=>rw[het]at R; exact absurd R zg
     | some et =>
      rw[het]at R
      simp only at R ⊢
      split at R
      ·rename_i bytes h1 M h3
       cases hc:bW c et (.int .u8)&&qL 0 bytes&&(zeroOf c et (.int .u8)).isSome with
       | false=>rw[hc]at R; exact absurd R zg
       | true =>
        rw[hc,cond_true]at R
        simp only[cond_true]
        split at R
        ·rename_i s l e1 e2
         cases e1
         cases e2
         simp only[qt]at R ⊢
         exact one R
        ·exact absurd R zg
      ·exact absurd R zg
  | _ =>
   exfalso
   unfold vu at h
   simp only at h
   split at h
   ·cases h
   ·first | cases h | (split at h<;>first | cases h | (split at h<;>cases h))
   ·cases h
 | _ =>
  exfalso
  unfold vu at h
  simp only at h
  split at h
  ·first
    | cases h
    | (split at h<;>cases h)
  ·cases h
  ·cases h
theorem Bj:∀ (l:List Nat) (s s':F×St) (ks:List RK),Mh c n ops l s s' ks->ks.length=l.length
 | [],_,_,_,h=>by rw[h.2]; rfl
 | i::l,s,s',ks,⟨s1,k,L5,e,h1,M⟩=>by subst e; simp[Bj l s1 s' L5 M]
theorem X6{ρ:Operand->Option D}{st:St}{o:Oper}{b:Nat}(h:vu c ρ st o=.up b)(ql:St):vu c ρ ql o=.up b:=by
 obtain⟨dst,op,ty,pos,after,guard⟩:=o
 cases op with
 | alloc t =>
  unfold vu at h
  grind
 | call cl =>
  obtain⟨callee,args,sn⟩:=cl
  cases callee with
  | value f =>
   unfold vu at h
   grind
  | builtin bi =>
   unfold vu at h ⊢
   simp only at h ⊢
   unfold HP at h ⊢
   grind
  | _=>exact h
 | _=>exact h
def zaw(ops:Array Oper)(kd:Nat->RK)(p i:Nat):Prop:=∀ x y,ops[p]? = some x->ops[i]? = some y ->
 (∀ d,x.dst=some d->d ∉ tmpsOf ops y)/\(∀ d,y.dst=some d->d ∉ tmpsOf ops x)/\yA (kd p) (kd i)=false
theorem XQ{f:F}{o:Oper}{dst:Option Nat}{d:Option D}{st:St}(h:∀ t,dst=some t->t ∉ tmpsOf ops o):vu c (wz (dN f dst d)) st o=vu c (wz f) st o:=by
 have e1:wP c (wz (dN f dst d)) o=wP c (wz f) o:=db h
 have e2:∀ x∈o.op.operands,wz (dN f dst d) x=wz f x:=λx N=>HE λt ht e=>h t ht (Xd (ops:=ops) (e▸N))
 obtain⟨dd,op,ty,pos,after,guard⟩:=o
 unfold vu
 rw[e1]
 cases op with
 | load t a=>simp only[e2 a (by simp[zA])]
 | store t a v=>simp only[e2 a (by simp[zA])]
 | call cl =>
  obtain⟨callee,args,sn⟩:=cl
  cases callee with
  | value g =>
   have fc:args.toList.map (wz (dN f dst d))=args.toList.map (wz f):=zM λx N=>e2 x (by simp[zA,qK,zG.1 N])
   simp only[fc,e2 g (by simp[zA,qK])]
  | builtin bi =>
   have fc:args.toList.map (wz (dN f dst d))=args.toList.map (wz f):=zM λx N=>e2 x (by simp[zA,qK,zG.1 N])
   grind
  | _=>rfl
 | _=>rfl
theorem LM{kd:Nat->RK}{p i:Nat}(hi:zaw ops kd p i){s s1 s2:F×St}(h1:nA c n ops p s s1 (kd p))(M:nA c n ops i s1 s2 (kd i)) :
  ∃ s',nA c n ops i s s' (kd i)/\nA c n ops p s' s2 (kd p):=by
 obtain⟨x,N,hdx,GJ⟩:=h1
 obtain⟨y,hy,hdy,hy'⟩:=M
 obtain⟨a1,a2,a3⟩:=hi x y N hy
 have hdd:∀ t,x.dst=some t->y.dst≠some t:=λt ht e=>a1 t ht (dK e)
 obtain⟨f,st⟩:=s
 rcases GJ with⟨hw,hk,d,dz,R,rfl⟩ | ⟨hw,hk,rfl⟩
 ·rcases hy' with⟨Kd,mW,e,yW,ZJ,rfl⟩ | ⟨Kd,mW,rfl⟩
  ·simp only[jx a1,db (c:=c) a1,XQ (c:=c) a1]at Kd mW ZJ
   simp only at hw hk R
   -- the two meet nowhere in the store
   have key:∃ ql,(qt (wP c (wz f) y) st).leads (e,ql)/\(qt (wP c (wz f) x) ql).leads (d,yW)/\vu c (wz f) st y=kd i/\vu c (wz f) ql x=kd p:=by
    have bx:=Yv (c:=c) (wz f) st x
    have XF:=Yv (c:=c) (wz f) dz y
    rw[<- hk]at bx
    rw[<- mW]at XF
    rcases qH (wP c (wz f) x).kind 2 with MO | MO
    ·-- x writes nothing
     have e1:=mZ (Z) R
     subst e1
     refine⟨yW,ZJ,?_,mW.symm,(JI (Z) yW dz).trans hk.symm⟩
     rcases qH (wP c (wz f) y).kind 2 with hy2 | hy2
     ·have e2:=mZ (Z) ZJ
      grind
     ·have hy3:(wP c (wz f) y).kind=2:=qC (U6 _) hy2
      cases hp:kd p with
      | rd b =>
       cases hq:kd i with
       | wr A =>
        rw[hp,hq]at a3
        simp only[yA,qD,zO]at a3
        obtain⟨b',Kb,IM⟩:=a3
        have:=Y IM
        subst this
        exact mX (by rw[<- hk]; exact hp) R (EL (by rw[<- mW]; exact hq) ZJ b Kb)
       | al A =>
        rw[hp,hq]at a3
        simp only[yA,qD,zO]at a3
        obtain⟨b',Kb,IM⟩:=a3
        have:=Y IM
        subst this
        exact mX (by rw[<- hk]; exact hp) R ((Yu (by rw[<- mW]; exact hq) ZJ).1 b Kb)
       | wc oE =>
        rw[hp,hq]at a3
        have hbu:b ∉ oE:=λhm=>by
         simp only[yA,qQ]at a3
         exact a3 b hm (Nat.beq_refl b)
        exact mX (by rw[<- hk]; exact hp) R ((Yx (by rw[<- mW]; exact hq) ZJ).2.1 b (Yw (by rw[<- hk]; exact hp) R) hbu)
       | rd b'=>rw[hq]at XF; simp[RK.base]at XF; omega
       | z k=>rw[hp,hq]at a3; rw[hq,hy3]at XF; simp only[RK.base]at XF; subst XF; simp[yA,bJ,RK.base]at a3
       | up a =>
        rw[hp,hq]at a3
        have hab:a≠b:=λe=>by subst e; simp[yA]at a3
        obtain⟨z,e1,_⟩:=U5 (by rw[<- mW]; exact hq) ZJ
        subst e1
        exact mX (by rw[<- hk]; exact hp) R (by rw[zE hab])
      | wr A=>rw[hp]at bx; simp[RK.base]at bx; omega
      | al A=>rw[hp]at bx; simp[RK.base]at bx; omega
      | wc A=>rw[hp]at bx; simp[RK.base]at bx; omega
      | up A=>rw[hp]at bx; simp[RK.base]at bx; omega
      | z k =>
       rw[hp]at bx
       simp only[RK.base]at bx
       have Dn:k=0:=by
        cases hq:kd i with
        | wr A =>
         rw[hp,hq]at a3
         simp only[yA,RK.base,bJ]at a3
         cases k with
         | zero=>rfl
         | succ m=>simp at a3
        | al A =>
         rw[hp,hq]at a3
         simp only[yA,RK.base,bJ]at a3
         cases k with
         | zero=>rfl
         | succ m=>simp at a3
        | wc A =>
         rw[hp,hq]at a3
         simp only[yA,RK.base,bJ]at a3
         cases k with
         | zero=>rfl
         | succ m=>simp at a3
        | rd b'=>rw[hq]at XF; simp[RK.base]at XF; omega
        | z k' =>
         rw[hq,hy3]at XF
         simp only[RK.base]at XF
         subst XF
         rw[hp,hq]at a3
         simp only[yA,RK.base,bJ]at a3
         cases k with
         | zero=>rfl
         | succ m=>simp at a3
        | up A =>
         rw[hp,hq]at a3
         simp only[yA,RK.base,bJ]at a3
         cases k with
         | zero=>rfl
         | succ m=>simp at a3
       subst Dn
       exact(sI bx.symm R).2 yW
    ·have hx3:(wP c (wz f) x).kind=2:=qC (U6 _) MO
     -- x writes
     rcases qH (wP c (wz f) y).kind 2 with hy2 | hy2
     ·have e2:=mZ (Z) ZJ
      subst e2
      refine⟨st,?_,R,(JI (Z) st yW).trans mW.symm,hk.symm⟩
      cases hq:kd i with
      | wr A=>rw[hq]at XF; simp[RK.base]at XF; omega
      | al A=>rw[hq]at XF; simp[RK.base]at XF; omega
      | wc A=>rw[hq]at XF; simp[RK.base]at XF; omega
      | up A=>rw[hq]at XF; simp[RK.base]at XF; omega
      | rd b =>
       cases hp:kd p with
       | wr A =>
        rw[hp,hq]at a3
        simp only[yA,qD,zO]at a3
        obtain⟨b',Kb,IM⟩:=a3
        have:=Y IM
        subst this
        exact mX (st:=yW) (by rw[<- mW]; exact hq) ZJ (EL (by rw[<- hk]; exact hp) R b Kb).symm
       | al A =>
        rw[hp,hq]at a3
        simp only[yA,qD,zO]at a3
        obtain⟨b',Kb,IM⟩:=a3
        have:=Y IM
        subst this
        exact mX (st:=yW) (by rw[<- mW]; exact hq) ZJ ((Yu (by rw[<- hk]; exact hp) R).1 b Kb).symm
       | wc oE =>
        rw[hp,hq]at a3
        have hbu:b ∉ oE:=λhm=>by
         simp only[yA,qQ]at a3
         exact a3 b hm (Nat.beq_refl b)
        obtain⟨q1,q2,_⟩:=Yx (by rw[<- hk]; exact hp) R
        have wL:=Yw (by rw[<- mW]; exact hq) ZJ
        exact mX (st:=yW) (by rw[<- mW]; exact hq) ZJ (q2 b (Z) hbu).symm
       | up a =>
        rw[hp,hq]at a3
        have hab:a≠b:=λe=>by subst e; simp[yA]at a3
        obtain⟨z,e1,_⟩:=U5 (by rw[<- hk]; exact hp) R
        subst e1
        exact mX (st:=st.set a z) (by rw[<- mW]; exact hq) ZJ (by rw[zE hab])
       | rd b'=>rw[hp]at bx; simp[RK.base]at bx; omega
       | z k=>rw[hp]at bx; simp only[RK.base]at bx; rw[hx3]at bx; subst bx; rw[hp,hq]at a3; simp[yA,RK.base,bJ]at a3
      | z k =>
       rw[hq]at XF
       simp only[RK.base]at XF
       have Dn:k=0:=by
        have a4:yA (kd p) (.z k)=false:=by rw[hq]at a3; exact a3
        have a5:bJ 2 k=false:=by
         cases hp:kd p with
         | wr A=>rw[hp]at a4; exact a4
         | al A=>rw[hp]at a4; exact a4
         | wc A=>rw[hp]at a4; exact a4
         | up A=>rw[hp]at a4; exact a4
         | rd b'=>rw[hp]at bx; simp[RK.base]at bx; omega
         | z k'=>rw[hp]at bx a4; simp only[RK.base]at bx; rw[hx3]at bx; subst bx; exact a4
        cases k with
        | zero=>rfl
        | succ m=>simp[bJ]at a5
       subst Dn
       exact(sI XF.symm ZJ).2 st
     ·have hy3:(wP c (wz f) y).kind=2:=qC (U6 _) hy2
      -- both write: one block each
      have hup:(∃ a b,kd p=.up a/\kd i=.up b/\a≠b)\/∃ oE A,kd p=.wc oE/\kd i=.al A:=by
       rw[hx3]at bx
       rw[hy3]at XF
       cases hp:kd p<;>cases hq:kd i<;>rw[hp,hq]at a3<;>rw[hp]at bx<;>rw[hq]at XF<;>simp only[RK.base]at bx XF <;>
        first
         | exact .inr ⟨_,_,rfl,rfl⟩
         | exact .inl ⟨_,_,rfl,rfl,λe=>by subst e; simp[yA]at a3⟩
         | (exfalso; omega)
         | (exfalso; subst bx; simp[yA,RK.base,bJ]at a3; done)
         | (exfalso; subst XF; simp[yA,RK.base,bJ]at a3; done)
         | (exfalso; simp[yA,RK.base,bJ]at a3; done)
         | (exfalso; subst bx XF; simp[yA,RK.base,bJ]at a3; done)
      rcases hup with hup | ⟨oE,A,hp,hq⟩
      rotate_left
      ·obtain⟨q1,q2,q3,q4⟩:=Yx (by rw[<- hk]; exact hp) R
       obtain⟨_,r2,z,r3,r4,r5⟩:=Yu (by rw[<- mW]; exact hq) ZJ
       subst r3 r4
       refine⟨st++[.var z],?_,q3 _,?_,(q4 _).trans hp.symm⟩
       ·rw[q1]; exact(r5 st).1
       ·rw[(r5 st).2,hq,r2,q1]
      obtain⟨a,b,hp,hq,hab⟩:=hup
      obtain⟨z1,e1,w1⟩:=U5 (by rw[<- hk]; exact hp) R
      subst e1
      obtain⟨z2,e2,w2⟩:=U5 (by rw[<- mW]; exact hq) ZJ
      subst e2
      refine⟨st.set b z2,w2 st (by rw[zE hab]),?_,(X6 (by rw[<- mW]; exact hq) st).trans hq.symm,(X6 (by rw[<- hk]; exact hp) _).trans hp.symm⟩
      rw[List.set_comm _ _ hab]
      exact w1 (st.set b z2) (by rw[zE (λe=>hab e.symm)])
   obtain⟨ql,k1,k2,k3,k4⟩:=key
   refine⟨_,⟨y,hy,hdy,.inl ⟨Kd,k3.symm,e,_,k1,rfl⟩⟩,x,N,hdx,.inl ⟨?_,?_,d,yW,?_,?_⟩⟩
   ·rw[jx a2]; exact hw
   ·rw[XQ (c:=c) a2]; exact k4.symm
   ·rw[db (c:=c) a2]; exact k2
   ·simp only[fp f d e hdd]
  ·simp only[jx a1]at Kd
   refine⟨_,⟨y,hy,hdy,.inr ⟨Kd,mW,rfl⟩⟩,x,N,hdx,.inl ⟨?_,?_,d,dz,?_,?_⟩⟩
   ·rw[jx a2]; exact hw
   ·rw[XQ (c:=c) a2]; exact hk
   ·rw[db (c:=c) a2]; exact R
   ·simp only[fp f d (some SU) hdd]
 ·rcases hy' with⟨Kd,mW,e,yW,ZJ,rfl⟩ | ⟨Kd,mW,rfl⟩
  ·simp only[jx a1,db (c:=c) a1,XQ (c:=c) a1]at Kd mW ZJ
   refine⟨_,⟨y,hy,hdy,.inl ⟨Kd,mW,e,yW,ZJ,rfl⟩⟩,x,N,hdx,.inr ⟨?_,hk,?_⟩⟩
   ·rw[jx a2]; exact hw
   ·simp only[fp f (some SU) e hdd]
  ·simp only[jx a1]at Kd
   refine⟨_,⟨y,hy,hdy,.inr ⟨Kd,mW,rfl⟩⟩,x,N,hdx,.inr ⟨?_,hk,?_⟩⟩
   ·rw[jx a2]; exact hw
   ·simp only[fp f (some SU) (some SU) hdd]
end
end Go.AM
namespace Go.AM
set_option linter.unusedSectionVars false
variable [yV]
class Hl where
 df:List Deferred
instance Y9:Hl:=⟨[]⟩
variable [Hl]
structure Rel(O:KS)(n:Nat)(f:F)(a:Act):Prop where
 size:a.tmps.size=n
 defers:a.defers=Hl.df
 get:∀ (s:Nat) (d:D),f s=some d->∃ v,a.tmps[s]? = some v/\RD O d v
section
variable {c:Ctx} {O:KS} {n:Nat} {f:F} {a:Act}
theorem Rel.eval(h:Rel O n f a){x:Operand}{d:D}(N:wz f x=some d):RD O d (a.eval x):=by
 cases x with
 | tmp t =>
  obtain⟨v,h1,M⟩:=h.get t d N
  simp only[Act.eval,zY,h1]
  exact M
 | const v=>exact(YY N).1
 | global g=>cases N
 | func g =>
  have N:(bif qL g 1000000 then some (D.wg g [])else none)=some d:=N
  cases I:qL g 1000000 with
  | false=>grind
  | true =>
   rw[I]at N
   cases N
   have:=RD.wg (O:=O) g [] [] rfl (λi h=>absurd h (qN i))
   rwa [C2 I]at this
theorem Rel.mono{E:KS}(x:Ext O E)(h:Rel O n f a):Rel E n f a:=⟨h.size,h.defers,λs d J=>by obtain⟨v,h1,M⟩:=h.get s d J; exact⟨v,h1,M.mono x⟩⟩
theorem Rel.put{dst:Option Nat}{d:Option D}{v:Value}(h:Rel O n f a)(J:yX n dst=true)(hv:∀ d',d=some d'->RD O d' v):Rel O n (dN f dst d) (a.put dst v):=by
 cases dst with
 | none=>exact h
 | some t =>
  have wL:t<n:=X J
  refine⟨by simp[qW,h.size],h.defers,λs d' hs => ?_⟩
  simp only[dN]at hs
  simp only[qW]
  by_cases e:s=t
  ·subst e
   rw[if_pos rfl]at hs
   exact⟨v,by simp[h.size,wL],hv d' hs⟩
  ·rw[if_neg e]at hs
   obtain⟨u,h1,M⟩:=h.get s d' hs
   grind
theorem z2K{v:Value}:RD O SU undef:=.eA [] [] rfl (λi h=>absurd h (qN i))
theorem z8b{o:Oper}{d:Option D}{ql:St}(h:wy c.P (execOp a.eval o) O d ql){K:Act->World->Prop}{Q:Exit->Act->World->Prop}
  (hK:∀ (v:Value) (E:KS),E.st=ql->Inv E->Ext O E->(∀ d',d=some d'->RD E d' v)->K (a.put o.dst v) E.w):o.wp c.P a O.w K Q:=by
 obtain⟨E,nx,v,h1,M,h3,h4,h5,h6⟩:=h
 unfold Oper.wp
 rw[h1]
 rcases M with rfl | ⟨rfl,rfl⟩
 ·exact hK v E h3 h4 h5 h6
 ·exact hK undef E h3 h4 h5 h6
theorem Lm(h:Rel O n f a)(x:Option Operand):Js O (x.map (wz f)) (x.map a.eval):=by
 cases x with
 | none=>trivial
 | some x=>exact λy hy=>h.eval hy
theorem C0(B:Inv O)(hR:Rel O n f a){b:Builtin}{args:Array Operand}{sn:Array TypeId}{o:Oper}(ho:o.op=.call ⟨.builtin b,args,sn⟩){d:Option D}{ql:St}
  (h:(qt (lG c b sn.toList (args.toList.map (wz f))) O.st).leads (d,ql)):wy c.P (execOp a.eval o) O d ql:=by
 have two:∀ {g:Value->Value->Sem Value} {m:Int->Int->Int},(∀ k k' a b,(g (.int k a) (.int k' b)).run c.P O.w=.ok (.int k (m a b)) O.w)->(qt (YP m (args.toList.map (wz f))) O.st).leads (d,ql) ->
   (∀ p q,args = #[p,q]->execOp a.eval o=(do xG (.value (<- g (a.eval p) (a.eval q))):Sem Next))->wy c.P (execOp a.eval o) O d ql:=by
  intro g m hg h he
  match R:args.toList,h with
  | [p,q],h =>
   have hpq:args = #[p,q]:=by rw[<- zR (xs:=args),R]
   rw[he p q hpq]
   obtain⟨r,h1,rfl,h3⟩:=La hg B (λz hz=>hR.eval (x:=p) hz) (λz hz=>hR.eval (x:=q) hz) h
   exact⟨O,.value r,r,by simp[h1],.inl rfl,rfl,B,Ext.refl O,h3⟩
  | [],h=>exact absurd h zg
  | [_],h=>exact absurd h zg
  | _::_::_::_,h=>exact absurd h zg
 unfold lG at h
 split at h
 ·rename_i t ts x xs h1 M
  have ht:sn[0]? = some t:=by rw[<- qI,h1]; rfl
  obtain⟨y,hy,rfl⟩:∃ y,args[0]? = some y/\x=wz f y:=by
   cases R:args.toList with
   | nil=>grind
   | cons y ys=>rw[R]at M; simp at M; exact⟨y,by rw[<- qI,R]; rfl,M.1.symm⟩
  have:=z6h (c:=c) (ty:=o.type) (ts:=sn) (vs:=args.map a.eval) B (λz hz=>hR.eval (x:=y) hz) ht (by simp[hy]) h
  simp only[execOp,ho,resolve,invoke,builtin,pure_bind]
  exact this
 ·rename_i t t' s x h1 M
  obtain⟨p,q,rfl,rfl,hpq⟩:∃ p q,s=wz f p/\x=wz f q/\args = #[p,q]:=by
   cases R:args.toList with
   | nil=>grind
   | cons p r=>rw[R]at M; cases r with
    | nil=>simp at M
    | cons q r=>cases r with
     | nil=>grind
     | cons _ _=>simp at M
  subst hpq
  cases I:zU t t' with
  | false =>
   rw[I,cond_false]at h
   have z10:sn = #[t,t']:=by rw[<- zR (xs:=sn),h1]
   subst z10
   have:=KU (c:=c) (ty:=o.type) B (λz hz=>hR.eval (x:=p) hz) (λz hz=>hR.eval (x:=q) hz) h
   have e2:(#[p,q]:Array Operand).map a.eval = #[a.eval p,a.eval q]:=qz
   simp only[execOp,ho,resolve,invoke,builtin,pure_bind,e2]
   exact this
  | true =>
   rw[I,cond_true]at h
   have e:=Y I
   subst e
   have z10:sn = #[t,t]:=by rw[<- zR (xs:=sn),h1]
   subst z10
   have:=DG (c:=c) (ty:=o.type) B (λz hz=>hR.eval (x:=p) hz) (λz hz=>hR.eval (x:=q) hz) h
   have e2:(#[p,q]:Array Operand).map a.eval = #[a.eval p,a.eval q]:=qz
   simp only[execOp,ho,resolve,invoke,builtin,pure_bind,e2]
   exact this
 ·rename_i t t' s x h1 M
  obtain⟨p,q,rfl,rfl,hpq⟩:∃ p q,s=wz f p/\x=wz f q/\args = #[p,q]:=by
   cases R:args.toList with
   | nil=>grind
   | cons p r=>rw[R]at M; cases r with
    | nil=>simp at M
    | cons q r=>cases r with
     | nil=>simp at M; exact⟨p,q,M.1.symm,M.2.symm,by rw[<- zR (xs:=args),R]⟩
     | cons _ _=>simp at M
  subst hpq
  have z10:sn = #[t,t']:=by rw[<- zR (xs:=sn),h1]
  subst z10
  have:=Rn (c:=c) (ty:=o.type) (t':=t') B (λz hz=>hR.eval (x:=p) hz) (λz hz=>hR.eval (x:=q) hz) h
  have e2:(#[p,q]:Array Operand).map a.eval = #[a.eval p,a.eval q]:=qz
  simp only[execOp,ho,resolve,invoke,builtin,pure_bind,e2]
  exact this
 ·rename_i M
  exact two (g:=Builtin.min2) (λk k' a b=>by simp[Builtin.min2,V1]) h λp q hpq=>by
   subst hpq
   have e2:(#[p,q]:Array Operand).map a.eval = #[a.eval p,a.eval q]:=qz
   simp only[execOp,ho,resolve,invoke,builtin,pure_bind,e2]
   simp[Builtin.min_]
 ·rename_i M
  exact two (g:=Builtin.max2) (λk k' a b=>by simp[Builtin.max2,l8]) h λp q hpq=>by
   subst hpq
   have e2:(#[p,q]:Array Operand).map a.eval = #[a.eval p,a.eval q]:=qz
   simp only[execOp,ho,resolve,invoke,builtin,pure_bind,e2]
   simp[Builtin.max_]
 ·exact absurd h zg
theorem z55{o:Oper}{g:Nat}{caps:Array Value}{args:Array Value}{hl:Ending->World->Prop}(jJ:(execOp a.eval o).run c.P O.w=(callFunc g args).run c.P O.w)
  (h:gv c.P g args O.w hl) {K:Act->World->Prop} {Q:Exit->Act->World->Prop} (hR:∀ e w',hl e w'->∃ v,e=.returned v/\K (a.put o.dst v) w'):o.wp c.P a O.w K Q:=by
 unfold Oper.wp
 rw[jJ]
 rcases h with⟨h1,M⟩ | ⟨v,w',h1,M⟩
 ·rw[h1]
  refine M.mono λe w' he => ?_
  grind
 ·rw[h1]
  obtain⟨u,hu,hk⟩:=hR _ _ M
  cases hu
  exact hk
theorem Y3(g:Nat){l caps:List D}{vs us:List Value}(h1:wN O l vs)(M:wN O caps us):wN O (bG g l caps) (bG g vs us):=by
 unfold bG
 cases Nat.ble 1000000 g with
 | true=>exact M.append h1
 | false=>exact h1.append M
theorem DP{dst:Option Nat}{p:Operand}{args:Array Operand}{sn:Array TypeId}{ty:TypeId}{pos:String}{after:Array Edge}{guard:Option (Nat×Bool)}{g:Nat}{us:List Value}{P:Program}{w:World}(EC:a.eval p=Qv g us) :
  (execOp a.eval ⟨dst,.call ⟨.value p,args,sn⟩,ty,pos,after,guard⟩).run P w=(callFunc (dX g) (bG g (args.toList.map a.eval) us).toArray).run P w:=by
 unfold Qv at EC
 unfold dX bG
 cases I:Nat.ble 1000000 g with
 | true =>
  rw[I]at EC
  simp at EC ⊢
  have e:us.toArray++args.map a.eval=(us++args.toList.map a.eval).toArray:=by apply qP; simp
  simp only[execOp,resolve,EC,xE,pure_bind,invoke,Array.append_empty,e]
 | false =>
  rw[I]at EC
  simp at EC ⊢
  have e:args.map a.eval++us.toArray=(args.toList.map a.eval++us).toArray:=by apply qP; simp
  simp only[execOp,resolve,EC,xE,pure_bind,invoke,Array.empty_append,e]
theorem Fc{o:Oper}{d:Option D}{ql:St}(hC:∀ g,Dj c.P g (c.fn g))(B:Inv O)(hR:Rel O n f a)(h:(qt (wP c (wz f) o) O.st).leads (d,ql)){K:Act->World->Prop}{Q:Exit->Act->World->Prop}
  (hK:∀ (v:Value) (E:KS),E.st=ql->Inv E->Ext O E->(∀ d',d=some d'->RD E d' v)->K (a.put o.dst v) E.w):o.wp c.P a O.w K Q:=by
 have lj:∀ (x:Operand) (z:D),wz f x=some z->RD O z (a.eval x):=λx z hz=>hR.eval hz
 obtain⟨dst,op,ty,pos,after,guard⟩:=o
 have fin:wy c.P (execOp a.eval ⟨dst,op,ty,pos,after,guard⟩) O d ql->Oper.wp c.P ⟨dst,op,ty,pos,after,guard⟩ a O.w K Q:=λJ=>z8b J hK
 cases op with
 | move x =>
  simp only[wP,kL,T.leads]at h
  obtain⟨h,rfl⟩:=h
  exact fin (wy.val B λd' dY=>lj x d' (h.trans dY))
 | assign x =>
  simp only[wP,kL,T.leads]at h
  obtain⟨h,rfl⟩:=h
  exact fin (wy.val B λd' dY=>lj x d' (h.trans dY))
 | pick x p q =>
  simp only[wP,Lr]at h
  split at h
  ·rename_i b I
   have hv:=tG I (lj x)
   rw[kL]at h
   obtain⟨h,rfl⟩:=h
   refine fin ⟨O,.value (if b then a.eval p else a.eval q),if b then a.eval p else a.eval q,?_,.inl rfl,rfl,B,Ext.refl O,λd' dY => ?_⟩
   ·simp[execOp,hv,Go.asBool]
   ·rcases h with⟨rfl,h⟩ | ⟨rfl,h⟩
    ·exact lj p d' (h.trans dY)
    ·exact lj q d' (h.trans dY)
  ·exact absurd h zg
 | alloc t=>exact fin (I6 B h)
 | box t x=>exact fin (Io B (lj x) h)
 | load t x=>exact fin (Sl B (lj x) h)
 | store t x y=>exact fin (LN B (lj x) (lj y) h)
 | nilCheck x=>exact fin (H7 rfl B (lj x) h)
 | binOp op t x y ty' =>
  have h:(qt (Ii c op t y (wz f x) (wz f y)) O.st).leads (d,ql):=h
  unfold Ii at h
  split at h
  ·exact fin (Lc B (lj x) h)
  ·exact fin (Le B (lj x) (λh=>KZ B (lj x) (lj _) h) h)
  ·exact fin (Ld B (lj x) (λh=>KZ B (lj x) (lj _) h) h)
  ·exact fin (KZ B (lj x) (lj y) h)
 | typeAssert x xt t ok=>exact fin (Kh B (lj x) h)
 | unOp op t x=>exact fin (z8T B (lj x) h)
 | convert s t x=>exact fin (C5 B (lj x) h)
 | makeInterface t x=>exact fin (YJ B (lj x) h)
 | makeFunc fn first cap =>
  cases fn with
  | func g =>
   simp only[wP]at h
   cases I:zU first.size 0&&qL g 1000000 with
   | false =>
    rw[I,cond_false]at h
    cases Es:zU cap.size 0&&qL g 1000000 with
    | false=>rw[Es]at h; exact absurd h zg
    | true =>
     rw[Es,cond_true]at h
     simp only[zF]at Es
     have hf:cap = #[]:=zV (Y Es.1)
     subst hf
     split at h
     ·rename_i l R
      rw[dr]at h
      obtain⟨rfl,rfl⟩:=h
      have hr:=fq (O:=O) (vs:=first.toList.map a.eval) R (qz) (λi d v J hv=>by
       simp only[qR]at J hv
       cases hi:first.toList[i]? with
       | none=>grind
       | some x=>rw[hi]at J hv; simp at J hv; subst hv; exact lj x d J)
      refine fin (wy.pure B ?_ (.wg (g+1000000) l _ hr.1 hr.2))
      have e:(first.toList.map a.eval).toArray=first.map a.eval:=by apply qP; simp
      rw[Iu Es.2,e]
      simp[Instr.makeFunc]
     ·exact absurd h zg
   | true =>
    rw[I,cond_true]at h
    simp only[zF]at I
    have hf:first = #[]:=zV (Y I.1)
    subst hf
    split at h
    ·rename_i l R
     rw[dr]at h
     obtain⟨rfl,rfl⟩:=h
     have hr:=fq (O:=O) (vs:=cap.toList.map a.eval) R (qz) (λi d v J hv=>by
      simp only[qR]at J hv
      cases hi:cap.toList[i]? with
      | none=>grind
      | some x=>rw[hi]at J hv; simp at J hv; subst hv; exact lj x d J)
     refine fin (wy.pure B ?_ (.wg g l _ hr.1 hr.2))
     have e:(cap.toList.map a.eval).toArray=cap.map a.eval:=by apply qP; simp
     rw[C2 I.2,e]
     simp[Instr.makeFunc]
    ·exact absurd h zg
  | _=>exact absurd h zg
 | makeSlice t x y=>exact fin (Sq B (lj x) (lj y) h)
 | slice t x lo hi mx=>exact fin (LG B (lj x) (Lm hR lo) (Lm hR hi) (Lm hR mx) h)
 | fieldAddr s x fl=>exact fin (Yc B (lj x) h)
 | field s x fl=>exact fin (IE B (lj x) h)
 | indexAddr t x i=>exact fin (Yn B (lj x) (lj i) h)
 | index t x i=>exact fin (IZ B (lj x) (lj i) h)
 | extract x i=>exact fin (Cd B (lj x) h)
 | build t ps =>
  have:=Iq (L:=ps.toList) (G:=a.eval) B lj h
  refine fin ?_
  have e:(ps.toList.map λp=>(p.1,a.eval p.2)).toArray=ps.map λp=>(p.1,a.eval p.2):=by apply qP; simp
  rw[e]at this
  exact this
 | buildSlice t k ps =>
  have h:(qt (bif z2Q c dst&&zU k 0&&zU ps.size 0 then VD c t (bK c t k (ps.toList.map λp=>(p.1,wz f p.2)))else bK c t k (ps.toList.map λp=>(p.1,wz f p.2))) O.st).leads (d,ql):=h
  refine fin ?_
  have e:(ps.toList.map λp=>(p.1,a.eval p.2)).toArray=ps.map λp=>(p.1,a.eval p.2):=by apply qP; simp
  have key:(qt (bK c t k (ps.toList.map λp=>(p.1,wz f p.2))) O.st).leads (d,ql)->wy c.P (do xG (.value (<- Instr.buildSlice t k (ps.map λp=>(p.1,a.eval p.2))))) O d ql:=λh=>by
   have:=K8 (L:=ps.toList) (G:=a.eval) B lj h
   rw[e]at this
   exact this
  cases I:z2Q c dst&&zU k 0&&zU ps.size 0 with
  | false=>rw[I]at h; exact key h
  | true =>
   rw[I,cond_true]at h
   simp only[zF]at I
   have hk:=Y I.1.2
   have hp:ps = #[]:=zV (Y I.2)
   subst hk hp
   have e0:((#[]:Array (Nat×Operand)).map λp=>(p.1,a.eval p.2)) = #[]:=qz
   rw[e0]at key
   have r:=GP B key h
   rw[<- e0]at r
   exact r
 | call cl =>
  obtain⟨callee,args,sn⟩:=cl
  cases callee with
  | builtin b=>exact fin (C0 B hR rfl h)
  | invoke r m=>exact absurd h zg
  | value p =>
   simp only[wP,eL]at h
   split at h
   ·rename_i g caps l hp R
    have hpv:=lj p _ hp
    have hr:=fq (O:=O) (vs:=args.toList.map a.eval) R (qz) (λi d v J hv=>by
      simp only[qR]at J hv
      cases hi:args.toList[i]? with
      | none=>rw[hi]at J; cases J
      | some x=>rw[hi]at J hv; simp at J hv; subst hv; exact lj x d J)
    generalize EC:a.eval p=pv at hpv
    cases hpv with
    | wg _ _ us ZJ hh2 =>
     have ZI:=Y3 g hr (⟨ZJ,hh2⟩:wN O caps us)
     refine z55 (c:=c) (O:=O) (g:=dX g) (caps := #[]) (args:=(bG g (args.toList.map a.eval) us).toArray) ?_ (Rj (hC (dX g)) B ZI h) ?_
     ·exact DP EC
     ·rintro e w' ⟨E,v,rfl,h1,M,h3,rfl,h4⟩
      exact⟨v,rfl,hK v E h1 M h3 h4⟩
   ·exact absurd h zg
 | makeMap t r=>exact fin (CD B h)
 | lookup t m x ok=>exact fin (EN B (lj m) (lj x) h)
 | mapUpdate t m x y=>exact fin (YM B (lj m) (lj x) (lj y) h)
 | _=>exact absurd h zg
end
end Go.AM
namespace Go.AM
set_option linter.unusedSectionVars false
variable [yV] [Hl]
section
variable {c:Ctx} {n:Nat} {ops:Array Oper}
theorem Cl(j:Nat):br ops j=(ops[j]?).bind (·.dst):=by
 unfold br; cases ops[j]? <;> rfl
theorem Zb{O:KS}{f:F}{a:Act}{o:Oper}{b:Bool}(hR:Rel O n f a)(h:jC ops f o=some b):qU o (yielded ops a.tmps)=b:=by
 unfold jC at h
 unfold qU
 split at h
 ·grind
 ·rename_i j w hg
  rw[hg]
  split at h
  ·cases h
  ·rename_i t ht
   rw[Cl]at ht
   simp only[yielded,ht,Option.bind_some]
   split at h
   ·rename_i x N
    obtain⟨v,h1,M⟩:=hR.get t _ N
    have:=M.cd
    cases h
    grind
   ·rename_i N
    obtain⟨v,h1,M⟩:=hR.get t _ N
    cases h
    rw[h1]
    cases M with
    | eA _ vs R hh=>rfl
   ·cases h
def pz(ops:Array Oper)(a a':Act):Prop:=∀ s:Nat,(∀ o∈ops.toList,o.dst≠some s)->a'.tmps[s]? = a.tmps[s]?
theorem pz.refl(ops:Array Oper)(a:Act):pz ops a a:=λ_ _=>rfl
theorem pz.trans{ops:Array Oper}{a b d:Act}(h:pz ops a b)(k:pz ops b d):pz ops a d:=λs hs=>(k s hs).trans (h s hs)
theorem X4{ops:Array Oper}{i:Nat}{o:Oper}{a:Act}{v:Value}(ho:ops[i]? = some o):pz ops a (a.put o.dst v):=by
 intro s hs
 have hm:o∈ops.toList:=by have:=Array.mem_of_getElem? ho; simpa using this
 have:=hs o hm
 cases J:o.dst with
 | none=>rfl
 | some t =>
  rw[J]at this
  have jX:t≠s:=λe=>this (by rw[e])
  simp[qW,zH jX]
theorem G1{O:KS}{a:Act}{i k:Nat}{s s':F×St}(hC:∀ g,Dj c.P g (c.fn g))(B:Inv O)(hR:Rel O n s.1 a)(vU:O.st=s.2)(h:eV c n ops i s s' k){K:Act->World->Prop}{Q:Exit->Act->World->Prop}
  (hK:∀ (a':Act) (E:KS),E.st=s'.2->Inv E->Ext O E->Rel E n s'.1 a'->pz ops a a'->K a' E.w):wpOp c.P ops Q i K a O.w:=by
 obtain⟨o,ho,J,h⟩:=h
 unfold wpOp
 rw[ho]
 simp only
 rcases h with⟨hw,_,d,ql,R,rfl⟩ | ⟨hw,_,rfl⟩
 ·rw[if_pos (Zb hR hw)]
  refine .inl (Fc hC B hR (vU▸R) λv E h1 M h3 h4=>hK _ E h1 M h3 ((hR.mono h3).put J h4) (X4 ho))
 ·rw[if_neg (by rw[Zb hR hw]; exact Bool.false_ne_true)]
  exact hK _ O vU B (Ext.refl O) (hR.put J λd' dY=>by cases dY; exact z2K (v:=undef)) (X4 ho)
theorem P8{Q:Exit->Act->World->Prop}(hC:∀ g,Dj c.P g (c.fn g)):∀ (l:List Nat) {O:KS} {a:Act} {s s':F×St} {ks:List Nat},Inv O->Rel O n s.1 a->O.st=s.2->R4 c n ops l s s' ks ->
  (∀ (a':Act) (E:KS),E.st=s'.2->Inv E->Ext O E->Rel E n s'.1 a'->pz ops a a'->Q .normal a' E.w)->wpOps c.P ops Q l a O.w
 | [],O,a,s,s',ks,B,hR,vU,h,hQ=>by
  obtain⟨rfl,_⟩:=h
  exact hQ a O vU B (Ext.refl O) hR (pz.refl _ _)
 | i::l,O,a,s,s',ks,B,hR,vU,h,hQ=>by
  obtain⟨s1,k,L5,_,h1,M⟩:=h
  refine G1 hC B hR vU h1 λa1 κ1 g1 g2 g3 g4 g5 => ?_
  exact P8 hC l g2 g4 g1 M λa' E e1 e2 e3 e4 e5=>hQ a' E e1 e2 (g3.trans e3) e4 (g5.trans e5)
theorem Jl{Q:Exit->Act->World->Prop}(hC:∀ g,Dj c.P g (c.fn g)):∀ (l m:List Nat) {O:KS} {a:Act} {s s':F×St} {ks:List Nat},Inv O->Rel O n s.1 a->O.st=s.2->R4 c n ops l s s' ks ->
  (∀ (a':Act) (E:KS),E.st=s'.2->Inv E->Ext O E->Rel E n s'.1 a'->pz ops a a'->wpOps c.P ops Q m a' E.w)->wpOps c.P ops Q (l++m) a O.w
 | [],m,O,a,s,s',ks,B,hR,vU,h,hQ=>by
  obtain⟨rfl,_⟩:=h
  exact hQ a O vU B (Ext.refl O) hR (pz.refl _ _)
 | i::l,m,O,a,s,s',ks,B,hR,vU,h,hQ=>by
  obtain⟨s1,k,L5,_,h1,M⟩:=h
  refine G1 hC B hR vU h1 λa1 κ1 g1 g2 g3 g4 g5 => ?_
  exact Jl hC l m g2 g4 g1 M λa' E e1 e2 e3 e4 e5=>hQ a' E e1 e2 (g3.trans e3) e4 (g5.trans e5)
theorem G0{kd:Nat->Nat}:∀ (l:List Nat) (s s':F×St) (ks:List Nat),R4 c n ops l s s' ks->ks=l.map kd->Qe c n ops kd l s s'
 | [],s,s',ks,h,_=>h.1
 | i::l,s,s',ks,⟨s1,k,L5,e,h1,M⟩,hk=>by
  subst e
  simp at hk
  obtain⟨rfl,hk⟩:=hk
  exact⟨s1,h1,G0 l s1 s' L5 M hk⟩
theorem Fg:∀ (l:List Nat) (s s':F×St) (ks:List Nat),R4 c n ops l s s' ks->ks.length=l.length
 | [],_,_,_,h=>by rw[h.2]
 | i::l,s,s',ks,⟨s1,k,L5,e,h1,M⟩=>by subst e; simp[Fg l s1 s' L5 M]
theorem Eh(acc:List Nat):∀ (es:List Edge) (s0 p:Nat),qS (es.foldl (λs e=>bif zZ .any e then s ||| 2 ^ e.on ||| acc.getD e.on 0 else s) s0) p=true ->
  qS s0 p=true\/∃ e∈es,zZ .any e=true/\(p=e.on\/qS (acc.getD e.on 0) p=true)
 | [],s0,p,h=>.inl h
 | e::es,s0,p,h=>by
  rcases Eh acc es _ p h with h1 | ⟨e',h1,M⟩
  ·grind
  ·grind
theorem Zj:∀ (l:List Oper) (acc:List Nat),∃ r,vT l acc=acc++r/\r.length=l.length /\
  ∀ j o,l[j]? = some o->∀ p,qS ((vT l acc).getD (acc.length+j) 0) p=true ->
   ∃ e∈o.after.toList,zZ .any e=true/\(p=e.on\/(e.on<acc.length+j/\qS ((vT l acc).getD e.on 0) p=true))
 | [],acc=>⟨[],by simp[vT],rfl,λj o h=>by simp at h⟩
 | o::l,acc=>by
  let b:=o.after.toList.foldl (λs e=>bif zZ .any e then s ||| 2 ^ e.on ||| acc.getD e.on 0 else s) 0
  obtain⟨r,h1,M,h3⟩:=Zj l (acc++[b])
  have I:vT (o::l) acc=vT l (acc++[b]):=rfl
  have RH:∀ i,i<acc.length->(vT l (acc++[b])).getD i 0=acc.getD i 0:=λi hi=>by
   grind
  refine⟨b::r,by rw[I,h1]; simp,by simp[M],?_⟩
  rw[I]
  intro j o' ho p hp
  cases j with
  | zero =>
   simp at ho
   subst ho
   have he:(vT l (acc++[b])).getD (acc.length+0) 0=b:=by rw[h1]; simp[xF]
   rw[he]at hp
   rcases Eh acc _ 0 p hp with h | ⟨e,k1,k2,k3⟩
   ·simp at h
   ·grind
  | succ j =>
   have:=h3 j o' (by simpa using ho) p (by rw[show(acc++[b]).length+j=acc.length+(j+1) by simp; omega]; exact hp)
   grind
theorem Zv:∀ (l:List Oper) (k:Nat),fT l k=true->∀ j o,l[j]? = some o->∀ e∈o.after.toList,zZ .any e=true->e.on<k+j
 | [],_,_,j,o,h,_,_,_=>by simp at h
 | o::l,k,h,j,o',ho,e,he,I=>by
  simp only[fT,zF,zJ]at h
  cases j with
  | zero =>
   simp at ho
   subst ho
   have:=h.1 e he
   rw[I]at this
   exact X this
  | succ j =>
   have:=Zv l (k+1) h.2 j o' (xy) e he I
   omega
def Td{K:Type}(cl:K->K->Bool)(ops:Array Oper)(x:Oper)(kx:K)(y:Oper)(ky:K):Prop:=(∀ d,x.dst=some d->d ∉ tmpsOf ops y)/\(∀ d,y.dst=some d->d ∉ tmpsOf ops x)/\cl kx ky=false
theorem Fi{K:Type}{cl:K->K->Bool}{bs:List Nat}{xs:List (Nat×Option Nat×List Nat×K)}{j:Nat}{ky:K}{y:Oper}(h:Lq cl bs xs j y.dst (tmpsOf ops y) ky=true){i:Nat}{kx:K}{x:Oper}(N:(i,x.dst,tmpsOf ops x,kx)∈xs) :
  ordered bs i j=true\/Td cl ops x kx y ky:=by
 simp only[Lq,zJ]at h
 have:=h _ N
 simp at this
 rcases this with h1 | ⟨⟨h1,M⟩,h3⟩
 ·grind
 ·refine .inr ⟨λd J hm => ?_,λd J hm => ?_,h3⟩
  ·grind
  ·grind
theorem ZZ{K:Type}{cl:K->K->Bool}{bs:List Nat}:∀ (l:List Oper) (ks:List K) (k0:Nat) (xs:List (Nat×Option Nat×List Nat×K)),ZY cl ops bs l ks k0 xs=true ->
  (∀ j y ky,l[j]? = some y->ks[j]? = some ky->(∀ i x kx,(i,x.dst,tmpsOf ops x,kx)∈xs->ordered bs i (k0+j)=true\/Td cl ops x kx y ky) /\
   (∀ i x kx,i<j->l[i]? = some x->ks[i]? = some kx->ordered bs (k0+i) (k0+j)=true\/Td cl ops x kx y ky))
 | [],_,_,_,_,j,y,ky,hy,_=>by simp at hy
 | o::l,[],_,_,h,_,_,_,_,_=>by simp[ZY]at h
 | o::l,k::ks,k0,xs,h,j,y,ky,hy,hk=>by
  simp only[ZY,zF]at h
  obtain⟨h1,M⟩:=h
  have ih:=ZZ l ks (k0+1) _ M
  cases j with
  | zero =>
   simp at hy hk
   subst hy hk
   exact⟨λi x kx N=>by simpa using Fi h1 N,λi x kx hi=>absurd hi (qN i)⟩
  | succ j =>
   obtain⟨g1,g2⟩:=ih j y ky (by simpa using hy) (by simpa using hk)
   have e:k0+1+j=k0+(j+1):=Z
   rw[e]at g1 g2
   refine⟨λi x kx N=>g1 i x kx (zS _ N),λi x kx hi N hkx => ?_⟩
   cases i with
   | zero =>
    grind
   | succ i =>
    grind
def rest(ops:Array Oper)(listed:Array Bool):List Nat:=(qF ops.size).filter λi => !listed.getD i true
def WI(ops:Array Oper)(listed:Array Bool):Prop:=∀ q,q<ops.size->listed.getD q true=true->∀ p,ordered (vT ops.toList []) p q=true->p<ops.size->listed.getD p true=true
theorem cj{listed:Array Bool}{i j:Nat}(hi:i<listed.size):(listed.setIfInBounds i true).getD j true=if j=i then true else listed.getD j true:=by
 simp
 grind
theorem ij{p q:Nat->Bool}{i:Nat}:∀ (l:List Nat),l.Pairwise (· < ·)->i∈l->p i=true->(∀ j,q j=(p j && !(j==i))) ->
  ∃ pre post,l.filter p=pre++i::post/\l.filter q=pre++post/\∀ x∈pre,p x=true/\x∈l/\x<i
 | [],_,hi,_,_=>by simp at hi
 | a::l,hn,hi,hp,hq=>by
  have hn':=qE.1 hn
  by_cases ha:a=i
  ·subst ha
   refine⟨[],l.filter p,xy,?_,qz⟩
   have hqa:q a=false:=by rw[hq]; simp
   simp only[List.filter_cons,hqa]
   refine List.filter_congr λx N => ?_
   rw[hq]
   have:(x==a)=false:=by simp; exact λe=>absurd (hn'.1 x N) (Z)
   simp[this]
  ·have Kv:i∈l:=by rcases qA.1 hi with h | h; exact absurd h.symm ha; exact h
   obtain⟨pre,post,h1,M,h3⟩:=ij l hn'.2 Kv hp hq
   grind
theorem Q3{listed:Array Bool}{i:Nat}:i∈qY .any ops listed↔i<ops.size/\listed.getD i true=false/\∀ o,ops[i]? = some o->∀ e∈o.after.toList,zZ .any e=true->listed.getD e.on false=true:=by
 unfold qY
 simp only[zX,V,zF,zL]
 constructor
 ·rintro⟨h1,M,h3⟩
  refine⟨h1,M,λo ho e he I => ?_⟩
  rw[ho]at h3
  simp only[Option.map_some,Option.getD_some,Array.all_eq_true_iff_forall_mem]at h3
  grind
 ·grind
theorem Ga(IQ:fT ops.toList 0=true){listed:Array Bool}(bH:listed.size=ops.size):qY .any ops listed=[]->rest ops listed=[]:=by
 intro hr
 cases hre:rest ops listed with
 | nil=>rfl
 | cons i l =>
  have hi:i∈rest ops listed:=by rw[hre]; exact zK
  simp only[rest,zX,V,zL]at hi
  have zbC:∀ j,j<i->listed.getD j true=true:=by
   intro j hj
   cases R:listed.getD j true with
   | true=>rfl
   | false =>
    have hpw:(rest ops listed).Pairwise (· < ·):=List.Pairwise.filter _ zN
    have hjm:j∈rest ops listed:=by simp only[rest,zX,V,zL]; exact⟨Z,R⟩
    rw[hre]at hpw hjm
    rcases qA.1 hjm with rfl | hjm
    ·grind
    ·have:=(qE.1 hpw).1 j hjm; omega
  have:i∈qY .any ops listed:=by
   rw[Q3]
   refine⟨hi.1,hi.2,λo ho e he I => ?_⟩
   have wL:=Zv ops.toList 0 IQ i o (xy) e he I
   grind
  grind
def KO(Stp:Nat->F×St->F×St->Prop):List Nat->F×St->F×St->Prop
 | [],s,s'=>s'=s
 | i::l,s,s'=>∃ s1,Stp i s s1/\KO Stp l s1 s'
theorem BE{Stp:Nat->F×St->F×St->Prop}{In:Nat->Nat->Prop}(Et:∀ p i,In p i->∀ s s1 s2,Stp p s s1->Stp i s1 s2->∃ s',Stp i s s'/\Stp p s' s2){i:Nat}{post:List Nat}{s':F×St}:∀ {pre:List Nat} {s:F×St},(∀ p∈pre,In p i)->KO Stp (pre++i::post) s s' ->
  ∃ s1,Stp i s s1/\KO Stp (pre++post) s1 s'
 | [],s,_,h=>h
 | p::pre,s,hp,⟨sp,h1,M⟩=>by
  obtain⟨s1,h3,h4⟩:=BE Et (λq hq=>hp q (zS _ hq)) M
  obtain⟨s2,h5,h6⟩:=Et _ _ (hp p zK) _ _ _ h1 h3
  exact⟨s2,h5,s1,h6,h4⟩
theorem Jk{Stp:Nat->F×St->F×St->Prop}{In:Nat->Nat->Prop}(z0X:∀ i s s',Stp i s s'->∃ k,eV c n ops i s s' k)(Et:∀ p i,In p i->∀ s s1 s2,Stp p s s1->Stp i s1 s2->∃ s',Stp i s s'/\Stp p s' s2){Q:Exit->Act->World->Prop}(hC:∀ g,Dj c.P g (c.fn g))(IQ:fT ops.toList 0=true)
  {sf:F×St}:∀ (fuel:Nat) (listed:Array Bool) {O:KS} {a:Act} {s:F×St},(∀ p i,p<i->i<ops.size->listed.getD p true=false->ordered (vT ops.toList []) p i=true\/In p i) ->
  listed.size=ops.size->fuel=(rest ops listed).length->WI ops listed->Inv O->Rel O n s.1 a->O.st=s.2->KO Stp (rest ops listed) s sf ->
  (∀ (a':Act) (E:KS),E.st=sf.2->Inv E->Ext O E->Rel E n sf.1 a'->pz ops a a'->Q .normal a' E.w)->wpAny c.P .any ops Q fuel listed a O.w
 | fuel,listed,O,a,s,dS,bH,hfuel,Ku,B,hR,vU,jJ,hQ=>by
  have zbI:=Ga IQ (listed:=listed) bH
  have z0K:rest ops listed=[]->Q .normal a O.w:=by
   intro h
   rw[h]at jJ
   cases jJ
   exact hQ a O vU B (Ext.refl O) hR (pz.refl _ _)
  cases fuel with
  | zero =>
   have hre:rest ops listed=[]:=zW hfuel.symm
   refine⟨?_,z0K hre⟩
   apply List.eq_nil_iff_forall_not_mem.2
   intro i hi
   rw[Q3]at hi
   have:i∈rest ops listed:=by simp only[rest,zX,V,zL]; exact⟨hi.1,hi.2.1⟩
   grind
  | succ fuel =>
   refine⟨λh=>z0K (zbI h),λi hi => ?_⟩
   rw[Q3]at hi
   obtain⟨h1,M,h3⟩:=hi
   have ho:ops[i]? = some ops[i]:=zP h1
   obtain⟨pre,post,g1,g2,g3⟩:=ij (p:=λi => !listed.getD i true) (q:=λj => !(listed.setIfInBounds i true).getD j true) (i:=i) (qF ops.size) zN
    (V.2 h1) (by simp[M]) (λj=>by
     rw[cj (Z)]
     by_cases h:j=i
     ·grind
     ·simp[h])
   have z0E:∀ p,ordered (vT ops.toList []) p i=true->p<ops.size->listed.getD p true=true:=by
    intro p hp wL
    obtain⟨r,_,_,I⟩:=Zj ops.toList []
    obtain⟨e,k1,k2,k3⟩:=I i ops[i] (qz) p (by simpa[ordered]using hp)
    have hle:=h3 _ ho e k1 k2
    have GZ:=Zv ops.toList 0 IQ i ops[i] (qz) e k1 k2
    have GX:listed.getD e.on true=true:=by
     grind
    rcases k3 with rfl | ⟨_,k3⟩
    ·exact GX
    ·exact Ku e.on (Z) GX p k3 wL
   have z0P:∀ p∈pre,In p i:=by
    grind
   have ED:KO Stp (pre++i::post) s sf:=by
    have:rest ops listed=pre++i::post:=g1
    grind
   obtain⟨s1,k1,k2⟩:=BE Et z0P ED
   have X0:rest ops (listed.setIfInBounds i true)=pre++post:=g2
   obtain⟨kk,k1⟩:=z0X _ _ _ k1
   refine G1 hC B hR vU k1 λa1 κ1 e1 e2 e3 e4 e5 => ?_
   refine Jk z0X Et hC IQ fuel (listed.setIfInBounds i true) (λp j hpj hj hp=>dS p j hpj hj (by
    rw[cj (Z)]at hp
    split at hp
    ·cases hp
    ·exact hp)) (by simp[bH]) ?_ ?_ e2 e4 e1 (by rw[X0]; exact k2) λa' E d1 d2 d3 d4 d5=>hQ a' E d1 d2 (e3.trans d3) d4 (e5.trans d5)
   ·have:rest ops listed=pre++i::post:=g1
    rw[this]at hfuel
    rw[X0]
    simp only[List.length_append,List.length_cons]at hfuel ⊢
    omega
   ·intro q hq RJ p hp wL
    rw[cj (Z)]at RJ ⊢
    split
    ·rfl
    ·split at RJ
     ·rename_i e; subst e; exact z0E p hp wL
     ·exact Ku q hq RJ p hp wL
theorem Ff{kd:Nat->Nat}:∀ (l:List Nat) (s s':F×St),Qe c n ops kd l s s'->KO (λi s s'=>eV c n ops i s s' (kd i)) l s s'
 | [],_,_,h=>h
 | i::l,s,s',⟨s1,h1,M⟩=>⟨s1,h1,Ff l s1 s' M⟩
theorem YZ{kd:Nat->Nat}{Q:Exit->Act->World->Prop}(hC:∀ g,Dj c.P g (c.fn g))(IQ:fT ops.toList 0=true)
  {sf:F×St}:∀ (fuel:Nat) (listed:Array Bool) {O:KS} {a:Act} {s:F×St},(∀ p i,p<i->i<ops.size->listed.getD p true=false->ordered (vT ops.toList []) p i=true\/Ind ops kd p i) ->
  listed.size=ops.size->fuel=(rest ops listed).length->WI ops listed->Inv O->Rel O n s.1 a->O.st=s.2->Qe c n ops kd (rest ops listed) s sf ->
  (∀ (a':Act) (E:KS),E.st=sf.2->Inv E->Ext O E->Rel E n sf.1 a'->pz ops a a'->Q .normal a' E.w)->wpAny c.P .any ops Q fuel listed a O.w
 | fuel,listed,O,a,s,dS,bH,hfuel,Ku,B,hR,vU,jJ,hQ =>
  Jk (Stp:=λi s s'=>eV c n ops i s s' (kd i)) (In:=λp i=>Ind ops kd p i) (λi s s' h=>⟨_,h⟩) (λp i hi s s1 s2 h1 M=>BA hi h1 M) hC IQ fuel listed dS bH hfuel Ku B hR vU (Ff _ _ _ jJ) hQ
end
end Go.AM
namespace Go.AM
set_option linter.unusedSectionVars false
variable [yV] [Hl]
open Go.RowKit
structure Up(O E:KS):Prop where
 same:I4 O.w E.w O.ok E.ok
 var:∀ (b:Nat) (d:D),O.st[b]? = some (.var d)->(∃ d',E.st[b]? = some (.var d'))/\E.ph[b]? = O.ph[b]?
 old:∀ (b vi:Nat),Old O.st b vi->Old E.st b vi
 row:∀ (b v:Nat) (e:Ty) (xs:List (den e)),Old O.st b v->E.st[b]? = some (.arr v e xs)->O.st[b]? = some (.arr v e xs)/\E.ph[b]? = O.ph[b]?
theorem RD.up{O E:KS}(x:Up O E){d:D}{v:Value}(h:RD O d v):RD E d v:=by
 induction h with
 | qi τ y cs h=>exact .qi τ y cs (h.mono x.same)
 | sj e l b v h ht hf=>exact .sj e l b v (h.mono x.same) ht hf
 | vy e a=>exact .vy e a
 | tight e l ne blk off f jX uZ h hc=>exact .tight e l ne blk off f jX (x.same _ uZ).1 (λi hi=>(h i hi).mono x.same) λi hi j v hv=>by rw[lH (x.same _ uZ).2]; exact hc i hi j v hv
 | wE=>exact .wE
 | gS=>exact .gS
 | v8=>exact .v8
 | yZ=>exact .yZ
 | uS=>exact .uS
 | WG v h=>exact .WG v h
 | mM T=>exact .mM T
 | nh b T d J =>
  obtain⟨⟨d',dY⟩,hp⟩:=x.var b d J
  exact .nh b T d' dY
 | yJ b blk n d J h =>
  obtain⟨⟨d',dY⟩,hp⟩:=x.var b d J
  exact .yJ b blk n d' dY (hp.trans h)
 | ni b T blk n d J h =>
  obtain⟨⟨d',dY⟩,hp⟩:=x.var b d J
  exact .ni b T blk n d' dY (hp.trans h)
 | ptr b off blk n d J h =>
  obtain⟨⟨d',dY⟩,hp⟩:=x.var b d J
  exact .ptr b off blk n d' dY (hp.trans h)
 | vz τ y cs blk off uZ h hc=>exact .vz τ y cs blk off (x.same _ uZ).1 (h.mono x.same) λj v hv=>by rw[lH (x.same _ uZ).2]; exact hc j v hv
 | gD b vi e idx off blk o I h =>
  refine .gD b vi e idx off blk o (x.old b vi I) λxs N hi => ?_
  obtain⟨h1,M⟩:=x.row b vi e xs I N
  grind
 | ms b vi e off len cap a I jf ha Wq h =>
  refine .ms b vi e off len cap a (x.old b vi I) jf ha Wq λxs N => ?_
  obtain⟨h1,M⟩:=x.row b vi e xs I N
  have:=h xs h1
  unfold Mg at this ⊢
  grind
 | wg f l vs R h ih=>exact .wg f l vs R ih
 | agg l vs R ho h ih=>exact .agg l vs R ho ih
 | eA l vs R h ih=>exact .eA l vs R ih
 | iface t d v h ih=>exact .iface t d v ih
structure Nob(O:KS)(blk:Nat):Prop where
 lt:blk<O.w.heap.size
 ok:¬ O.ok blk
 ph:∀ (b n:Nat),O.ph[b]? ≠ some (some (blk,n))
theorem Nob.ext{O E:KS}(x:Ext O E){blk:Nat}(h:Nob O blk):Nob E blk/\E.w.heap[blk]? = O.w.heap[blk]? := by
 refine⟨⟨Nat.lt_of_lt_of_le h.lt x.size,λhk => ?_,λb n I => ?_⟩,x.frame blk h.lt h.ph⟩
 ·rcases x.fresh blk hk with h1 | h1 | ⟨b,n,h1⟩
  ·exact h.ok h1
  ·have:=h.lt; omega
  ·exact h.ph b n h1
 ·rcases x.phs b blk n I with h1 | h1
  ·exact h.ph b n h1
  ·have:=h.lt; omega
def KS.push(O:KS)(blk n:Nat)(d:D):KS:={ O with ph:=O.ph++[some (blk,n)],st:=O.st++[.var d] }
theorem Z4{α:Type}{l:List α}{x y:α}{b:Nat}(h:l[b]? = some y):(l++[x])[b]? = some y:=xy
theorem W5{α:Type}{l:List α}{x y:α}{b:Nat}(h:(l++[x])[b]? = some y):l[b]? = some y\/(b=l.length/\y=x):=xy
theorem Pb{O:KS}(B:Inv O)(blk n:Nat)(d:D):Up O (O.push blk n d):=by
 have GI:∀ {b:Nat} {y:cG},O.st[b]? = some y->(O.ph++[some (blk,n)])[b]? = O.ph[b]? := λh=>by
  rw[zI]; rw[B.len]; exact(zQ.1 h).1
 refine⟨λk hk=>⟨hk,rfl⟩,λb d' h=>⟨⟨d',Z4 h⟩,GI h⟩,λb vi h => ?_,λb v e xs ho h => ?_⟩
 ·rcases h with h | ⟨v0,e0,Vr,h,hv⟩
  ·exact .inl (Z4 h)
  ·exact .inr ⟨v0,e0,Vr,Z4 h,hv⟩
 ·rcases W5 h with h1 | ⟨_,h1⟩
  ·exact⟨h1,GI h1⟩
  ·cases h1
theorem z8y{κ0 O:KS}{blk:Nat}{d:D}{z:Value}{t:TypeId}(B:Inv O)(N:Ext κ0 O)(I:Nob O blk)(h0:κ0.w.heap.size<=blk)(hz:RD O d z)(ht:d.bu=false)(MM:∀ T,d.typed=some T->t=T)(hh:O.w.heap[blk]? = some (.cells z.cells t (0,0))) :
  Inv (O.push blk z.cells.size d)/\Ext κ0 (O.push blk z.cells.size d)/\RD (O.push blk z.cells.size d) (.ptr O.st.length 0) (.pointer (some ⟨blk,0,none⟩)):=by
 have hu:=Pb B blk z.cells.size d
 have vU:(O.push blk z.cells.size d).st[O.st.length]? = some (.var d):=by simp[KS.push]
 have GI:(O.push blk z.cells.size d).ph[O.st.length]? = some (some (blk,z.cells.size)):=by simp[KS.push,<- B.len]
 have z0W:∀ {b k m:Nat},(O.push blk z.cells.size d).ph[b]? = some (some (k,m))->O.ph[b]? = some (some (k,m))\/(b=O.ph.length/\k=blk):=by
  intro b k m h
  rcases W5 h with h1 | ⟨h1,M⟩
  ·grind
  ·grind
 refine⟨⟨by simp[KS.push,B.len],B.bI,λb k m h => ?_,λb b' k m m' h h' => ?_,λb y h => ?_,B.gl⟩,?_,.ptr _ 0 blk _ d vU GI⟩
 ·rcases z0W h with h1 | ⟨_,rfl⟩
  ·exact B.apart b k m h1
  ·exact⟨I.lt,I.ok⟩
 ·rcases z0W h with h1 | ⟨h1,rfl⟩
  ·rcases z0W h' with M | ⟨M,rfl⟩
   ·exact B.inj b b' k m m' h1 M
   ·exact(I.ph b m h1).elim
  ·rcases z0W h' with M | ⟨M,_⟩
   ·exact(I.ph b' m' M).elim
   ·omega
 ·rcases W5 h with h1 | ⟨h1,M⟩
  ·have hp:(O.push blk z.cells.size d).ph[b]? = O.ph[b]? := by
    show(O.ph++[_])[b]? = _
    grind
   have hy:=B.blk b y h1
   cases y with
   | dead=>trivial
   | var d' =>
    refine kO.elim hy (λhm ⟨k,m,cs,T,g1,g2,g3,g4,g5⟩=>.mk hm ⟨k,m,cs,T,hp.trans g1,g2,g3,⟨g4.1,λi h1 M=>(g4.2 i h1 M).up hu⟩,g5⟩) λl e ⟨k,o,g1,g2⟩ => ?_
    subst e
    exact⟨k,o,hp.trans g1,g2⟩
   | arr vi e xs =>
    obtain⟨g0,g⟩:=hy
    refine⟨g0,rK g (λh=>⟨h.1,hp.trans h.2⟩) ?_⟩
    rintro⟨k,m,cs,T,g1,g2⟩
    exact⟨k,m,cs,T,hp.trans g1,g2⟩
  ·subst h1
   subst M
   have hf:=cr hz ht
   exact .mk hz.z2j ⟨blk,z.cells.size,z.cells,t,GI,hh,rfl,⟨hf.1,λi h1 M=>(hf.2 i h1 M).up hu⟩,cq hz,MM⟩
 ·refine⟨N.os,N.tape,N.output,N.size,N.same,N.fresh,λb k m h => ?_,λb d' h => ?_,λb v0 e xs h => ?_,λb h=>Z4 (N.dead b h),Nat.le_trans N.Fv (by simp[KS.push]),N.frame⟩
  ·rcases z0W h with h1 | ⟨_,rfl⟩
   ·exact N.phs b k m h1
   ·exact .inr h0
  ·obtain⟨⟨d1,h1⟩,M⟩:=N.var b d' h
   obtain⟨h3,h4⟩:=hu.var b d1 h1
   exact⟨h3,h4.trans M⟩
  ·rcases N.arr b v0 e xs h with h1 | ⟨v1,xs1,h1,M,h3⟩
   ·exact .inl (Z4 h1)
   ·refine .inr ⟨v1,xs1,Z4 h1,M,λhe=>⟨?_,(h3 he).2⟩⟩
    have hp:(O.push blk z.cells.size d).ph[b]? = O.ph[b]? := by
     show(O.ph++[_])[b]? = _
     rw[zI]; rw[B.len]; exact(zQ.1 h1).1
    exact hp.trans (h3 he).1
theorem z5t{O:KS}(B:Inv O)(o:Obj):Inv { O with w:=O.w.alloc o }/\Ext O { O with w:=O.w.alloc o }/\Nob { O with w:=O.w.alloc o } O.w.heap.size/\(O.w.alloc o).heap[O.w.heap.size]? = some o:=by
 have hs:(O.w.alloc o).heap.size=O.w.heap.size+1:=qz
 have hold:∀ k,k<O.w.heap.size->(O.w.alloc o).heap[k]? = O.w.heap[k]? := λk hk=>by
  show(O.w.heap.push o)[k]? = _
  grind
 have N:Ext O { O with w:=O.w.alloc o }:=⟨rfl,rfl,rfl,qz,λk hk=>⟨hk,hold k (B.bI k hk)⟩,λk hk=>.inl hk,λ_ _ _ h=>.inl h,λb d h=>⟨⟨d,h⟩,rfl⟩,
  λb v0 e xs h=>.inr ⟨v0,xs,h,qG _,λ_=>⟨rfl,rfl⟩⟩,λ_ h=>h,qG _,λk hk _=>hold k hk⟩
 refine⟨⟨B.len,λk hk => ?_,λb blk n h => ?_,B.inj,λb y hy=>(B.blk b y hy).mono N rfl λblk n h=>hold _ (B.apart b blk n h).1,B.gl.mono N.same⟩,N,⟨?_,λhk => ?_,λb n h => ?_⟩,?_⟩
 ·have:=B.bI k hk; show k<(O.w.alloc o).heap.size; omega
 ·have:=B.apart b blk n h; exact⟨xy,this.2⟩
 ·simp
 ·have:=B.bI _ hk; omega
 ·have:=(B.apart b _ n h).1; omega
 ·show(O.w.heap.push o)[O.w.heap.size]? = some o
  simp
section
variable {c:Ctx} {n:Nat} {ops:Array Oper}
structure Em where
 i:Nat
 d:Nat
 blk:Nat
 t:TypeId
 z:Value
 D:D
structure FZ(c:Ctx)(ops:Array Oper)(κ0 O:KS)(a:Act)(e:Em):Prop where
 op:∃ o,ops[e.i]? = some o/\o.op=.alloc e.t/\o.guard=none/\o.dst=some e.d
 zero:K6 c e.t=some e.D
 z:∃ i,c.P.info? e.t=some i/\i.zero=some e.z/\ZD e.t e.D e.z
 val:a.tmps[e.d]? = some (.pointer (some ⟨e.blk,0,none⟩))
 heap:O.w.heap[e.blk]? = some (.cells e.z.cells e.t (0,0))
 nob:Nob O e.blk
 new:κ0.w.heap.size<=e.blk
theorem FZ.mono{κ0 O E:KS}{a a':Act}{e:Em}(h:FZ c ops κ0 O a e)(x:Ext O E)(ha:a'.tmps[e.d]? = a.tmps[e.d]?):FZ c ops κ0 E a' e:=by
 obtain⟨h1,M⟩:=h.nob.ext x
 exact⟨h.op,h.zero,h.z,ha.trans h.val,M.trans h.heap,h1,h.new⟩
def dT(es:List Em)(f:F):F:=λs=>if es.any (λe=>zU e.d s)then none else f s
theorem U9{es:List Em}{f:F}{s:Nat}(h:∀ e∈es,e.d≠s):dT es f s=f s:=by
 unfold dT
 rw[if_neg]
 intro hh
 obtain⟨e,he,I⟩:=zO.1 hh
 exact h e he (Y I)
theorem Bc{es:List Em}{f:F}{s:Nat}{d:D}(h:dT es f s=some d):f s=some d/\∀ e∈es,e.d≠s:=by
 unfold dT at h
 split at h
 ·cases h
 ·rename_i hh
  refine⟨h,λe he hs=>hh (zO.2 ⟨e,he,?_⟩)⟩
  subst hs; simp
def rh(ops:Array Oper)(i:Nat):Prop:=∃ o,ops[i]? = some o/\Ke o=true
theorem RU{o:Oper}(h:Ke o=true):∃ t d,o.op=.alloc t/\o.guard=none/\o.dst=some d:=by
 unfold Ke at h
 simp only[zF]at h
 obtain⟨⟨h1,M⟩,h3⟩:=h
 split at h1
 ·rename_i t ht
  obtain⟨d,J⟩:=Option.isSome_iff_exists.1 h3
  exact⟨t,d,ht,Option.isNone_iff_eq_none.1 M,J⟩
 ·cases h1
theorem CA{o:Oper}{t d:Nat}(h1:o.op=.alloc t)(M:o.guard=none)(h3:o.dst=some d):Ke o=true:=by
 unfold Ke; rw[h1,M,h3]; rfl
theorem Fh{kd:Nat->Nat}:∀ {l:List Nat} {s sf:F×St} {i:Nat},Qe c n ops kd l s sf->i∈l->∃ s1 s2,eV c n ops i s1 s2 (kd i)
 | [],_,_,_,_,h=>by cases h
 | j::l,s,sf,i,⟨s1,h1,M⟩,h=>by
  rcases qA.1 h with rfl | h
  ·grind
  ·exact Fh M h
theorem KT{kd:Nat->Nat}{i t d:Nat}{o:Oper}(ho:ops[i]? = some o)(h1:o.op=.alloc t)(M:o.guard=none)(h3:o.dst=some d){s s':F×St}(h:eV c n ops i s s' (kd i)) :
  ∃ D,K6 c t=some D/\d<n/\s'=(dN s.1 (some d) (some (.ptr s.2.length 0)),s.2++[.var D]):=by
 obtain⟨o',ho',J,h⟩:=h
 rw[ho]at ho'
 cases ho'
 rw[h3]at J
 have wL:d<n:=X J
 have hw:jC ops s.1 o=some true:=by unfold jC; rw[M]
 rcases h with⟨_,_,D,ql,R,rfl⟩ | ⟨hw',_,_⟩
 ·have he:wP c (wz s.1) o=om c t:=by
   obtain⟨dst,op,ty,pos,after,guard⟩:=o
   cases h1
   rfl
  rw[he]at R
  unfold om at R
  split at R
  ·rename_i y hy
   simp only[qt,T.leads]at R
   grind
  ·exact absurd R zg
 ·grind
theorem Lo{es:List Em}{i k:Nat}{s s':F×St}(h:eV c n ops i s s' k)(J:∀ o,ops[i]? = some o->∀ e∈es,e.d ∉ tmpsOf ops o) :
  eV c n ops i (dT es s.1,s.2) (dT es s'.1,s'.2) k:=by
 obtain⟨o,ho,z5K,h⟩:=h
 have T7:=J o ho
 have zga:∀ x:Option D,dN (dT es s.1) o.dst x=dT es (dN s.1 o.dst x):=by
  intro x
  cases hds:o.dst with
  | none=>rfl
  | some t =>
   funext u
   simp only[dN,dT]
   by_cases hu:u=t
   ·subst hu
    rw[if_pos rfl]
    rw[if_neg,if_pos rfl]
    intro hh
    obtain⟨e,he,I⟩:=zO.1 hh
    exact T7 e he (by rw[Y I]; exact dK hds)
   ·grind
 have lj:∀ x∈o.op.operands,wz (dT es s.1) x=wz s.1 x:=by
  intro x N
  cases x with
  | tmp t=>exact U9 λe he ht=>T7 e he (ht▸Xd N)
  | _=>rfl
 have hw:jC ops (dT es s.1) o=jC ops s.1 o:=by
  unfold jC
  cases hg:o.guard with
  | none=>rfl
  | some jw =>
   obtain⟨j,w⟩:=jw
   simp only
   cases hs:br ops j with
   | none=>rfl
   | some t =>
    simp only
    rw[U9 λe he ht=>T7 e he (ht▸Xc hg hs)]
 refine⟨o,ho,z5K,?_⟩
 rcases h with⟨h1,M,d,ql,h3,rfl⟩ | ⟨h1,M,rfl⟩
 ·refine .inl ⟨hw.trans h1,?_,d,ql,?_,?_⟩
  ·rw[show wP c (wz (dT es s.1)) o=wP c (wz s.1) o from WU o lj]; exact M
  ·rw[show wP c (wz (dT es s.1)) o=wP c (wz s.1) o from WU o lj]; exact h3
  ·rw[zga]
 ·grind
theorem Sz{O:KS}{a:Act}{i k:Nat}{s s':F×St}(hC:∀ g,Dj c.P g (c.fn g))(B:Inv O)(hR:Rel O n s.1 a)(vU:O.st=s.2)(h:eV c n ops i s s' k){K:Act->World->Prop}{Q:Exit->Act->World->Prop}
  (hK:∀ (a':Act) (E:KS),E.st=s'.2->Inv E->Ext O E->Rel E n s'.1 a'->pz ops a a'->(∀ u:Nat,(∀ o,ops[i]? = some o->o.dst≠some u)->a'.tmps[u]? = a.tmps[u]?)->K a' E.w):wpOp c.P ops Q i K a O.w:=by
 obtain⟨o,ho,J,h⟩:=h
 have hu:∀ (v:Value) (u:Nat),(∀ o,ops[i]? = some o->o.dst≠some u)->(a.put o.dst v).tmps[u]? = a.tmps[u]? := by
  intro v u hn
  have:=hn o ho
  cases hds:o.dst with
  | none=>rfl
  | some t =>
   rw[hds]at this
   have jX:t≠u:=λe=>this (by rw[e])
   simp[qW,zH jX]
 unfold wpOp
 rw[ho]
 simp only
 rcases h with⟨hw,_,d,ql,R,rfl⟩ | ⟨hw,_,rfl⟩
 ·rw[if_pos (Zb hR hw)]
  refine .inl (Fc hC B hR (vU▸R) λv E h1 M h3 h4=>hK _ E h1 M h3 ((hR.mono h3).put J h4) (X4 ho) (hu v))
 ·rw[if_neg (by rw[Zb hR hw]; exact Bool.false_ne_true)]
  exact hK _ O vU B (Ext.refl O) (hR.put J λd' dY=>by cases dY; exact z2K (v:=undef)) (X4 ho) (hu undef)
def kd3(kd:Nat->Nat)(o:Oper)(i:Nat):Nat:=bif Ke o then 3 else kd i
def z4T(ops:Array Oper)(kd:Nat->Nat)(p i:Nat):Prop:=∀ x y,ops[p]? = some x->ops[i]? = some y ->
 (∀ d,x.dst=some d->d ∉ tmpsOf ops y)/\(∀ d,y.dst=some d->d ∉ tmpsOf ops x)/\QJ (kd3 kd x p) (kd3 kd y i)=false
theorem TE{k l:Nat}(hk:k<=2)(R:l<=2)(h:QJ k l=false):bJ k l=false:=by
 have h1:zU k 3=false:=ZV (Z)
 have M:zU l 3=false:=ZV (Z)
 simpa[QJ,h1,M]using h
theorem z57{k l:Nat}(R:l<=2)(h:QJ 3 l=false):bJ k l=false:=by
 have M:zU l 3=false:=ZV (Z)
 have h3:bJ 2 l=false:=by simpa[QJ,M]using h
 have h0:l=0:=by
  match l,R,h3 with
  | 0,_,_=>rfl
  | 1,_,h3=>cases h3
  | 2,_,h3=>cases h3
 subst h0
 simp[bJ]
theorem z5a{k l:Nat}(hk:k<=2)(h:QJ k 3=false):bJ k l=false:=by
 have M:zU k 3=false:=ZV (Z)
 have h3:bJ k 2=false:=by simpa[QJ,M]using h
 have h0:k=0:=by
  match k,hk,h3 with
  | 0,_,_=>rfl
  | 1,_,h3=>cases h3
  | 2,_,h3=>cases h3
 subst h0
 simp[bJ]
theorem Ct{kd:Nat->Nat}{p i:Nat}(h:z4T ops kd p i)(hp:kd p<=2)(hi:kd i<=2)(hn:¬ (rh ops p/\rh ops i)):Ind ops kd p i:=by
 intro x y N hy
 obtain⟨h1,M,h3⟩:=h x y N hy
 refine⟨h1,M,?_⟩
 unfold kd3 at h3
 cases hax:Ke x with
 | true =>
  cases hay:Ke y with
  | true=>exact(hn ⟨⟨x,N,hax⟩,y,hy,hay⟩).elim
  | false=>rw[hax,hay]at h3; exact z57 hi h3
 | false =>
  cases hay:Ke y with
  | true=>rw[hax,hay]at h3; exact z5a hp h3
  | false=>rw[hax,hay]at h3; exact TE hp hi h3
theorem least{es:List Em}(h:es≠[]):∃ e∈es,∀ f∈es,e.i<=f.i:=by
 induction es with
 | nil=>grind
 | cons e r ih =>
  by_cases hr:r=[]
  ·subst hr; exact⟨e,zK,λf hf=>xy⟩
  ·grind
def Dis(e f:Em):Prop:=e.i≠f.i/\e.blk≠f.blk/\e.d≠f.d
theorem Dis.symm{e f:Em}(h:Dis e f):Dis f e:=⟨h.1.symm,h.2.1.symm,h.2.2.symm⟩
theorem flush{kd:Nat->Nat}{κ0:KS}(dS:∀ p i,p<i->i<ops.size->ordered (vT ops.toList []) p i=true\/z4T ops kd p i)(mW:∀ i,i<ops.size->kd i<=2)
  {listed:Array Bool} (Ku:WI ops listed) (ZI:∀ q,q<ops.size->rh ops q->listed.getD q true=true) {a:Act} {sf:F×St} :
  ∀ (m:Nat) (es:List Em) (wX:Array Bool) (O:KS) (s:F×St),es.length=m->wX.size=ops.size->(∀ j,j<ops.size->wX.getD j true=true->listed.getD j true=true) ->
  (∀ j,j<ops.size->listed.getD j true=true->wX.getD j true=false->∃ e∈es,e.i=j)->(∀ e∈es,e.i<ops.size/\listed.getD e.i true=true/\wX.getD e.i true=false)->es.Pairwise Dis ->
  Inv O->Rel O n (dT es s.1) a->O.st=s.2->Ext κ0 O->(∀ e∈es,FZ c ops κ0 O a e)->Qe c n ops kd (rest ops wX) s sf ->
  ∃ (E:KS) (s':F×St),E.w=O.w/\E.st=s'.2/\Inv E/\Ext κ0 E/\Rel E n s'.1 a/\Qe c n ops kd (rest ops listed) s' sf:=by
 intro m
 induction m with
 | zero =>
  intro es wX O s R _ h1 M _ _ B hR vU N _ jJ
  obtain rfl:es=[]:=zW R
  refine⟨O,s,rfl,vU,B,N,hR,?_⟩
  have:rest ops wX=rest ops listed:=by
   unfold rest
   refine List.filter_congr λi hi => ?_
   grind
  grind
 | succ m ih =>
  intro es wX O s R bH h1 M h3 IN B hR vU N hem jJ
  obtain⟨e,he,zbC⟩:=least (es:=es) (λh=>by rw[h]at R; cases R)
  obtain⟨l1,l2,rfl⟩:=List.append_of_mem he
  obtain⟨hei,hel,hea⟩:=h3 e he
  have H0:∀ f,f∈l1++l2->f∈l1++e::l2:=λf hf=>by
   grind
  have z9D:∀ f,f∈l1++e::l2->f=e\/f∈l1++l2:=λf hf=>by
   rcases xA.1 hf with hf | hf
   ·exact .inr (List.mem_append_left _ hf)
   ·rcases qA.1 hf with rfl | hf
    ·exact .inl rfl
    ·exact .inr (List.mem_append_right _ hf)
  have hde:∀ f∈l1++l2,Dis e f:=by
   intro f hf
   rw[List.pairwise_append]at IN
   obtain⟨_,d2,d3⟩:=IN
   rcases xA.1 hf with hf | hf
   ·exact(d3 f hf e zK).symm
   ·exact(qE.1 d2).1 f hf
  have MJ:(l1++l2).Pairwise Dis:=IN.sublist (List.Sublist.append_left (List.sublist_cons_self e l2) l1)
  obtain⟨pre,post,g1,g2,g3⟩:=ij (p:=λi => !wX.getD i true) (q:=λj => !(wX.setIfInBounds e.i true).getD j true) (i:=e.i) (qF ops.size) zN
   (V.2 hei) (by simp[hea]) (λj=>by
    rw[cj (Z)]
    by_cases h:j=e.i
    ·subst h; simp
    ·simp[h])
  have z0P:∀ p∈pre,Ind ops kd p e.i:=by
   intro p hp
   obtain⟨q1,q2,q3⟩:=g3 p hp
   have q2:=V.1 q2
   have hpa:wX.getD p true=false:=by simpa using q1
   have Yk:listed.getD p true=false:=by
    cases I:listed.getD p true with
    | false=>rfl
    | true =>
     obtain⟨f,hf,Ew⟩:=M p q2 I hpa
     have:=zbC f hf
     omega
   have hna:¬ rh ops p:=λh=>by rw[ZI p q2 h]at Yk; cases Yk
   rcases dS p e.i q3 hei with h | h
   ·have:=Ku e.i hei hel p h q2
    rw[this]at Yk; cases Yk
   ·exact Ct h (mW p q2) (mW e.i hei) λhh=>hna hh.1
  have ED:Qe c n ops kd (pre++e.i::post) s sf:=by
   have:rest ops wX=pre++e.i::post:=g1
   rw[<- this]; exact jJ
  obtain⟨s1,k1,k2⟩:=Gq z0P ED
  have hE:=hem e he
  obtain⟨o,o1,o2,o3,o4⟩:=hE.op
  obtain⟨D,d1,d2,rfl⟩:=KT o1 o2 o3 o4 k1
  obtain rfl:D=e.D:=Option.some.inj (d1.symm.trans hE.zero)
  obtain⟨iz,z1,z2,z3⟩:=hE.z
  obtain⟨p1,p2,p3⟩:=z8y B N hE.nob hE.new (z3.rd O) z3.eA z3.ty hE.heap
  have hup:=Pb B e.blk e.z.cells.size e.D
  refine ih (l1++l2) (wX.setIfInBounds e.i true) (O.push e.blk e.z.cells.size e.D) (dN s.1 (some e.d) (some (.ptr s.2.length 0)),s.2++[.var e.D]) (by simp at R ⊢; omega) (by simp[bH]) (λj hj ha => ?_) (λj hj I ha => ?_) (λf hf => ?_) MJ p1 ?_ (by show O.st++_=s.2++_; rw[vU]) p2 (λf hf => ?_) ?_
  ·rw[cj (Z)]at ha
   split at ha
   ·rename_i h; subst h; exact hel
   ·exact h1 j hj ha
  ·rw[cj (Z)]at ha
   split at ha
   ·cases ha
   ·rename_i jX
    obtain⟨f,hf,Ew⟩:=M j hj I ha
    rcases z9D f hf with rfl | hf
    ·exact absurd Ew.symm jX
    ·exact⟨f,hf,Ew⟩
  ·obtain⟨f1,f2,f3⟩:=h3 f (H0 f hf)
   refine⟨f1,f2,?_⟩
   rw[cj (Z),if_neg (hde f hf).1.symm]
   exact f3
  ·refine⟨hR.size,hR.defers,λu d0 hu => ?_⟩
   obtain⟨u1,u2⟩:=Bc hu
   simp only[dN]at u1
   by_cases hue:u=e.d
   ·subst hue
    rw[if_pos rfl]at u1
    cases u1
    rw[<- vU]
    exact⟨_,hE.val,p3⟩
   ·rw[if_neg hue]at u1
    have:dT (l1++e::l2) s.1 u=some d0:=by
     rw[U9 λf hf hfu => ?_]
     ·exact u1
     ·rcases z9D f hf with rfl | hf
      ·exact hue hfu.symm
      ·exact u2 f hf hfu
    obtain⟨v,v1,v2⟩:=hR.get u d0 this
    exact⟨v,v1,v2.up hup⟩
  ·have hF:=hem f (H0 f hf)
   refine⟨hF.op,hF.zero,hF.z,hF.val,hF.heap,⟨hF.nob.lt,hF.nob.ok,λb m I => ?_⟩,hF.new⟩
   rcases W5 I with I | ⟨_,I⟩
   ·exact hF.nob.ph b m I
   ·exact(hde f hf).2.1 (congrArg Prod.fst (Option.some.inj I)).symm
  ·have:rest ops (wX.setIfInBounds e.i true)=pre++post:=g2
   rw[this]; exact k2
theorem z2O{listed:Array Bool}{i:Nat}(bH:listed.size=ops.size)(h1:i<ops.size)(M:listed.getD i true=false):(rest ops listed).length=(rest ops (listed.setIfInBounds i true)).length+1:=by
 obtain⟨pre,post,g1,g2,_⟩:=ij (p:=λi => !listed.getD i true) (q:=λj => !(listed.setIfInBounds i true).getD j true) (i:=i) (qF ops.size) zN
  (V.2 h1) (xy) (λj=>by
   rw[cj (Z)]
   by_cases h:j=i
   ·grind
   ·simp[h])
 have e1:rest ops listed=pre++i::post:=g1
 have e2:rest ops (listed.setIfInBounds i true)=pre++post:=g2
 grind
theorem Iv{listed:Array Bool}{i:Nat}(IQ:fT ops.toList 0=true)(bH:listed.size=ops.size)(Ku:WI ops listed)(h1:i<ops.size)
  (h3:∀ o,ops[i]? = some o->∀ e∈o.after.toList,zZ .any e=true->listed.getD e.on false=true) :
  (∀ p,ordered (vT ops.toList []) p i=true->p<ops.size->listed.getD p true=true)/\WI ops (listed.setIfInBounds i true):=by
 have z0E:∀ p,ordered (vT ops.toList []) p i=true->p<ops.size->listed.getD p true=true:=by
  intro p hp wL
  obtain⟨r,_,_,I⟩:=Zj ops.toList []
  obtain⟨e,k1,k2,k3⟩:=I i ops[i] (qz) p (by simpa[ordered]using hp)
  have GZ:=Zv ops.toList 0 IQ i ops[i] (qz) e k1 k2
  have GX:listed.getD e.on true=true:=by
   grind
  rcases k3 with rfl | ⟨_,k3⟩
  ·exact GX
  ·exact Ku e.on (Z) GX p k3 wL
 refine⟨z0E,λq hq RJ p hp wL => ?_⟩
 rw[cj (Z)]at RJ ⊢
 split
 ·rfl
 ·split at RJ
  ·grind
  ·exact Ku q hq RJ p hp wL
theorem CX{O:KS}{a:Act}{es:List Em}{f:F}{e:Em}{v:Value}(hR:Rel O n (dT es f) a):Rel O n (dT (e::es) f) (a.put (some e.d) v):=by
 refine⟨by simp[qW,hR.size],hR.defers,λu d hu => ?_⟩
 obtain⟨u1,u2⟩:=Bc hu
 have jX:e.d≠u:=u2 e zK
 have:dT es f u=some d:=by rw[U9 λg hg=>u2 g (zS _ hg)]; exact u1
 obtain⟨w,w1,w2⟩:=hR.get u d this
 exact⟨w,by simp[qW,zH jX]; exact w1,w2⟩
theorem Vf{kd:Nat->Nat}{Q:Exit->Act->World->Prop}(hC:∀ g,Dj c.P g (c.fn g))(IQ:fT ops.toList 0=true)
  (dS:∀ p i,p<i->i<ops.size->ordered (vT ops.toList []) p i=true\/z4T ops kd p i) (mW:∀ i,i<ops.size->kd i<=2)
  (ZI:∀ p j,p<ops.size->rh ops p->j<ops.size->ordered (vT ops.toList []) p j=true->∀ q,q<ops.size->rh ops q->ordered (vT ops.toList []) q j=true)
  {κ0:KS} {a0:Act} {sf:F×St}:∀ (fuel:Nat) (listed wX:Array Bool) (es:List Em) {O:KS} {a:Act} {s:F×St},
  listed.size=ops.size->wX.size=ops.size->fuel=(rest ops listed).length->WI ops listed->(∀ j,j<ops.size->wX.getD j true=true->listed.getD j true=true) ->
  (∀ j,j<ops.size->listed.getD j true=true->wX.getD j true=false->∃ e∈es,e.i=j)->(∀ e∈es,e.i<ops.size/\listed.getD e.i true=true/\wX.getD e.i true=false)->es.Pairwise Dis ->
  (∃ q,q<ops.size/\rh ops q/\listed.getD q true=false)->Inv O->Rel O n (dT es s.1) a->O.st=s.2->Ext κ0 O->(∀ e∈es,FZ c ops κ0 O a e)->Qe c n ops kd (rest ops wX) s sf->pz ops a0 a ->
  (∀ (a':Act) (E:KS),E.st=sf.2->Inv E->Ext κ0 E->Rel E n sf.1 a'->pz ops a0 a'->Q .normal a' E.w)->wpAny c.P .any ops Q fuel listed a O.w
 | 0,listed,wX,es,O,a,s,bH,hszA,hfuel,Ku,h1,M,h3,IN,⟨q,q1,q2,q3⟩,B,hR,vU,N,hem,jJ,hkp,hQ=>by
  have hre:rest ops listed=[]:=zW hfuel.symm
  have:q∈rest ops listed:=by simp only[rest,zX,V,zL]; exact⟨q1,q3⟩
  grind
 | fuel+1,listed,wX,es,O,a,s,bH,hszA,hfuel,Ku,h1,M,h3,IN,⟨q,q1,q2,q3⟩,B,hR,vU,N,hem,jJ,hkp,hQ=>by
  refine⟨λh => ?_,λi hi => ?_⟩
  ·have hre:=Ga IQ bH h
   grind
  rw[Q3]at hi
  obtain⟨i1,i2,i3⟩:=hi
  obtain⟨z0E,RG⟩:=Iv IQ bH Ku i1 i3
  have IS:fuel=(rest ops (listed.setIfInBounds i true)).length:=by have:=z2O bH i1 i2; omega
  have hia:wX.getD i true=false:=by
   grind
  have z0T:∀ p,p<ops.size->rh ops p->ordered (vT ops.toList []) p i=true->False:=by
   grind
  have nQ:∀ j,(listed.setIfInBounds i true).getD j true=if j=i then true else listed.getD j true:=λj=>cj (Z)
  by_cases Ka:rh ops i
  ·-- a new variable is laid
   obtain⟨o,ho,hao⟩:=Ka
   obtain⟨t,d,o1,o2,o3⟩:=RU hao
   have him:i∈rest ops wX:=by simp only[rest,zX,V,zL]; exact⟨i1,hia⟩
   obtain⟨t1,t2,hos⟩:=Fh jJ him
   obtain⟨D,d1,d2,_⟩:=KT ho o1 o2 o3 hos
   obtain⟨iz,z,z1,z2,z3⟩:=si d1
   obtain⟨w1,w2,w3,w4⟩:=z5t B (.cells z.cells t)
   let e:Em:=⟨i,d,O.w.heap.size,t,z,D⟩
   have zgd:(execOp a.eval o).run c.P O.w=.ok (.value (.pointer (some ⟨O.w.heap.size,0,none⟩))) (O.w.alloc (.cells z.cells t)):=by
    obtain⟨dst,op,ty,pos,after,guard⟩:=o
    cases o1
    simp[execOp,Instr.alloc,zeroValue,typeInfo,z1,z2,newVar,newRow]
   have zgo:qU o (yielded ops a.tmps)=true:=by unfold qU; rw[o2]
   unfold wpOp
   rw[ho]
   simp only
   rw[if_pos zgo]
   refine .inl ?_
   unfold Oper.wp
   rw[zgd]
   show wpAny c.P Region.Mode.any ops Q fuel (listed.setIfInBounds i true) (a.put o.dst (Value.pointer (some { block:=O.w.heap.size,off:=0 }))) (O.w.alloc (Obj.cells z.cells t))
   rw[o3]
   have jX:∀ f∈es,f.d≠d:=by
    intro f hf hfd
    obtain⟨f1,f2,f3⟩:=h3 f hf
    obtain⟨fo,fo1,fo2,fo3,fo4⟩:=(hem f hf).op
    have Ew:f.i≠i:=λh=>by rw[h,i2]at f2; cases f2
    rcases Nat.lt_or_gt_of_ne Ew with wL | wL
    ·rcases dS f.i i wL i1 with h | h
     ·exact z0T f.i f1 ⟨fo,fo1,CA fo2 fo3 fo4⟩ h
     ·exact(h fo o fo1 ho).1 f.d fo4 (hfd▸dK o3)
    ·rcases dS i f.i wL f1 with h | h
     ·have:=Ku f.i f1 f2 i h i1; rw[i2]at this; cases this
     ·exact(h o fo ho fo1).1 d o3 (hfd▸dK fo4)
   have zn1:FZ c ops κ0 { O with w:=O.w.alloc (.cells z.cells t) } (a.put (some d) (.pointer (some ⟨O.w.heap.size,0,none⟩))) e :=
    ⟨⟨o,ho,o1,o2,o3⟩,d1,⟨iz,z1,z2,z3⟩,by simp[e,qW,hR.size,d2],w4,w3,N.size⟩
   have zfG:∀ f∈e::es,FZ c ops κ0 { O with w:=O.w.alloc (.cells z.cells t) } (a.put (some d) (.pointer (some ⟨O.w.heap.size,0,none⟩))) f:=by
    intro f hf
    rcases qA.1 hf with rfl | hf
    ·exact zn1
    ·exact(hem f hf).mono w2 (by simp[qW,zH (λe'=>jX f hf e'.symm)])
   have hR':Rel { O with w:=O.w.alloc (.cells z.cells t) } n (dT (e::es) s.1) (a.put (some d) (.pointer (some ⟨O.w.heap.size,0,none⟩))):=CX (e:=e) (hR.mono w2)
   have hdE:∀ f∈es,Dis e f:=by
    intro f hf
    unfold Dis
    refine⟨λh => ?_,λh => ?_,λh=>jX f hf h.symm⟩
    ·have hf2:=(h3 f hf).2.1
     rw[<- h]at hf2
     have i2':listed.getD e.i true=false:=i2
     rw[i2']at hf2
     cases hf2
    ·have R:=(hem f hf).nob.lt
     rw[<- h]at R
     exact Nat.lt_irrefl _ R
   have MJ:(e::es).Pairwise Dis:=qE.2 ⟨hdE,IN⟩
   have zfQ:pz ops a0 (a.put (some d) (.pointer (some ⟨O.w.heap.size,0,none⟩))):=hkp.trans (by have:=X4 (a:=a) (v:=.pointer (some ⟨O.w.heap.size,0,none⟩)) ho; rw[o3]at this; exact this)
   have GG:∀ j,j<ops.size->wX.getD j true=true->(listed.setIfInBounds i true).getD j true=true:=λj hj ha=>by
    rw[nQ]; split
    ·rfl
    ·exact h1 j hj ha
   have h2':∀ j,j<ops.size->(listed.setIfInBounds i true).getD j true=true->wX.getD j true=false->∃ f∈e::es,f.i=j:=λj hj I ha=>by
    rw[nQ]at I
    split at I
    ·rename_i h; exact⟨e,zK,h.symm⟩
    ·obtain⟨f,hf,Ew⟩:=M j hj I ha; exact⟨f,zS _ hf,Ew⟩
   have h3':∀ f∈e::es,f.i<ops.size/\(listed.setIfInBounds i true).getD f.i true=true/\wX.getD f.i true=false:=λf hf=>by
    rcases qA.1 hf with rfl | hf
    ·exact⟨i1,by rw[nQ]; exact if_pos rfl,hia⟩
    ·obtain⟨f1,f2,f3⟩:=h3 f hf
     exact⟨f1,by rw[nQ]; split<;>first | rfl | exact f2,f3⟩
   by_cases hmore:∃ q,q<ops.size/\rh ops q/\(listed.setIfInBounds i true).getD q true=false
   ·exact Vf hC IQ dS mW ZI fuel (listed.setIfInBounds i true) wX (e::es) (O:={ O with w:=O.w.alloc (.cells z.cells t) }) (by simp[bH]) hszA IS RG GG h2' h3' MJ hmore w1 hR' vU (N.trans w2) zfG jJ zfQ hQ
   ·-- all are laid
    have z9o:∀ q,q<ops.size->rh ops q->(listed.setIfInBounds i true).getD q true=true:=λq q1 q2=>by
     cases I:(listed.setIfInBounds i true).getD q true with
     | true=>rfl
     | false=>exact(hmore ⟨q,q1,q2,I⟩).elim
    obtain⟨E,s',f1,f2,f3,f4,f5,f6⟩:=flush (c:=c) (n:=n) dS mW RG z9o (e::es).length (e::es) wX { O with w:=O.w.alloc (.cells z.cells t) } s rfl hszA GG h2' h3' MJ w1 hR' vU (N.trans w2) zfG jJ
    have hgo:=YZ (O:=E) hC IQ fuel (listed.setIfInBounds i true) (Q:=Q) (λp j hpj hj hp=>(dS p j hpj hj).elim .inl λh=>.inr (Ct h (mW p (Z)) (mW j hj) λhh=>by
     rw[z9o p (Z) hh.1]at hp; cases hp)) (by simp[bH]) IS RG f3 f5 f2 f6 λa' SX e1 e2 e3 e4 e5=>hQ a' SX e1 e2 (f4.trans e3) e4 (zfQ.trans e5)
    rw[f1]at hgo
    exact hgo
  ·-- another operation
   have z9C:∀ o,ops[i]? = some o->∀ e∈es,e.d ∉ tmpsOf ops o:=by
    intro o ho f hf
    obtain⟨f1,f2,f3⟩:=h3 f hf
    obtain⟨fo,fo1,fo2,fo3,fo4⟩:=(hem f hf).op
    have Ew:f.i≠i:=λh=>by rw[h,i2]at f2; cases f2
    rcases Nat.lt_or_gt_of_ne Ew with wL | wL
    ·rcases dS f.i i wL i1 with h | h
     ·exact(z0T f.i f1 ⟨fo,fo1,CA fo2 fo3 fo4⟩ h).elim
     ·exact(h fo o fo1 ho).1 f.d fo4
    ·rcases dS i f.i wL f1 with h | h
     ·have:=Ku f.i f1 f2 i h i1; rw[i2]at this; cases this
     ·exact(h o fo ho fo1).2.1 f.d fo4
   obtain⟨pre,post,g1,g2,g3⟩:=ij (p:=λi => !wX.getD i true) (q:=λj => !(wX.setIfInBounds i true).getD j true) (i:=i) (qF ops.size) zN
    (V.2 i1) (by simp[hia]) (λj=>by
     rw[cj (Z)]
     by_cases h:j=i
     ·subst h; simp
     ·simp[h])
   have z0P:∀ p∈pre,Ind ops kd p i:=by
    intro p hp
    obtain⟨r1,r2,r3⟩:=g3 p hp
    have r2:=V.1 r2
    have r1:wX.getD p true=false:=by simpa using r1
    rcases dS p i r3 i1 with h | h
    ·obtain⟨f,hf,Ew⟩:=M p r2 (z0E p h r2) r1
     obtain⟨fo,fo1,fo2,fo3,fo4⟩:=(hem f hf).op
     exact(z0T p r2 ⟨fo,by rw[<- Ew]; exact fo1,CA fo2 fo3 fo4⟩ h).elim
    ·exact Ct h (mW p r2) (mW i i1) λhh=>Ka hh.2
   have ED:Qe c n ops kd (pre++i::post) s sf:=by
    have:rest ops wX=pre++i::post:=g1
    rw[<- this]; exact jJ
   obtain⟨s1,k1,k2⟩:=Gq z0P ED
   refine Sz (s:=(dT es s.1,s.2)) (s':=(dT es s1.1,s1.2)) hC B hR vU (Lo k1 z9C) λa1 κ1 e1 e2 e3 e4 e5 e6 => ?_
   have z0Y:∀ j,(wX.setIfInBounds i true).getD j true=if j=i then true else wX.getD j true:=λj=>cj (Z)
   refine Vf hC IQ dS mW ZI fuel (listed.setIfInBounds i true) (wX.setIfInBounds i true) es (O:=κ1) (s:=s1) (by simp[bH]) (by simp[hszA]) IS RG (λj hj ha => ?_) (λj hj I ha => ?_) (λf hf => ?_) IN
    ⟨q,q1,q2,?_⟩ e2 e4 e1 (N.trans e3) (λf hf=>(hem f hf).mono e3 (e6 f.d λo ho hod=>z9C o ho f hf (dK hod))) ?_ (hkp.trans e5) hQ
   ·rw[z0Y]at ha; rw[nQ]
    split
    ·rfl
    ·rename_i h; rw[if_neg h]at ha; exact h1 j hj ha
   ·rw[z0Y]at ha; rw[nQ]at I
    split at ha
    ·cases ha
    ·rename_i h; rw[if_neg h]at I; exact M j hj I ha
   ·obtain⟨f1,f2,f3⟩:=h3 f hf
    have Ew:f.i≠i:=λh=>by rw[h,i2]at f2; cases f2
    exact⟨f1,by rw[nQ,if_neg Ew]; exact f2,by rw[z0Y,if_neg Ew]; exact f3⟩
   ·have hqi:q≠i:=λh=>Ka (by rw[<- h]; exact q2)
    rw[nQ,if_neg hqi]; exact q3
   ·have:rest ops (wX.setIfInBounds i true)=pre++post:=g2
    rw[this]; exact k2
theorem WX{kd:Nat->Nat}:∀ {l:List Oper} {ks:List Nat} {i j:Nat} {o:Oper},l[i]? = some o->ks[i]? = some (kd j)->(Yy l ks)[i]? = some (kd3 kd o j)
 | [],_,i,_,_,h,_=>by simp at h
 | _::_,[],i,_,_,_,h=>by simp at h
 | x::l,k::ks,0,j,o,h1,M=>by simp at h1 M; subst h1; subst M; rfl
 | x::l,k::ks,i+1,j,o,h1,M=>by
  have:=WX (kd:=kd) (l:=l) (ks:=ks) (i:=i) (j:=j) (o:=o) (xy) (xy)
  simpa[Yy]using this
theorem Hp:∀ {l:List Oper} {k i:Nat} {o:Oper},l[i]? = some o->Ke o=true->k+i∈KR l k
 | [],_,_,_,h,_=>by simp at h
 | x::l,k,0,o,h1,M=>by simp at h1; subst h1; simp[KR,M]
 | x::l,k,i+1,o,h1,M=>by
  have:=Hp (l:=l) (k:=k+1) (i:=i) (o:=o) (xy) M
  simp only[KR]
  grind
theorem JV{kd:Nat->RK}:∀ (l:List Nat) (s s':F×St) (ks:List RK),Mh c n ops l s s' ks->ks=l.map kd->KO (λi s s'=>nA c n ops i s s' (kd i)) l s s'
 | [],s,s',ks,h,_=>h.1
 | i::l,s,s',ks,⟨s1,k,L5,e,h1,M⟩,hk=>by
  subst e
  simp at hk
  obtain⟨rfl,hk⟩:=hk
  exact⟨s1,h1,JV l s1 s' L5 M hk⟩
theorem SI{O:KS}{a:Act}{id:Nat}{draw:Bool}{fr:Fr}{kn:Kn}{s':oh}(hm:c.P.follows .mixedOrders=true)(hC:∀ g,Dj c.P g (c.fn g))(B:Inv O)(hR:Rel O n fr.get a)(hk:yy kn fr.get)
  (h:(pq c n ops draw fr kn O.st).leads s') {Q:Exit->Act->World->Prop} (hQ:∀ (a':Act) (E:KS),E.st=s'.st->Inv E->Ext O E->Rel E n s'.fr.get a'->pz ops a a'->Q .normal a' E.w) :
  (Code.region id ops draw).wp c.P Q a O.w/\yy s'.kn s'.fr.get:=by
 simp only[pq,T.xg]at h
 obtain⟨s1,h1,M⟩:=h
 obtain⟨ks,g1,g2,g3⟩:=rO ops.toList 0 ⟨fr,kn,O.st,[],[]⟩ s1 (λj=>.inl (qz)) hk h1
 simp only[List.append_nil]at g3
 have R:ops.toList.length=ops.size:=qz
 rw[R,<- xC]at g1
 cases J:(!draw||WT ops s1.ks.reverse s1.bk.reverse)with
 | false=>rw[J]at M; exact M.elim
 | true =>
  rw[J,cond_true]at M
  cases M
  refine⟨?_,g2⟩
  cases draw with
  | false=>exact wp_region (P8 hC _ B hR rfl g1 hQ)
  | true =>
   simp only[Bool.not_true,Bool.false_or,WT,Bool.or_eq_true]at J
   obtain⟨rks,r1,r3⟩:=JW (ops:=ops) ops.toList 0 ⟨fr,kn,O.st,[],[]⟩ _ (λj=>.inl (qz)) hk h1
   simp only[List.append_nil]at r3
   rw[R,<- xC]at r1
   let kd:Nat->Nat:=λi=>ks.getD i 0
   have hkl:ks.length=ops.size:=by rw[Fg _ _ _ _ g1]; simp
   have hks:ks=(qF ops.size).map kd:=by
    apply List.ext_getElem?
    intro i
    grind
   have jJ:=G0 (kd:=kd) _ _ _ _ g1 hks
   refine wp_region_any hm ?_
   let κd:KS:={ O with w:=O.w.drew }
   have N:Ext O κd:=⟨rfl,rfl,rfl,qG _,λk hk=>⟨hk,rfl⟩,λk hk=>.inl hk,λ_ _ _ h=>.inl h,λb d h=>⟨⟨d,h⟩,rfl⟩,
    λb v0 e xs h=>.inr ⟨v0,xs,h,qG _,λ_=>⟨rfl,rfl⟩⟩,λ_ h=>h,qG _,λk _ _=>rfl⟩
   have hId:Inv κd:=⟨B.len,B.bI,B.apart,B.inj,λb y hy=>(B.blk b y hy).mono N rfl λ_ _ _=>rfl,B.gl.mono N.same⟩
   have X0:rest ops (qB ops.size false)=qF ops.size:=by
    unfold rest
    rw[List.filter_eq_self]
    intro i hi
    have:=V.1 hi
    simp[zY,this]
   have HK:∀ j,j<ops.size->(qB ops.size false).getD j true=false:=λj hj=>by simp[zY,hj]
   have z5C:WI ops (qB ops.size false):=λq hq RJ=>by rw[HK q hq]at RJ; cases RJ
   have EB:∀ i,i<ops.size->ks[i]? = some (kd i):=λi hi=>by simp[kd,xF,zT (show i<ks.length by omega)]
   have JG:∀ i (hi:i<ops.size),ops.toList[i]? = some ops[i]:=λi hi=>qz
   rcases J with(J | J) | J
   ·simp only[MA,zF]at J
    obtain⟨d1,d2⟩:=J
    rw[g3,qM]at d2
    have dS:∀ p i,p<i->i<ops.size->ordered (vT ops.toList []) p i=true\/Ind ops kd p i:=by
     intro p i Dq hi
     have hp:=ZZ ops.toList ks 0 [] d2 i ops[i] (kd i) (JG i hi) (EB i hi)
     have:=hp.2 p ops[p] (kd p) Dq (JG p (Z)) (EB p (Z))
     simp only[qO]at this
     refine rK this (λh=>h) λhap x y N hy => ?_
     rw[zP (Z)]at N hy
     cases N
     cases hy
     exact hap
    exact YZ (O:=κd) hC d1 ops.size _ (λp i h1 M _=>dS p i h1 M) (qz) (by rw[X0]; simp) z5C hId (hR.mono N) rfl (by rw[X0]; exact jJ) λa' E e1 e2 e3 e4 e5=>hQ a' E e1 e2 (N.trans e3) e4 e5
   ·simp only[MB,zF]at J
    obtain⟨⟨⟨d1,d0⟩,d2⟩,d3⟩:=J
    rw[g3,qM]at d0 d2
    have mW:∀ i,i<ops.size->kd i<=2:=λi hi=>X (zJ.1 d0 _ (xB (EB i hi)))
    have dS:∀ p i,p<i->i<ops.size->ordered (vT ops.toList []) p i=true\/z4T ops kd p i:=by
     intro p i Dq hi
     have hp:=ZZ ops.toList (Yy ops.toList ks) 0 [] d2 i ops[i] (kd3 kd ops[i] i) (JG i hi) (WX (JG i hi) (EB i hi))
     have:=hp.2 p ops[p] (kd3 kd ops[p] p) Dq (JG p (Z)) (WX (JG p (Z)) (EB p (Z)))
     simp only[qO]at this
     refine rK this (λh=>h) λhap x y N hy => ?_
     rw[zP (Z)]at N hy
     cases N
     cases hy
     exact hap
    have ZI:∀ p j,p<ops.size->rh ops p->j<ops.size->ordered (vT ops.toList []) p j=true->∀ q,q<ops.size->rh ops q->ordered (vT ops.toList []) q j=true:=by
     intro p j hp hap hj ho q hq haq
     unfold DE at d3
     have:=zJ.1 d3 j (V.2 (by simpa using hj))
     simp only[Bool.or_eq_true,zL,qQ,zJ]at this
     have hm:∀ r,rh ops r->r∈KR ops.toList 0:=λr ⟨o,h1,M⟩=>by
      have:=Hp (l:=ops.toList) (k:=0) (i:=r) (o:=o) (by rw[qI]; exact h1) M
      rwa [qO]at this
     rcases this with h | h
     ·have:=h p (hm p hap); rw[ho]at this; exact absurd rfl this
     ·exact h q (hm q haq)
    by_cases hex:∃ q,q<ops.size/\rh ops q
    ·obtain⟨q,q1,q2⟩:=hex
     exact Vf (κ0:=κd) (O:=κd) (a0:=a) hC d1 dS mW ZI ops.size _ (qB ops.size false) [] (qz) (qz) (by rw[X0]; simp) z5C (λj hj h=>by rw[HK j hj]at h; cases h)
      (λj hj h _=>by rw[HK j hj]at h; cases h) (λe he=>by cases he) .nil ⟨q,q1,q2,HK q q1⟩ hId (hR.mono N) rfl (Ext.refl _) (λe he=>by cases he) (by rw[X0]; exact jJ) (pz.refl _ _)
      λa' E e1 e2 e3 e4 e5=>hQ a' E e1 e2 (N.trans e3) e4 e5
    ·exact YZ (O:=κd) hC d1 ops.size _ (λp i h1 M _=>(dS p i h1 M).elim .inl λh=>.inr (Ct h (mW p (Z)) (mW i M) λhh=>hex ⟨p,Z,hh.1⟩)) (qz) (by rw[X0]; simp) z5C hId (hR.mono N) rfl (by rw[X0]; exact jJ) λa' E e1 e2 e3 e4 e5=>hQ a' E e1 e2 (N.trans e3) e4 e5
   ·simp only[MC,zF]at J
    obtain⟨d1,d2⟩:=J
    rw[r3,qM]at d2
    let kr:Nat->RK:=λi=>rks.getD i (.z 0)
    have hrl:rks.length=ops.size:=by rw[Bj _ _ _ _ r1]; simp
    have znq:rks=(qF ops.size).map kr:=by
     apply List.ext_getElem?
     intro i
     by_cases hi:i<ops.size
     ·simp[kr,hi,xF,zT (show i<rks.length by omega)]
     ·rw[qJ (Z),qJ (by simp; omega)]
    have z9G:∀ i,i<ops.size->rks[i]? = some (kr i):=λi hi=>by simp[kr,xF,zT (show i<rks.length by omega)]
    have zge:=JV (kd:=kr) _ _ _ _ r1 znq
    have dS:∀ p i,p<i->i<ops.size->ordered (vT ops.toList []) p i=true\/zaw ops kr p i:=by
     intro p i Dq hi
     have hp:=ZZ ops.toList rks 0 [] d2 i ops[i] (kr i) (JG i hi) (z9G i hi)
     have:=hp.2 p ops[p] (kr p) Dq (JG p (Z)) (z9G p (Z))
     simp only[qO]at this
     refine rK this (λh=>h) λhap x y N hy => ?_
     rw[zP (Z)]at N hy
     cases N
     cases hy
     exact hap
    exact Jk (O:=κd) (Stp:=λi s s'=>nA c n ops i s s' (kr i)) (In:=λp i=>zaw ops kr p i) (λi s s' h=>h.plain) (λp i hi s s1 s2 h1 M=>LM hi h1 M) hC d1 ops.size _ (λp i h1 M _=>dS p i h1 M) (qz) (by rw[X0]; simp) z5C hId (hR.mono N) rfl (by rw[X0]; exact zge) λa' E e1 e2 e3 e4 e5=>hQ a' E e1 e2 (N.trans e3) e4 e5
end
end Go.AM
namespace Go.AM
set_option linter.unusedSectionVars false
variable [yV] [Hl]
def Dy(O:KS):Ex->Exit->Prop
 | .normal,e=>e=.normal
 | .exit id,e=>e=.exit id
 | .ret,e=>e=.ret
 | .hH d,e=>∃ v,e=.panic [{ v,recovered:=false }]/\RD O d v
section
variable {c:Ctx} {n:Nat}
def vZ:Code->List (Nat×Code)
 | .seq a b=>vZ a++vZ b
 | .cond _ a b=>vZ a++vZ b
 | .block id (.loop b)=>[(id,b)]
 | .block _ a=>vZ a
 | _=>[]
theorem SH{ops:Array Oper}{draw:Bool}{fr:Fr}{kn:Kn}{st:St}{s':oh}(hk:yy kn fr.get)(h:(pq c n ops draw fr kn st).leads s'):yy s'.kn s'.fr.get:=by
 simp only[pq,T.xg]at h
 obtain⟨s1,h1,M⟩:=h
 obtain⟨ks,g1,g2,g3⟩:=rO ops.toList 0 ⟨fr,kn,st,[],[]⟩ s1 (λj=>.inl (qz)) hk h1
 cases J:(!draw||WT ops s1.ks.reverse s1.bk.reverse)with
 | false=>rw[J]at M; exact M.elim
 | true=>rw[J,cond_true]at M; cases M; exact g2
theorem mY(f:F):yy [] f:=by nofun
theorem EP{id:Nat}{b:Code}(I:∀ b',b≠.loop b'):vZ (.block id b)=vZ b:=by
 cases b<;>first | rfl | exact absurd rfl (I _)
end
end Go.AM
namespace Go.AM
set_option linter.unusedSectionVars false
variable [yV] [Hl]
section
variable {c:Ctx} {n:Nat}
theorem Hq:∀ (ds:List D) (i s:Nat),(ym ds i).get s=if i<=s then ds[s-i]? else none
 | [],i,s=>by simp[ym,Fr.get]
 | d::r,i,s=>by
  simp only[ym,Fr.get]
  by_cases h:i=s
  ·subst h; simp
  ·rw[ZV h,cond_false,Hq r (i+1) s]
   grind
theorem Kk{O:KS}{args:List D}{xb:List Value}(h:wN O args xb)(hn:args.length<=n) :
  Rel O n (ym args 0).get { tmps:=xb.toArray++qB (n-xb.toArray.size) undef,defers:=Hl.df }:=by
 have R:=h.1
 refine⟨xy,rfl,λs d J => ?_⟩
 rw[Hq]at J
 obtain⟨v,h1,M⟩:=h.get J
 grind
theorem Vk{O:KS}{fr:Fr}{a:Act}(B:Inv O)(hR:Rel O n fr.get a):∀ (rvs:List ResultVar) (ds:List D),(nj c fr O.st rvs).leads ds ->
  ∃ vs:List Value,Sem.run c.P (rvs.mapM λr=>match r with | ResultVar.tmp t=>(xG (a.tmps.getD t undef):Sem Value) | ResultVar.cell p t=>do loadVar t (<- asAddr (a.tmps.getD p undef))) O.w=Result.ok vs O.w/\wN O ds vs
 | [],ds,h=>by cases h; exact⟨[],qz,.nil⟩
 | .tmp t::r,ds,h=>by
  simp only[nj]at h
  split at h
  ·rename_i d J
   simp only[T.xg]at h
   obtain⟨l,R,rfl⟩:=h
   obtain⟨v,h1,M⟩:=hR.get t d J
   obtain⟨vs,h3,h4⟩:=Vk B hR r l R
   refine⟨v::vs,?_,.cons M h4⟩
   simp only[List.mapM_cons,qZ,xD,qT,h3]
   simp[h1]
  ·exact h.elim
 | .cell p t::r,ds,h=>by
  simp only[nj]at h
  split at h
  ·rename_i b off J
   split at h
   ·rename_i d I
    cases Kc:d.Yq with
    | true=>rw[Kc]at h; exact h.elim
    | false =>
    rw[Kc,cond_false]at h
    split at h
    ·rename_i x N
     simp only[T.xg]at h
     obtain⟨l,R,rfl⟩:=h
     obtain⟨v,h1,M⟩:=hR.get p _ J
     obtain⟨vs,h3,h4⟩:=Vk B hR r l R
     cases M with
     | ptr _ _ blk m d1 hd1 hp =>
      obtain⟨pB,n',cs,T,g1,g2,g3,g4,g5⟩:=(B.blk b _ I:kO O b d).cells Kc
      rw[hp]at g1
      cases g1
      obtain⟨u,e1,e2⟩:=YH (c:=c) (blk:=blk) 0 N g4 g5.1 (λj v hj=>by rw[XV g2]; simpa using hj)
      rw[qO]at e1
      refine⟨u::vs,?_,.cons e2 h4⟩
      have hA:(asAddr (a.tmps.getD p undef)).run c.P O.w=.ok ⟨blk,off,none⟩ O.w:=by simp[h1,asAddr]
      simp only[List.mapM_cons,qZ,hA,qT,e1,h3,xD]
    ·exact h.elim
   ·exact h.elim
  ·exact h.elim
def z2D:List Value->Value
 | [v]=>v
 | vs=>.tuple vs.toArray
theorem UA{O:KS}{fr:Fr}{a:Act}{fn:Func}{ds:List D}(B:Inv O)(hR:Rel O n fr.get a)(h:(nj c fr O.st fn.results.toList).leads ds) :
  ∃ vs:List Value,(results fn a.tmps).run c.P O.w=.ok (z2D vs) O.w/\wN O ds vs:=by
 obtain⟨vs,h1,M⟩:=Vk B hR _ _ h
 simp only[results,Array.mapM_eq_mapM_toList,qZ,Sem.run_map]
 have key:∀ r:Result (List Value),r=.ok vs O.w->((r.andThen λa w'=>.ok a.toArray w').andThen λa w'=>(xG (if h:a.size=1 then a[0]else .tuple a):Sem Value).run c.P w')=.ok (z2D vs) O.w:=by
  rintro _ rfl
  match vs with
  | []=>rfl
  | [v]=>rfl
  | _::_::_=>rfl
 grind
theorem G4{O:KS}{ds:List D}{vs:List Value}(h:wN O ds vs):RD O (eI ds) (z2D vs):=by
 match ds,vs,h with
 | [],vs,h=>rw[h.wb]; exact .eA [] [] rfl (λi h=>absurd h (qN i))
 | [d],vs,h =>
  obtain⟨v,r,rfl,h1,M⟩:=h.cons_inv
  rw[M.wb]
  exact h1
 | d::e::r,vs,h =>
  obtain⟨v,us,rfl,h1,M⟩:=h.cons_inv
  obtain⟨u,ws,rfl,h3,h4⟩:=M.cons_inv
  exact .eA _ _ h.1 h.2
def KS.cut(O:KS)(m:Nat):KS:={ O with ph:=O.ph.take m,st:=O.st.take m }
theorem xr{α:Type}{l:List α}{m i:Nat}{a:α}(h:l[i]? = some a)(hi:i<m):(l.take m)[i]? = some a:=xy
theorem iX{α:Type}{l:List α}{m i:Nat}{a:α}(h:(l.take m)[i]? = some a):l[i]? = some a/\i<m:=xy
theorem mH{O:KS}{m:Nat}{d:D}{v:Value}(h:RD O d v)(J:y6 m d=true):RD (O.cut m) d v:=by
 cases h with
 | qi τ y cs h=>exact .qi τ y cs h
 | sj e l b v h ht hf=>exact .sj e l b v h ht hf
 | vy e a=>exact .vy e a
 | tight e l ne blk off f jX uZ h hc=>exact .tight e l ne blk off f jX uZ h hc
 | wE=>exact .wE
 | gS=>exact .gS
 | v8=>exact .v8
 | yZ=>exact .yZ
 | uS=>exact .uS
 | WG v h=>exact .WG v h
 | mM T=>exact .mM T
 | yJ b blk n d I h=>exact .yJ b blk n d (xr I (X J)) (xr h (X J))
 | nh b T d I=>exact .nh b T d (xr I (X J))
 | ni b T blk n d I h=>exact .ni b T blk n d (xr I (X J)) (xr h (X J))
 | ptr b off blk n d I h=>exact .ptr b off blk n d (xr I (X J)) (xr h (X J))
 | vz τ y cs blk off uZ h hc=>exact .vz τ y cs blk off uZ h hc
 | gD b vi e idx off blk o I h =>
  have wL:b<m:=X J
  refine .gD b vi e idx off blk o (rK I (λh=>xr h wL) ?_) λxs N hi => ?_
  ·rintro⟨v0,e0,x0,h1,M⟩; exact⟨v0,e0,x0,xr h1 wL,M⟩
  ·obtain⟨n,h1,M⟩:=h xs (iX N).1 hi
   exact⟨n,xr h1 wL,M⟩
 | ms b vi e off len cap a I jf ha Wq h =>
  have wL:b<m:=X J
  refine .ms b vi e off len cap a (rK I (λh=>xr h wL) ?_) jf ha Wq λxs N => ?_
  ·rintro⟨v0,e0,x0,h1,M⟩; exact⟨v0,e0,x0,xr h1 wL,M⟩
  ·obtain⟨h1,M⟩:=h xs (iX N).1
   refine⟨h1,rK M ?_ ?_⟩
   ·rintro⟨g1,g2,g3,g4⟩; exact⟨g1,g2,g3,xr g4 wL⟩
   ·rintro⟨blk,n,o,VE,g1,g2⟩; exact⟨blk,n,o,VE,xr g1 wL,g2⟩
 | wg=>cases J
 | agg=>cases J
 | eA=>cases J
 | iface=>cases J
theorem Lv{O:KS}{m:Nat}{d:D}{v:Value}(h:RD O d v)(J:fE m d=true):RD (O.cut m) d v:=by
 cases d with
 | wg f l =>
  cases h with
  | wg _ _ vs R hh =>
   simp only[fE,zJ]at J
   exact .wg f l vs R λi h1 M=>mH (hh i h1 M) (J _ (qV h1))
 | agg l =>
  cases h with
  | agg _ vs R ho hh =>
   simp only[fE,zJ]at J
   exact .agg l vs R ho λi h1 M=>mH (hh i h1 M) (J _ (qV h1))
 | eA l=>cases J
 | iface t d =>
  cases h with
  | iface _ _ v h=>exact .iface t _ v (mH h J)
 | _=>exact mH h J
theorem Pf{O:KS}{m:Nat}{l:List D}{vs:List Value}(h:wN O l vs)(J:∀ d∈l,fE m d=true):wN (O.cut m) l vs:=⟨h.1,λi h1 M=>Lv (h.2 i h1 M) (J _ (qV h1))⟩
theorem C4{m:Nat}{d:D}(h:fE m d=true):∀ x∈xx d,fE m x=true:=by
 have JF:∀ (τ:Ty) (x:den τ),∀ y∈flat τ x,fE m y=true:=by
  intro τ x y hy
  have:∃ σ z,y=.qi σ z:=by
   induction τ with
   | cons a b ia ib =>
    simp only[flat]at hy
    grind
   | nil=>simp[flat]at hy
   | expr=>simp[flat]at hy; rcases hy with rfl | rfl | rfl | rfl | rfl | rfl<;>exact⟨_,_,rfl⟩
   | _=>simp[flat]at hy; subst hy; exact⟨_,_,rfl⟩
  obtain⟨σ,z,rfl⟩:=this
  rfl
 cases d with
 | qi τ x=>exact JF τ x
 | agg l =>
  intro x N
  simp only[fE,zJ]at h
  have:=h x N
  cases x<;>first | exact this | cases this
 | eA l=>cases h
 | Bh l=>intro x N; cases N
 | _=>intro x N; simp[xx]at N; subst N; exact h
theorem z5b{O:KS}{m:Nat}(B:Inv O)(hc:∀ x∈O.st.take m,C3 m x=true):Inv (O.cut m):=by
 refine⟨by simp[KS.cut,B.len],B.bI,λb blk n h=>B.apart b blk n (iX h).1,λb b' blk n n' h h'=>B.inj b b' blk n n' (iX h).1 (iX h').1,λb x h => ?_,B.gl⟩
 obtain⟨h1,M⟩:=iX h
 have I:=B.blk b x h1
 have hcx:=hc x (xB h)
 cases x with
 | dead=>trivial
 | var d =>
  refine kO.elim I (λhm ⟨blk,n,cs,t,g1,g2,g3,g4,g5⟩=>.mk hm ⟨blk,n,cs,t,xr g1 M,g2,g3,Pf g4 (C4 hcx),g5⟩) λl e ⟨blk,o,g1,g2⟩ => ?_
  subst e
  exact⟨blk,o,xr g1 M,g2⟩
 | arr vi e xs =>
  obtain⟨h0,I⟩:=I
  refine⟨h0,rK I (λh=>⟨h.1,xr h.2 M⟩) ?_⟩
  rintro⟨blk,n,cs,t,g1,g2⟩
  exact⟨blk,n,cs,t,xr g1 M,g2⟩
end
end Go.AM
namespace Go.AM
set_option linter.unusedSectionVars false
variable [yV]
section
variable {c:Ctx}
theorem uR{P:Program}{f:Nat}{fn:Func}{args:Array Value}(hf:P.funcs[f]? = some fn) (hn:(fn.name == "runtime.NumGoroutine")=false) (I:fn.body.isNone=false) (w:World) :
  (callFunc f args).run P w=.ok (.enter f args) w:=by
 simp only[callFunc,qZ,run_program,qT,hf,hn,I,Bool.false_eq_true,if_false,xD]
theorem SE{O κe:KS}(B:Inv O)(vU:O.st=[])(hIe:Inv κe)(N:Ext O κe):Inv (κe.bare (Ta κe))/\Ext O (κe.bare (Ta κe)):=by
 have wL:∀ k,Ta κe k->k<κe.w.heap.size:=by
  rintro k (hk | ⟨b,n,hk⟩)
  ·exact hIe.bI k hk
  ·exact(hIe.apart b k n hk).1
 refine⟨KX hIe (λ_ h=>.inl h) wL,N.os,N.tape,N.output,N.size,λk hk=>⟨.inl (N.same k hk).1,(N.same k hk).2⟩,?_,λb blk n h=>by simp[KS.bare]at h,λb d h=>xy,
  λb v0 e xs h=>xy,λb h=>xy,xy,N.frame⟩
 rintro k (hk | ⟨b,n,hk⟩)
 ·exact N.fresh k hk
 ·rcases N.phs b k n hk with h | h
  ·grind
  ·grind
end
end Go.AM
namespace Go.AM
set_option linter.unusedSectionVars false
variable [yV] [Hl]
open Go.RowKit
def z5m(s:Nat)(fr:Fr)(st:St):T (Fr×St):=match fr.get s with
 | some (.ms b vi e off len)=>match st[b]? with
  | some (.arr dA e' xs)=>match(jN (a:=.sl e') (b:=.sl e) xs:Option (List (den e)))with
   | some ys=>.W (vi=dA) (.ret ((s,some (.qi (.sl e) ((ys.take (off+len)).drop off)))::fr,st.set b .dead))
   | none=>.fail
  | _=>.fail
 | _=>.ret (fr,st)
def z5o(j i:Nat)(fr:Fr)(st:St):T (Fr×St):=match st[j]? with
 | some (.var (.agg ds))=>match ds[i]? with
  | some (.ms b vi e off len)=>match st[b]? with
   | some (.arr dA e' xs)=>match(jN (a:=.sl e') (b:=.sl e) xs:Option (List (den e)))with
    | some ys=>.W (vi=dA) (.ret (fr,(st.set b .dead).set j (.var (.agg (ds.set i (.qi (.sl e) ((ys.take (off+len)).drop off)))))))
    | none=>.fail
   | _=>.fail
  | _=>.ret (fr,st)
 | _=>.ret (fr,st)
def z5q(s:Nat)(fr:Fr)(st:St):T (Fr×St):=bif Nat.ble 1000000 s then z5o ((s-1000000) / 1000) ((s-1000000) % 1000) fr st else z5m s fr st
def frz:List Nat->Fr->St->T (Fr×St)
 | [],fr,st=>.ret (fr,st)
 | s::r,fr,st=>(z5q s fr st).bind λx=>frz r x.1 x.2
section
variable {c:Ctx} {O:KS} {n:Nat}
theorem zgM{b vi off len:Nat}{e:Ty}{xs:List (den e)}{v:Value}(B:Inv O)(h:RD O (.ms b vi e off len) v)(I:O.st[b]? = some (.arr vi e xs)){JS:Nat->Prop}(h1:∀ k,O.ok k->JS k)(M:∀ k n,O.ph[b]? = some (some (k,n))->JS k) :
  Rc O.w JS (.sl e) ((xs.take (off+len)).drop off) [v]:=by
 obtain⟨Cr,_⟩:=LI B h I
 obtain⟨a,cap,f,hve,jf,hn,g1,g2⟩:=Cr.ex
 have z0F:∀ blk o:Nat,v=.slice (some ⟨blk,o,none⟩) ((xs.take (off+len)).drop off).length cap->JS blk:=by
  intro blk o he
  cases h with
  | ms _ _ _ _ _ VE a' hold zfy ha Wq hm =>
   obtain⟨_,hm⟩:=hm xs I
   grind
 rw[hve]
 cases a with
 | none=>obtain⟨k1,k2⟩:=hn rfl; rw[k1,k2]; exact .lv e none
 | some p =>
  rcases g2 p rfl with⟨k1,k2⟩ | ⟨hp,_,hc⟩
  ·rw[k1,k2]; exact .lv e _
  ·obtain⟨blk,o,sp⟩:=p
   subst hp
   exact .sl e _ blk o cap f (z0F blk o hve) jf (λi hi=>(g1 i hi).mono λk hk=>⟨h1 k hk,rfl⟩) hc
theorem MW{b vi:Nat}{e:Ty}{xs:List (den e)}(I:O.st[b]? = some (.arr vi e xs))(B:Inv O):∃ E:KS,E.w=O.w/\E.st=O.st.set b .dead/\Inv E/\Ext O E /\
  ∀ (off len:Nat) (v:Value),RD O (.ms b vi e off len) v->RD E (.qi (.sl e) ((xs.take (off+len)).drop off)) v:=by
 have wL:b<O.st.length:=(zQ.1 I).1
 let E:KS:=⟨O.w,λk=>O.ok k\/∃ n,O.ph[b]? = some (some (k,n)),O.ph.set b none,O.st.set b .dead⟩
 have vU:∀ i,i≠b->E.st[i]? = O.st[i]? := λi hi=>by show(O.st.set b .dead)[i]? = _; rw[zE (λe=>hi e.symm)]
 have GI:∀ i,i≠b->E.ph[i]? = O.ph[i]? := λi hi=>by show(O.ph.set b none)[i]? = _; rw[zE (λe=>hi e.symm)]
 have z5V:∀ (i blk m:Nat),E.ph[i]? = some (some (blk,m))->i≠b/\O.ph[i]? = some (some (blk,m)):=by
  grind
 have N:Ext O E:=by
  refine⟨rfl,rfl,rfl,qG _,λk hk=>⟨.inl hk,rfl⟩,?_,λi blk m hi=>.inl (z5V i blk m hi).2,?_,?_,?_,by show _<=(O.st.set b .dead).length; simp,λ_ _ _=>rfl⟩
  ·grind
  ·grind
  ·grind
  ·grind
 have hI':Inv E:=by
  refine⟨by show(O.ph.set b none).length=(O.st.set b .dead).length; simp[B.len],?_,?_,?_,?_,B.gl.mono N.same⟩
  ·rintro k (hk | ⟨m,hk⟩)
   ·exact B.bI k hk
   ·exact(B.apart b k m hk).1
  ·intro i blk m hi
   obtain⟨hib,Kv⟩:=z5V i blk m hi
   obtain⟨g1,g2⟩:=B.apart i blk m Kv
   refine⟨g1,?_⟩
   rintro(hk | ⟨m',hk⟩)
   ·exact g2 hk
   ·exact hib (B.inj i b blk m m' Kv hk)
  ·intro i i' blk m m' hi Kv
   exact B.inj i i' blk m m' (z5V i blk m hi).2 (z5V i' blk m' Kv).2
  ·intro i hI hB
   by_cases hib:i=b
   ·subst hib
    have:(O.st.set i .dead)[i]? = some hI:=hB
    rw[qX wL]at this
    cases this
    trivial
   ·rw[vU i hib]at hB
    exact(B.blk i hI hB).mono N (GI i hib) λ_ _ _=>rfl
 exact⟨E,rfl,rfl,hI',N,λoff len v J=>RD.tV rfl (zgM B J I (λk hk=>.inl hk) λk m hk=>.inr ⟨m,hk⟩)⟩
theorem z5n{s:Nat}{fr:Fr}{a:Act}{r:Fr×St}(h:(z5m s fr O.st).leads r)(B:Inv O)(hR:Rel O n fr.get a):∃ E:KS,E.w=O.w/\E.st=r.2/\Inv E/\Ext O E/\Rel E n r.1.get a:=by
 unfold z5m at h
 split at h
 ·rename_i b vi e off len hs
  split at h
  ·rename_i dA e' xs I
   split at h
   ·rename_i ys hy
    obtain⟨he,N⟩:=we hy
    obtain⟨rfl,h⟩:=h
    cases h
    obtain⟨v,hv,J⟩:=hR.get s _ hs
    obtain⟨E,e1,e2,hI',N,hk⟩:=MW I B
    refine⟨E,e1,e2,hI',N,hR.size,hR.defers,λt d dY => ?_⟩
    simp only[Fr.get]at dY
    cases ht:zU s t with
    | true =>
     rw[<- Y ht]
     grind
    | false =>
     rw[ht,cond_false]at dY
     obtain⟨u,g1,g2⟩:=hR.get t d dY
     exact⟨u,g1,g2.mono N⟩
   ·exact h.elim
  ·exact h.elim
 ·cases h; exact⟨O,rfl,rfl,B,Ext.refl O,hR⟩
theorem Rv{ds:List D}{i b vi off len:Nat}{e:Ty}{d':D}(J:ds[i]? = some (.ms b vi e off len))(hn:iY [d']=none){T:Nat}(h:iY (ds.set i d')=some T):iY ds=some T:=by
 cases ds with
 | nil=>cases J
 | cons x r =>
  cases i with
  | zero =>
   have:iY (d'::r)=iY [d']:=by cases d'<;>rfl
   grind
  | succ i =>
   have:∀ r':List D,iY (x::r')=iY [x]:=by intro r'; cases x<;>rfl
   grind
theorem z5p{j i:Nat}{fr:Fr}{a:Act}{r:Fr×St}(h:(z5o j i fr O.st).leads r)(B:Inv O)(hR:Rel O n fr.get a):∃ E:KS,E.w=O.w/\E.st=r.2/\Inv E/\Ext O E/\Rel E n r.1.get a:=by
 unfold z5o at h
 split at h
 ·rename_i ds hj
  split at h
  ·rename_i b vi e off len hi
   split at h
   ·rename_i dA e' xs I
    split at h
    ·rename_i ys hy
     obtain⟨he,N⟩:=we hy
     cases he
     cases N
     obtain⟨rfl,h⟩:=h
     cases h
     obtain⟨κ1,e1,e2,Vw,hx1,hk⟩:=MW I B
     have hjb:j≠b:=λq=>by subst q; rw[I]at hj; cases hj
     have hj1:κ1.st[j]? = some (.var (.agg ds)):=by rw[e2,zE (λq=>hjb q.symm)]; exact hj
     have T4:j<κ1.st.length:=(zQ.1 hj1).1
     let d':D:=.qi (.sl e) ((xs.take (off+len)).drop off)
     let κ2:KS:={ κ1 with st:=κ1.st.set j (.var (.agg (ds.set i d'))) }
     have vU:∀ k,k≠j->κ2.st[k]? = κ1.st[k]? := λk hk=>by show(κ1.st.set j _)[k]? = _; rw[zE (λq=>hk q.symm)]
     have znt:κ2.st[j]? = some (.var (.agg (ds.set i d'))):=by show(κ1.st.set j _)[j]? = _; rw[qX T4]
     have MO:Ext κ1 κ2:=by
      refine⟨rfl,rfl,rfl,qG _,λk hk=>⟨hk,rfl⟩,λk hk=>.inl hk,λk blk m hk=>.inl hk,?_,?_,?_,by show _<=(κ1.st.set j _).length; simp,λ_ _ _=>rfl⟩
      ·grind
      ·grind
      ·grind
     have hI2:Inv κ2:=by
      refine⟨by show κ1.ph.length=(κ1.st.set j _).length; simp[Vw.len],Vw.bI,Vw.apart,Vw.inj,?_,Vw.gl⟩
      intro k hI hB
      by_cases q:k=j
      ·subst q
       rw[znt]at hB
       cases hB
       obtain⟨blk,m,cs,t,g1,g2,g3,g4,g5,g6⟩:=B.blk k _ hj
       obtain⟨pB,m',mv,t',p1,p2,p3,p4,p5,p6⟩:=Vw.blk k _ hj1
       have GI:κ1.ph[k]? = O.ph[k]? := (hx1.var k _ hj).2
       rw[GI,g1]at p1
       cases p1
       rw[e1,g2]at p2
       cases p2
       refine⟨blk,m,cs,t,GI.trans g1,by show κ1.w.heap[blk]? = _; rw[e1]; exact g2,g3,?_,?_,λT hT=>g6 T (Rv hi rfl hT)⟩
       ·have p4':wN κ2 ds cs.toList:=wN.mono MO p4
        refine⟨by show(ds.set i d').length=_; rw[List.length_set]; exact p4'.1,λk' h1 M => ?_⟩
        have GG:k'<(ds.set i d').length:=h1
        rw[List.length_set]at GG
        show RD κ2 ((ds.set i d')[k']) _
        by_cases q:i=k'
        ·subst q
         have hdi:ds[i]'GG=.ms b vi e off len:=Option.some.inj ((zT GG).symm.trans hi)
         have:=g4.2 i GG M
         have Ew:(xx (D.agg ds))[i]'GG=.ms b vi e off len:=hdi
         rw[Ew]at this
         have e3:(ds.set i d')[i]'h1=d':=List.getElem_set_self _
         rw[e3]
         exact(hk _ _ _ this).mono MO
        ·have e3:(ds.set i d')[k']'h1=ds[k']'GG:=List.getElem_set_ne q _
         rw[e3]
         exact p4'.2 k' GG M
       ·intro x N
        rcases List.mem_or_eq_of_mem_set N with N | rfl
        ·exact g5 x N
        ·rfl
      ·rw[vU k q]at hB
       exact(Vw.blk k hI hB).mono MO rfl λ_ _ _=>rfl
     refine⟨κ2,e1,by show κ1.st.set j _=_; rw[e2],hI2,hx1.trans MO,hR.size,hR.defers,λt d dY => ?_⟩
     obtain⟨u,q1,q2⟩:=hR.get t d dY
     exact⟨u,q1,(q2.mono hx1).mono MO⟩
    ·exact h.elim
   ·exact h.elim
  ·cases h; exact⟨O,rfl,rfl,B,Ext.refl O,hR⟩
 ·cases h; exact⟨O,rfl,rfl,B,Ext.refl O,hR⟩
theorem z5r{s:Nat}{fr:Fr}{a:Act}{r:Fr×St}(h:(z5q s fr O.st).leads r)(B:Inv O)(hR:Rel O n fr.get a):∃ E:KS,E.w=O.w/\E.st=r.2/\Inv E/\Ext O E/\Rel E n r.1.get a:=by
 unfold z5q at h
 cases I:Nat.ble 1000000 s with
 | true=>rw[I,cond_true]at h; exact z5p h B hR
 | false=>rw[I,cond_false]at h; exact z5n h B hR
theorem z08:∀ (l:List Nat) {fr:Fr} {O:KS} {a:Act} {r:Fr×St},(frz l fr O.st).leads r->Inv O->Rel O n fr.get a->∃ E:KS,E.w=O.w/\E.st=r.2/\Inv E/\Ext O E/\Rel E n r.1.get a
 | [],fr,O,a,r,h,B,hR=>by cases h; exact⟨O,rfl,rfl,B,Ext.refl O,hR⟩
 | s::l,fr,O,a,r,h,B,hR=>by
  simp only[frz,T.xg]at h
  obtain⟨x,h1,M⟩:=h
  obtain⟨κ1,e1,e2,e3,e4,e5⟩:=z5r h1 B hR
  rw[<- e2]at M
  obtain⟨κ2,g1,g2,g3,g4,g5⟩:=z08 l M e3 e5
  exact⟨κ2,g1.trans e1,g2,g3,e4.trans g4,g5⟩
end
end Go.AM