/-
  The abstract machine, part C: texts of our own, the same for each claim.
-/
import Derived.Test.YtjklmealdnfhfaaGreatDoorAmB
import Derived.Deep.LoopGhost
set_option linter.unusedVariables false
open Go.Op renaming operands -> zA
open Nat renaming eq_of_beq_eq_true -> Y, le_of_ble_eq_true -> X, beq -> zU, le_antisymm -> qC, le_refl -> qG, lt_or_ge -> qH, blt -> qL, not_lt_zero -> qN, zero_add -> qO, testBit -> qS
open List renaming mem_range -> V, getElem?_set_ne -> zE, getElem?_append_left -> zI, all_eq_true -> zJ, mem_cons_self -> zK, map_congr_left -> zM, pairwise_lt_range -> zN, any_eq_true -> zO, getElem?_eq_some_iff -> zQ, mem_cons_of_mem -> zS, getElem?_eq_getElem -> zT, eq_nil_of_length_eq_zero -> zW, mem_filter -> zX, mem_cons -> qA, pairwise_cons -> qE, range -> qF, getElem?_eq_none -> qJ, reverse_reverse -> qM, any_eq_false -> qQ, getElem?_map -> qR, getElem_mem -> qV, getElem?_set_self -> qX, mem_append -> xA, mem_of_getElem? -> xB, range_eq_range' -> xC, getD -> xF
open Bool renaming and_eq_true -> zF, not_eq_true' -> zL, not_eq_false' -> qD
open Array renaming mem_toList_iff -> zG, getElem?_setIfInBounds_ne -> zH, getElem?_eq_getElem -> zP, toArray_toList -> zR, eq_empty_of_size_eq_zero -> zV, getD_eq_getD_getElem? -> zY, replicate -> qB, getElem?_toList -> qI, ext' -> qP
open Go.Region renaming binds -> zZ, wanted -> qU, ready -> qY
open Go.Call renaming operands -> qK
open Go.Result renaming andThen_ok -> qT
open Go.Act renaming put -> qW
open Go.Sem renaming run_bind -> qZ, run_pure -> xD
open Go.Deferred renaming ofValue -> xE
open Pure renaming pure -> xG
namespace Go.AM
set_option linter.unusedSectionVars false
variable [yY]
abbrev F:=Nat->Option D
def wA(f:F):Operand->Option D
 | .tmp t=>f t
 | .const v=>JO v
 | .global _=>none
 | .func g=>bif qL g 1000000 then some (.wh g [])else none
theorem ig(fr:Fr):bq fr=wA fr.get:=by rfl
def dQ(f:F)(dst:Option Nat)(d:Option D):F:=match dst with
 | some t=>λs=>if s=t then d else f s
 | none=>f
theorem ZX{a b:Nat}(h:a≠b):zU a b=false:=by
 cases I:zU a b with
 | false=>rfl
 | true=>exact absurd (Y I) h
theorem ZI(fr:Fr)(dst:Option Nat)(d:Option D):(fr.put dst d).get=dQ fr.get dst d:=by
 cases dst with
 | none=>rfl
 | some t =>
  funext s
  simp only[Fr.put,Fr.get,dQ]
  by_cases h:s=t
  ·subst h; simp
  ·rw[if_neg h,ZX (λe=>h e.symm),cond_false]
section
variable (c:Ctx) (n:Nat) (ops:Array Oper)
def jF(f:F)(o:Oper):Option Bool:=match o.guard with
 | none=>some true
 | some (j,w)=>match bw ops j with
  | none=>none
  | some t=>match f t with
   | some (.qj .bool b)=>some (b==w)
   | some (.eD [])=>some false
   | _=>none
def eY(i:Nat)(s s':F×St)(k:Nat):Prop:=∃ o,ops[i]? = some o/\ga n o.dst=true /\
 ((jF ops s.1 o=some true/\k=(wP c (wA s.1) o).kind/\∃ d qm,(qu (wP c (wA s.1) o) s.2).leads (d,qm)/\s'=(dQ s.1 o.dst d,qm)) \/
  (jF ops s.1 o=some false/\k=0/\s'=(dQ s.1 o.dst (some SS),s.2)))
def R3:List Nat->F×St->F×St->List Nat->Prop
 | [],s,s',ks=>s'=s/\ks=[]
 | i::l,s,s',ks=>∃ s1 k L4,ks=k::L4/\eY c n ops i s s1 k/\R3 l s1 s' L4
end
section
variable {c:Ctx} {n:Nat} {ops:Array Oper}
def yC(kn:Kn)(f:F):Prop:=∀ t b,kn.get t=some b->f t=some (.qj .bool b)
theorem Yx(t:Nat)(b:Option Bool)(kn:Kn)(s:Nat):Kn.get ((t,b)::kn) s=if s=t then b else kn.get s:=by
 simp only[Kn.get]
 by_cases h:s=t
 ·subst h; simp
 ·rw[if_neg h,ZX (λe=>h e.symm),cond_false]
theorem lZ{kn:Kn}{f:F}(h:yC kn f){x:Operand}{b:Bool}(N:ry kn x=some b):wA f x=some (.qj .bool b):=by
 unfold ry at N
 split at N
 ·exact h _ _ N
 ·cases N; rfl
 ·cases N
theorem E8{kn:Kn}{fr:Fr}{o:Oper}(hk:yC kn fr.get){st:St}{r:Option D×St}(h:(qu (Qo c kn fr o) st).leads r) :
  (qu (wP c (wA fr.get) o) st).leads r/\(Qo c kn fr o).kind=(wP c (wA fr.get) o).kind/\∀ b,H3 kn o.op=some b->r.1=some (.qj .bool b):=by
 obtain⟨dst,op,ty,pos,after,guard⟩:=o
 rw[<- ig]
 cases op with
 | pick x a b =>
  simp only[Qo]at h ⊢
  cases N:ry kn x with
  | none =>
   rw[N]at h
   refine⟨h,rfl,λb' I => ?_⟩
   simp[H3,N]at I
  | some bx =>
   rw[N]at h
   have hval:=lZ hk N
   rw[<- ig]at hval
   have zgb:wP c (bq fr) ⟨dst,.pick x a b,ty,pos,after,guard⟩=.val (.ite bx (.ret (bq fr a)) (.ret (bq fr b))):=by
    simp only[wP,Lq,hval,asBool]
   rw[zgb]
   obtain⟨d,qm⟩:=r
   cases bx with
   | true =>
    simp only[kR,T.leads]at h ⊢
    refine⟨⟨.inl ⟨by first | rfl | trivial,h.1⟩,h.2⟩,rfl,λb' I => ?_⟩
    simp only[H3,N]at I
    have:=lZ hk I
    rw[<- ig]at this
    grind
   | false =>
    simp only[kR,T.leads]at h ⊢
    refine⟨⟨.inr ⟨by first | rfl | trivial,h.1⟩,h.2⟩,rfl,λb' I => ?_⟩
    simp only[H3,N]at I
    have:=lZ hk I
    rw[<- ig]at this
    grind
 | move x =>
  refine⟨h,rfl,λb I => ?_⟩
  obtain⟨d,qm⟩:=r
  simp only[Qo,wP,kR,T.leads]at h
  have:=lZ hk (show ry kn x=some b from I)
  rw[<- ig]at this
  grind
 | assign x =>
  refine⟨h,rfl,λb I => ?_⟩
  obtain⟨d,qm⟩:=r
  simp only[Qo,wP,kR,T.leads]at h
  have:=lZ hk (show ry kn x=some b from I)
  rw[<- ig]at this
  grind
 | _=>exact⟨h,rfl,λb I=>by simp[H3]at I⟩
theorem Pc{kn:Kn}{f:F}(hk:yC kn f){dst:Option Nat}{d:Option D}{b:Option Bool}(I:∀ b',b=some b'->d=some (.qj .bool b')):yC (H9 kn dst b) (dQ f dst d):=by
 cases dst with
 | none=>exact hk
 | some t =>
  intro s b' h
  simp only[H9,Yx]at h
  simp only[dQ]
  split at h
  ·grind
  ·rename_i e; rw[if_neg e]; exact hk s b' h
theorem XT{kn:Kn}{f:F}(hk:yC kn f){t:Nat}{b:Bool}(I:f t=some (.qj .bool b)):yC ((t,some b)::kn) f:=by
 intro s b' h
 rw[Yx]at h
 split at h
 ·grind
 ·exact hk s b' h
theorem Gi{o:Oper}{s s':oq}(hk:yC s.kn s.fr.get)(h:(l0 c n o s).leads s') :
  ga n o.dst=true/\(∃ d qm,(qu (wP c (wA s.fr.get) o) s.st).leads (d,qm)/\s'.fr.get=dQ s.fr.get o.dst d/\s'.st=qm)/\yC s'.kn s'.fr.get/\s'.ks=(wP c (wA s.fr.get) o).kind::s.ks:=by
 unfold l0 at h
 cases J:ga n o.dst with
 | false=>rw[J]at h; exact h.elim
 | true =>
  rw[J,cond_true]at h
  simp only[T.xg]at h
  obtain⟨⟨d,qm⟩,h1,rfl⟩:=h
  obtain⟨M,h3,h4⟩:=E8 hk h1
  refine⟨rfl,⟨d,qm,M,ZI _ _ _,rfl⟩,?_,xy⟩
  rw[ZI]
  exact Pc hk h4
theorem Pk{o:Oper}{s:oq}(hk:yC s.kn s.fr.get):yC (cG o s).kn (cG o s).fr.get:=by
 show yC (H9 s.kn o.dst none) (s.fr.put o.dst (some SS)).get
 rw[ZI]
 exact Pc hk nofun
theorem By{i:Nat}{o:Oper}{s s':oq}(ho:ops[i]? = some o)(hk:yC s.kn s.fr.get)(h:(stepG c n ops o s).leads s') :
  ∃ k,eY c n ops i (s.fr.get,s.st) (s'.fr.get,s'.st) k/\yC s'.kn s'.fr.get/\s'.ks=k::s.ks:=by
 have run:∀ (s0:oq),s0.fr=s.fr->s0.st=s.st->s0.ks=s.ks->yC s0.kn s0.fr.get->jF ops s.fr.get o=some true->(l0 c n o s0).leads s' ->
   ∃ k,eY c n ops i (s.fr.get,s.st) (s'.fr.get,s'.st) k/\yC s'.kn s'.fr.get/\s'.ks=k::s.ks:=by
  intro s0 e1 e2 e3 Dm hw h
  obtain⟨h1,⟨d,qm,M,h3,h4⟩,h5,h6⟩:=Gi Dm h
  rw[e1]at M h3 h6
  rw[e2]at M
  rw[e3]at h6
  exact⟨_,⟨o,ho,h1,.inl ⟨hw,rfl,d,qm,M,by rw[h3,h4]⟩⟩,h5,h6⟩
 have skip:∀ (s0:oq),s0.fr=s.fr->s0.st=s.st->s0.ks=s.ks->yC s0.kn s0.fr.get->jF ops s.fr.get o=some false->ga n o.dst=true->cG o s0=s' ->
   ∃ k,eY c n ops i (s.fr.get,s.st) (s'.fr.get,s'.st) k/\yC s'.kn s'.fr.get/\s'.ks=k::s.ks:=by
  intro s0 e1 e2 e3 Dm hw J h
  subst h
  refine⟨0,⟨o,ho,J,.inr ⟨hw,rfl,?_⟩⟩,Pk Dm,by simp[cG,e3]⟩
  simp only[cG,ZI,e1,e2]
 unfold stepG at h
 split at h
 ·rename_i hg
  exact run s rfl rfl rfl hk (by simp[jF,hg]) h
 ·rename_i j w hg
  split at h
  ·exact h.elim
  ·rename_i t ht
   split at h
   ·rename_i b I
    have hf:=hk t b I
    have hw:jF ops s.fr.get o=some (b==w):=by simp[jF,hg,ht,hf]
    cases SZ:(b==w)with
    | true=>grind
    | false =>
     rw[SZ,cond_false]at h
     cases J:ga n o.dst with
     | false=>rw[J]at h; exact h.elim
     | true=>rw[J,cond_true]at h; exact skip s rfl rfl rfl hk (by rw[hw,SZ]) J h
   ·split at h
    ·rename_i x N
     have hw:jF ops s.fr.get o=some (x==w):=by simp[jF,hg,ht,N]
     cases J:ga n o.dst with
     | false=>rw[J]at h; exact h.elim
     | true =>
      rw[J,cond_true]at h
      rcases h with⟨rfl,h⟩ | ⟨rfl,h⟩
      ·have Ku:yC (s.lg t true).kn (s.lg t true).fr.get:=XT hk N
       cases w with
       | true=>exact run (s.lg t true) rfl rfl rfl Ku hw h
       | false=>exact skip (s.lg t true) rfl rfl rfl Ku hw J h
      ·have Ku:yC (s.lg t false).kn (s.lg t false).fr.get:=XT hk N
       cases w with
       | true=>exact skip (s.lg t false) rfl rfl rfl Ku hw J h
       | false=>exact run (s.lg t false) rfl rfl rfl Ku hw h
    ·rename_i N
     have hw:jF ops s.fr.get o=some false:=by simp[jF,hg,ht,N]
     cases J:ga n o.dst with
     | false=>rw[J]at h; exact h.elim
     | true=>rw[J,cond_true]at h; exact skip s rfl rfl rfl hk hw J h
    ·exact h.elim
theorem rT:∀ (l:List Oper) (k0:Nat) (s s':oq),(∀ j,l[j]? = ops[k0+j]? \/ l.length<=j)->yC s.kn s.fr.get->(tA c n ops l s).leads s' ->
  ∃ ks,R3 c n ops (List.range' k0 l.length) (s.fr.get,s.st) (s'.fr.get,s'.st) ks/\yC s'.kn s'.fr.get/\s'.ks=ks.reverse++s.ks
 | [],k0,s,s',_,hk,h=>by cases h; exact⟨[],⟨rfl,rfl⟩,hk,rfl⟩
 | o::l,k0,s,s',R,hk,h=>by
  simp only[tA,T.xg]at h
  obtain⟨s1,h1,M⟩:=h
  have ho:ops[k0]? = some o:=by rcases R 0 with h | h<;>simp at h; exact h.symm
  obtain⟨k,g1,g2,g3⟩:=By ho hk h1
  obtain⟨ks,g4,g5,g6⟩:=rT l (k0+1) s1 s' (λj=>by have:=R (j+1); simpa[Nat.add_assoc,Nat.add_comm 1 j]using this) g2 M
  refine⟨k::ks,?_,g5,xy⟩
  exact⟨_,k,ks,rfl,g1,g4⟩
end
end Go.AM
namespace Go.AM
set_option linter.unusedSectionVars false
variable [yY]
section
variable {c:Ctx} {n:Nat} {ops:Array Oper}
theorem Xd{α:Type}{ρ ρ':α->Option D}(L:List (Nat×α))(h:∀ p∈L,ρ p.2=ρ' p.2):(L.map λp=>(p.1,ρ p.2))=L.map λp=>(p.1,ρ' p.2) :=
 zM λp hp=>by rw[h p hp]
theorem WU{ρ ρ':Operand->Option D}(o:Oper)(h:∀ x∈o.op.operands,ρ x=ρ' x):wP c ρ o=wP c ρ' o:=by
 obtain⟨dst,op,ty,pos,after,guard⟩:=o
 cases op with
 | move x=>simp only[wP]; rw[h x (by simp[zA])]
 | assign x=>simp only[wP]; rw[h x (by simp[zA])]
 | pick x a b=>simp only[wP]; rw[h x (by simp[zA]),h a (by simp[zA]),h b (by simp[zA])]
 | box t x=>simp only[wP]; rw[h x (by simp[zA])]
 | load t x=>simp only[wP]; rw[h x (by simp[zA])]
 | store t x y=>simp only[wP]; rw[h x (by simp[zA]),h y (by simp[zA])]
 | nilCheck x=>simp only[wP]; rw[h x (by simp[zA])]
 | binOp op t x y _=>simp only[wP]; rw[h x (by simp[zA]),h y (by simp[zA])]
 | typeAssert x xt t ok=>simp only[wP]; rw[h x (by simp[zA])]
 | unOp op t x=>simp only[wP]; rw[h x (by simp[zA])]
 | convert s t x=>simp only[wP]; rw[h x (by simp[zA])]
 | makeInterface t x=>simp only[wP]; rw[h x (by simp[zA])]
 | makeFunc fn first cap =>
  cases fn<;>simp only[wP]
  rw[zM (l:=cap.toList) (λx N=>h x (by simp[zA,zG.1 N])),zM (l:=first.toList) (λx N=>h x (by simp[zA,zG.1 N]))]
 | makeSlice t x y=>simp only[wP]; rw[h x (by simp[zA]),h y (by simp[zA])]
 | slice t x lo hi mx =>
  simp only[wP]
  have ho:∀ o:Option Operand,(∀ y,o=some y->ρ y=ρ' y)->o.map ρ=o.map ρ':=λo ho=>by
   cases o with
   | none=>rfl
   | some y=>grind
  rw[h x (by simp[zA]),ho lo (λy hy=>h y (by simp[zA,hy])),ho hi (λy hy=>h y (by simp[zA,hy])),ho mx (λy hy=>h y (by simp[zA,hy]))]
 | fieldAddr s x f=>simp only[wP]; rw[h x (by simp[zA])]
 | field s x f=>simp only[wP]; rw[h x (by simp[zA])]
 | indexAddr t x y=>simp only[wP]; rw[h x (by simp[zA]),h y (by simp[zA])]
 | lookup t x y _=>simp only[wP]; rw[h x (by simp[zA]),h y (by simp[zA])]
 | mapUpdate t x y z=>simp only[wP]; rw[h x (by simp[zA]),h y (by simp[zA]),h z (by simp[zA])]
 | index t x y=>simp only[wP]; rw[h x (by simp[zA]),h y (by simp[zA])]
 | extract x i=>simp only[wP]; rw[h x (by simp[zA])]
 | build t ps=>simp only[wP]; rw[Xd ps.toList λp hp=>h p.2 (by simp[zA]; exact⟨p.1,zG.1 hp⟩)]
 | buildSlice t k ps=>simp only[wP]; rw[Xd ps.toList λp hp=>h p.2 (by simp[zA]; exact⟨p.1,zG.1 hp⟩)]
 | call cl =>
  obtain⟨callee,args,sw⟩:=cl
  have fk:args.toList.map ρ=args.toList.map ρ':=zM λx N=>h x (by simp[zA,qK,zG.1 N])
  cases callee with
  | builtin b=>simp only[wP]; rw[fk]
  | value f=>simp only[wP]; rw[fk,h f (by simp[zA,qK])]
  | invoke r m=>rfl
 | _=>rfl
theorem HD{f:F}{dst:Option Nat}{d:Option D}{x:Operand}(h:∀ t,dst=some t->x≠.tmp t):wA (dQ f dst d) x=wA f x:=by
 cases dst with
 | none=>rfl
 | some t=>cases x with
  | tmp s=>simp only[wA,dQ]; rw[if_neg (λe=>h t rfl (by rw[e]))]
  | _=>rfl
theorem fy(f:F){a b:Option Nat}(d e:Option D)(h:∀ t,a=some t->b≠some t):dQ (dQ f a d) b e=dQ (dQ f b e) a d:=by
 cases a with
 | none=>rfl
 | some s=>cases b with
  | none=>rfl
  | some t =>
   simp only[dQ]
   grind
def Ind(ops:Array Oper)(kd:Nat->Nat)(p i:Nat):Prop:=∀ x y,ops[p]? = some x->ops[i]? = some y ->
 (∀ d,x.dst=some d->d ∉ tmpsOf ops y)/\(∀ d,y.dst=some d->d ∉ tmpsOf ops x)/\bM (kd p) (kd i)=false
theorem dN{o:Oper}{d:Nat}(h:o.dst=some d):d∈tmpsOf ops o:=by simp[tmpsOf,h]
theorem Xf{o:Oper}{d:Nat}(h:Operand.tmp d∈o.op.operands):d∈tmpsOf ops o:=by
 simp only[tmpsOf,xA,List.mem_filterMap]
 exact .inr ⟨.tmp d,xy,rfl⟩
theorem Xe{o:Oper}{j:Nat}{w:Bool}{d:Nat}(h:o.guard=some (j,w))(hg:bw ops j=some d):d∈tmpsOf ops o:=by
 simp[tmpsOf,h,hg]
theorem jz{f:F}{o:Oper}{dst:Option Nat}{d:Option D}(h:∀ t,dst=some t->t ∉ tmpsOf ops o):jF ops (dQ f dst d) o=jF ops f o:=by
 unfold jF
 cases hg:o.guard with
 | none=>rfl
 | some jw =>
  obtain⟨j,w⟩:=jw
  simp only
  cases hs:bw ops j with
  | none=>rfl
  | some t =>
   simp only
   have:dQ f dst d t=f t:=by
    cases dst with
    | none=>rfl
    | some s=>simp only[dQ]; rw[if_neg]; intro e; exact h s rfl (e▸Xe hg hs)
   rw[this]
theorem de{f:F}{o:Oper}{dst:Option Nat}{d:Option D}(h:∀ t,dst=some t->t ∉ tmpsOf ops o):wP c (wA (dQ f dst d)) o=wP c (wA f) o :=
 WU o λx N=>HD λt ht e=>h t ht (Xf (ops:=ops) (e▸N))
theorem sO{cl:dR}(h:cl.kind=0){st qm:St}{d:Option D}(R:(qu cl st).leads (d,qm)):qm=st/\∀ yZ,(qu cl yZ).leads (d,yZ):=by
 cases cl with
 | val t=>rw[kR]at R; exact⟨R.2,λyZ=>by rw[kR]; exact⟨R.1,rfl⟩⟩
 | rd k=>cases h
 | wr k=>cases h
theorem ng{cl:dR}(h:cl.kind<=1){st qm:St}{d:Option D}(R:(qu cl st).leads (d,qm)):qm=st:=by
 cases cl with
 | val t=>rw[kR]at R; exact R.2
 | rd k=>rw[rH]at R; exact R.2
 | wr k=>simp[dR.kind]at h
theorem U4(cl:dR):cl.kind<=2:=by cases cl<;>simp[dR.kind]
theorem Bz{kd:Nat->Nat}{p i:Nat}(hi:Ind ops kd p i){s s1 s2:F×St}(h1:eY c n ops p s s1 (kd p))(M:eY c n ops i s1 s2 (kd i)) :
  ∃ s',eY c n ops i s s' (kd i)/\eY c n ops p s' s2 (kd p):=by
 obtain⟨x,N,hdx,GH⟩:=h1
 obtain⟨y,hy,hdy,hy'⟩:=M
 obtain⟨a1,a2,a3⟩:=hi x y N hy
 have hdd:∀ t,x.dst=some t->y.dst≠some t:=λt ht e=>a1 t ht (dN e)
 obtain⟨f,st⟩:=s
 rcases GH with⟨hw,hk,d,dC,R,rfl⟩ | ⟨hw,hk,rfl⟩
 ·rcases hy' with⟨Kb,mZ,e,yZ,ZL,rfl⟩ | ⟨Kb,mZ,rfl⟩
  ·simp only[jz a1,de (c:=c) a1]at Kb mZ ZL
   simp only at hw hk R
   -- the two meet nowhere in the store
   have key:(qu (wP c (wA f) y) st).leads (e,(if(wP c (wA f) y).kind=2 then yZ else st))/\(qu (wP c (wA f) x) (if(wP c (wA f) y).kind=2 then yZ else st)).leads (d,yZ):=by
    rw[hk,mZ]at a3
    rcases qH (wP c (wA f) y).kind 2 with hy2 | hy2
    ·rw[if_neg (Z)]
     have e2:=ng (Z) ZL
     subst e2
     rcases qH (wP c (wA f) x).kind 2 with MN | MN
     ·have e1:=ng (Z) R
      grind
     ·have hx3:(wP c (wA f) x).kind=2:=qC (U4 _) MN
      have hy0:(wP c (wA f) y).kind=0:=by
       rw[hx3]at a3
       cases hy0:(wP c (wA f) y).kind with
       | zero=>rfl
       | succ m=>rw[hy0]at a3; simp[bM]at a3
      exact⟨(sO hy0 ZL).2 st,R⟩
    ·have hy3:(wP c (wA f) y).kind=2:=qC (U4 _) hy2
     rw[if_pos hy3]
     have Kv:(wP c (wA f) x).kind=0:=by
      rw[hy3]at a3
      cases Kv:(wP c (wA f) x).kind with
      | zero=>rfl
      | succ m=>rw[Kv]at a3; simp[bM]at a3
     obtain⟨e1,h3⟩:=sO Kv R
     grind
   refine⟨_,⟨y,hy,hdy,.inl ⟨Kb,mZ,e,_,key.1,rfl⟩⟩,x,N,hdx,.inl ⟨?_,?_,d,yZ,?_,?_⟩⟩
   ·rw[jz a2]; exact hw
   ·rw[de (c:=c) a2]; exact hk
   ·rw[de (c:=c) a2]; exact key.2
   ·simp only[fy f d e hdd]
  ·simp only[jz a1]at Kb
   refine⟨_,⟨y,hy,hdy,.inr ⟨Kb,mZ,rfl⟩⟩,x,N,hdx,.inl ⟨?_,?_,d,dC,?_,?_⟩⟩
   ·rw[jz a2]; exact hw
   ·rw[de (c:=c) a2]; exact hk
   ·rw[de (c:=c) a2]; exact R
   ·simp only[fy f d (some SS) hdd]
 ·rcases hy' with⟨Kb,mZ,e,yZ,ZL,rfl⟩ | ⟨Kb,mZ,rfl⟩
  ·simp only[jz a1,de (c:=c) a1]at Kb mZ ZL
   refine⟨_,⟨y,hy,hdy,.inl ⟨Kb,mZ,e,yZ,ZL,rfl⟩⟩,x,N,hdx,.inr ⟨?_,hk,?_⟩⟩
   ·rw[jz a2]; exact hw
   ·simp only[fy f (some SS) e hdd]
  ·simp only[jz a1]at Kb
   refine⟨_,⟨y,hy,hdy,.inr ⟨Kb,mZ,rfl⟩⟩,x,N,hdx,.inr ⟨?_,hk,?_⟩⟩
   ·rw[jz a2]; exact hw
   ·simp only[fy f (some SS) (some SS) hdd]
def Qg(c:Ctx)(n:Nat)(ops:Array Oper)(kd:Nat->Nat):List Nat->F×St->F×St->Prop
 | [],s,s'=>s'=s
 | i::l,s,s'=>∃ s1,eY c n ops i s s1 (kd i)/\Qg c n ops kd l s1 s'
theorem Gn{kd:Nat->Nat}{i:Nat}{post:List Nat}{s':F×St}:∀ {pre:List Nat} {s:F×St},(∀ p∈pre,Ind ops kd p i)->Qg c n ops kd (pre++i::post) s s' ->
  ∃ s1,eY c n ops i s s1 (kd i)/\Qg c n ops kd (pre++post) s1 s'
 | [],s,_,h=>h
 | p::pre,s,hp,⟨sp,h1,M⟩=>by
  obtain⟨s1,h3,h4⟩:=Gn (λq hq=>hp q (zS _ hq)) M
  obtain⟨s2,h5,h6⟩:=Bz (hp p zK) h1 h3
  exact⟨s2,h5,s1,h6,h4⟩
end
end Go.AM
namespace Go.AM
set_option linter.unusedSectionVars false
variable [yY]
section
variable (c:Ctx) (n:Nat) (ops:Array Oper)
def nE(i:Nat)(s s':F×St)(k:RK):Prop:=∃ o,ops[i]? = some o/\ga n o.dst=true /\
 ((jF ops s.1 o=some true/\k=vv c (wA s.1) s.2 o/\∃ d qm,(qu (wP c (wA s.1) o) s.2).leads (d,qm)/\s'=(dQ s.1 o.dst d,qm)) \/
  (jF ops s.1 o=some false/\k=.z 0/\s'=(dQ s.1 o.dst (some SS),s.2)))
def Mg:List Nat->F×St->F×St->List RK->Prop
 | [],s,s',ks=>s'=s/\ks=[]
 | i::l,s,s',ks=>∃ s1 k L4,ks=k::L4/\nE c n ops i s s1 k/\Mg l s1 s' L4
end
section
variable {c:Ctx} {n:Nat} {ops:Array Oper}
theorem nE.plain{i:Nat}{s s':F×St}{k:RK}(h:nE c n ops i s s' k):∃ k',eY c n ops i s s' k':=by
 obtain⟨o,h1,M,h3⟩:=h
 rcases h3 with⟨g1,_,g3⟩ | ⟨g1,_,g3⟩
 ·exact⟨_,o,h1,M,.inl ⟨g1,rfl,g3⟩⟩
 ·exact⟨_,o,h1,M,.inr ⟨g1,rfl,g3⟩⟩
theorem LK{i:Nat}{o:Oper}{s s':oq}(ho:ops[i]? = some o)(hk:yC s.kn s.fr.get)(h:(stepG c n ops o s).leads s') :
  ∃ k,nE c n ops i (s.fr.get,s.st) (s'.fr.get,s'.st) k/\yC s'.kn s'.fr.get/\s'.bk=k::s.bk:=by
 have bkS:∀ {s0:oq},(l0 c n o s0).leads s'->s'.bk=vv c (bq s0.fr) s0.st o::s0.bk:=by
  intro s0 h
  unfold l0 at h
  cases J:ga n o.dst with
  | false=>rw[J]at h; exact h.elim
  | true =>
   rw[J,cond_true]at h
   simp only[T.xg]at h
   obtain⟨⟨d,qm⟩,h1,rfl⟩:=h
   rfl
 have run:∀ (s0:oq),s0.fr=s.fr->s0.st=s.st->s0.bk=s.bk->yC s0.kn s0.fr.get->jF ops s.fr.get o=some true->(l0 c n o s0).leads s' ->
   ∃ k,nE c n ops i (s.fr.get,s.st) (s'.fr.get,s'.st) k/\yC s'.kn s'.fr.get/\s'.bk=k::s.bk:=by
  intro s0 e1 e2 e3 Dm hw h
  obtain⟨h1,⟨d,qm,M,h3,h4⟩,h5,h6⟩:=Gi Dm h
  have I:=bkS h
  rw[e1]at M h3 I
  rw[e2]at M I
  rw[e3]at I
  rw[ig]at I
  exact⟨_,⟨o,ho,h1,.inl ⟨hw,rfl,d,qm,M,by rw[h3,h4]⟩⟩,h5,I⟩
 have skip:∀ (s0:oq),s0.fr=s.fr->s0.st=s.st->s0.bk=s.bk->yC s0.kn s0.fr.get->jF ops s.fr.get o=some false->ga n o.dst=true->cG o s0=s' ->
   ∃ k,nE c n ops i (s.fr.get,s.st) (s'.fr.get,s'.st) k/\yC s'.kn s'.fr.get/\s'.bk=k::s.bk:=by
  intro s0 e1 e2 e3 Dm hw J h
  subst h
  refine⟨.z 0,⟨o,ho,J,.inr ⟨hw,rfl,?_⟩⟩,Pk Dm,by simp[cG,e3]⟩
  simp only[cG,ZI,e1,e2]
 unfold stepG at h
 split at h
 ·rename_i hg
  exact run s rfl rfl rfl hk (by simp[jF,hg]) h
 ·rename_i j w hg
  split at h
  ·exact h.elim
  ·rename_i t ht
   split at h
   ·rename_i b I
    have hf:=hk t b I
    have hw:jF ops s.fr.get o=some (b==w):=by simp[jF,hg,ht,hf]
    cases SZ:(b==w)with
    | true=>grind
    | false =>
     rw[SZ,cond_false]at h
     cases J:ga n o.dst with
     | false=>rw[J]at h; exact h.elim
     | true=>rw[J,cond_true]at h; exact skip s rfl rfl rfl hk (by rw[hw,SZ]) J h
   ·split at h
    ·rename_i x N
     have hw:jF ops s.fr.get o=some (x==w):=by simp[jF,hg,ht,N]
     cases J:ga n o.dst with
     | false=>rw[J]at h; exact h.elim
     | true =>
      rw[J,cond_true]at h
      rcases h with⟨rfl,h⟩ | ⟨rfl,h⟩
      ·have Ku:yC (s.lg t true).kn (s.lg t true).fr.get:=XT hk N
       cases w with
       | true=>exact run (s.lg t true) rfl rfl rfl Ku hw h
       | false=>exact skip (s.lg t true) rfl rfl rfl Ku hw J h
      ·have Ku:yC (s.lg t false).kn (s.lg t false).fr.get:=XT hk N
       cases w with
       | true=>exact skip (s.lg t false) rfl rfl rfl Ku hw J h
       | false=>exact run (s.lg t false) rfl rfl rfl Ku hw h
    ·rename_i N
     have hw:jF ops s.fr.get o=some false:=by simp[jF,hg,ht,N]
     cases J:ga n o.dst with
     | false=>rw[J]at h; exact h.elim
     | true=>rw[J,cond_true]at h; exact skip s rfl rfl rfl hk hw J h
    ·exact h.elim
theorem JU:∀ (l:List Oper) (k0:Nat) (s s':oq),(∀ j,l[j]? = ops[k0+j]? \/ l.length<=j)->yC s.kn s.fr.get->(tA c n ops l s).leads s' ->
  ∃ ks,Mg c n ops (List.range' k0 l.length) (s.fr.get,s.st) (s'.fr.get,s'.st) ks/\s'.bk=ks.reverse++s.bk
 | [],k0,s,s',_,hk,h=>by cases h; exact⟨[],⟨rfl,rfl⟩,rfl⟩
 | o::l,k0,s,s',R,hk,h=>by
  simp only[tA,T.xg]at h
  obtain⟨s1,h1,M⟩:=h
  have ho:ops[k0]? = some o:=by rcases R 0 with h | h<;>simp at h; exact h.symm
  obtain⟨k,g1,g2,g3⟩:=LK ho hk h1
  obtain⟨ks,g4,g6⟩:=JU l (k0+1) s1 s' (λj=>by have:=R (j+1); simpa[Nat.add_assoc,Nat.add_comm 1 j]using this) g2 M
  refine⟨k::ks,?_,xy⟩
  exact⟨_,k,ks,rfl,g1,g4⟩
theorem YL{m b:Nat}{l:List Nat}:b∈others m l↔b<m/\∀ x∈l,b≠x:=by
 simp only[others]
 simp
theorem CU{d:Option D}{b:Nat}(h:zcS d=some b):(∃ off,d=some (.ptr b off))\/∃ v e i off,d=some (.gG b v e i off):=by
 cases d with
 | none=>cases h
 | some d=>cases d<;>first | (cases h; exact .inl ⟨_,rfl⟩) | (cases h; exact .inr ⟨_,_,_,_,rfl⟩) | cases h
theorem ru{bi:Builtin}{l:List (Option D)}{st:St}:HO bi l st=.z 2\/(∃ b v e off len x,bi=.append/\l=[some (.ms b v e off len),some x]/\U1 x=false/\HO bi l st=.up b)\/∃ x,bi=.append/\l=[some .wE,some x]/\U1 x=false/\HO bi l st=.wr (others st.length []):=by
 unfold HO
 grind
theorem Yt(ρ:Operand->Option D)(st:St)(o:Oper):(vv c ρ st o).base=(wP c ρ o).kind:=by
 unfold vv
 split
 ·rename_i h
  rw[h]
  cases o.op with
  | load t a=>simp only; split<;>rfl
  | _=>rfl
 ·rename_i h
  rw[h]
  cases o.op with
  | call cl =>
   cases hc:cl.callee with
   | builtin bi =>
    simp only[hc]
    rcases ru (bi:=bi) (l:=cl.args.toList.map ρ)with e | ⟨b,v,e,off,len,x,_,_,_,e⟩ | ⟨x,_,_,_,e⟩<;>rw[e]<;>rfl
   | value f=>simp only[hc]; split<;>first | rfl | (split<;>rfl)
   | _=>simp only[hc]; rfl
  | store t a v=>simp only; split<;>rfl
  | _=>rfl
 ·rfl
theorem JG{ρ:Operand->Option D}{o:Oper}(h:(wP c ρ o).kind<=1)(st qm:St):vv c ρ st o=vv c ρ qm o:=by
 unfold vv
 grind
theorem nc{ρ:Operand->Option D}{st:St}{o:Oper}{b:Nat}(h:vv c ρ st o=.rd b){dC yZ Hb:St}{d:Option D}(R:(qu (wP c ρ o) dC).leads (d,Hb))(I:yZ[b]? = dC[b]?):(qu (wP c ρ o) yZ).leads (d,yZ):=by
 obtain⟨dst,op,ty,pos,after,guard⟩:=o
 cases op with
 | load t a =>
  have h':(∃ off,ρ a=some (.ptr b off))\/∃ v e i off,ρ a=some (.gG b v e i off):=by
   unfold vv at h
   simp only at h
   split at h
   ·split at h
    ·rename_i b' ha; cases h; exact CU ha
    ·cases h
   ·cases h
   ·cases h
  have he:wP c ρ ⟨dst,.load t a,ty,pos,after,guard⟩=WZ c t (ρ a):=rfl
  rcases h' with⟨off,ha⟩ | ⟨v,e,i,off,ha⟩
  all_goals
   rw[he,ha]at R ⊢
   simp only[WZ]at R ⊢
   rw[rH]at R ⊢
   grind
 | call cl =>
  obtain⟨callee,args,sw⟩:=cl
  unfold vv at h
  split at h
  ·cases h
  ·cases callee with
   | builtin bi =>
    simp only at h
    rcases ru (bi:=bi) (l:=args.toList.map ρ)with e | ⟨b,v,e,off,len,x,_,_,_,e⟩ | ⟨x,_,_,_,e⟩<;>rw[e]at h<;>cases h
   | value f=>grind
   | _=>cases h
  ·cases h
 | _ =>
  unfold vv at h
  grind
theorem EH{ρ:Operand->Option D}{st:St}{o:Oper}{A:List Nat}(h:vv c ρ st o=.wr A){qm:St}{d:Option D}(R:(qu (wP c ρ o) st).leads (d,qm)):∀ b∈A,qm[b]? = st[b]? := by
 obtain⟨dst,op,ty,pos,after,guard⟩:=o
 cases op with
 | alloc t =>
  exfalso
  unfold vv at h
  grind
 | store t a v =>
  exfalso
  unfold vv at h
  grind
 | call cl =>
  obtain⟨callee,args,sw⟩:=cl
  cases callee with
  | value f =>
   have h':(wP c ρ ⟨dst,.call ⟨.value f,args,sw⟩,ty,pos,after,guard⟩).kind=2/\∃ g caps l,ρ f=some (.wh g caps)/\gA (args.toList.map ρ)=some l/\A=c.free (ea g) (bH g l caps) st:=by
    unfold vv at h
    grind
   obtain⟨hk,g,caps,l,hg,IV,rfl⟩:=h'
   intro b I
   have he:wP c ρ ⟨dst,.call ⟨.value f,args,sw⟩,ty,pos,after,guard⟩=eO c (ρ f) (args.toList.map ρ):=rfl
   rw[he,hg]at R hk
   simp only[eO,IV]at R hk
   split at R
   ·rename_i s hs
    rw[hs]at hk
    simp only[en]at hk
    cases hn:(!(bH g l caps).any Jh)<;>rw[hn]at hk<;>simp[dR.kind]at hk
   ·simp only[sA,qu,T.xg]at R
    obtain⟨⟨rs,dC⟩,h1,M⟩:=R
    cases rs with
    | ret ds=>cases M; exact c.z03 _ _ _ _ _ b h1 I
    | hZ p=>exact M.elim
  | builtin bi =>
   have h':bi=.append/\∃ x,args.toList.map ρ=[some .wE,some x]/\U1 x=false/\A=others st.length []:=by
    unfold vv at h
    simp only at h
    split at h
    ·cases h
    ·rcases ru (bi:=bi) (l:=args.toList.map ρ) (st:=st)with e | ⟨b,v,e,off,len,x,_,_,_,e⟩ | ⟨x,h1,M,h3,e⟩<;>rw[e]at h<;>cases h
     exact⟨h1,x,M,h3,rfl⟩
    ·cases h
   obtain⟨rfl,x,N,hm,rfl⟩:=h'
   have he:wP c ρ ⟨dst,.call ⟨.builtin .append,args,sw⟩,ty,pos,after,guard⟩=lJ c .append sw.toList (args.toList.map ρ):=rfl
   rw[he,N]at R
   intro b I
   have I:=(YL.1 I).1
   have one:∀ {e':Ty} {ys:List (den e')} {ne:Bool} {XH:Nat},(bj e' .wE ys ne XH st).leads (d,qm)->qm[b]? = st[b]? := by
    intro e' ys ne XH R
    simp only[bj,pg]at R
    cases ne with
    | true=>obtain⟨_,R⟩:=R; cases R; exact zI I
    | false =>
     rcases R with⟨_,R⟩ | ⟨_,R⟩
     ·cases R; rfl
     ·obtain⟨_,R⟩:=R; cases R; exact zI I
   have snp:∀ yZ,Zb yZ x=.ret x:=λyZ=>by cases x<;>first | rfl | cases hm
   generalize sw.toList=tl at R
   rcases tl with _ | ⟨t,_ | ⟨t',_ | ⟨t'',tl⟩⟩⟩
   ·exact absurd R zh
   ·exact absurd R zh
   rotate_left
   ·exact absurd R zh
   ·
    simp only[lJ]at R
    cases ht:zU t t' with
    | true =>
     rw[ht,cond_true]at R
     unfold QF at R
     cases het:mU c t with
     | none=>rw[het]at R; exact absurd R zh
     | some et =>
      rw[het]at R
      simp only at R
      cases h1:Gr c 20 et with
      | none=>rw[h1]at R; exact absurd R zh
      | some ee =>
       rw[h1]at R
       try simp only at R
       cases M:pH c et with
       | none=>rw[M]at R; exact absurd R zh
       | some bytes =>
        rw[M]at R
        simp only at R
        cases hc:bZ c et ee&&qL 0 ee.size&&qL 0 bytes&&(zeroOf c et ee).isSome with
        | false=>rw[hc]at R; exact absurd R zh
        | true =>
         rw[hc,cond_true]at R
         simp only[cond_true,qu,snp,T.bind]at R
         cases x<;>simp only at R<;>first | exact R.elim | exact one R | skip
         ·split at R
          ·exact one R
          ·exact R.elim
         ·split at R
          ·exact one R
          ·exact R.elim
    | false =>
     rw[ht,cond_false]at R
     unfold tJ at R
     cases het:mU c t with
     | none=>rw[het]at R; exact absurd R zh
     | some et =>
      rw[het]at R
      simp only at R
      split at R
      ·rename_i bytes h1 M h3
       cases hc:bZ c et (.int .u8)&&qL 0 bytes&&(zeroOf c et (.int .u8)).isSome with
       | false=>rw[hc]at R; exact absurd R zh
       | true =>
        rw[hc,cond_true]at R
        split at R
        ·rename_i s l e1 e2
         cases e1
         cases e2
         simp only[qu]at R
         exact one R
        ·exact absurd R zh
      ·exact absurd R zh
  | invoke r m =>
   exfalso
   unfold vv at h
   simp only at h
   split at h<;>cases h
 | _ =>
  exfalso
  unfold vv at h
  simp only at h
  split at h
  ·first
    | cases h
    | (split at h<;>cases h)
  ·cases h
  ·cases h
theorem Ys{ρ:Operand->Option D}{st:St}{o:Oper}{A:List Nat}(h:vv c ρ st o=.al A){qm:St}{d:Option D}(R:(qu (wP c ρ o) st).leads (d,qm)) :
  (∀ b∈A,qm[b]? = st[b]?)/\A=others st.length []/\∃ z,qm=st++[.var z]/\d=some (.ptr st.length 0)/\∀ yZ:St,(qu (wP c ρ o) yZ).leads (some (.ptr yZ.length 0),yZ++[.var z])/\vv c ρ yZ o=.al (others yZ.length []):=by
 obtain⟨dst,op,ty,pos,after,guard⟩:=o
 cases op with
 | alloc t =>
  have M:(wP c ρ ⟨dst,.alloc t,ty,pos,after,guard⟩).kind=2/\A=others st.length []:=by
   unfold vv at h
   grind
  obtain⟨hk,rfl⟩:=M
  have R:(qu (ow c t) st).leads (d,qm):=R
  unfold ow at R
  split at R
  ·rename_i z hz
   have R:(some (D.ptr st.length 0),st++[cJ.var z])=(d,qm):=R
   cases R
   refine⟨λb I => ?_,rfl,z,rfl,rfl,λyZ=>⟨?_,?_⟩⟩
   ·obtain⟨I,_⟩:=YL.1 I
    exact zI I
   ·show(qu (ow c t) yZ).leads _
    unfold ow
    rw[hz]
    rfl
   ·unfold vv
    simp only[hk]
  ·exact absurd R zh
 | call cl =>
  exfalso
  obtain⟨callee,args,sw⟩:=cl
  unfold vv at h
  cases callee with
  | builtin bi =>
   simp only at h
   split at h
   ·cases h
   ·rcases ru (bi:=bi) (l:=args.toList.map ρ)with e | ⟨b,v,e,off,len,x,_,_,_,e⟩ | ⟨x,_,_,_,e⟩<;>rw[e]at h<;>cases h
   ·cases h
  | value f=>grind
  | invoke r m=>grind
 | _ =>
  exfalso
  unfold vv at h
  grind
theorem Yv{ρ:Operand->Option D}{st:St}{o:Oper}{oE:List Nat}(h:vv c ρ st o=.wc oE){qm:St}{d:Option D}(R:(qu (wP c ρ o) st).leads (d,qm)) :
  qm.length=st.length/\(∀ b,b<st.length->b ∉ oE->qm[b]? = st[b]?)/\(∀ x,(qu (wP c ρ o) (st++[x])).leads (d,qm++[x]))/\∀ yZ,vv c ρ yZ o=.wc oE:=by
 obtain⟨dst,op,ty,pos,after,guard⟩:=o
 cases op with
 | call cl =>
  obtain⟨callee,args,sw⟩:=cl
  cases callee with
  | value f =>
   have h':(wP c ρ ⟨dst,.call ⟨.value f,args,sw⟩,ty,pos,after,guard⟩).kind=2/\∃ g caps l,ρ f=some (.wh g caps)/\gA (args.toList.map ρ)=some l/\c.Qt (ea g) (bH g l caps)=some oE:=by
    unfold vv at h
    grind
   obtain⟨hk,g,caps,l,hg,IV,hU⟩:=h'
   have mZ:=hk
   have he:wP c ρ ⟨dst,.call ⟨.value f,args,sw⟩,ty,pos,after,guard⟩=eO c (ρ f) (args.toList.map ρ):=rfl
   rw[he,hg]at R hk
   simp only[eO,IV]at R hk
   split at R
   ·rename_i s hs
    rw[hs]at hk
    simp only[en]at hk
    cases hn:(!(bH g l caps).any Jh)<;>rw[hn]at hk<;>simp[dR.kind]at hk
   ·rename_i hs
    simp only[sA,qu,T.xg]at R
    obtain⟨⟨rs,dC⟩,h1,M⟩:=R
    cases rs with
    | hZ p=>exact M.elim
    | ret ds =>
     cases M
     obtain⟨q1,q2,q3⟩:=c.Pq _ _ _ _ _ _ hU h1
     refine⟨q1,q2,λx => ?_,λyZ => ?_⟩
     ·rw[he,hg]
      simp only[eO,IV,hs]
      simp only[sA,qu,T.xg]
      exact⟨_,q3 x,rfl⟩
     ·unfold vv
      rw[mZ]
      simp only[hg,IV,hU]
  | builtin bi =>
   exfalso
   unfold vv at h
   simp only at h
   split at h
   ·cases h
   ·rcases ru (bi:=bi) (l:=args.toList.map ρ)with e | ⟨b,v,e,off,len,x,_,_,_,e⟩ | ⟨x,_,_,_,e⟩<;>rw[e]at h<;>cases h
   ·cases h
  | invoke r m =>
   exfalso
   unfold vv at h
   grind
 | _ =>
  exfalso
  unfold vv at h
  grind
theorem Yu{ρ:Operand->Option D}{st:St}{o:Oper}{b:Nat}(h:vv c ρ st o=.rd b){dC Hb:St}{d:Option D}(R:(qu (wP c ρ o) dC).leads (d,Hb)):b<dC.length:=by
 rcases qH b dC.length with g | g
 ·exact g
 ·exfalso
  have hn:dC[b]? = none:=qJ g
  obtain⟨dst,op,ty,pos,after,guard⟩:=o
  cases op with
  | load t a =>
   have h':(∃ off,ρ a=some (.ptr b off))\/∃ v e i off,ρ a=some (.gG b v e i off):=by
    unfold vv at h
    simp only at h
    split at h
    ·split at h
     ·rename_i b' ha; cases h; exact CU ha
     ·cases h
    ·cases h
    ·cases h
   have he:wP c ρ ⟨dst,.load t a,ty,pos,after,guard⟩=WZ c t (ρ a):=rfl
   rcases h' with⟨off,ha⟩ | ⟨v,e,i,off,ha⟩
   all_goals
    rw[he,ha]at R
    simp only[WZ]at R
    rw[rH]at R
    simp only[hn]at R
    exact R.1.elim
  | call cl =>
   obtain⟨callee,args,sw⟩:=cl
   unfold vv at h
   split at h
   ·cases h
   ·cases callee with
    | builtin bi =>
     simp only at h
     rcases ru (bi:=bi) (l:=args.toList.map ρ)with e | ⟨b,v,e,off,len,x,_,_,_,e⟩ | ⟨x,_,_,_,e⟩<;>rw[e]at h<;>cases h
    | value f=>grind
    | _=>cases h
   ·cases h
  | _ =>
   unfold vv at h
   grind
theorem U2{ρ:Operand->Option D}{st:St}{o:Oper}{b:Nat}(h:vv c ρ st o=.up b){dC Hb:St}{d:Option D}(R:(qu (wP c ρ o) dC).leads (d,Hb)) :
  ∃ y,Hb=dC.set b y/\∀ yZ:St,yZ[b]? = dC[b]? -> (qu (wP c ρ o) yZ).leads (d,yZ.set b y):=by
 obtain⟨dst,op,ty,pos,after,guard⟩:=o
 cases op with
 | store t a v =>
  have h':(∃ off,ρ a=some (.ptr b off))\/∃ v e i off,ρ a=some (.gG b v e i off):=by
   unfold vv at h
   simp only at h
   split at h
   ·cases h
   ·split at h
    ·rename_i b ha; cases h; exact CU ha
    ·cases h
   ·cases h
  have he:wP c ρ ⟨dst,.store t a v,ty,pos,after,guard⟩=KI c t (ρ a) (ρ v):=rfl
  rw[he]at R ⊢
  cases hv:ρ v with
  | none =>
   rw[hv]at R
   rcases h' with⟨off,ha⟩ | ⟨w,e,i,off,ha⟩<;>(rw[ha]at R; exact absurd R zh)
  | some x =>
   rw[hv]at R
   rcases h' with⟨off,ha⟩ | ⟨w,e,i,off,ha⟩
   ·rw[ha]at R ⊢
    have R:(match dC[b]? with
     | some (.var d)=>match H8 c t d off x with | some r=>bif ZY d r then T.ret ((none:Option D),dC.set b (.var r))else .fail | none=>.fail
     | _=>.fail:T (Option D×St)).leads (d,Hb):=R
    split at R
    ·rename_i d0 I
     split at R
     ·rename_i r hr
      cases ho:ZY d0 r with
      | false=>rw[ho]at R; exact R.elim
      | true =>
       rw[ho]at R
       cases R
       refine⟨.var r,rfl,λyZ M => ?_⟩
       show(match yZ[b]? with
        | some (.var d)=>match H8 c t d off x with | some r=>bif ZY d r then T.ret ((none:Option D),yZ.set b (.var r))else .fail | none=>.fail
        | _=>.fail:T (Option D×St)).leads _
       rw[M,I]
       simp only[hr,ho,cond_true]
       rfl
     ·exact R.elim
    ·exact R.elim
   ·rw[ha]at R ⊢
    have R:(match dC[b]? with
     | some (.arr dD e' xs)=>bif decide (e'=e)then
       .W (w=dD/\i<xs.length) (match H8 c t (.qj e' (xs.getD i (zb e'))) off x with
        | some r=>match ox e' r with | some y=>T.ret ((none:Option D),dC.set b (.arr dD e' (xs.set i y))) | none=>.fail
        | none=>.fail)
      else .fail
     | _=>.fail:T (Option D×St)).leads (d,Hb):=R
    split at R
    ·rename_i dD e' xs I
     cases J:decide (e'=e)with
     | false=>rw[J]at R; exact R.elim
     | true =>
      rw[J,cond_true]at R
      obtain⟨ho,R⟩:=R
      split at R
      ·rename_i r hr
       split at R
       ·rename_i y hy
        cases R
        refine⟨.arr dD e' (xs.set i y),rfl,λyZ M => ?_⟩
        show(match yZ[b]? with
         | some (.arr dD e' xs)=>bif decide (e'=e)then
           .W (w=dD/\i<xs.length) (match H8 c t (.qj e' (xs.getD i (zb e'))) off x with
            | some r=>match ox e' r with | some y=>T.ret ((none:Option D),yZ.set b (.arr dD e' (xs.set i y))) | none=>.fail
            | none=>.fail)
          else .fail
         | _=>.fail:T (Option D×St)).leads _
        rw[M,I]
        simp only[J,cond_true,hr,hy]
        exact⟨ho,rfl⟩
       ·exact R.elim
      ·exact R.elim
    ·exact R.elim
 | call cl =>
  obtain⟨callee,args,sw⟩:=cl
  cases callee with
  | builtin bi =>
   have h':bi=.append/\∃ v e off len x,args.toList.map ρ=[some (.ms b v e off len),some x]/\U1 x=false:=by
    unfold vv at h
    simp only at h
    split at h
    ·cases h
    ·rcases ru (bi:=bi) (l:=args.toList.map ρ) (st:=st)with e | ⟨b',v,e,off,len,x,h1,M,h3,e'⟩ | ⟨x,h1,M,h3,e'⟩
     ·grind
     ·rw[e']at h; cases h; exact⟨h1,v,e,off,len,x,M,h3⟩
     ·rw[e']at h; cases h
    ·cases h
   obtain⟨rfl,v,e,off,len,x,N,hm⟩:=h'
   have he:wP c ρ ⟨dst,.call ⟨.builtin .append,args,sw⟩,ty,pos,after,guard⟩=lJ c .append sw.toList (args.toList.map ρ):=rfl
   rw[he,N]at R ⊢
   -- what the row gets
   have one:∀ {e':Ty} {ys:List (den e')} {ne:Bool} {XH:Nat},(bj e' (.ms b v e off len) ys ne XH dC).leads (d,Hb)->∃ y,Hb=dC.set b y/\∀ yZ:St,yZ[b]? = dC[b]? -> (bj e' (.ms b v e off len) ys ne XH yZ).leads (d,yZ.set b y):=by
    intro e' ys ne XH R
    simp only[bj]at R
    split at R
    ·rename_i dD e'' xs I
     split at R
     ·rename_i zs hz
      cases J:decide (e=e')with
      | false=>rw[J]at R; exact R.elim
      | true =>
       rw[J,cond_true]at R
       obtain⟨ho,R⟩:=R
       cases R
       refine⟨_,rfl,λyZ M => ?_⟩
       simp only[bj]
       rw[M,I]
       simp only[hz,J,cond_true]
       exact⟨ho,rfl⟩
     ·exact R.elim
    ·exact R.elim
   have snp:∀ yZ,Zb yZ x=.ret x:=λyZ=>by cases x<;>first | rfl | cases hm
   generalize sw.toList=tl at R ⊢
   rcases tl with _ | ⟨t,_ | ⟨t',_ | ⟨t'',tl⟩⟩⟩
   ·exact absurd R zh
   ·exact absurd R zh
   rotate_left
   ·exact absurd R zh
   ·
    simp only[lJ]at R ⊢
    cases ht:zU t t' with
    | true =>
     rw[ht,cond_true]at R
     simp only[cond_true]
     unfold QF at R ⊢
     cases het:mU c t with
     | none=>rw[het]at R; exact absurd R zh
     | some et =>
      rw[het]at R
      simp only at R ⊢
      cases h1:Gr c 20 et with
      | none=>rw[h1]at R; exact absurd R zh
      | some ee =>
       rw[h1]at R
       try simp only at R ⊢
       cases M:pH c et with
       | none=>rw[M]at R; exact absurd R zh
       | some bytes =>
        rw[M]at R
        simp only at R ⊢
        cases hc:bZ c et ee&&qL 0 ee.size&&qL 0 bytes&&(zeroOf c et ee).isSome with
        | false=>rw[hc]at R; exact absurd R zh
        | true =>
         rw[hc,cond_true]at R
         simp only[cond_true,qu,snp,T.bind]at R ⊢
         cases x<;>simp only at R ⊢ <;> first | exact R.elim | exact one R | skip
         ·split at R
          ·exact one R
          ·exact R.elim
         ·split at R
          ·exact one R
          ·exact R.elim
    | false =>
     rw[ht,cond_false]at R
     simp only[cond_false]
     unfold tJ at R ⊢
     cases het:mU c t with
     | none=>rw[het]at R; exact absurd R zh
     | some et =>
      rw[het]at R
      simp only at R ⊢
      split at R
      ·rename_i bytes h1 M h3
       cases hc:bZ c et (.int .u8)&&qL 0 bytes&&(zeroOf c et (.int .u8)).isSome with
       | false=>rw[hc]at R; exact absurd R zh
       | true =>
        rw[hc,cond_true]at R
        simp only[cond_true]
        split at R
        ·rename_i s l e1 e2
         cases e1
         cases e2
         simp only[qu]at R ⊢
         exact one R
        ·exact absurd R zh
      ·exact absurd R zh
  | _ =>
   exfalso
   unfold vv at h
   simp only at h
   split at h
   ·cases h
   ·first | cases h | (split at h<;>first | cases h | (split at h<;>cases h))
   ·cases h
 | _ =>
  exfalso
  unfold vv at h
  simp only at h
  split at h
  ·first
    | cases h
    | (split at h<;>cases h)
  ·cases h
  ·cases h
theorem Bi:∀ (l:List Nat) (s s':F×St) (ks:List RK),Mg c n ops l s s' ks->ks.length=l.length
 | [],_,_,_,h=>by rw[h.2]; rfl
 | i::l,s,s',ks,⟨s1,k,L4,e,h1,M⟩=>by subst e; simp[Bi l s1 s' L4 M]
theorem X8{ρ:Operand->Option D}{st:St}{o:Oper}{b:Nat}(h:vv c ρ st o=.up b)(qm:St):vv c ρ qm o=.up b:=by
 obtain⟨dst,op,ty,pos,after,guard⟩:=o
 cases op with
 | alloc t =>
  unfold vv at h
  grind
 | call cl =>
  obtain⟨callee,args,sw⟩:=cl
  cases callee with
  | value f =>
   unfold vv at h
   grind
  | builtin bi =>
   unfold vv at h ⊢
   simp only at h ⊢
   unfold HO at h ⊢
   grind
  | _=>exact h
 | _=>exact h
def zaz(ops:Array Oper)(kd:Nat->RK)(p i:Nat):Prop:=∀ x y,ops[p]? = some x->ops[i]? = some y ->
 (∀ d,x.dst=some d->d ∉ tmpsOf ops y)/\(∀ d,y.dst=some d->d ∉ tmpsOf ops x)/\yE (kd p) (kd i)=false
theorem XS{f:F}{o:Oper}{dst:Option Nat}{d:Option D}{st:St}(h:∀ t,dst=some t->t ∉ tmpsOf ops o):vv c (wA (dQ f dst d)) st o=vv c (wA f) st o:=by
 have e1:wP c (wA (dQ f dst d)) o=wP c (wA f) o:=de h
 have e2:∀ x∈o.op.operands,wA (dQ f dst d) x=wA f x:=λx N=>HD λt ht e=>h t ht (Xf (ops:=ops) (e▸N))
 obtain⟨dd,op,ty,pos,after,guard⟩:=o
 unfold vv
 rw[e1]
 cases op with
 | load t a=>simp only[e2 a (by simp[zA])]
 | store t a v=>simp only[e2 a (by simp[zA])]
 | call cl =>
  obtain⟨callee,args,sw⟩:=cl
  cases callee with
  | value g =>
   have fk:args.toList.map (wA (dQ f dst d))=args.toList.map (wA f):=zM λx N=>e2 x (by simp[zA,qK,zG.1 N])
   simp only[fk,e2 g (by simp[zA,qK])]
  | builtin bi =>
   have fk:args.toList.map (wA (dQ f dst d))=args.toList.map (wA f):=zM λx N=>e2 x (by simp[zA,qK,zG.1 N])
   grind
  | _=>rfl
 | _=>rfl
theorem LL{kd:Nat->RK}{p i:Nat}(hi:zaz ops kd p i){s s1 s2:F×St}(h1:nE c n ops p s s1 (kd p))(M:nE c n ops i s1 s2 (kd i)) :
  ∃ s',nE c n ops i s s' (kd i)/\nE c n ops p s' s2 (kd p):=by
 obtain⟨x,N,hdx,GH⟩:=h1
 obtain⟨y,hy,hdy,hy'⟩:=M
 obtain⟨a1,a2,a3⟩:=hi x y N hy
 have hdd:∀ t,x.dst=some t->y.dst≠some t:=λt ht e=>a1 t ht (dN e)
 obtain⟨f,st⟩:=s
 rcases GH with⟨hw,hk,d,dC,R,rfl⟩ | ⟨hw,hk,rfl⟩
 ·rcases hy' with⟨Kb,mZ,e,yZ,ZL,rfl⟩ | ⟨Kb,mZ,rfl⟩
  ·simp only[jz a1,de (c:=c) a1,XS (c:=c) a1]at Kb mZ ZL
   simp only at hw hk R
   -- the two meet nowhere in the store
   have key:∃ qm,(qu (wP c (wA f) y) st).leads (e,qm)/\(qu (wP c (wA f) x) qm).leads (d,yZ)/\vv c (wA f) st y=kd i/\vv c (wA f) qm x=kd p:=by
    have bx:=Yt (c:=c) (wA f) st x
    have XH:=Yt (c:=c) (wA f) dC y
    rw[<- hk]at bx
    rw[<- mZ]at XH
    rcases qH (wP c (wA f) x).kind 2 with MN | MN
    ·-- x writes nothing
     have e1:=ng (Z) R
     subst e1
     refine⟨yZ,ZL,?_,mZ.symm,(JG (Z) yZ dC).trans hk.symm⟩
     rcases qH (wP c (wA f) y).kind 2 with hy2 | hy2
     ·have e2:=ng (Z) ZL
      grind
     ·have hy3:(wP c (wA f) y).kind=2:=qC (U4 _) hy2
      cases hp:kd p with
      | rd b =>
       cases hq:kd i with
       | wr A =>
        rw[hp,hq]at a3
        simp only[yE,qD,zO]at a3
        obtain⟨b',K9,IL⟩:=a3
        have:=Y IL
        subst this
        exact nc (by rw[<- hk]; exact hp) R (EH (by rw[<- mZ]; exact hq) ZL b K9)
       | al A =>
        rw[hp,hq]at a3
        simp only[yE,qD,zO]at a3
        obtain⟨b',K9,IL⟩:=a3
        have:=Y IL
        subst this
        exact nc (by rw[<- hk]; exact hp) R ((Ys (by rw[<- mZ]; exact hq) ZL).1 b K9)
       | wc oE =>
        rw[hp,hq]at a3
        have hbu:b ∉ oE:=λhm=>by
         simp only[yE,qQ]at a3
         exact a3 b hm (Nat.beq_refl b)
        exact nc (by rw[<- hk]; exact hp) R ((Yv (by rw[<- mZ]; exact hq) ZL).2.1 b (Yu (by rw[<- hk]; exact hp) R) hbu)
       | rd b'=>rw[hq]at XH; simp[RK.base]at XH; omega
       | z k=>rw[hp,hq]at a3; rw[hq,hy3]at XH; simp only[RK.base]at XH; subst XH; simp[yE,bM,RK.base]at a3
       | up a =>
        rw[hp,hq]at a3
        have hab:a≠b:=λe=>by subst e; simp[yE]at a3
        obtain⟨z,e1,_⟩:=U2 (by rw[<- mZ]; exact hq) ZL
        subst e1
        exact nc (by rw[<- hk]; exact hp) R (by rw[zE hab])
      | wr A=>rw[hp]at bx; simp[RK.base]at bx; omega
      | al A=>rw[hp]at bx; simp[RK.base]at bx; omega
      | wc A=>rw[hp]at bx; simp[RK.base]at bx; omega
      | up A=>rw[hp]at bx; simp[RK.base]at bx; omega
      | z k =>
       rw[hp]at bx
       simp only[RK.base]at bx
       have Dm:k=0:=by
        cases hq:kd i with
        | wr A =>
         rw[hp,hq]at a3
         simp only[yE,RK.base,bM]at a3
         cases k with
         | zero=>rfl
         | succ m=>simp at a3
        | al A =>
         rw[hp,hq]at a3
         simp only[yE,RK.base,bM]at a3
         cases k with
         | zero=>rfl
         | succ m=>simp at a3
        | wc A =>
         rw[hp,hq]at a3
         simp only[yE,RK.base,bM]at a3
         cases k with
         | zero=>rfl
         | succ m=>simp at a3
        | rd b'=>rw[hq]at XH; simp[RK.base]at XH; omega
        | z k' =>
         rw[hq,hy3]at XH
         simp only[RK.base]at XH
         subst XH
         rw[hp,hq]at a3
         simp only[yE,RK.base,bM]at a3
         cases k with
         | zero=>rfl
         | succ m=>simp at a3
        | up A =>
         rw[hp,hq]at a3
         simp only[yE,RK.base,bM]at a3
         cases k with
         | zero=>rfl
         | succ m=>simp at a3
       subst Dm
       exact(sO bx.symm R).2 yZ
    ·have hx3:(wP c (wA f) x).kind=2:=qC (U4 _) MN
     -- x writes
     rcases qH (wP c (wA f) y).kind 2 with hy2 | hy2
     ·have e2:=ng (Z) ZL
      subst e2
      refine⟨st,?_,R,(JG (Z) st yZ).trans mZ.symm,hk.symm⟩
      cases hq:kd i with
      | wr A=>rw[hq]at XH; simp[RK.base]at XH; omega
      | al A=>rw[hq]at XH; simp[RK.base]at XH; omega
      | wc A=>rw[hq]at XH; simp[RK.base]at XH; omega
      | up A=>rw[hq]at XH; simp[RK.base]at XH; omega
      | rd b =>
       cases hp:kd p with
       | wr A =>
        rw[hp,hq]at a3
        simp only[yE,qD,zO]at a3
        obtain⟨b',K9,IL⟩:=a3
        have:=Y IL
        subst this
        exact nc (st:=yZ) (by rw[<- mZ]; exact hq) ZL (EH (by rw[<- hk]; exact hp) R b K9).symm
       | al A =>
        rw[hp,hq]at a3
        simp only[yE,qD,zO]at a3
        obtain⟨b',K9,IL⟩:=a3
        have:=Y IL
        subst this
        exact nc (st:=yZ) (by rw[<- mZ]; exact hq) ZL ((Ys (by rw[<- hk]; exact hp) R).1 b K9).symm
       | wc oE =>
        rw[hp,hq]at a3
        have hbu:b ∉ oE:=λhm=>by
         simp only[yE,qQ]at a3
         exact a3 b hm (Nat.beq_refl b)
        obtain⟨q1,q2,_⟩:=Yv (by rw[<- hk]; exact hp) R
        have wM:=Yu (by rw[<- mZ]; exact hq) ZL
        exact nc (st:=yZ) (by rw[<- mZ]; exact hq) ZL (q2 b (Z) hbu).symm
       | up a =>
        rw[hp,hq]at a3
        have hab:a≠b:=λe=>by subst e; simp[yE]at a3
        obtain⟨z,e1,_⟩:=U2 (by rw[<- hk]; exact hp) R
        subst e1
        exact nc (st:=st.set a z) (by rw[<- mZ]; exact hq) ZL (by rw[zE hab])
       | rd b'=>rw[hp]at bx; simp[RK.base]at bx; omega
       | z k=>rw[hp]at bx; simp only[RK.base]at bx; rw[hx3]at bx; subst bx; rw[hp,hq]at a3; simp[yE,RK.base,bM]at a3
      | z k =>
       rw[hq]at XH
       simp only[RK.base]at XH
       have Dm:k=0:=by
        have a4:yE (kd p) (.z k)=false:=by rw[hq]at a3; exact a3
        have a5:bM 2 k=false:=by
         cases hp:kd p with
         | wr A=>rw[hp]at a4; exact a4
         | al A=>rw[hp]at a4; exact a4
         | wc A=>rw[hp]at a4; exact a4
         | up A=>rw[hp]at a4; exact a4
         | rd b'=>rw[hp]at bx; simp[RK.base]at bx; omega
         | z k'=>rw[hp]at bx a4; simp only[RK.base]at bx; rw[hx3]at bx; subst bx; exact a4
        cases k with
        | zero=>rfl
        | succ m=>simp[bM]at a5
       subst Dm
       exact(sO XH.symm ZL).2 st
     ·have hy3:(wP c (wA f) y).kind=2:=qC (U4 _) hy2
      -- both write: one block each
      have hup:(∃ a b,kd p=.up a/\kd i=.up b/\a≠b)\/∃ oE A,kd p=.wc oE/\kd i=.al A:=by
       rw[hx3]at bx
       rw[hy3]at XH
       cases hp:kd p<;>cases hq:kd i<;>rw[hp,hq]at a3<;>rw[hp]at bx<;>rw[hq]at XH<;>simp only[RK.base]at bx XH <;>
        first
         | exact .inr ⟨_,_,rfl,rfl⟩
         | exact .inl ⟨_,_,rfl,rfl,λe=>by subst e; simp[yE]at a3⟩
         | (exfalso; omega)
         | (exfalso; subst bx; simp[yE,RK.base,bM]at a3; done)
         | (exfalso; subst XH; simp[yE,RK.base,bM]at a3; done)
         | (exfalso; simp[yE,RK.base,bM]at a3; done)
         | (exfalso; subst bx XH; simp[yE,RK.base,bM]at a3; done)
      rcases hup with hup | ⟨oE,A,hp,hq⟩
      rotate_left
      ·obtain⟨q1,q2,q3,q4⟩:=Yv (by rw[<- hk]; exact hp) R
       obtain⟨_,r2,z,r3,r4,r5⟩:=Ys (by rw[<- mZ]; exact hq) ZL
       subst r3 r4
       refine⟨st++[.var z],?_,q3 _,?_,(q4 _).trans hp.symm⟩
       ·rw[q1]; exact(r5 st).1
       ·rw[(r5 st).2,hq,r2,q1]
      obtain⟨a,b,hp,hq,hab⟩:=hup
      obtain⟨z1,e1,w1⟩:=U2 (by rw[<- hk]; exact hp) R
      subst e1
      obtain⟨z2,e2,w2⟩:=U2 (by rw[<- mZ]; exact hq) ZL
      subst e2
      refine⟨st.set b z2,w2 st (by rw[zE hab]),?_,(X8 (by rw[<- mZ]; exact hq) st).trans hq.symm,(X8 (by rw[<- hk]; exact hp) _).trans hp.symm⟩
      rw[List.set_comm _ _ hab]
      exact w1 (st.set b z2) (by rw[zE (λe=>hab e.symm)])
   obtain⟨qm,k1,k2,k3,k4⟩:=key
   refine⟨_,⟨y,hy,hdy,.inl ⟨Kb,k3.symm,e,_,k1,rfl⟩⟩,x,N,hdx,.inl ⟨?_,?_,d,yZ,?_,?_⟩⟩
   ·rw[jz a2]; exact hw
   ·rw[XS (c:=c) a2]; exact k4.symm
   ·rw[de (c:=c) a2]; exact k2
   ·simp only[fy f d e hdd]
  ·simp only[jz a1]at Kb
   refine⟨_,⟨y,hy,hdy,.inr ⟨Kb,mZ,rfl⟩⟩,x,N,hdx,.inl ⟨?_,?_,d,dC,?_,?_⟩⟩
   ·rw[jz a2]; exact hw
   ·rw[XS (c:=c) a2]; exact hk
   ·rw[de (c:=c) a2]; exact R
   ·simp only[fy f d (some SS) hdd]
 ·rcases hy' with⟨Kb,mZ,e,yZ,ZL,rfl⟩ | ⟨Kb,mZ,rfl⟩
  ·simp only[jz a1,de (c:=c) a1,XS (c:=c) a1]at Kb mZ ZL
   refine⟨_,⟨y,hy,hdy,.inl ⟨Kb,mZ,e,yZ,ZL,rfl⟩⟩,x,N,hdx,.inr ⟨?_,hk,?_⟩⟩
   ·rw[jz a2]; exact hw
   ·simp only[fy f (some SS) e hdd]
  ·simp only[jz a1]at Kb
   refine⟨_,⟨y,hy,hdy,.inr ⟨Kb,mZ,rfl⟩⟩,x,N,hdx,.inr ⟨?_,hk,?_⟩⟩
   ·rw[jz a2]; exact hw
   ·simp only[fy f (some SS) (some SS) hdd]
end
end Go.AM
namespace Go.AM
set_option linter.unusedSectionVars false
variable [yY]
class Hk where
 df:List Deferred
instance Y7:Hk:=⟨[]⟩
variable [Hk]
structure Rel(O:KS)(n:Nat)(f:F)(a:Act):Prop where
 size:a.tmps.size=n
 defers:a.defers=Hk.df
 get:∀ (s:Nat) (d:D),f s=some d->∃ v,a.tmps[s]? = some v/\RD O d v
section
variable {c:Ctx} {O:KS} {n:Nat} {f:F} {a:Act}
theorem Rel.eval(h:Rel O n f a){x:Operand}{d:D}(N:wA f x=some d):RD O d (a.eval x):=by
 cases x with
 | tmp t =>
  obtain⟨v,h1,M⟩:=h.get t d N
  simp only[Act.eval,zY,h1]
  exact M
 | const v=>exact(YW N).1
 | global g=>cases N
 | func g =>
  have N:(bif qL g 1000000 then some (D.wh g [])else none)=some d:=N
  cases I:qL g 1000000 with
  | false=>grind
  | true =>
   rw[I]at N
   cases N
   have:=RD.wh (O:=O) g [] [] rfl (λi h=>absurd h (qN i))
   rwa [C1 I]at this
theorem Rel.mono{E:KS}(x:Ext O E)(h:Rel O n f a):Rel E n f a:=⟨h.size,h.defers,λs d J=>by obtain⟨v,h1,M⟩:=h.get s d J; exact⟨v,h1,M.mono x⟩⟩
theorem Rel.put{dst:Option Nat}{d:Option D}{v:Value}(h:Rel O n f a)(J:ga n dst=true)(hv:∀ d',d=some d'->RD O d' v):Rel O n (dQ f dst d) (a.put dst v):=by
 cases dst with
 | none=>exact h
 | some t =>
  have wM:t<n:=X J
  refine⟨by simp[qW,h.size],h.defers,λs d' hs => ?_⟩
  simp only[dQ]at hs
  simp only[qW]
  by_cases e:s=t
  ·subst e
   rw[if_pos rfl]at hs
   exact⟨v,by simp[h.size,wM],hv d' hs⟩
  ·rw[if_neg e]at hs
   obtain⟨u,h1,M⟩:=h.get s d' hs
   grind
theorem z2K{v:Value}:RD O SS undef:=.eD [] [] rfl (λi h=>absurd h (qN i))
theorem z8c{o:Oper}{d:Option D}{qm:St}(h:wy c.P (execOp a.eval o) O d qm){K:Act->World->Prop}{Q:Exit->Act->World->Prop}
  (hK:∀ (v:Value) (E:KS),E.st=qm->Inv E->Ext O E->(∀ d',d=some d'->RD E d' v)->K (a.put o.dst v) E.w):o.wp c.P a O.w K Q:=by
 obtain⟨E,nx,v,h1,M,h3,h4,h5,h6⟩:=h
 unfold Oper.wp
 rw[h1]
 rcases M with rfl | ⟨rfl,rfl⟩
 ·exact hK v E h3 h4 h5 h6
 ·exact hK undef E h3 h4 h5 h6
theorem Ll(h:Rel O n f a)(x:Option Operand):Jq O (x.map (wA f)) (x.map a.eval):=by
 cases x with
 | none=>trivial
 | some x=>exact λy hy=>h.eval hy
theorem BZ(B:Inv O)(hR:Rel O n f a){b:Builtin}{args:Array Operand}{sw:Array TypeId}{o:Oper}(ho:o.op=.call ⟨.builtin b,args,sw⟩){d:Option D}{qm:St}
  (h:(qu (lJ c b sw.toList (args.toList.map (wA f))) O.st).leads (d,qm)):wy c.P (execOp a.eval o) O d qm:=by
 have two:∀ {g:Value->Value->Sem Value} {m:Int->Int->Int},(∀ k k' a b,(g (.int k a) (.int k' b)).run c.P O.w=.ok (.int k (m a b)) O.w)->(qu (YN m (args.toList.map (wA f))) O.st).leads (d,qm) ->
   (∀ p q,args = #[p,q]->execOp a.eval o=(do xG (.value (<- g (a.eval p) (a.eval q))):Sem Next))->wy c.P (execOp a.eval o) O d qm:=by
  intro g m hg h he
  match R:args.toList,h with
  | [p,q],h =>
   have hpq:args = #[p,q]:=by rw[<- zR (xs:=args),R]
   rw[he p q hpq]
   obtain⟨r,h1,rfl,h3⟩:=L9 hg B (λz hz=>hR.eval (x:=p) hz) (λz hz=>hR.eval (x:=q) hz) h
   exact⟨O,.value r,r,by simp[h1],.inl rfl,rfl,B,Ext.refl O,h3⟩
  | [],h=>exact absurd h zh
  | [_],h=>exact absurd h zh
  | _::_::_::_,h=>exact absurd h zh
 unfold lJ at h
 split at h
 ·rename_i t ts x xs h1 M
  have ht:sw[0]? = some t:=by rw[<- qI,h1]; rfl
  obtain⟨y,hy,rfl⟩:∃ y,args[0]? = some y/\x=wA f y:=by
   cases R:args.toList with
   | nil=>grind
   | cons y ys=>rw[R]at M; simp at M; exact⟨y,by rw[<- qI,R]; rfl,M.1.symm⟩
  have:=z6i (c:=c) (ty:=o.type) (ts:=sw) (vs:=args.map a.eval) B (λz hz=>hR.eval (x:=y) hz) ht (by simp[hy]) h
  simp only[execOp,ho,resolve,invoke,builtin,pure_bind]
  exact this
 ·rename_i t t' s x h1 M
  obtain⟨p,q,rfl,rfl,hpq⟩:∃ p q,s=wA f p/\x=wA f q/\args = #[p,q]:=by
   cases R:args.toList with
   | nil=>grind
   | cons p r=>rw[R]at M; cases r with
    | nil=>simp at M
    | cons q r=>cases r with
     | nil=>grind
     | cons _ _=>simp at M
  subst hpq
  cases I:zU t t' with
  | false =>
   rw[I,cond_false]at h
   have z0Z:sw = #[t,t']:=by rw[<- zR (xs:=sw),h1]
   subst z0Z
   have:=KR (c:=c) (ty:=o.type) B (λz hz=>hR.eval (x:=p) hz) (λz hz=>hR.eval (x:=q) hz) h
   have e2:(#[p,q]:Array Operand).map a.eval = #[a.eval p,a.eval q]:=qz
   simp only[execOp,ho,resolve,invoke,builtin,pure_bind,e2]
   exact this
  | true =>
   rw[I,cond_true]at h
   have e:=Y I
   subst e
   have z0Z:sw = #[t,t]:=by rw[<- zR (xs:=sw),h1]
   subst z0Z
   have:=DF (c:=c) (ty:=o.type) B (λz hz=>hR.eval (x:=p) hz) (λz hz=>hR.eval (x:=q) hz) h
   have e2:(#[p,q]:Array Operand).map a.eval = #[a.eval p,a.eval q]:=qz
   simp only[execOp,ho,resolve,invoke,builtin,pure_bind,e2]
   exact this
 ·rename_i t t' s x h1 M
  obtain⟨p,q,rfl,rfl,hpq⟩:∃ p q,s=wA f p/\x=wA f q/\args = #[p,q]:=by
   cases R:args.toList with
   | nil=>grind
   | cons p r=>rw[R]at M; cases r with
    | nil=>simp at M
    | cons q r=>cases r with
     | nil=>simp at M; exact⟨p,q,M.1.symm,M.2.symm,by rw[<- zR (xs:=args),R]⟩
     | cons _ _=>simp at M
  subst hpq
  have z0Z:sw = #[t,t']:=by rw[<- zR (xs:=sw),h1]
  subst z0Z
  have:=Rm (c:=c) (ty:=o.type) (t':=t') B (λz hz=>hR.eval (x:=p) hz) (λz hz=>hR.eval (x:=q) hz) h
  have e2:(#[p,q]:Array Operand).map a.eval = #[a.eval p,a.eval q]:=qz
  simp only[execOp,ho,resolve,invoke,builtin,pure_bind,e2]
  exact this
 ·rename_i M
  exact two (g:=Builtin.min2) (λk k' a b=>by simp[Builtin.min2,ZP]) h λp q hpq=>by
   subst hpq
   have e2:(#[p,q]:Array Operand).map a.eval = #[a.eval p,a.eval q]:=qz
   simp only[execOp,ho,resolve,invoke,builtin,pure_bind,e2]
   simp[Builtin.min_]
 ·rename_i M
  exact two (g:=Builtin.max2) (λk k' a b=>by simp[Builtin.max2,lh]) h λp q hpq=>by
   subst hpq
   have e2:(#[p,q]:Array Operand).map a.eval = #[a.eval p,a.eval q]:=qz
   simp only[execOp,ho,resolve,invoke,builtin,pure_bind,e2]
   simp[Builtin.max_]
 ·exact absurd h zh
theorem z56{o:Oper}{g:Nat}{caps:Array Value}{args:Array Value}{hl:Ending->World->Prop}(jM:(execOp a.eval o).run c.P O.w=(callFunc g args).run c.P O.w)
  (h:gy c.P g args O.w hl) {K:Act->World->Prop} {Q:Exit->Act->World->Prop} (hR:∀ e w',hl e w'->∃ v,e=.returned v/\K (a.put o.dst v) w'):o.wp c.P a O.w K Q:=by
 unfold Oper.wp
 rw[jM]
 rcases h with⟨h1,M⟩ | ⟨v,w',h1,M⟩
 ·rw[h1]
  refine M.mono λe w' he => ?_
  grind
 ·rw[h1]
  obtain⟨u,hu,hk⟩:=hR _ _ M
  cases hu
  exact hk
theorem Y1(g:Nat){l caps:List D}{vs us:List Value}(h1:wN O l vs)(M:wN O caps us):wN O (bH g l caps) (bH g vs us):=by
 unfold bH
 cases Nat.ble 1000000 g with
 | true=>exact M.append h1
 | false=>exact h1.append M
theorem DO{dst:Option Nat}{p:Operand}{args:Array Operand}{sw:Array TypeId}{ty:TypeId}{pos:String}{after:Array Edge}{guard:Option (Nat×Bool)}{g:Nat}{us:List Value}{P:Program}{w:World}(EA:a.eval p=Qx g us) :
  (execOp a.eval ⟨dst,.call ⟨.value p,args,sw⟩,ty,pos,after,guard⟩).run P w=(callFunc (ea g) (bH g (args.toList.map a.eval) us).toArray).run P w:=by
 unfold Qx at EA
 unfold ea bH
 cases I:Nat.ble 1000000 g with
 | true =>
  rw[I]at EA
  simp at EA ⊢
  have e:us.toArray++args.map a.eval=(us++args.toList.map a.eval).toArray:=by apply qP; simp
  simp only[execOp,resolve,EA,xE,pure_bind,invoke,Array.append_empty,e]
 | false =>
  rw[I]at EA
  simp at EA ⊢
  have e:args.map a.eval++us.toArray=(args.toList.map a.eval++us).toArray:=by apply qP; simp
  simp only[execOp,resolve,EA,xE,pure_bind,invoke,Array.empty_append,e]
theorem Fa{o:Oper}{d:Option D}{qm:St}(hC:∀ g,Di c.P g (c.fn g))(B:Inv O)(hR:Rel O n f a)(h:(qu (wP c (wA f) o) O.st).leads (d,qm)){K:Act->World->Prop}{Q:Exit->Act->World->Prop}
  (hK:∀ (v:Value) (E:KS),E.st=qm->Inv E->Ext O E->(∀ d',d=some d'->RD E d' v)->K (a.put o.dst v) E.w):o.wp c.P a O.w K Q:=by
 have lv:∀ (x:Operand) (z:D),wA f x=some z->RD O z (a.eval x):=λx z hz=>hR.eval hz
 obtain⟨dst,op,ty,pos,after,guard⟩:=o
 have fin:wy c.P (execOp a.eval ⟨dst,op,ty,pos,after,guard⟩) O d qm->Oper.wp c.P ⟨dst,op,ty,pos,after,guard⟩ a O.w K Q:=λJ=>z8c J hK
 cases op with
 | move x =>
  simp only[wP,kR,T.leads]at h
  obtain⟨h,rfl⟩:=h
  exact fin (wy.val B λd' eb=>lv x d' (h.trans eb))
 | assign x =>
  simp only[wP,kR,T.leads]at h
  obtain⟨h,rfl⟩:=h
  exact fin (wy.val B λd' eb=>lv x d' (h.trans eb))
 | pick x p q =>
  simp only[wP,Lq]at h
  split at h
  ·rename_i b I
   have hv:=tK I (lv x)
   rw[kR]at h
   obtain⟨h,rfl⟩:=h
   refine fin ⟨O,.value (if b then a.eval p else a.eval q),if b then a.eval p else a.eval q,?_,.inl rfl,rfl,B,Ext.refl O,λd' eb => ?_⟩
   ·simp[execOp,hv,Go.asBool]
   ·rcases h with⟨rfl,h⟩ | ⟨rfl,h⟩
    ·exact lv p d' (h.trans eb)
    ·exact lv q d' (h.trans eb)
  ·exact absurd h zh
 | alloc t=>exact fin (I5 B h)
 | box t x=>exact fin (Im B (lv x) h)
 | load t x=>exact fin (Sj B (lv x) h)
 | store t x y=>exact fin (LM B (lv x) (lv y) h)
 | nilCheck x=>exact fin (H5 rfl B (lv x) h)
 | binOp op t x y ty' =>
  have h:(qu (Ih c op t y (wA f x) (wA f y)) O.st).leads (d,qm):=h
  unfold Ih at h
  split at h
  ·exact fin (Lb B (lv x) h)
  ·exact fin (Ld B (lv x) (λh=>KX B (lv x) (lv _) h) h)
  ·exact fin (Lc B (lv x) (λh=>KX B (lv x) (lv _) h) h)
  ·exact fin (KX B (lv x) (lv y) h)
 | typeAssert x xt t ok=>exact fin (Kf B (lv x) h)
 | unOp op t x=>exact fin (z8U B (lv x) h)
 | convert s t x=>exact fin (C4 B (lv x) h)
 | makeInterface t x=>exact fin (YH B (lv x) h)
 | makeFunc fn first cap =>
  cases fn with
  | func g =>
   simp only[wP]at h
   cases I:zU first.size 0&&qL g 1000000 with
   | false =>
    rw[I,cond_false]at h
    cases Ep:zU cap.size 0&&qL g 1000000 with
    | false=>rw[Ep]at h; exact absurd h zh
    | true =>
     rw[Ep,cond_true]at h
     simp only[zF]at Ep
     have hf:cap = #[]:=zV (Y Ep.1)
     subst hf
     split at h
     ·rename_i l R
      rw[du]at h
      obtain⟨rfl,rfl⟩:=h
      have hr:=fA (O:=O) (vs:=first.toList.map a.eval) R (qz) (λi d v J hv=>by
       simp only[qR]at J hv
       cases hi:first.toList[i]? with
       | none=>grind
       | some x=>rw[hi]at J hv; simp at J hv; subst hv; exact lv x d J)
      refine fin (wy.pure B ?_ (.wh (g+1000000) l _ hr.1 hr.2))
      have e:(first.toList.map a.eval).toArray=first.map a.eval:=by apply qP; simp
      rw[Is Ep.2,e]
      simp[Instr.makeFunc]
     ·exact absurd h zh
   | true =>
    rw[I,cond_true]at h
    simp only[zF]at I
    have hf:first = #[]:=zV (Y I.1)
    subst hf
    split at h
    ·rename_i l R
     rw[du]at h
     obtain⟨rfl,rfl⟩:=h
     have hr:=fA (O:=O) (vs:=cap.toList.map a.eval) R (qz) (λi d v J hv=>by
      simp only[qR]at J hv
      cases hi:cap.toList[i]? with
      | none=>grind
      | some x=>rw[hi]at J hv; simp at J hv; subst hv; exact lv x d J)
     refine fin (wy.pure B ?_ (.wh g l _ hr.1 hr.2))
     have e:(cap.toList.map a.eval).toArray=cap.map a.eval:=by apply qP; simp
     rw[C1 I.2,e]
     simp[Instr.makeFunc]
    ·exact absurd h zh
  | _=>exact absurd h zh
 | makeSlice t x y=>exact fin (Sn B (lv x) (lv y) h)
 | slice t x lo hi mx=>exact fin (LF B (lv x) (Ll hR lo) (Ll hR hi) (Ll hR mx) h)
 | fieldAddr s x fl=>exact fin (Ya B (lv x) h)
 | field s x fl=>exact fin (ID B (lv x) h)
 | indexAddr t x i=>exact fin (Yl B (lv x) (lv i) h)
 | index t x i=>exact fin (IY B (lv x) (lv i) h)
 | extract x i=>exact fin (Cc B (lv x) h)
 | build t ps =>
  have:=Ip (L:=ps.toList) (G:=a.eval) B lv h
  refine fin ?_
  have e:(ps.toList.map λp=>(p.1,a.eval p.2)).toArray=ps.map λp=>(p.1,a.eval p.2):=by apply qP; simp
  rw[e]at this
  exact this
 | buildSlice t k ps =>
  have h:(qu (bif z2Q c dst&&zU k 0&&zU ps.size 0 then VB c t (bO c t k (ps.toList.map λp=>(p.1,wA f p.2)))else bO c t k (ps.toList.map λp=>(p.1,wA f p.2))) O.st).leads (d,qm):=h
  refine fin ?_
  have e:(ps.toList.map λp=>(p.1,a.eval p.2)).toArray=ps.map λp=>(p.1,a.eval p.2):=by apply qP; simp
  have key:(qu (bO c t k (ps.toList.map λp=>(p.1,wA f p.2))) O.st).leads (d,qm)->wy c.P (do xG (.value (<- Instr.buildSlice t k (ps.map λp=>(p.1,a.eval p.2))))) O d qm:=λh=>by
   have:=K6 (L:=ps.toList) (G:=a.eval) B lv h
   rw[e]at this
   exact this
  cases I:z2Q c dst&&zU k 0&&zU ps.size 0 with
  | false=>rw[I]at h; exact key h
  | true =>
   rw[I,cond_true]at h
   simp only[zF]at I
   have hk:=Y I.1.2
   have hp:ps = #[]:=zV (Y I.2)
   subst hk hp
   have e0:((#[]:Array (Nat×Operand)).map λp=>(p.1,a.eval p.2)) = #[]:=qz
   rw[e0]at key
   have r:=GN B key h
   rw[<- e0]at r
   exact r
 | call cl =>
  obtain⟨callee,args,sw⟩:=cl
  cases callee with
  | builtin b=>exact fin (BZ B hR rfl h)
  | invoke r m=>exact absurd h zh
  | value p =>
   simp only[wP,eO]at h
   split at h
   ·rename_i g caps l hp R
    have hpv:=lv p _ hp
    have hr:=fA (O:=O) (vs:=args.toList.map a.eval) R (qz) (λi d v J hv=>by
      simp only[qR]at J hv
      cases hi:args.toList[i]? with
      | none=>rw[hi]at J; cases J
      | some x=>rw[hi]at J hv; simp at J hv; subst hv; exact lv x d J)
    generalize EA:a.eval p=pv at hpv
    cases hpv with
    | wh _ _ us ZL hh2 =>
     have ZK:=Y1 g hr (⟨ZL,hh2⟩:wN O caps us)
     refine z56 (c:=c) (O:=O) (g:=ea g) (caps := #[]) (args:=(bH g (args.toList.map a.eval) us).toArray) ?_ (Ri (hC (ea g)) B ZK h) ?_
     ·exact DO EA
     ·rintro e w' ⟨E,v,rfl,h1,M,h3,rfl,h4⟩
      exact⟨v,rfl,hK v E h1 M h3 h4⟩
   ·exact absurd h zh
 | makeMap t r=>exact fin (CB B h)
 | lookup t m x ok=>exact fin (EL B (lv m) (lv x) h)
 | mapUpdate t m x y=>exact fin (YK B (lv m) (lv x) (lv y) h)
 | _=>exact absurd h zh
end
end Go.AM
namespace Go.AM
set_option linter.unusedSectionVars false
variable [yY] [Hk]
section
variable {c:Ctx} {n:Nat} {ops:Array Oper}
theorem Cj(j:Nat):bw ops j=(ops[j]?).bind (·.dst):=by
 unfold bw; cases ops[j]? <;> rfl
theorem Ze{O:KS}{f:F}{a:Act}{o:Oper}{b:Bool}(hR:Rel O n f a)(h:jF ops f o=some b):qU o (yielded ops a.tmps)=b:=by
 unfold jF at h
 unfold qU
 split at h
 ·grind
 ·rename_i j w hg
  rw[hg]
  split at h
  ·cases h
  ·rename_i t ht
   rw[Cj]at ht
   simp only[yielded,ht,Option.bind_some]
   split at h
   ·rename_i x N
    obtain⟨v,h1,M⟩:=hR.get t _ N
    have:=M.cp
    cases h
    grind
   ·rename_i N
    obtain⟨v,h1,M⟩:=hR.get t _ N
    cases h
    rw[h1]
    cases M with
    | eD _ vs R hh=>rfl
   ·cases h
def pE(ops:Array Oper)(a a':Act):Prop:=∀ s:Nat,(∀ o∈ops.toList,o.dst≠some s)->a'.tmps[s]? = a.tmps[s]?
theorem pE.refl(ops:Array Oper)(a:Act):pE ops a a:=λ_ _=>rfl
theorem pE.trans{ops:Array Oper}{a b d:Act}(h:pE ops a b)(k:pE ops b d):pE ops a d:=λs hs=>(k s hs).trans (h s hs)
theorem X7{ops:Array Oper}{i:Nat}{o:Oper}{a:Act}{v:Value}(ho:ops[i]? = some o):pE ops a (a.put o.dst v):=by
 intro s hs
 have hm:o∈ops.toList:=by have:=Array.mem_of_getElem? ho; simpa using this
 have:=hs o hm
 cases J:o.dst with
 | none=>rfl
 | some t =>
  rw[J]at this
  have kf:t≠s:=λe=>this (by rw[e])
  simp[qW,zH kf]
theorem YZ{O:KS}{a:Act}{i k:Nat}{s s':F×St}(hC:∀ g,Di c.P g (c.fn g))(B:Inv O)(hR:Rel O n s.1 a)(vX:O.st=s.2)(h:eY c n ops i s s' k){K:Act->World->Prop}{Q:Exit->Act->World->Prop}
  (hK:∀ (a':Act) (E:KS),E.st=s'.2->Inv E->Ext O E->Rel E n s'.1 a'->pE ops a a'->K a' E.w):wpOp c.P ops Q i K a O.w:=by
 obtain⟨o,ho,J,h⟩:=h
 unfold wpOp
 rw[ho]
 simp only
 rcases h with⟨hw,_,d,qm,R,rfl⟩ | ⟨hw,_,rfl⟩
 ·rw[if_pos (Ze hR hw)]
  refine .inl (Fa hC B hR (vX▸R) λv E h1 M h3 h4=>hK _ E h1 M h3 ((hR.mono h3).put J h4) (X7 ho))
 ·rw[if_neg (by rw[Ze hR hw]; exact Bool.false_ne_true)]
  exact hK _ O vX B (Ext.refl O) (hR.put J λd' eb=>by cases eb; exact z2K (v:=undef)) (X7 ho)
theorem P7{Q:Exit->Act->World->Prop}(hC:∀ g,Di c.P g (c.fn g)):∀ (l:List Nat) {O:KS} {a:Act} {s s':F×St} {ks:List Nat},Inv O->Rel O n s.1 a->O.st=s.2->R3 c n ops l s s' ks ->
  (∀ (a':Act) (E:KS),E.st=s'.2->Inv E->Ext O E->Rel E n s'.1 a'->pE ops a a'->Q .normal a' E.w)->wpOps c.P ops Q l a O.w
 | [],O,a,s,s',ks,B,hR,vX,h,hQ=>by
  obtain⟨rfl,_⟩:=h
  exact hQ a O vX B (Ext.refl O) hR (pE.refl _ _)
 | i::l,O,a,s,s',ks,B,hR,vX,h,hQ=>by
  obtain⟨s1,k,L4,_,h1,M⟩:=h
  refine YZ hC B hR vX h1 λa1 κ1 g1 g2 g3 g4 g5 => ?_
  exact P7 hC l g2 g4 g1 M λa' E e1 e2 e3 e4 e5=>hQ a' E e1 e2 (g3.trans e3) e4 (g5.trans e5)
theorem Jj{Q:Exit->Act->World->Prop}(hC:∀ g,Di c.P g (c.fn g)):∀ (l m:List Nat) {O:KS} {a:Act} {s s':F×St} {ks:List Nat},Inv O->Rel O n s.1 a->O.st=s.2->R3 c n ops l s s' ks ->
  (∀ (a':Act) (E:KS),E.st=s'.2->Inv E->Ext O E->Rel E n s'.1 a'->pE ops a a'->wpOps c.P ops Q m a' E.w)->wpOps c.P ops Q (l++m) a O.w
 | [],m,O,a,s,s',ks,B,hR,vX,h,hQ=>by
  obtain⟨rfl,_⟩:=h
  exact hQ a O vX B (Ext.refl O) hR (pE.refl _ _)
 | i::l,m,O,a,s,s',ks,B,hR,vX,h,hQ=>by
  obtain⟨s1,k,L4,_,h1,M⟩:=h
  refine YZ hC B hR vX h1 λa1 κ1 g1 g2 g3 g4 g5 => ?_
  exact Jj hC l m g2 g4 g1 M λa' E e1 e2 e3 e4 e5=>hQ a' E e1 e2 (g3.trans e3) e4 (g5.trans e5)
theorem YY{kd:Nat->Nat}:∀ (l:List Nat) (s s':F×St) (ks:List Nat),R3 c n ops l s s' ks->ks=l.map kd->Qg c n ops kd l s s'
 | [],s,s',ks,h,_=>h.1
 | i::l,s,s',ks,⟨s1,k,L4,e,h1,M⟩,hk=>by
  subst e
  simp at hk
  obtain⟨rfl,hk⟩:=hk
  exact⟨s1,h1,YY l s1 s' L4 M hk⟩
theorem Fe:∀ (l:List Nat) (s s':F×St) (ks:List Nat),R3 c n ops l s s' ks->ks.length=l.length
 | [],_,_,_,h=>by rw[h.2]
 | i::l,s,s',ks,⟨s1,k,L4,e,h1,M⟩=>by subst e; simp[Fe l s1 s' L4 M]
theorem Ef(acc:List Nat):∀ (es:List Edge) (s0 p:Nat),qS (es.foldl (λs e=>bif zZ .any e then s ||| 2 ^ e.on ||| acc.getD e.on 0 else s) s0) p=true ->
  qS s0 p=true\/∃ e∈es,zZ .any e=true/\(p=e.on\/qS (acc.getD e.on 0) p=true)
 | [],s0,p,h=>.inl h
 | e::es,s0,p,h=>by
  rcases Ef acc es _ p h with h1 | ⟨e',h1,M⟩
  ·grind
  ·grind
theorem Zm:∀ (l:List Oper) (acc:List Nat),∃ r,vW l acc=acc++r/\r.length=l.length /\
  ∀ j o,l[j]? = some o->∀ p,qS ((vW l acc).getD (acc.length+j) 0) p=true ->
   ∃ e∈o.after.toList,zZ .any e=true/\(p=e.on\/(e.on<acc.length+j/\qS ((vW l acc).getD e.on 0) p=true))
 | [],acc=>⟨[],by simp[vW],rfl,λj o h=>by simp at h⟩
 | o::l,acc=>by
  let b:=o.after.toList.foldl (λs e=>bif zZ .any e then s ||| 2 ^ e.on ||| acc.getD e.on 0 else s) 0
  obtain⟨r,h1,M,h3⟩:=Zm l (acc++[b])
  have I:vW (o::l) acc=vW l (acc++[b]):=rfl
  have RG:∀ i,i<acc.length->(vW l (acc++[b])).getD i 0=acc.getD i 0:=λi hi=>by
   grind
  refine⟨b::r,by rw[I,h1]; simp,by simp[M],?_⟩
  rw[I]
  intro j o' ho p hp
  cases j with
  | zero =>
   simp at ho
   subst ho
   have he:(vW l (acc++[b])).getD (acc.length+0) 0=b:=by rw[h1]; simp[xF]
   rw[he]at hp
   rcases Ef acc _ 0 p hp with h | ⟨e,k1,k2,k3⟩
   ·simp at h
   ·grind
  | succ j =>
   have:=h3 j o' (by simpa using ho) p (by rw[show(acc++[b]).length+j=acc.length+(j+1) by simp; omega]; exact hp)
   grind
theorem Zx:∀ (l:List Oper) (k:Nat),fX l k=true->∀ j o,l[j]? = some o->∀ e∈o.after.toList,zZ .any e=true->e.on<k+j
 | [],_,_,j,o,h,_,_,_=>by simp at h
 | o::l,k,h,j,o',ho,e,he,I=>by
  simp only[fX,zF,zJ]at h
  cases j with
  | zero =>
   simp at ho
   subst ho
   have:=h.1 e he
   rw[I]at this
   exact X this
  | succ j =>
   have:=Zx l (k+1) h.2 j o' (xy) e he I
   omega
def Tc{K:Type}(cl:K->K->Bool)(ops:Array Oper)(x:Oper)(kx:K)(y:Oper)(ky:K):Prop:=(∀ d,x.dst=some d->d ∉ tmpsOf ops y)/\(∀ d,y.dst=some d->d ∉ tmpsOf ops x)/\cl kx ky=false
theorem Fg{K:Type}{cl:K->K->Bool}{bs:List Nat}{xs:List (Nat×Option Nat×List Nat×K)}{j:Nat}{ky:K}{y:Oper}(h:Lp cl bs xs j y.dst (tmpsOf ops y) ky=true){i:Nat}{kx:K}{x:Oper}(N:(i,x.dst,tmpsOf ops x,kx)∈xs) :
  ordered bs i j=true\/Tc cl ops x kx y ky:=by
 simp only[Lp,zJ]at h
 have:=h _ N
 simp at this
 rcases this with h1 | ⟨⟨h1,M⟩,h3⟩
 ·grind
 ·refine .inr ⟨λd J hm => ?_,λd J hm => ?_,h3⟩
  ·grind
  ·grind
theorem Q1{K:Type}{cl:K->K->Bool}{bs:List Nat}:∀ (l:List Oper) (ks:List K) (k0:Nat) (xs:List (Nat×Option Nat×List Nat×K)),Q0 cl ops bs l ks k0 xs=true ->
  (∀ j y ky,l[j]? = some y->ks[j]? = some ky->(∀ i x kx,(i,x.dst,tmpsOf ops x,kx)∈xs->ordered bs i (k0+j)=true\/Tc cl ops x kx y ky) /\
   (∀ i x kx,i<j->l[i]? = some x->ks[i]? = some kx->ordered bs (k0+i) (k0+j)=true\/Tc cl ops x kx y ky))
 | [],_,_,_,_,j,y,ky,hy,_=>by simp at hy
 | o::l,[],_,_,h,_,_,_,_,_=>by simp[Q0]at h
 | o::l,k::ks,k0,xs,h,j,y,ky,hy,hk=>by
  simp only[Q0,zF]at h
  obtain⟨h1,M⟩:=h
  have ih:=Q1 l ks (k0+1) _ M
  cases j with
  | zero =>
   simp at hy hk
   subst hy hk
   exact⟨λi x kx N=>by simpa using Fg h1 N,λi x kx hi=>absurd hi (qN i)⟩
  | succ j =>
   obtain⟨g1,g2⟩:=ih j y ky (by simpa using hy) (by simpa using hk)
   have e:k0+1+j=k0+(j+1):=Z
   rw[e]at g1 g2
   refine⟨λi x kx N=>g1 i x kx (zS _ N),λi x kx hi N hkx => ?_⟩
   cases i with
   | zero =>
    grind
   | succ i =>
    grind
def rest(ops:Array Oper)(listed:Array Bool):List Nat:=(qF ops.size).filter λi => !listed.getD i true
def WJ(ops:Array Oper)(listed:Array Bool):Prop:=∀ q,q<ops.size->listed.getD q true=true->∀ p,ordered (vW ops.toList []) p q=true->p<ops.size->listed.getD p true=true
theorem cr{listed:Array Bool}{i j:Nat}(hi:i<listed.size):(listed.setIfInBounds i true).getD j true=if j=i then true else listed.getD j true:=by
 simp
 grind
theorem ir{p q:Nat->Bool}{i:Nat}:∀ (l:List Nat),l.Pairwise (· < ·)->i∈l->p i=true->(∀ j,q j=(p j && !(j==i))) ->
  ∃ pre post,l.filter p=pre++i::post/\l.filter q=pre++post/\∀ x∈pre,p x=true/\x∈l/\x<i
 | [],_,hi,_,_=>by simp at hi
 | a::l,hn,hi,hp,hq=>by
  have hn':=qE.1 hn
  by_cases ha:a=i
  ·subst ha
   refine⟨[],l.filter p,xy,?_,qz⟩
   have hqa:q a=false:=by rw[hq]; simp
   simp only[List.filter_cons,hqa]
   refine List.filter_congr λx N => ?_
   rw[hq]
   have:(x==a)=false:=by simp; exact λe=>absurd (hn'.1 x N) (Z)
   simp[this]
  ·have Kt:i∈l:=by rcases qA.1 hi with h | h; exact absurd h.symm ha; exact h
   obtain⟨pre,post,h1,M,h3⟩:=ir l hn'.2 Kt hp hq
   grind
theorem Q5{listed:Array Bool}{i:Nat}:i∈qY .any ops listed↔i<ops.size/\listed.getD i true=false/\∀ o,ops[i]? = some o->∀ e∈o.after.toList,zZ .any e=true->listed.getD e.on false=true:=by
 unfold qY
 simp only[zX,V,zF,zL]
 constructor
 ·rintro⟨h1,M,h3⟩
  refine⟨h1,M,λo ho e he I => ?_⟩
  rw[ho]at h3
  simp only[Option.map_some,Option.getD_some,Array.all_eq_true_iff_forall_mem]at h3
  grind
 ·grind
theorem G8(IP:fX ops.toList 0=true){listed:Array Bool}(bI:listed.size=ops.size):qY .any ops listed=[]->rest ops listed=[]:=by
 intro hr
 cases hre:rest ops listed with
 | nil=>rfl
 | cons i l =>
  have hi:i∈rest ops listed:=by rw[hre]; exact zK
  simp only[rest,zX,V,zL]at hi
  have zbF:∀ j,j<i->listed.getD j true=true:=by
   intro j hj
   cases R:listed.getD j true with
   | true=>rfl
   | false =>
    have hpw:(rest ops listed).Pairwise (· < ·):=List.Pairwise.filter _ zN
    have hjm:j∈rest ops listed:=by simp only[rest,zX,V,zL]; exact⟨Z,R⟩
    rw[hre]at hpw hjm
    rcases qA.1 hjm with rfl | hjm
    ·grind
    ·have:=(qE.1 hpw).1 j hjm; omega
  have:i∈qY .any ops listed:=by
   rw[Q5]
   refine⟨hi.1,hi.2,λo ho e he I => ?_⟩
   have wM:=Zx ops.toList 0 IP i o (xy) e he I
   grind
  grind
def KM(Stp:Nat->F×St->F×St->Prop):List Nat->F×St->F×St->Prop
 | [],s,s'=>s'=s
 | i::l,s,s'=>∃ s1,Stp i s s1/\KM Stp l s1 s'
theorem BD{Stp:Nat->F×St->F×St->Prop}{In:Nat->Nat->Prop}(Er:∀ p i,In p i->∀ s s1 s2,Stp p s s1->Stp i s1 s2->∃ s',Stp i s s'/\Stp p s' s2){i:Nat}{post:List Nat}{s':F×St}:∀ {pre:List Nat} {s:F×St},(∀ p∈pre,In p i)->KM Stp (pre++i::post) s s' ->
  ∃ s1,Stp i s s1/\KM Stp (pre++post) s1 s'
 | [],s,_,h=>h
 | p::pre,s,hp,⟨sp,h1,M⟩=>by
  obtain⟨s1,h3,h4⟩:=BD Er (λq hq=>hp q (zS _ hq)) M
  obtain⟨s2,h5,h6⟩:=Er _ _ (hp p zK) _ _ _ h1 h3
  exact⟨s2,h5,s1,h6,h4⟩
theorem Ji{Stp:Nat->F×St->F×St->Prop}{In:Nat->Nat->Prop}(z0W:∀ i s s',Stp i s s'->∃ k,eY c n ops i s s' k)(Er:∀ p i,In p i->∀ s s1 s2,Stp p s s1->Stp i s1 s2->∃ s',Stp i s s'/\Stp p s' s2){Q:Exit->Act->World->Prop}(hC:∀ g,Di c.P g (c.fn g))(IP:fX ops.toList 0=true)
  {sf:F×St}:∀ (fuel:Nat) (listed:Array Bool) {O:KS} {a:Act} {s:F×St},(∀ p i,p<i->i<ops.size->listed.getD p true=false->ordered (vW ops.toList []) p i=true\/In p i) ->
  listed.size=ops.size->fuel=(rest ops listed).length->WJ ops listed->Inv O->Rel O n s.1 a->O.st=s.2->KM Stp (rest ops listed) s sf ->
  (∀ (a':Act) (E:KS),E.st=sf.2->Inv E->Ext O E->Rel E n sf.1 a'->pE ops a a'->Q .normal a' E.w)->wpAny c.P .any ops Q fuel listed a O.w
 | fuel,listed,O,a,s,dV,bI,hfuel,Ks,B,hR,vX,jM,hQ=>by
  have zbL:=G8 IP (listed:=listed) bI
  have z0I:rest ops listed=[]->Q .normal a O.w:=by
   intro h
   rw[h]at jM
   cases jM
   exact hQ a O vX B (Ext.refl O) hR (pE.refl _ _)
  cases fuel with
  | zero =>
   have hre:rest ops listed=[]:=zW hfuel.symm
   refine⟨?_,z0I hre⟩
   apply List.eq_nil_iff_forall_not_mem.2
   intro i hi
   rw[Q5]at hi
   have:i∈rest ops listed:=by simp only[rest,zX,V,zL]; exact⟨hi.1,hi.2.1⟩
   grind
  | succ fuel =>
   refine⟨λh=>z0I (zbL h),λi hi => ?_⟩
   rw[Q5]at hi
   obtain⟨h1,M,h3⟩:=hi
   have ho:ops[i]? = some ops[i]:=zP h1
   obtain⟨pre,post,g1,g2,g3⟩:=ir (p:=λi => !listed.getD i true) (q:=λj => !(listed.setIfInBounds i true).getD j true) (i:=i) (qF ops.size) zN
    (V.2 h1) (by simp[M]) (λj=>by
     rw[cr (Z)]
     by_cases h:j=i
     ·grind
     ·simp[h])
   have z0C:∀ p,ordered (vW ops.toList []) p i=true->p<ops.size->listed.getD p true=true:=by
    intro p hp wM
    obtain⟨r,_,_,I⟩:=Zm ops.toList []
    obtain⟨e,k1,k2,k3⟩:=I i ops[i] (qz) p (by simpa[ordered]using hp)
    have hle:=h3 _ ho e k1 k2
    have GX:=Zx ops.toList 0 IP i ops[i] (qz) e k1 k2
    have GV:listed.getD e.on true=true:=by
     grind
    rcases k3 with rfl | ⟨_,k3⟩
    ·exact GV
    ·exact Ks e.on (Z) GV p k3 wM
   have z0N:∀ p∈pre,In p i:=by
    grind
   have EB:KM Stp (pre++i::post) s sf:=by
    have:rest ops listed=pre++i::post:=g1
    grind
   obtain⟨s1,k1,k2⟩:=BD Er z0N EB
   have X2:rest ops (listed.setIfInBounds i true)=pre++post:=g2
   obtain⟨kk,k1⟩:=z0W _ _ _ k1
   refine YZ hC B hR vX k1 λa1 κ1 e1 e2 e3 e4 e5 => ?_
   refine Ji z0W Er hC IP fuel (listed.setIfInBounds i true) (λp j hpj hj hp=>dV p j hpj hj (by
    rw[cr (Z)]at hp
    split at hp
    ·cases hp
    ·exact hp)) (by simp[bI]) ?_ ?_ e2 e4 e1 (by rw[X2]; exact k2) λa' E d1 d2 d3 d4 d5=>hQ a' E d1 d2 (e3.trans d3) d4 (e5.trans d5)
   ·have:rest ops listed=pre++i::post:=g1
    rw[this]at hfuel
    rw[X2]
    simp only[List.length_append,List.length_cons]at hfuel ⊢
    omega
   ·intro q hq RI p hp wM
    rw[cr (Z)]at RI ⊢
    split
    ·rfl
    ·split at RI
     ·rename_i e; subst e; exact z0C p hp wM
     ·exact Ks q hq RI p hp wM
theorem Fc{kd:Nat->Nat}:∀ (l:List Nat) (s s':F×St),Qg c n ops kd l s s'->KM (λi s s'=>eY c n ops i s s' (kd i)) l s s'
 | [],_,_,h=>h
 | i::l,s,s',⟨s1,h1,M⟩=>⟨s1,h1,Fc l s1 s' M⟩
theorem YX{kd:Nat->Nat}{Q:Exit->Act->World->Prop}(hC:∀ g,Di c.P g (c.fn g))(IP:fX ops.toList 0=true)
  {sf:F×St}:∀ (fuel:Nat) (listed:Array Bool) {O:KS} {a:Act} {s:F×St},(∀ p i,p<i->i<ops.size->listed.getD p true=false->ordered (vW ops.toList []) p i=true\/Ind ops kd p i) ->
  listed.size=ops.size->fuel=(rest ops listed).length->WJ ops listed->Inv O->Rel O n s.1 a->O.st=s.2->Qg c n ops kd (rest ops listed) s sf ->
  (∀ (a':Act) (E:KS),E.st=sf.2->Inv E->Ext O E->Rel E n sf.1 a'->pE ops a a'->Q .normal a' E.w)->wpAny c.P .any ops Q fuel listed a O.w
 | fuel,listed,O,a,s,dV,bI,hfuel,Ks,B,hR,vX,jM,hQ =>
  Ji (Stp:=λi s s'=>eY c n ops i s s' (kd i)) (In:=λp i=>Ind ops kd p i) (λi s s' h=>⟨_,h⟩) (λp i hi s s1 s2 h1 M=>Bz hi h1 M) hC IP fuel listed dV bI hfuel Ks B hR vX (Fc _ _ _ jM) hQ
end
end Go.AM
namespace Go.AM
set_option linter.unusedSectionVars false
variable [yY] [Hk]
open Go.RowKit
structure Up(O E:KS):Prop where
 same:I3 O.w E.w O.ok E.ok
 var:∀ (b:Nat) (d:D),O.st[b]? = some (.var d)->(∃ d',E.st[b]? = some (.var d'))/\E.ph[b]? = O.ph[b]?
 old:∀ (b vi:Nat),Old O.st b vi->Old E.st b vi
 row:∀ (b v:Nat) (e:Ty) (xs:List (den e)),Old O.st b v->E.st[b]? = some (.arr v e xs)->O.st[b]? = some (.arr v e xs)/\E.ph[b]? = O.ph[b]?
theorem RD.up{O E:KS}(x:Up O E){d:D}{v:Value}(h:RD O d v):RD E d v:=by
 induction h with
 | qj τ y cs h=>exact .qj τ y cs (h.mono x.same)
 | sr e l b v h ht hf=>exact .sr e l b v (h.mono x.same) ht hf
 | vz e a=>exact .vz e a
 | tight e l ne blk off f kf j3 h hc=>exact .tight e l ne blk off f kf (x.same _ j3).1 (λi hi=>(h i hi).mono x.same) λi hi j v hv=>by rw[lK (x.same _ j3).2]; exact hc i hi j v hv
 | wE=>exact .wE
 | gU=>exact .gU
 | v8=>exact .v8
 | gj=>exact .gj
 | uT=>exact .uT
 | WH v h=>exact .WH v h
 | mP T=>exact .mP T
 | nn b T d J =>
  obtain⟨⟨d',eb⟩,hp⟩:=x.var b d J
  exact .nn b T d' eb
 | yL b blk n d J h =>
  obtain⟨⟨d',eb⟩,hp⟩:=x.var b d J
  exact .yL b blk n d' eb (hp.trans h)
 | np b T blk n d J h =>
  obtain⟨⟨d',eb⟩,hp⟩:=x.var b d J
  exact .np b T blk n d' eb (hp.trans h)
 | ptr b off blk n d J h =>
  obtain⟨⟨d',eb⟩,hp⟩:=x.var b d J
  exact .ptr b off blk n d' eb (hp.trans h)
 | vA τ y cs blk off j3 h hc=>exact .vA τ y cs blk off (x.same _ j3).1 (h.mono x.same) λj v hv=>by rw[lK (x.same _ j3).2]; exact hc j v hv
 | gG b vi e idx off blk o I h =>
  refine .gG b vi e idx off blk o (x.old b vi I) λxs N hi => ?_
  obtain⟨h1,M⟩:=x.row b vi e xs I N
  grind
 | ms b vi e off len cap a I jg ha Ws h =>
  refine .ms b vi e off len cap a (x.old b vi I) jg ha Ws λxs N => ?_
  obtain⟨h1,M⟩:=x.row b vi e xs I N
  have:=h xs h1
  unfold Mf at this ⊢
  grind
 | wh f l vs R h ih=>exact .wh f l vs R ih
 | agg l vs R ho h ih=>exact .agg l vs R ho ih
 | eD l vs R h ih=>exact .eD l vs R ih
 | iface t d v h ih=>exact .iface t d v ih
structure Nob(O:KS)(blk:Nat):Prop where
 lt:blk<O.w.heap.size
 ok:¬ O.ok blk
 ph:∀ (b n:Nat),O.ph[b]? ≠ some (some (blk,n))
theorem Nob.ext{O E:KS}(x:Ext O E){blk:Nat}(h:Nob O blk):Nob E blk/\E.w.heap[blk]? = O.w.heap[blk]? := by
 refine⟨⟨Nat.lt_of_lt_of_le h.lt x.size,λhk => ?_,λb n I => ?_⟩,x.frame blk h.lt h.ph⟩
 ·rcases x.fresh blk hk with h1 | h1 | ⟨b,n,h1⟩
  ·exact h.ok h1
  ·have:=h.lt; omega
  ·exact h.ph b n h1
 ·rcases x.phs b blk n I with h1 | h1
  ·exact h.ph b n h1
  ·have:=h.lt; omega
def KS.push(O:KS)(blk n:Nat)(d:D):KS:={ O with ph:=O.ph++[some (blk,n)],st:=O.st++[.var d] }
theorem Z7{α:Type}{l:List α}{x y:α}{b:Nat}(h:l[b]? = some y):(l++[x])[b]? = some y:=xy
theorem W7{α:Type}{l:List α}{x y:α}{b:Nat}(h:(l++[x])[b]? = some y):l[b]? = some y\/(b=l.length/\y=x):=xy
theorem P9{O:KS}(B:Inv O)(blk n:Nat)(d:D):Up O (O.push blk n d):=by
 have GG:∀ {b:Nat} {y:cJ},O.st[b]? = some y->(O.ph++[some (blk,n)])[b]? = O.ph[b]? := λh=>by
  rw[zI]; rw[B.len]; exact(zQ.1 h).1
 refine⟨λk hk=>⟨hk,rfl⟩,λb d' h=>⟨⟨d',Z7 h⟩,GG h⟩,λb vi h => ?_,λb v e xs ho h => ?_⟩
 ·rcases h with h | ⟨v0,e0,Vq,h,hv⟩
  ·exact .inl (Z7 h)
  ·exact .inr ⟨v0,e0,Vq,Z7 h,hv⟩
 ·rcases W7 h with h1 | ⟨_,h1⟩
  ·exact⟨h1,GG h1⟩
  ·cases h1
theorem z8z{κ0 O:KS}{blk:Nat}{d:D}{z:Value}{t:TypeId}(B:Inv O)(N:Ext κ0 O)(I:Nob O blk)(h0:κ0.w.heap.size<=blk)(hz:RD O d z)(ht:d.bz=false)(ML:∀ T,d.typed=some T->t=T)(hh:O.w.heap[blk]? = some (.cells z.cells t (0,0))) :
  Inv (O.push blk z.cells.size d)/\Ext κ0 (O.push blk z.cells.size d)/\RD (O.push blk z.cells.size d) (.ptr O.st.length 0) (.pointer (some ⟨blk,0,none⟩)):=by
 have hu:=P9 B blk z.cells.size d
 have vX:(O.push blk z.cells.size d).st[O.st.length]? = some (.var d):=by simp[KS.push]
 have GG:(O.push blk z.cells.size d).ph[O.st.length]? = some (some (blk,z.cells.size)):=by simp[KS.push,<- B.len]
 have z0V:∀ {b k m:Nat},(O.push blk z.cells.size d).ph[b]? = some (some (k,m))->O.ph[b]? = some (some (k,m))\/(b=O.ph.length/\k=blk):=by
  intro b k m h
  rcases W7 h with h1 | ⟨h1,M⟩
  ·grind
  ·grind
 refine⟨⟨by simp[KS.push,B.len],B.bJ,λb k m h => ?_,λb b' k m m' h h' => ?_,λb y h => ?_,B.gl⟩,?_,.ptr _ 0 blk _ d vX GG⟩
 ·rcases z0V h with h1 | ⟨_,rfl⟩
  ·exact B.apart b k m h1
  ·exact⟨I.lt,I.ok⟩
 ·rcases z0V h with h1 | ⟨h1,rfl⟩
  ·rcases z0V h' with M | ⟨M,rfl⟩
   ·exact B.inj b b' k m m' h1 M
   ·exact(I.ph b m h1).elim
  ·rcases z0V h' with M | ⟨M,_⟩
   ·exact(I.ph b' m' M).elim
   ·omega
 ·rcases W7 h with h1 | ⟨h1,M⟩
  ·have hp:(O.push blk z.cells.size d).ph[b]? = O.ph[b]? := by
    show(O.ph++[_])[b]? = _
    grind
   have hy:=B.blk b y h1
   cases y with
   | dead=>trivial
   | var d' =>
    refine kT.elim hy (λhm ⟨k,m,cs,T,g1,g2,g3,g4,g5⟩=>.mk hm ⟨k,m,cs,T,hp.trans g1,g2,g3,⟨g4.1,λi h1 M=>(g4.2 i h1 M).up hu⟩,g5⟩) λl e ⟨k,o,g1,g2⟩ => ?_
    subst e
    exact⟨k,o,hp.trans g1,g2⟩
   | arr vi e xs =>
    obtain⟨g0,g⟩:=hy
    refine⟨g0,rP g (λh=>⟨h.1,hp.trans h.2⟩) ?_⟩
    rintro⟨k,m,cs,T,g1,g2⟩
    exact⟨k,m,cs,T,hp.trans g1,g2⟩
  ·subst h1
   subst M
   have hf:=cx hz ht
   exact .mk hz.z2i ⟨blk,z.cells.size,z.cells,t,GG,hh,rfl,⟨hf.1,λi h1 M=>(hf.2 i h1 M).up hu⟩,cv hz,ML⟩
 ·refine⟨N.os,N.tape,N.output,N.size,N.same,N.fresh,λb k m h => ?_,λb d' h => ?_,λb v0 e xs h => ?_,λb h=>Z7 (N.dead b h),Nat.le_trans N.Ft (by simp[KS.push]),N.frame⟩
  ·rcases z0V h with h1 | ⟨_,rfl⟩
   ·exact N.phs b k m h1
   ·exact .inr h0
  ·obtain⟨⟨d1,h1⟩,M⟩:=N.var b d' h
   obtain⟨h3,h4⟩:=hu.var b d1 h1
   exact⟨h3,h4.trans M⟩
  ·rcases N.arr b v0 e xs h with h1 | ⟨v1,xs1,h1,M,h3⟩
   ·exact .inl (Z7 h1)
   ·refine .inr ⟨v1,xs1,Z7 h1,M,λhe=>⟨?_,(h3 he).2⟩⟩
    have hp:(O.push blk z.cells.size d).ph[b]? = O.ph[b]? := by
     show(O.ph++[_])[b]? = _
     rw[zI]; rw[B.len]; exact(zQ.1 h1).1
    exact hp.trans (h3 he).1
theorem z5u{O:KS}(B:Inv O)(o:Obj):Inv { O with w:=O.w.alloc o }/\Ext O { O with w:=O.w.alloc o }/\Nob { O with w:=O.w.alloc o } O.w.heap.size/\(O.w.alloc o).heap[O.w.heap.size]? = some o:=by
 have hs:(O.w.alloc o).heap.size=O.w.heap.size+1:=qz
 have hold:∀ k,k<O.w.heap.size->(O.w.alloc o).heap[k]? = O.w.heap[k]? := λk hk=>by
  show(O.w.heap.push o)[k]? = _
  grind
 have N:Ext O { O with w:=O.w.alloc o }:=⟨rfl,rfl,rfl,qz,λk hk=>⟨hk,hold k (B.bJ k hk)⟩,λk hk=>.inl hk,λ_ _ _ h=>.inl h,λb d h=>⟨⟨d,h⟩,rfl⟩,
  λb v0 e xs h=>.inr ⟨v0,xs,h,qG _,λ_=>⟨rfl,rfl⟩⟩,λ_ h=>h,qG _,λk hk _=>hold k hk⟩
 refine⟨⟨B.len,λk hk => ?_,λb blk n h => ?_,B.inj,λb y hy=>(B.blk b y hy).mono N rfl λblk n h=>hold _ (B.apart b blk n h).1,B.gl.mono N.same⟩,N,⟨?_,λhk => ?_,λb n h => ?_⟩,?_⟩
 ·have:=B.bJ k hk; show k<(O.w.alloc o).heap.size; omega
 ·have:=B.apart b blk n h; exact⟨xy,this.2⟩
 ·simp
 ·have:=B.bJ _ hk; omega
 ·have:=(B.apart b _ n h).1; omega
 ·show(O.w.heap.push o)[O.w.heap.size]? = some o
  simp
section
variable {c:Ctx} {n:Nat} {ops:Array Oper}
structure Em where
 i:Nat
 d:Nat
 blk:Nat
 t:TypeId
 z:Value
 D:D
structure FY(c:Ctx)(ops:Array Oper)(κ0 O:KS)(a:Act)(e:Em):Prop where
 op:∃ o,ops[e.i]? = some o/\o.op=.alloc e.t/\o.guard=none/\o.dst=some e.d
 zero:K4 c e.t=some e.D
 z:∃ i,c.P.info? e.t=some i/\i.zero=some e.z/\ZD e.t e.D e.z
 val:a.tmps[e.d]? = some (.pointer (some ⟨e.blk,0,none⟩))
 heap:O.w.heap[e.blk]? = some (.cells e.z.cells e.t (0,0))
 nob:Nob O e.blk
 new:κ0.w.heap.size<=e.blk
theorem FY.mono{κ0 O E:KS}{a a':Act}{e:Em}(h:FY c ops κ0 O a e)(x:Ext O E)(ha:a'.tmps[e.d]? = a.tmps[e.d]?):FY c ops κ0 E a' e:=by
 obtain⟨h1,M⟩:=h.nob.ext x
 exact⟨h.op,h.zero,h.z,ha.trans h.val,M.trans h.heap,h1,h.new⟩
def dW(es:List Em)(f:F):F:=λs=>if es.any (λe=>zU e.d s)then none else f s
theorem U7{es:List Em}{f:F}{s:Nat}(h:∀ e∈es,e.d≠s):dW es f s=f s:=by
 unfold dW
 rw[if_neg]
 intro hh
 obtain⟨e,he,I⟩:=zO.1 hh
 exact h e he (Y I)
theorem Bb{es:List Em}{f:F}{s:Nat}{d:D}(h:dW es f s=some d):f s=some d/\∀ e∈es,e.d≠s:=by
 unfold dW at h
 split at h
 ·cases h
 ·rename_i hh
  refine⟨h,λe he hs=>hh (zO.2 ⟨e,he,?_⟩)⟩
  subst hs; simp
def rq(ops:Array Oper)(i:Nat):Prop:=∃ o,ops[i]? = some o/\Kc o=true
theorem RT{o:Oper}(h:Kc o=true):∃ t d,o.op=.alloc t/\o.guard=none/\o.dst=some d:=by
 unfold Kc at h
 simp only[zF]at h
 obtain⟨⟨h1,M⟩,h3⟩:=h
 split at h1
 ·rename_i t ht
  obtain⟨d,J⟩:=Option.isSome_iff_exists.1 h3
  exact⟨t,d,ht,Option.isNone_iff_eq_none.1 M,J⟩
 ·cases h1
theorem Cz{o:Oper}{t d:Nat}(h1:o.op=.alloc t)(M:o.guard=none)(h3:o.dst=some d):Kc o=true:=by
 unfold Kc; rw[h1,M,h3]; rfl
theorem Ff{kd:Nat->Nat}:∀ {l:List Nat} {s sf:F×St} {i:Nat},Qg c n ops kd l s sf->i∈l->∃ s1 s2,eY c n ops i s1 s2 (kd i)
 | [],_,_,_,_,h=>by cases h
 | j::l,s,sf,i,⟨s1,h1,M⟩,h=>by
  rcases qA.1 h with rfl | h
  ·grind
  ·exact Ff M h
theorem KQ{kd:Nat->Nat}{i t d:Nat}{o:Oper}(ho:ops[i]? = some o)(h1:o.op=.alloc t)(M:o.guard=none)(h3:o.dst=some d){s s':F×St}(h:eY c n ops i s s' (kd i)) :
  ∃ D,K4 c t=some D/\d<n/\s'=(dQ s.1 (some d) (some (.ptr s.2.length 0)),s.2++[.var D]):=by
 obtain⟨o',ho',J,h⟩:=h
 rw[ho]at ho'
 cases ho'
 rw[h3]at J
 have wM:d<n:=X J
 have hw:jF ops s.1 o=some true:=by unfold jF; rw[M]
 rcases h with⟨_,_,D,qm,R,rfl⟩ | ⟨hw',_,_⟩
 ·have he:wP c (wA s.1) o=ow c t:=by
   obtain⟨dst,op,ty,pos,after,guard⟩:=o
   cases h1
   rfl
  rw[he]at R
  unfold ow at R
  split at R
  ·rename_i y hy
   simp only[qu,T.leads]at R
   grind
  ·exact absurd R zh
 ·grind
theorem Ln{es:List Em}{i k:Nat}{s s':F×St}(h:eY c n ops i s s' k)(J:∀ o,ops[i]? = some o->∀ e∈es,e.d ∉ tmpsOf ops o) :
  eY c n ops i (dW es s.1,s.2) (dW es s'.1,s'.2) k:=by
 obtain⟨o,ho,z5L,h⟩:=h
 have T6:=J o ho
 have zgd:∀ x:Option D,dQ (dW es s.1) o.dst x=dW es (dQ s.1 o.dst x):=by
  intro x
  cases hds:o.dst with
  | none=>rfl
  | some t =>
   funext u
   simp only[dQ,dW]
   by_cases hu:u=t
   ·subst hu
    rw[if_pos rfl]
    rw[if_neg,if_pos rfl]
    intro hh
    obtain⟨e,he,I⟩:=zO.1 hh
    exact T6 e he (by rw[Y I]; exact dN hds)
   ·grind
 have lv:∀ x∈o.op.operands,wA (dW es s.1) x=wA s.1 x:=by
  intro x N
  cases x with
  | tmp t=>exact U7 λe he ht=>T6 e he (ht▸Xf N)
  | _=>rfl
 have hw:jF ops (dW es s.1) o=jF ops s.1 o:=by
  unfold jF
  cases hg:o.guard with
  | none=>rfl
  | some jw =>
   obtain⟨j,w⟩:=jw
   simp only
   cases hs:bw ops j with
   | none=>rfl
   | some t =>
    simp only
    rw[U7 λe he ht=>T6 e he (ht▸Xe hg hs)]
 refine⟨o,ho,z5L,?_⟩
 rcases h with⟨h1,M,d,qm,h3,rfl⟩ | ⟨h1,M,rfl⟩
 ·refine .inl ⟨hw.trans h1,?_,d,qm,?_,?_⟩
  ·rw[show wP c (wA (dW es s.1)) o=wP c (wA s.1) o from WU o lv]; exact M
  ·rw[show wP c (wA (dW es s.1)) o=wP c (wA s.1) o from WU o lv]; exact h3
  ·rw[zgd]
 ·grind
theorem Sy{O:KS}{a:Act}{i k:Nat}{s s':F×St}(hC:∀ g,Di c.P g (c.fn g))(B:Inv O)(hR:Rel O n s.1 a)(vX:O.st=s.2)(h:eY c n ops i s s' k){K:Act->World->Prop}{Q:Exit->Act->World->Prop}
  (hK:∀ (a':Act) (E:KS),E.st=s'.2->Inv E->Ext O E->Rel E n s'.1 a'->pE ops a a'->(∀ u:Nat,(∀ o,ops[i]? = some o->o.dst≠some u)->a'.tmps[u]? = a.tmps[u]?)->K a' E.w):wpOp c.P ops Q i K a O.w:=by
 obtain⟨o,ho,J,h⟩:=h
 have hu:∀ (v:Value) (u:Nat),(∀ o,ops[i]? = some o->o.dst≠some u)->(a.put o.dst v).tmps[u]? = a.tmps[u]? := by
  intro v u hn
  have:=hn o ho
  cases hds:o.dst with
  | none=>rfl
  | some t =>
   rw[hds]at this
   have kf:t≠u:=λe=>this (by rw[e])
   simp[qW,zH kf]
 unfold wpOp
 rw[ho]
 simp only
 rcases h with⟨hw,_,d,qm,R,rfl⟩ | ⟨hw,_,rfl⟩
 ·rw[if_pos (Ze hR hw)]
  refine .inl (Fa hC B hR (vX▸R) λv E h1 M h3 h4=>hK _ E h1 M h3 ((hR.mono h3).put J h4) (X7 ho) (hu v))
 ·rw[if_neg (by rw[Ze hR hw]; exact Bool.false_ne_true)]
  exact hK _ O vX B (Ext.refl O) (hR.put J λd' eb=>by cases eb; exact z2K (v:=undef)) (X7 ho) (hu undef)
def kd3(kd:Nat->Nat)(o:Oper)(i:Nat):Nat:=bif Kc o then 3 else kd i
def z4U(ops:Array Oper)(kd:Nat->Nat)(p i:Nat):Prop:=∀ x y,ops[p]? = some x->ops[i]? = some y ->
 (∀ d,x.dst=some d->d ∉ tmpsOf ops y)/\(∀ d,y.dst=some d->d ∉ tmpsOf ops x)/\QL (kd3 kd x p) (kd3 kd y i)=false
theorem TD{k l:Nat}(hk:k<=2)(R:l<=2)(h:QL k l=false):bM k l=false:=by
 have h1:zU k 3=false:=ZX (Z)
 have M:zU l 3=false:=ZX (Z)
 simpa[QL,h1,M]using h
theorem z5a{k l:Nat}(R:l<=2)(h:QL 3 l=false):bM k l=false:=by
 have M:zU l 3=false:=ZX (Z)
 have h3:bM 2 l=false:=by simpa[QL,M]using h
 have h0:l=0:=by
  match l,R,h3 with
  | 0,_,_=>rfl
  | 1,_,h3=>cases h3
  | 2,_,h3=>cases h3
 subst h0
 simp[bM]
theorem z5b{k l:Nat}(hk:k<=2)(h:QL k 3=false):bM k l=false:=by
 have M:zU k 3=false:=ZX (Z)
 have h3:bM k 2=false:=by simpa[QL,M]using h
 have h0:k=0:=by
  match k,hk,h3 with
  | 0,_,_=>rfl
  | 1,_,h3=>cases h3
  | 2,_,h3=>cases h3
 subst h0
 simp[bM]
theorem Cs{kd:Nat->Nat}{p i:Nat}(h:z4U ops kd p i)(hp:kd p<=2)(hi:kd i<=2)(hn:¬ (rq ops p/\rq ops i)):Ind ops kd p i:=by
 intro x y N hy
 obtain⟨h1,M,h3⟩:=h x y N hy
 refine⟨h1,M,?_⟩
 unfold kd3 at h3
 cases hax:Kc x with
 | true =>
  cases hay:Kc y with
  | true=>exact(hn ⟨⟨x,N,hax⟩,y,hy,hay⟩).elim
  | false=>rw[hax,hay]at h3; exact z5a hi h3
 | false =>
  cases hay:Kc y with
  | true=>rw[hax,hay]at h3; exact z5b hp h3
  | false=>rw[hax,hay]at h3; exact TD hp hi h3
theorem least{es:List Em}(h:es≠[]):∃ e∈es,∀ f∈es,e.i<=f.i:=by
 induction es with
 | nil=>grind
 | cons e r ih =>
  by_cases hr:r=[]
  ·subst hr; exact⟨e,zK,λf hf=>xy⟩
  ·grind
def Dis(e f:Em):Prop:=e.i≠f.i/\e.blk≠f.blk/\e.d≠f.d
theorem Dis.symm{e f:Em}(h:Dis e f):Dis f e:=⟨h.1.symm,h.2.1.symm,h.2.2.symm⟩
theorem flush{kd:Nat->Nat}{κ0:KS}(dV:∀ p i,p<i->i<ops.size->ordered (vW ops.toList []) p i=true\/z4U ops kd p i)(mZ:∀ i,i<ops.size->kd i<=2)
  {listed:Array Bool} (Ks:WJ ops listed) (ZK:∀ q,q<ops.size->rq ops q->listed.getD q true=true) {a:Act} {sf:F×St} :
  ∀ (m:Nat) (es:List Em) (wX:Array Bool) (O:KS) (s:F×St),es.length=m->wX.size=ops.size->(∀ j,j<ops.size->wX.getD j true=true->listed.getD j true=true) ->
  (∀ j,j<ops.size->listed.getD j true=true->wX.getD j true=false->∃ e∈es,e.i=j)->(∀ e∈es,e.i<ops.size/\listed.getD e.i true=true/\wX.getD e.i true=false)->es.Pairwise Dis ->
  Inv O->Rel O n (dW es s.1) a->O.st=s.2->Ext κ0 O->(∀ e∈es,FY c ops κ0 O a e)->Qg c n ops kd (rest ops wX) s sf ->
  ∃ (E:KS) (s':F×St),E.w=O.w/\E.st=s'.2/\Inv E/\Ext κ0 E/\Rel E n s'.1 a/\Qg c n ops kd (rest ops listed) s' sf:=by
 intro m
 induction m with
 | zero =>
  intro es wX O s R _ h1 M _ _ B hR vX N _ jM
  obtain rfl:es=[]:=zW R
  refine⟨O,s,rfl,vX,B,N,hR,?_⟩
  have:rest ops wX=rest ops listed:=by
   unfold rest
   refine List.filter_congr λi hi => ?_
   grind
  grind
 | succ m ih =>
  intro es wX O s R bI h1 M h3 IM B hR vX N hem jM
  obtain⟨e,he,zbF⟩:=least (es:=es) (λh=>by rw[h]at R; cases R)
  obtain⟨l1,l2,rfl⟩:=List.append_of_mem he
  obtain⟨hei,hel,hea⟩:=h3 e he
  have GY:∀ f,f∈l1++l2->f∈l1++e::l2:=λf hf=>by
   grind
  have z9G:∀ f,f∈l1++e::l2->f=e\/f∈l1++l2:=λf hf=>by
   rcases xA.1 hf with hf | hf
   ·exact .inr (List.mem_append_left _ hf)
   ·rcases qA.1 hf with rfl | hf
    ·exact .inl rfl
    ·exact .inr (List.mem_append_right _ hf)
  have hde:∀ f∈l1++l2,Dis e f:=by
   intro f hf
   rw[List.pairwise_append]at IM
   obtain⟨_,d2,d3⟩:=IM
   rcases xA.1 hf with hf | hf
   ·exact(d3 f hf e zK).symm
   ·exact(qE.1 d2).1 f hf
  have MI:(l1++l2).Pairwise Dis:=IM.sublist (List.Sublist.append_left (List.sublist_cons_self e l2) l1)
  obtain⟨pre,post,g1,g2,g3⟩:=ir (p:=λi => !wX.getD i true) (q:=λj => !(wX.setIfInBounds e.i true).getD j true) (i:=e.i) (qF ops.size) zN
   (V.2 hei) (by simp[hea]) (λj=>by
    rw[cr (Z)]
    by_cases h:j=e.i
    ·subst h; simp
    ·simp[h])
  have z0N:∀ p∈pre,Ind ops kd p e.i:=by
   intro p hp
   obtain⟨q1,q2,q3⟩:=g3 p hp
   have q2:=V.1 q2
   have hpa:wX.getD p true=false:=by simpa using q1
   have Yi:listed.getD p true=false:=by
    cases I:listed.getD p true with
    | false=>rfl
    | true =>
     obtain⟨f,hf,Eu⟩:=M p q2 I hpa
     have:=zbF f hf
     omega
   have hna:¬ rq ops p:=λh=>by rw[ZK p q2 h]at Yi; cases Yi
   rcases dV p e.i q3 hei with h | h
   ·have:=Ks e.i hei hel p h q2
    rw[this]at Yi; cases Yi
   ·exact Cs h (mZ p q2) (mZ e.i hei) λhh=>hna hh.1
  have EB:Qg c n ops kd (pre++e.i::post) s sf:=by
   have:rest ops wX=pre++e.i::post:=g1
   rw[<- this]; exact jM
  obtain⟨s1,k1,k2⟩:=Gn z0N EB
  have hE:=hem e he
  obtain⟨o,o1,o2,o3,o4⟩:=hE.op
  obtain⟨D,d1,d2,rfl⟩:=KQ o1 o2 o3 o4 k1
  obtain rfl:D=e.D:=Option.some.inj (d1.symm.trans hE.zero)
  obtain⟨iz,z1,z2,z3⟩:=hE.z
  obtain⟨p1,p2,p3⟩:=z8z B N hE.nob hE.new (z3.rd O) z3.eD z3.ty hE.heap
  have hup:=P9 B e.blk e.z.cells.size e.D
  refine ih (l1++l2) (wX.setIfInBounds e.i true) (O.push e.blk e.z.cells.size e.D) (dQ s.1 (some e.d) (some (.ptr s.2.length 0)),s.2++[.var e.D]) (by simp at R ⊢; omega) (by simp[bI]) (λj hj ha => ?_) (λj hj I ha => ?_) (λf hf => ?_) MI p1 ?_ (by show O.st++_=s.2++_; rw[vX]) p2 (λf hf => ?_) ?_
  ·rw[cr (Z)]at ha
   split at ha
   ·rename_i h; subst h; exact hel
   ·exact h1 j hj ha
  ·rw[cr (Z)]at ha
   split at ha
   ·cases ha
   ·rename_i kf
    obtain⟨f,hf,Eu⟩:=M j hj I ha
    rcases z9G f hf with rfl | hf
    ·exact absurd Eu.symm kf
    ·exact⟨f,hf,Eu⟩
  ·obtain⟨f1,f2,f3⟩:=h3 f (GY f hf)
   refine⟨f1,f2,?_⟩
   rw[cr (Z),if_neg (hde f hf).1.symm]
   exact f3
  ·refine⟨hR.size,hR.defers,λu d0 hu => ?_⟩
   obtain⟨u1,u2⟩:=Bb hu
   simp only[dQ]at u1
   by_cases hue:u=e.d
   ·subst hue
    rw[if_pos rfl]at u1
    cases u1
    rw[<- vX]
    exact⟨_,hE.val,p3⟩
   ·rw[if_neg hue]at u1
    have:dW (l1++e::l2) s.1 u=some d0:=by
     rw[U7 λf hf hfu => ?_]
     ·exact u1
     ·rcases z9G f hf with rfl | hf
      ·exact hue hfu.symm
      ·exact u2 f hf hfu
    obtain⟨v,v1,v2⟩:=hR.get u d0 this
    exact⟨v,v1,v2.up hup⟩
  ·have hF:=hem f (GY f hf)
   refine⟨hF.op,hF.zero,hF.z,hF.val,hF.heap,⟨hF.nob.lt,hF.nob.ok,λb m I => ?_⟩,hF.new⟩
   rcases W7 I with I | ⟨_,I⟩
   ·exact hF.nob.ph b m I
   ·exact(hde f hf).2.1 (congrArg Prod.fst (Option.some.inj I)).symm
  ·have:rest ops (wX.setIfInBounds e.i true)=pre++post:=g2
   rw[this]; exact k2
theorem z2O{listed:Array Bool}{i:Nat}(bI:listed.size=ops.size)(h1:i<ops.size)(M:listed.getD i true=false):(rest ops listed).length=(rest ops (listed.setIfInBounds i true)).length+1:=by
 obtain⟨pre,post,g1,g2,_⟩:=ir (p:=λi => !listed.getD i true) (q:=λj => !(listed.setIfInBounds i true).getD j true) (i:=i) (qF ops.size) zN
  (V.2 h1) (xy) (λj=>by
   rw[cr (Z)]
   by_cases h:j=i
   ·grind
   ·simp[h])
 have e1:rest ops listed=pre++i::post:=g1
 have e2:rest ops (listed.setIfInBounds i true)=pre++post:=g2
 grind
theorem Iu{listed:Array Bool}{i:Nat}(IP:fX ops.toList 0=true)(bI:listed.size=ops.size)(Ks:WJ ops listed)(h1:i<ops.size)
  (h3:∀ o,ops[i]? = some o->∀ e∈o.after.toList,zZ .any e=true->listed.getD e.on false=true) :
  (∀ p,ordered (vW ops.toList []) p i=true->p<ops.size->listed.getD p true=true)/\WJ ops (listed.setIfInBounds i true):=by
 have z0C:∀ p,ordered (vW ops.toList []) p i=true->p<ops.size->listed.getD p true=true:=by
  intro p hp wM
  obtain⟨r,_,_,I⟩:=Zm ops.toList []
  obtain⟨e,k1,k2,k3⟩:=I i ops[i] (qz) p (by simpa[ordered]using hp)
  have GX:=Zx ops.toList 0 IP i ops[i] (qz) e k1 k2
  have GV:listed.getD e.on true=true:=by
   grind
  rcases k3 with rfl | ⟨_,k3⟩
  ·exact GV
  ·exact Ks e.on (Z) GV p k3 wM
 refine⟨z0C,λq hq RI p hp wM => ?_⟩
 rw[cr (Z)]at RI ⊢
 split
 ·rfl
 ·split at RI
  ·grind
  ·exact Ks q hq RI p hp wM
theorem CW{O:KS}{a:Act}{es:List Em}{f:F}{e:Em}{v:Value}(hR:Rel O n (dW es f) a):Rel O n (dW (e::es) f) (a.put (some e.d) v):=by
 refine⟨by simp[qW,hR.size],hR.defers,λu d hu => ?_⟩
 obtain⟨u1,u2⟩:=Bb hu
 have kf:e.d≠u:=u2 e zK
 have:dW es f u=some d:=by rw[U7 λg hg=>u2 g (zS _ hg)]; exact u1
 obtain⟨w,w1,w2⟩:=hR.get u d this
 exact⟨w,by simp[qW,zH kf]; exact w1,w2⟩
theorem Ve{kd:Nat->Nat}{Q:Exit->Act->World->Prop}(hC:∀ g,Di c.P g (c.fn g))(IP:fX ops.toList 0=true)
  (dV:∀ p i,p<i->i<ops.size->ordered (vW ops.toList []) p i=true\/z4U ops kd p i) (mZ:∀ i,i<ops.size->kd i<=2)
  (ZK:∀ p j,p<ops.size->rq ops p->j<ops.size->ordered (vW ops.toList []) p j=true->∀ q,q<ops.size->rq ops q->ordered (vW ops.toList []) q j=true)
  {κ0:KS} {a0:Act} {sf:F×St}:∀ (fuel:Nat) (listed wX:Array Bool) (es:List Em) {O:KS} {a:Act} {s:F×St},
  listed.size=ops.size->wX.size=ops.size->fuel=(rest ops listed).length->WJ ops listed->(∀ j,j<ops.size->wX.getD j true=true->listed.getD j true=true) ->
  (∀ j,j<ops.size->listed.getD j true=true->wX.getD j true=false->∃ e∈es,e.i=j)->(∀ e∈es,e.i<ops.size/\listed.getD e.i true=true/\wX.getD e.i true=false)->es.Pairwise Dis ->
  (∃ q,q<ops.size/\rq ops q/\listed.getD q true=false)->Inv O->Rel O n (dW es s.1) a->O.st=s.2->Ext κ0 O->(∀ e∈es,FY c ops κ0 O a e)->Qg c n ops kd (rest ops wX) s sf->pE ops a0 a ->
  (∀ (a':Act) (E:KS),E.st=sf.2->Inv E->Ext κ0 E->Rel E n sf.1 a'->pE ops a0 a'->Q .normal a' E.w)->wpAny c.P .any ops Q fuel listed a O.w
 | 0,listed,wX,es,O,a,s,bI,hszA,hfuel,Ks,h1,M,h3,IM,⟨q,q1,q2,q3⟩,B,hR,vX,N,hem,jM,hkp,hQ=>by
  have hre:rest ops listed=[]:=zW hfuel.symm
  have:q∈rest ops listed:=by simp only[rest,zX,V,zL]; exact⟨q1,q3⟩
  grind
 | fuel+1,listed,wX,es,O,a,s,bI,hszA,hfuel,Ks,h1,M,h3,IM,⟨q,q1,q2,q3⟩,B,hR,vX,N,hem,jM,hkp,hQ=>by
  refine⟨λh => ?_,λi hi => ?_⟩
  ·have hre:=G8 IP bI h
   grind
  rw[Q5]at hi
  obtain⟨i1,i2,i3⟩:=hi
  obtain⟨z0C,RF⟩:=Iu IP bI Ks i1 i3
  have IQ:fuel=(rest ops (listed.setIfInBounds i true)).length:=by have:=z2O bI i1 i2; omega
  have hia:wX.getD i true=false:=by
   grind
  have z0S:∀ p,p<ops.size->rq ops p->ordered (vW ops.toList []) p i=true->False:=by
   grind
  have nU:∀ j,(listed.setIfInBounds i true).getD j true=if j=i then true else listed.getD j true:=λj=>cr (Z)
  by_cases K8:rq ops i
  ·-- a new variable is laid
   obtain⟨o,ho,hao⟩:=K8
   obtain⟨t,d,o1,o2,o3⟩:=RT hao
   have him:i∈rest ops wX:=by simp only[rest,zX,V,zL]; exact⟨i1,hia⟩
   obtain⟨t1,t2,hos⟩:=Ff jM him
   obtain⟨D,d1,d2,_⟩:=KQ ho o1 o2 o3 hos
   obtain⟨iz,z,z1,z2,z3⟩:=sq d1
   obtain⟨w1,w2,w3,w4⟩:=z5u B (.cells z.cells t)
   let e:Em:=⟨i,d,O.w.heap.size,t,z,D⟩
   have zgg:(execOp a.eval o).run c.P O.w=.ok (.value (.pointer (some ⟨O.w.heap.size,0,none⟩))) (O.w.alloc (.cells z.cells t)):=by
    obtain⟨dst,op,ty,pos,after,guard⟩:=o
    cases o1
    simp[execOp,Instr.alloc,zeroValue,typeInfo,z1,z2,newVar,newRow]
   have zgr:qU o (yielded ops a.tmps)=true:=by unfold qU; rw[o2]
   unfold wpOp
   rw[ho]
   simp only
   rw[if_pos zgr]
   refine .inl ?_
   unfold Oper.wp
   rw[zgg]
   show wpAny c.P Region.Mode.any ops Q fuel (listed.setIfInBounds i true) (a.put o.dst (Value.pointer (some { block:=O.w.heap.size,off:=0 }))) (O.w.alloc (Obj.cells z.cells t))
   rw[o3]
   have kf:∀ f∈es,f.d≠d:=by
    intro f hf hfd
    obtain⟨f1,f2,f3⟩:=h3 f hf
    obtain⟨fo,fo1,fo2,fo3,fo4⟩:=(hem f hf).op
    have Eu:f.i≠i:=λh=>by rw[h,i2]at f2; cases f2
    rcases Nat.lt_or_gt_of_ne Eu with wM | wM
    ·rcases dV f.i i wM i1 with h | h
     ·exact z0S f.i f1 ⟨fo,fo1,Cz fo2 fo3 fo4⟩ h
     ·exact(h fo o fo1 ho).1 f.d fo4 (hfd▸dN o3)
    ·rcases dV i f.i wM f1 with h | h
     ·have:=Ks f.i f1 f2 i h i1; rw[i2]at this; cases this
     ·exact(h o fo ho fo1).1 d o3 (hfd▸dN fo4)
   have zn4:FY c ops κ0 { O with w:=O.w.alloc (.cells z.cells t) } (a.put (some d) (.pointer (some ⟨O.w.heap.size,0,none⟩))) e :=
    ⟨⟨o,ho,o1,o2,o3⟩,d1,⟨iz,z1,z2,z3⟩,by simp[e,qW,hR.size,d2],w4,w3,N.size⟩
   have zfJ:∀ f∈e::es,FY c ops κ0 { O with w:=O.w.alloc (.cells z.cells t) } (a.put (some d) (.pointer (some ⟨O.w.heap.size,0,none⟩))) f:=by
    intro f hf
    rcases qA.1 hf with rfl | hf
    ·exact zn4
    ·exact(hem f hf).mono w2 (by simp[qW,zH (λe'=>kf f hf e'.symm)])
   have hR':Rel { O with w:=O.w.alloc (.cells z.cells t) } n (dW (e::es) s.1) (a.put (some d) (.pointer (some ⟨O.w.heap.size,0,none⟩))):=CW (e:=e) (hR.mono w2)
   have hdE:∀ f∈es,Dis e f:=by
    intro f hf
    unfold Dis
    refine⟨λh => ?_,λh => ?_,λh=>kf f hf h.symm⟩
    ·have hf2:=(h3 f hf).2.1
     rw[<- h]at hf2
     have i2':listed.getD e.i true=false:=i2
     rw[i2']at hf2
     cases hf2
    ·have R:=(hem f hf).nob.lt
     rw[<- h]at R
     exact Nat.lt_irrefl _ R
   have MI:(e::es).Pairwise Dis:=qE.2 ⟨hdE,IM⟩
   have zfT:pE ops a0 (a.put (some d) (.pointer (some ⟨O.w.heap.size,0,none⟩))):=hkp.trans (by have:=X7 (a:=a) (v:=.pointer (some ⟨O.w.heap.size,0,none⟩)) ho; rw[o3]at this; exact this)
   have GD:∀ j,j<ops.size->wX.getD j true=true->(listed.setIfInBounds i true).getD j true=true:=λj hj ha=>by
    rw[nU]; split
    ·rfl
    ·exact h1 j hj ha
   have h2':∀ j,j<ops.size->(listed.setIfInBounds i true).getD j true=true->wX.getD j true=false->∃ f∈e::es,f.i=j:=λj hj I ha=>by
    rw[nU]at I
    split at I
    ·rename_i h; exact⟨e,zK,h.symm⟩
    ·obtain⟨f,hf,Eu⟩:=M j hj I ha; exact⟨f,zS _ hf,Eu⟩
   have h3':∀ f∈e::es,f.i<ops.size/\(listed.setIfInBounds i true).getD f.i true=true/\wX.getD f.i true=false:=λf hf=>by
    rcases qA.1 hf with rfl | hf
    ·exact⟨i1,by rw[nU]; exact if_pos rfl,hia⟩
    ·obtain⟨f1,f2,f3⟩:=h3 f hf
     exact⟨f1,by rw[nU]; split<;>first | rfl | exact f2,f3⟩
   by_cases hmore:∃ q,q<ops.size/\rq ops q/\(listed.setIfInBounds i true).getD q true=false
   ·exact Ve hC IP dV mZ ZK fuel (listed.setIfInBounds i true) wX (e::es) (O:={ O with w:=O.w.alloc (.cells z.cells t) }) (by simp[bI]) hszA IQ RF GD h2' h3' MI hmore w1 hR' vX (N.trans w2) zfJ jM zfT hQ
   ·-- all are laid
    have z9r:∀ q,q<ops.size->rq ops q->(listed.setIfInBounds i true).getD q true=true:=λq q1 q2=>by
     cases I:(listed.setIfInBounds i true).getD q true with
     | true=>rfl
     | false=>exact(hmore ⟨q,q1,q2,I⟩).elim
    obtain⟨E,s',f1,f2,f3,f4,f5,f6⟩:=flush (c:=c) (n:=n) dV mZ RF z9r (e::es).length (e::es) wX { O with w:=O.w.alloc (.cells z.cells t) } s rfl hszA GD h2' h3' MI w1 hR' vX (N.trans w2) zfJ jM
    have hgo:=YX (O:=E) hC IP fuel (listed.setIfInBounds i true) (Q:=Q) (λp j hpj hj hp=>(dV p j hpj hj).elim .inl λh=>.inr (Cs h (mZ p (Z)) (mZ j hj) λhh=>by
     rw[z9r p (Z) hh.1]at hp; cases hp)) (by simp[bI]) IQ RF f3 f5 f2 f6 λa' SW e1 e2 e3 e4 e5=>hQ a' SW e1 e2 (f4.trans e3) e4 (zfT.trans e5)
    rw[f1]at hgo
    exact hgo
  ·-- another operation
   have z9F:∀ o,ops[i]? = some o->∀ e∈es,e.d ∉ tmpsOf ops o:=by
    intro o ho f hf
    obtain⟨f1,f2,f3⟩:=h3 f hf
    obtain⟨fo,fo1,fo2,fo3,fo4⟩:=(hem f hf).op
    have Eu:f.i≠i:=λh=>by rw[h,i2]at f2; cases f2
    rcases Nat.lt_or_gt_of_ne Eu with wM | wM
    ·rcases dV f.i i wM i1 with h | h
     ·exact(z0S f.i f1 ⟨fo,fo1,Cz fo2 fo3 fo4⟩ h).elim
     ·exact(h fo o fo1 ho).1 f.d fo4
    ·rcases dV i f.i wM f1 with h | h
     ·have:=Ks f.i f1 f2 i h i1; rw[i2]at this; cases this
     ·exact(h o fo ho fo1).2.1 f.d fo4
   obtain⟨pre,post,g1,g2,g3⟩:=ir (p:=λi => !wX.getD i true) (q:=λj => !(wX.setIfInBounds i true).getD j true) (i:=i) (qF ops.size) zN
    (V.2 i1) (by simp[hia]) (λj=>by
     rw[cr (Z)]
     by_cases h:j=i
     ·subst h; simp
     ·simp[h])
   have z0N:∀ p∈pre,Ind ops kd p i:=by
    intro p hp
    obtain⟨r1,r2,r3⟩:=g3 p hp
    have r2:=V.1 r2
    have r1:wX.getD p true=false:=by simpa using r1
    rcases dV p i r3 i1 with h | h
    ·obtain⟨f,hf,Eu⟩:=M p r2 (z0C p h r2) r1
     obtain⟨fo,fo1,fo2,fo3,fo4⟩:=(hem f hf).op
     exact(z0S p r2 ⟨fo,by rw[<- Eu]; exact fo1,Cz fo2 fo3 fo4⟩ h).elim
    ·exact Cs h (mZ p r2) (mZ i i1) λhh=>K8 hh.2
   have EB:Qg c n ops kd (pre++i::post) s sf:=by
    have:rest ops wX=pre++i::post:=g1
    rw[<- this]; exact jM
   obtain⟨s1,k1,k2⟩:=Gn z0N EB
   refine Sy (s:=(dW es s.1,s.2)) (s':=(dW es s1.1,s1.2)) hC B hR vX (Ln k1 z9F) λa1 κ1 e1 e2 e3 e4 e5 e6 => ?_
   have z0X:∀ j,(wX.setIfInBounds i true).getD j true=if j=i then true else wX.getD j true:=λj=>cr (Z)
   refine Ve hC IP dV mZ ZK fuel (listed.setIfInBounds i true) (wX.setIfInBounds i true) es (O:=κ1) (s:=s1) (by simp[bI]) (by simp[hszA]) IQ RF (λj hj ha => ?_) (λj hj I ha => ?_) (λf hf => ?_) IM
    ⟨q,q1,q2,?_⟩ e2 e4 e1 (N.trans e3) (λf hf=>(hem f hf).mono e3 (e6 f.d λo ho hod=>z9F o ho f hf (dN hod))) ?_ (hkp.trans e5) hQ
   ·rw[z0X]at ha; rw[nU]
    split
    ·rfl
    ·rename_i h; rw[if_neg h]at ha; exact h1 j hj ha
   ·rw[z0X]at ha; rw[nU]at I
    split at ha
    ·cases ha
    ·rename_i h; rw[if_neg h]at I; exact M j hj I ha
   ·obtain⟨f1,f2,f3⟩:=h3 f hf
    have Eu:f.i≠i:=λh=>by rw[h,i2]at f2; cases f2
    exact⟨f1,by rw[nU,if_neg Eu]; exact f2,by rw[z0X,if_neg Eu]; exact f3⟩
   ·have hqi:q≠i:=λh=>K8 (by rw[<- h]; exact q2)
    rw[nU,if_neg hqi]; exact q3
   ·have:rest ops (wX.setIfInBounds i true)=pre++post:=g2
    rw[this]; exact k2
theorem WX{kd:Nat->Nat}:∀ {l:List Oper} {ks:List Nat} {i j:Nat} {o:Oper},l[i]? = some o->ks[i]? = some (kd j)->(Yw l ks)[i]? = some (kd3 kd o j)
 | [],_,i,_,_,h,_=>by simp at h
 | _::_,[],i,_,_,_,h=>by simp at h
 | x::l,k::ks,0,j,o,h1,M=>by simp at h1 M; subst h1; subst M; rfl
 | x::l,k::ks,i+1,j,o,h1,M=>by
  have:=WX (kd:=kd) (l:=l) (ks:=ks) (i:=i) (j:=j) (o:=o) (xy) (xy)
  simpa[Yw]using this
theorem Ho:∀ {l:List Oper} {k i:Nat} {o:Oper},l[i]? = some o->Kc o=true->k+i∈KP l k
 | [],_,_,_,h,_=>by simp at h
 | x::l,k,0,o,h1,M=>by simp at h1; subst h1; simp[KP,M]
 | x::l,k,i+1,o,h1,M=>by
  have:=Ho (l:=l) (k:=k+1) (i:=i) (o:=o) (xy) M
  simp only[KP]
  grind
theorem JT{kd:Nat->RK}:∀ (l:List Nat) (s s':F×St) (ks:List RK),Mg c n ops l s s' ks->ks=l.map kd->KM (λi s s'=>nE c n ops i s s' (kd i)) l s s'
 | [],s,s',ks,h,_=>h.1
 | i::l,s,s',ks,⟨s1,k,L4,e,h1,M⟩,hk=>by
  subst e
  simp at hk
  obtain⟨rfl,hk⟩:=hk
  exact⟨s1,h1,JT l s1 s' L4 M hk⟩
theorem SH{O:KS}{a:Act}{id:Nat}{draw:Bool}{fr:Fr}{kn:Kn}{s':oq}(hm:c.P.follows .mixedOrders=true)(hC:∀ g,Di c.P g (c.fn g))(B:Inv O)(hR:Rel O n fr.get a)(hk:yC kn fr.get)
  (h:(pC c n ops draw fr kn O.st).leads s') {Q:Exit->Act->World->Prop} (hQ:∀ (a':Act) (E:KS),E.st=s'.st->Inv E->Ext O E->Rel E n s'.fr.get a'->pE ops a a'->Q .normal a' E.w) :
  (Code.region id ops draw).wp c.P Q a O.w/\yC s'.kn s'.fr.get:=by
 simp only[pC,T.xg]at h
 obtain⟨s1,h1,M⟩:=h
 obtain⟨ks,g1,g2,g3⟩:=rT ops.toList 0 ⟨fr,kn,O.st,[],[]⟩ s1 (λj=>.inl (qz)) hk h1
 simp only[List.append_nil]at g3
 have R:ops.toList.length=ops.size:=qz
 rw[R,<- xC]at g1
 cases J:(!draw||WT ops s1.ks.reverse s1.bk.reverse)with
 | false=>rw[J]at M; exact M.elim
 | true =>
  rw[J,cond_true]at M
  cases M
  refine⟨?_,g2⟩
  cases draw with
  | false=>exact wp_region (P7 hC _ B hR rfl g1 hQ)
  | true =>
   simp only[Bool.not_true,Bool.false_or,WT,Bool.or_eq_true]at J
   obtain⟨rks,r1,r3⟩:=JU (ops:=ops) ops.toList 0 ⟨fr,kn,O.st,[],[]⟩ _ (λj=>.inl (qz)) hk h1
   simp only[List.append_nil]at r3
   rw[R,<- xC]at r1
   let kd:Nat->Nat:=λi=>ks.getD i 0
   have hkl:ks.length=ops.size:=by rw[Fe _ _ _ _ g1]; simp
   have hks:ks=(qF ops.size).map kd:=by
    apply List.ext_getElem?
    intro i
    grind
   have jM:=YY (kd:=kd) _ _ _ _ g1 hks
   refine wp_region_any hm ?_
   let κd:KS:={ O with w:=O.w.drew }
   have N:Ext O κd:=⟨rfl,rfl,rfl,qG _,λk hk=>⟨hk,rfl⟩,λk hk=>.inl hk,λ_ _ _ h=>.inl h,λb d h=>⟨⟨d,h⟩,rfl⟩,
    λb v0 e xs h=>.inr ⟨v0,xs,h,qG _,λ_=>⟨rfl,rfl⟩⟩,λ_ h=>h,qG _,λk _ _=>rfl⟩
   have hId:Inv κd:=⟨B.len,B.bJ,B.apart,B.inj,λb y hy=>(B.blk b y hy).mono N rfl λ_ _ _=>rfl,B.gl.mono N.same⟩
   have X2:rest ops (qB ops.size false)=qF ops.size:=by
    unfold rest
    rw[List.filter_eq_self]
    intro i hi
    have:=V.1 hi
    simp[zY,this]
   have HJ:∀ j,j<ops.size->(qB ops.size false).getD j true=false:=λj hj=>by simp[zY,hj]
   have z5D:WJ ops (qB ops.size false):=λq hq RI=>by rw[HJ q hq]at RI; cases RI
   have Ez:∀ i,i<ops.size->ks[i]? = some (kd i):=λi hi=>by simp[kd,xF,zT (show i<ks.length by omega)]
   have JE:∀ i (hi:i<ops.size),ops.toList[i]? = some ops[i]:=λi hi=>qz
   rcases J with(J | J) | J
   ·simp only[Mz,zF]at J
    obtain⟨d1,d2⟩:=J
    rw[g3,qM]at d2
    have dV:∀ p i,p<i->i<ops.size->ordered (vW ops.toList []) p i=true\/Ind ops kd p i:=by
     intro p i Dp hi
     have hp:=Q1 ops.toList ks 0 [] d2 i ops[i] (kd i) (JE i hi) (Ez i hi)
     have:=hp.2 p ops[p] (kd p) Dp (JE p (Z)) (Ez p (Z))
     simp only[qO]at this
     refine rP this (λh=>h) λhap x y N hy => ?_
     rw[zP (Z)]at N hy
     cases N
     cases hy
     exact hap
    exact YX (O:=κd) hC d1 ops.size _ (λp i h1 M _=>dV p i h1 M) (qz) (by rw[X2]; simp) z5D hId (hR.mono N) rfl (by rw[X2]; exact jM) λa' E e1 e2 e3 e4 e5=>hQ a' E e1 e2 (N.trans e3) e4 e5
   ·simp only[MA,zF]at J
    obtain⟨⟨⟨d1,d0⟩,d2⟩,d3⟩:=J
    rw[g3,qM]at d0 d2
    have mZ:∀ i,i<ops.size->kd i<=2:=λi hi=>X (zJ.1 d0 _ (xB (Ez i hi)))
    have dV:∀ p i,p<i->i<ops.size->ordered (vW ops.toList []) p i=true\/z4U ops kd p i:=by
     intro p i Dp hi
     have hp:=Q1 ops.toList (Yw ops.toList ks) 0 [] d2 i ops[i] (kd3 kd ops[i] i) (JE i hi) (WX (JE i hi) (Ez i hi))
     have:=hp.2 p ops[p] (kd3 kd ops[p] p) Dp (JE p (Z)) (WX (JE p (Z)) (Ez p (Z)))
     simp only[qO]at this
     refine rP this (λh=>h) λhap x y N hy => ?_
     rw[zP (Z)]at N hy
     cases N
     cases hy
     exact hap
    have ZK:∀ p j,p<ops.size->rq ops p->j<ops.size->ordered (vW ops.toList []) p j=true->∀ q,q<ops.size->rq ops q->ordered (vW ops.toList []) q j=true:=by
     intro p j hp hap hj ho q hq haq
     unfold DD at d3
     have:=zJ.1 d3 j (V.2 (by simpa using hj))
     simp only[Bool.or_eq_true,zL,qQ,zJ]at this
     have hm:∀ r,rq ops r->r∈KP ops.toList 0:=λr ⟨o,h1,M⟩=>by
      have:=Ho (l:=ops.toList) (k:=0) (i:=r) (o:=o) (by rw[qI]; exact h1) M
      rwa [qO]at this
     rcases this with h | h
     ·have:=h p (hm p hap); rw[ho]at this; exact absurd rfl this
     ·exact h q (hm q haq)
    by_cases hex:∃ q,q<ops.size/\rq ops q
    ·obtain⟨q,q1,q2⟩:=hex
     exact Ve (κ0:=κd) (O:=κd) (a0:=a) hC d1 dV mZ ZK ops.size _ (qB ops.size false) [] (qz) (qz) (by rw[X2]; simp) z5D (λj hj h=>by rw[HJ j hj]at h; cases h)
      (λj hj h _=>by rw[HJ j hj]at h; cases h) (λe he=>by cases he) .nil ⟨q,q1,q2,HJ q q1⟩ hId (hR.mono N) rfl (Ext.refl _) (λe he=>by cases he) (by rw[X2]; exact jM) (pE.refl _ _)
      λa' E e1 e2 e3 e4 e5=>hQ a' E e1 e2 (N.trans e3) e4 e5
    ·exact YX (O:=κd) hC d1 ops.size _ (λp i h1 M _=>(dV p i h1 M).elim .inl λh=>.inr (Cs h (mZ p (Z)) (mZ i M) λhh=>hex ⟨p,Z,hh.1⟩)) (qz) (by rw[X2]; simp) z5D hId (hR.mono N) rfl (by rw[X2]; exact jM) λa' E e1 e2 e3 e4 e5=>hQ a' E e1 e2 (N.trans e3) e4 e5
   ·simp only[MB,zF]at J
    obtain⟨d1,d2⟩:=J
    rw[r3,qM]at d2
    let kr:Nat->RK:=λi=>rks.getD i (.z 0)
    have hrl:rks.length=ops.size:=by rw[Bi _ _ _ _ r1]; simp
    have znt:rks=(qF ops.size).map kr:=by
     apply List.ext_getElem?
     intro i
     by_cases hi:i<ops.size
     ·simp[kr,hi,xF,zT (show i<rks.length by omega)]
     ·rw[qJ (Z),qJ (by simp; omega)]
    have z9J:∀ i,i<ops.size->rks[i]? = some (kr i):=λi hi=>by simp[kr,xF,zT (show i<rks.length by omega)]
    have zgh:=JT (kd:=kr) _ _ _ _ r1 znt
    have dV:∀ p i,p<i->i<ops.size->ordered (vW ops.toList []) p i=true\/zaz ops kr p i:=by
     intro p i Dp hi
     have hp:=Q1 ops.toList rks 0 [] d2 i ops[i] (kr i) (JE i hi) (z9J i hi)
     have:=hp.2 p ops[p] (kr p) Dp (JE p (Z)) (z9J p (Z))
     simp only[qO]at this
     refine rP this (λh=>h) λhap x y N hy => ?_
     rw[zP (Z)]at N hy
     cases N
     cases hy
     exact hap
    exact Ji (O:=κd) (Stp:=λi s s'=>nE c n ops i s s' (kr i)) (In:=λp i=>zaz ops kr p i) (λi s s' h=>h.plain) (λp i hi s s1 s2 h1 M=>LL hi h1 M) hC d1 ops.size _ (λp i h1 M _=>dV p i h1 M) (qz) (by rw[X2]; simp) z5D hId (hR.mono N) rfl (by rw[X2]; exact zgh) λa' E e1 e2 e3 e4 e5=>hQ a' E e1 e2 (N.trans e3) e4 e5
end
end Go.AM
namespace Go.AM
set_option linter.unusedSectionVars false
variable [yY] [Hk]
def Dv(O:KS):Ex->Exit->Prop
 | .normal,e=>e=.normal
 | .exit id,e=>e=.exit id
 | .ret,e=>e=.ret
 | .hZ d,e=>∃ v,e=.panic [{ v,recovered:=false }]/\RD O d v
section
variable {c:Ctx} {n:Nat}
def ua:Code->List (Nat×Code)
 | .seq a b=>ua a++ua b
 | .cond _ a b=>ua a++ua b
 | .block id (.loop b)=>[(id,b)]
 | .block _ a=>ua a
 | _=>[]
theorem SG{ops:Array Oper}{draw:Bool}{fr:Fr}{kn:Kn}{st:St}{s':oq}(hk:yC kn fr.get)(h:(pC c n ops draw fr kn st).leads s'):yC s'.kn s'.fr.get:=by
 simp only[pC,T.xg]at h
 obtain⟨s1,h1,M⟩:=h
 obtain⟨ks,g1,g2,g3⟩:=rT ops.toList 0 ⟨fr,kn,st,[],[]⟩ s1 (λj=>.inl (qz)) hk h1
 cases J:(!draw||WT ops s1.ks.reverse s1.bk.reverse)with
 | false=>rw[J]at M; exact M.elim
 | true=>rw[J,cond_true]at M; cases M; exact g2
theorem nd(f:F):yC [] f:=by nofun
theorem EM{id:Nat}{b:Code}(I:∀ b',b≠.loop b'):ua (.block id b)=ua b:=by
 cases b<;>first | rfl | exact absurd rfl (I _)
end
end Go.AM
namespace Go.AM
set_option linter.unusedSectionVars false
variable [yY] [Hk]
section
variable {c:Ctx} {n:Nat}
theorem Hp:∀ (ds:List D) (i s:Nat),(yq ds i).get s=if i<=s then ds[s-i]? else none
 | [],i,s=>by simp[yq,Fr.get]
 | d::r,i,s=>by
  simp only[yq,Fr.get]
  by_cases h:i=s
  ·subst h; simp
  ·rw[ZX h,cond_false,Hp r (i+1) s]
   grind
theorem Ki{O:KS}{args:List D}{xb:List Value}(h:wN O args xb)(hn:args.length<=n) :
  Rel O n (yq args 0).get { tmps:=xb.toArray++qB (n-xb.toArray.size) undef,defers:=Hk.df }:=by
 have R:=h.1
 refine⟨xy,rfl,λs d J => ?_⟩
 rw[Hp]at J
 obtain⟨v,h1,M⟩:=h.get J
 grind
theorem Vj{O:KS}{fr:Fr}{a:Act}(B:Inv O)(hR:Rel O n fr.get a):∀ (rvs:List ResultVar) (ds:List D),(nq c fr O.st rvs).leads ds ->
  ∃ vs:List Value,Sem.run c.P (rvs.mapM λr=>match r with | ResultVar.tmp t=>(xG (a.tmps.getD t undef):Sem Value) | ResultVar.cell p t=>do loadVar t (<- asAddr (a.tmps.getD p undef))) O.w=Result.ok vs O.w/\wN O ds vs
 | [],ds,h=>by cases h; exact⟨[],qz,.nil⟩
 | .tmp t::r,ds,h=>by
  simp only[nq]at h
  split at h
  ·rename_i d J
   simp only[T.xg]at h
   obtain⟨l,R,rfl⟩:=h
   obtain⟨v,h1,M⟩:=hR.get t d J
   obtain⟨vs,h3,h4⟩:=Vj B hR r l R
   refine⟨v::vs,?_,.cons M h4⟩
   simp only[List.mapM_cons,qZ,xD,qT,h3]
   simp[h1]
  ·exact h.elim
 | .cell p t::r,ds,h=>by
  simp only[nq]at h
  split at h
  ·rename_i b off J
   split at h
   ·rename_i d I
    cases Ka:d.Yo with
    | true=>rw[Ka]at h; exact h.elim
    | false =>
    rw[Ka,cond_false]at h
    split at h
    ·rename_i x N
     simp only[T.xg]at h
     obtain⟨l,R,rfl⟩:=h
     obtain⟨v,h1,M⟩:=hR.get p _ J
     obtain⟨vs,h3,h4⟩:=Vj B hR r l R
     cases M with
     | ptr _ _ blk m d1 hd1 hp =>
      obtain⟨pG,n',cs,T,g1,g2,g3,g4,g5⟩:=(B.blk b _ I:kT O b d).cells Ka
      rw[hp]at g1
      cases g1
      obtain⟨u,e1,e2⟩:=YF (c:=c) (blk:=blk) 0 N g4 g5.1 (λj v hj=>by rw[XX g2]; simpa using hj)
      rw[qO]at e1
      refine⟨u::vs,?_,.cons e2 h4⟩
      have hA:(asAddr (a.tmps.getD p undef)).run c.P O.w=.ok ⟨blk,off,none⟩ O.w:=by simp[h1,asAddr]
      simp only[List.mapM_cons,qZ,hA,qT,e1,h3,xD]
    ·exact h.elim
   ·exact h.elim
  ·exact h.elim
def z2C:List Value->Value
 | [v]=>v
 | vs=>.tuple vs.toArray
theorem Uy{O:KS}{fr:Fr}{a:Act}{fn:Func}{ds:List D}(B:Inv O)(hR:Rel O n fr.get a)(h:(nq c fr O.st fn.results.toList).leads ds) :
  ∃ vs:List Value,(results fn a.tmps).run c.P O.w=.ok (z2C vs) O.w/\wN O ds vs:=by
 obtain⟨vs,h1,M⟩:=Vj B hR _ _ h
 simp only[results,Array.mapM_eq_mapM_toList,qZ,Sem.run_map]
 have key:∀ r:Result (List Value),r=.ok vs O.w->((r.andThen λa w'=>.ok a.toArray w').andThen λa w'=>(xG (if h:a.size=1 then a[0]else .tuple a):Sem Value).run c.P w')=.ok (z2C vs) O.w:=by
  rintro _ rfl
  match vs with
  | []=>rfl
  | [v]=>rfl
  | _::_::_=>rfl
 grind
theorem G2{O:KS}{ds:List D}{vs:List Value}(h:wN O ds vs):RD O (eL ds) (z2C vs):=by
 match ds,vs,h with
 | [],vs,h=>rw[h.wb]; exact .eD [] [] rfl (λi h=>absurd h (qN i))
 | [d],vs,h =>
  obtain⟨v,r,rfl,h1,M⟩:=h.cons_inv
  rw[M.wb]
  exact h1
 | d::e::r,vs,h =>
  obtain⟨v,us,rfl,h1,M⟩:=h.cons_inv
  obtain⟨u,ws,rfl,h3,h4⟩:=M.cons_inv
  exact .eD _ _ h.1 h.2
def KS.cut(O:KS)(m:Nat):KS:={ O with ph:=O.ph.take m,st:=O.st.take m }
theorem xv{α:Type}{l:List α}{m i:Nat}{a:α}(h:l[i]? = some a)(hi:i<m):(l.take m)[i]? = some a:=xy
theorem l8{α:Type}{l:List α}{m i:Nat}{a:α}(h:(l.take m)[i]? = some a):l[i]? = some a/\i<m:=xy
theorem mK{O:KS}{m:Nat}{d:D}{v:Value}(h:RD O d v)(J:yc m d=true):RD (O.cut m) d v:=by
 cases h with
 | qj τ y cs h=>exact .qj τ y cs h
 | sr e l b v h ht hf=>exact .sr e l b v h ht hf
 | vz e a=>exact .vz e a
 | tight e l ne blk off f kf j3 h hc=>exact .tight e l ne blk off f kf j3 h hc
 | wE=>exact .wE
 | gU=>exact .gU
 | v8=>exact .v8
 | gj=>exact .gj
 | uT=>exact .uT
 | WH v h=>exact .WH v h
 | mP T=>exact .mP T
 | yL b blk n d I h=>exact .yL b blk n d (xv I (X J)) (xv h (X J))
 | nn b T d I=>exact .nn b T d (xv I (X J))
 | np b T blk n d I h=>exact .np b T blk n d (xv I (X J)) (xv h (X J))
 | ptr b off blk n d I h=>exact .ptr b off blk n d (xv I (X J)) (xv h (X J))
 | vA τ y cs blk off j3 h hc=>exact .vA τ y cs blk off j3 h hc
 | gG b vi e idx off blk o I h =>
  have wM:b<m:=X J
  refine .gG b vi e idx off blk o (rP I (λh=>xv h wM) ?_) λxs N hi => ?_
  ·rintro⟨v0,e0,x0,h1,M⟩; exact⟨v0,e0,x0,xv h1 wM,M⟩
  ·obtain⟨n,h1,M⟩:=h xs (l8 N).1 hi
   exact⟨n,xv h1 wM,M⟩
 | ms b vi e off len cap a I jg ha Ws h =>
  have wM:b<m:=X J
  refine .ms b vi e off len cap a (rP I (λh=>xv h wM) ?_) jg ha Ws λxs N => ?_
  ·rintro⟨v0,e0,x0,h1,M⟩; exact⟨v0,e0,x0,xv h1 wM,M⟩
  ·obtain⟨h1,M⟩:=h xs (l8 N).1
   refine⟨h1,rP M ?_ ?_⟩
   ·rintro⟨g1,g2,g3,g4⟩; exact⟨g1,g2,g3,xv g4 wM⟩
   ·rintro⟨blk,n,o,VD,g1,g2⟩; exact⟨blk,n,o,VD,xv g1 wM,g2⟩
 | wh=>cases J
 | agg=>cases J
 | eD=>cases J
 | iface=>cases J
theorem Lu{O:KS}{m:Nat}{d:D}{v:Value}(h:RD O d v)(J:fJ m d=true):RD (O.cut m) d v:=by
 cases d with
 | wh f l =>
  cases h with
  | wh _ _ vs R hh =>
   simp only[fJ,zJ]at J
   exact .wh f l vs R λi h1 M=>mK (hh i h1 M) (J _ (qV h1))
 | agg l =>
  cases h with
  | agg _ vs R ho hh =>
   simp only[fJ,zJ]at J
   exact .agg l vs R ho λi h1 M=>mK (hh i h1 M) (J _ (qV h1))
 | eD l=>cases J
 | iface t d =>
  cases h with
  | iface _ _ v h=>exact .iface t _ v (mK h J)
 | _=>exact mK h J
theorem Pe{O:KS}{m:Nat}{l:List D}{vs:List Value}(h:wN O l vs)(J:∀ d∈l,fJ m d=true):wN (O.cut m) l vs:=⟨h.1,λi h1 M=>Lu (h.2 i h1 M) (J _ (qV h1))⟩
theorem C3{m:Nat}{d:D}(h:fJ m d=true):∀ x∈xx d,fJ m x=true:=by
 have JD:∀ (τ:Ty) (x:den τ),∀ y∈flat τ x,fJ m y=true:=by
  intro τ x y hy
  have:∃ σ z,y=.qj σ z:=by
   induction τ with
   | cons a b ia ib =>
    simp only[flat]at hy
    grind
   | nil=>simp[flat]at hy
   | expr=>simp[flat]at hy; rcases hy with rfl | rfl | rfl | rfl | rfl | rfl<;>exact⟨_,_,rfl⟩
   | _=>simp[flat]at hy; subst hy; exact⟨_,_,rfl⟩
  obtain⟨σ,z,rfl⟩:=this
  rfl
 cases d with
 | qj τ x=>exact JD τ x
 | agg l =>
  intro x N
  simp only[fJ,zJ]at h
  have:=h x N
  cases x<;>first | exact this | cases this
 | eD l=>cases h
 | Bg l=>intro x N; cases N
 | _=>intro x N; simp[xx]at N; subst N; exact h
theorem z5c{O:KS}{m:Nat}(B:Inv O)(hc:∀ x∈O.st.take m,C2 m x=true):Inv (O.cut m):=by
 refine⟨by simp[KS.cut,B.len],B.bJ,λb blk n h=>B.apart b blk n (l8 h).1,λb b' blk n n' h h'=>B.inj b b' blk n n' (l8 h).1 (l8 h').1,λb x h => ?_,B.gl⟩
 obtain⟨h1,M⟩:=l8 h
 have I:=B.blk b x h1
 have hcx:=hc x (xB h)
 cases x with
 | dead=>trivial
 | var d =>
  refine kT.elim I (λhm ⟨blk,n,cs,t,g1,g2,g3,g4,g5⟩=>.mk hm ⟨blk,n,cs,t,xv g1 M,g2,g3,Pe g4 (C3 hcx),g5⟩) λl e ⟨blk,o,g1,g2⟩ => ?_
  subst e
  exact⟨blk,o,xv g1 M,g2⟩
 | arr vi e xs =>
  obtain⟨h0,I⟩:=I
  refine⟨h0,rP I (λh=>⟨h.1,xv h.2 M⟩) ?_⟩
  rintro⟨blk,n,cs,t,g1,g2⟩
  exact⟨blk,n,cs,t,xv g1 M,g2⟩
end
end Go.AM
namespace Go.AM
set_option linter.unusedSectionVars false
variable [yY]
section
variable {c:Ctx}
theorem uS{P:Program}{f:Nat}{fn:Func}{args:Array Value}(hf:P.funcs[f]? = some fn) (hn:(fn.name == "runtime.NumGoroutine")=false) (I:fn.body.isNone=false) (w:World) :
  (callFunc f args).run P w=.ok (.enter f args) w:=by
 simp only[callFunc,qZ,run_program,qT,hf,hn,I,Bool.false_eq_true,if_false,xD]
theorem SD{O κe:KS}(B:Inv O)(vX:O.st=[])(hIe:Inv κe)(N:Ext O κe):Inv (κe.bare (T9 κe))/\Ext O (κe.bare (T9 κe)):=by
 have wM:∀ k,T9 κe k->k<κe.w.heap.size:=by
  rintro k (hk | ⟨b,n,hk⟩)
  ·exact hIe.bJ k hk
  ·exact(hIe.apart b k n hk).1
 refine⟨KV hIe (λ_ h=>.inl h) wM,N.os,N.tape,N.output,N.size,λk hk=>⟨.inl (N.same k hk).1,(N.same k hk).2⟩,?_,λb blk n h=>by simp[KS.bare]at h,λb d h=>xy,
  λb v0 e xs h=>xy,λb h=>xy,xy,N.frame⟩
 rintro k (hk | ⟨b,n,hk⟩)
 ·exact N.fresh k hk
 ·rcases N.phs b k n hk with h | h
  ·grind
  ·grind
end
end Go.AM
namespace Go.AM
set_option linter.unusedSectionVars false
variable [yY] [Hk]
open Go.RowKit
def z5n(s:Nat)(fr:Fr)(st:St):T (Fr×St):=match fr.get s with
 | some (.ms b vi e off len)=>match st[b]? with
  | some (.arr dD e' xs)=>match(jR (a:=.sl e') (b:=.sl e) xs:Option (List (den e)))with
   | some ys=>.W (vi=dD) (.ret ((s,some (.qj (.sl e) ((ys.take (off+len)).drop off)))::fr,st.set b .dead))
   | none=>.fail
  | _=>.fail
 | _=>.ret (fr,st)
def z5p(j i:Nat)(fr:Fr)(st:St):T (Fr×St):=match st[j]? with
 | some (.var (.agg ds))=>match ds[i]? with
  | some (.ms b vi e off len)=>match st[b]? with
   | some (.arr dD e' xs)=>match(jR (a:=.sl e') (b:=.sl e) xs:Option (List (den e)))with
    | some ys=>.W (vi=dD) (.ret (fr,(st.set b .dead).set j (.var (.agg (ds.set i (.qj (.sl e) ((ys.take (off+len)).drop off)))))))
    | none=>.fail
   | _=>.fail
  | _=>.ret (fr,st)
 | _=>.ret (fr,st)
def z5r(s:Nat)(fr:Fr)(st:St):T (Fr×St):=bif Nat.ble 1000000 s then z5p ((s-1000000) / 1000) ((s-1000000) % 1000) fr st else z5n s fr st
def frz:List Nat->Fr->St->T (Fr×St)
 | [],fr,st=>.ret (fr,st)
 | s::r,fr,st=>(z5r s fr st).bind λx=>frz r x.1 x.2
section
variable {c:Ctx} {O:KS} {n:Nat}
theorem zgP{b vi off len:Nat}{e:Ty}{xs:List (den e)}{v:Value}(B:Inv O)(h:RD O (.ms b vi e off len) v)(I:O.st[b]? = some (.arr vi e xs)){JQ:Nat->Prop}(h1:∀ k,O.ok k->JQ k)(M:∀ k n,O.ph[b]? = some (some (k,n))->JQ k) :
  Rc O.w JQ (.sl e) ((xs.take (off+len)).drop off) [v]:=by
 obtain⟨Cq,_⟩:=LH B h I
 obtain⟨a,cap,f,hve,jg,hn,g1,g2⟩:=Cq.ex
 have z0D:∀ blk o:Nat,v=.slice (some ⟨blk,o,none⟩) ((xs.take (off+len)).drop off).length cap->JQ blk:=by
  intro blk o he
  cases h with
  | ms _ _ _ _ _ VD a' hold zfB ha Ws hm =>
   obtain⟨_,hm⟩:=hm xs I
   grind
 rw[hve]
 cases a with
 | none=>obtain⟨k1,k2⟩:=hn rfl; rw[k1,k2]; exact .lB e none
 | some p =>
  rcases g2 p rfl with⟨k1,k2⟩ | ⟨hp,_,hc⟩
  ·rw[k1,k2]; exact .lB e _
  ·obtain⟨blk,o,sp⟩:=p
   subst hp
   exact .sl e _ blk o cap f (z0D blk o hve) jg (λi hi=>(g1 i hi).mono λk hk=>⟨h1 k hk,rfl⟩) hc
theorem MV{b vi:Nat}{e:Ty}{xs:List (den e)}(I:O.st[b]? = some (.arr vi e xs))(B:Inv O):∃ E:KS,E.w=O.w/\E.st=O.st.set b .dead/\Inv E/\Ext O E /\
  ∀ (off len:Nat) (v:Value),RD O (.ms b vi e off len) v->RD E (.qj (.sl e) ((xs.take (off+len)).drop off)) v:=by
 have wM:b<O.st.length:=(zQ.1 I).1
 let E:KS:=⟨O.w,λk=>O.ok k\/∃ n,O.ph[b]? = some (some (k,n)),O.ph.set b none,O.st.set b .dead⟩
 have vX:∀ i,i≠b->E.st[i]? = O.st[i]? := λi hi=>by show(O.st.set b .dead)[i]? = _; rw[zE (λe=>hi e.symm)]
 have GG:∀ i,i≠b->E.ph[i]? = O.ph[i]? := λi hi=>by show(O.ph.set b none)[i]? = _; rw[zE (λe=>hi e.symm)]
 have z5W:∀ (i blk m:Nat),E.ph[i]? = some (some (blk,m))->i≠b/\O.ph[i]? = some (some (blk,m)):=by
  grind
 have N:Ext O E:=by
  refine⟨rfl,rfl,rfl,qG _,λk hk=>⟨.inl hk,rfl⟩,?_,λi blk m hi=>.inl (z5W i blk m hi).2,?_,?_,?_,by show _<=(O.st.set b .dead).length; simp,λ_ _ _=>rfl⟩
  ·grind
  ·grind
  ·grind
  ·grind
 have hI':Inv E:=by
  refine⟨by show(O.ph.set b none).length=(O.st.set b .dead).length; simp[B.len],?_,?_,?_,?_,B.gl.mono N.same⟩
  ·rintro k (hk | ⟨m,hk⟩)
   ·exact B.bJ k hk
   ·exact(B.apart b k m hk).1
  ·intro i blk m hi
   obtain⟨hib,Kt⟩:=z5W i blk m hi
   obtain⟨g1,g2⟩:=B.apart i blk m Kt
   refine⟨g1,?_⟩
   rintro(hk | ⟨m',hk⟩)
   ·exact g2 hk
   ·exact hib (B.inj i b blk m m' Kt hk)
  ·intro i i' blk m m' hi Kt
   exact B.inj i i' blk m m' (z5W i blk m hi).2 (z5W i' blk m' Kt).2
  ·intro i hI hB
   by_cases hib:i=b
   ·subst hib
    have:(O.st.set i .dead)[i]? = some hI:=hB
    rw[qX wM]at this
    cases this
    trivial
   ·rw[vX i hib]at hB
    exact(B.blk i hI hB).mono N (GG i hib) λ_ _ _=>rfl
 exact⟨E,rfl,rfl,hI',N,λoff len v J=>RD.tY rfl (zgP B J I (λk hk=>.inl hk) λk m hk=>.inr ⟨m,hk⟩)⟩
theorem z5o{s:Nat}{fr:Fr}{a:Act}{r:Fr×St}(h:(z5n s fr O.st).leads r)(B:Inv O)(hR:Rel O n fr.get a):∃ E:KS,E.w=O.w/\E.st=r.2/\Inv E/\Ext O E/\Rel E n r.1.get a:=by
 unfold z5n at h
 split at h
 ·rename_i b vi e off len hs
  split at h
  ·rename_i dD e' xs I
   split at h
   ·rename_i ys hy
    obtain⟨he,N⟩:=wg hy
    obtain⟨rfl,h⟩:=h
    cases h
    obtain⟨v,hv,J⟩:=hR.get s _ hs
    obtain⟨E,e1,e2,hI',N,hk⟩:=MV I B
    refine⟨E,e1,e2,hI',N,hR.size,hR.defers,λt d eb => ?_⟩
    simp only[Fr.get]at eb
    cases ht:zU s t with
    | true =>
     rw[<- Y ht]
     grind
    | false =>
     rw[ht,cond_false]at eb
     obtain⟨u,g1,g2⟩:=hR.get t d eb
     exact⟨u,g1,g2.mono N⟩
   ·exact h.elim
  ·exact h.elim
 ·cases h; exact⟨O,rfl,rfl,B,Ext.refl O,hR⟩
theorem Ru{ds:List D}{i b vi off len:Nat}{e:Ty}{d':D}(J:ds[i]? = some (.ms b vi e off len))(hn:l9 [d']=none){T:Nat}(h:l9 (ds.set i d')=some T):l9 ds=some T:=by
 cases ds with
 | nil=>cases J
 | cons x r =>
  cases i with
  | zero =>
   have:l9 (d'::r)=l9 [d']:=by cases d'<;>rfl
   grind
  | succ i =>
   have:∀ r':List D,l9 (x::r')=l9 [x]:=by intro r'; cases x<;>rfl
   grind
theorem z5q{j i:Nat}{fr:Fr}{a:Act}{r:Fr×St}(h:(z5p j i fr O.st).leads r)(B:Inv O)(hR:Rel O n fr.get a):∃ E:KS,E.w=O.w/\E.st=r.2/\Inv E/\Ext O E/\Rel E n r.1.get a:=by
 unfold z5p at h
 split at h
 ·rename_i ds hj
  split at h
  ·rename_i b vi e off len hi
   split at h
   ·rename_i dD e' xs I
    split at h
    ·rename_i ys hy
     obtain⟨he,N⟩:=wg hy
     cases he
     cases N
     obtain⟨rfl,h⟩:=h
     cases h
     obtain⟨κ1,e1,e2,Vv,hx1,hk⟩:=MV I B
     have hjb:j≠b:=λq=>by subst q; rw[I]at hj; cases hj
     have hj1:κ1.st[j]? = some (.var (.agg ds)):=by rw[e2,zE (λq=>hjb q.symm)]; exact hj
     have T4:j<κ1.st.length:=(zQ.1 hj1).1
     let d':D:=.qj (.sl e) ((xs.take (off+len)).drop off)
     let κ2:KS:={ κ1 with st:=κ1.st.set j (.var (.agg (ds.set i d'))) }
     have vX:∀ k,k≠j->κ2.st[k]? = κ1.st[k]? := λk hk=>by show(κ1.st.set j _)[k]? = _; rw[zE (λq=>hk q.symm)]
     have znw:κ2.st[j]? = some (.var (.agg (ds.set i d'))):=by show(κ1.st.set j _)[j]? = _; rw[qX T4]
     have MN:Ext κ1 κ2:=by
      refine⟨rfl,rfl,rfl,qG _,λk hk=>⟨hk,rfl⟩,λk hk=>.inl hk,λk blk m hk=>.inl hk,?_,?_,?_,by show _<=(κ1.st.set j _).length; simp,λ_ _ _=>rfl⟩
      ·grind
      ·grind
      ·grind
     have hI2:Inv κ2:=by
      refine⟨by show κ1.ph.length=(κ1.st.set j _).length; simp[Vv.len],Vv.bJ,Vv.apart,Vv.inj,?_,Vv.gl⟩
      intro k hI hB
      by_cases q:k=j
      ·subst q
       rw[znw]at hB
       cases hB
       obtain⟨blk,m,cs,t,g1,g2,g3,g4,g5,g6⟩:=B.blk k _ hj
       obtain⟨pG,m',mz,t',p1,p2,p3,p4,p5,p6⟩:=Vv.blk k _ hj1
       have GG:κ1.ph[k]? = O.ph[k]? := (hx1.var k _ hj).2
       rw[GG,g1]at p1
       cases p1
       rw[e1,g2]at p2
       cases p2
       refine⟨blk,m,cs,t,GG.trans g1,by show κ1.w.heap[blk]? = _; rw[e1]; exact g2,g3,?_,?_,λT hT=>g6 T (Ru hi rfl hT)⟩
       ·have p4':wN κ2 ds cs.toList:=wN.mono MN p4
        refine⟨by show(ds.set i d').length=_; rw[List.length_set]; exact p4'.1,λk' h1 M => ?_⟩
        have GD:k'<(ds.set i d').length:=h1
        rw[List.length_set]at GD
        show RD κ2 ((ds.set i d')[k']) _
        by_cases q:i=k'
        ·subst q
         have hdi:ds[i]'GD=.ms b vi e off len:=Option.some.inj ((zT GD).symm.trans hi)
         have:=g4.2 i GD M
         have Eu:(xx (D.agg ds))[i]'GD=.ms b vi e off len:=hdi
         rw[Eu]at this
         have e3:(ds.set i d')[i]'h1=d':=List.getElem_set_self _
         rw[e3]
         exact(hk _ _ _ this).mono MN
        ·have e3:(ds.set i d')[k']'h1=ds[k']'GD:=List.getElem_set_ne q _
         rw[e3]
         exact p4'.2 k' GD M
       ·intro x N
        rcases List.mem_or_eq_of_mem_set N with N | rfl
        ·exact g5 x N
        ·rfl
      ·rw[vX k q]at hB
       exact(Vv.blk k hI hB).mono MN rfl λ_ _ _=>rfl
     refine⟨κ2,e1,by show κ1.st.set j _=_; rw[e2],hI2,hx1.trans MN,hR.size,hR.defers,λt d eb => ?_⟩
     obtain⟨u,q1,q2⟩:=hR.get t d eb
     exact⟨u,q1,(q2.mono hx1).mono MN⟩
    ·exact h.elim
   ·exact h.elim
  ·cases h; exact⟨O,rfl,rfl,B,Ext.refl O,hR⟩
 ·cases h; exact⟨O,rfl,rfl,B,Ext.refl O,hR⟩
theorem z5s{s:Nat}{fr:Fr}{a:Act}{r:Fr×St}(h:(z5r s fr O.st).leads r)(B:Inv O)(hR:Rel O n fr.get a):∃ E:KS,E.w=O.w/\E.st=r.2/\Inv E/\Ext O E/\Rel E n r.1.get a:=by
 unfold z5r at h
 cases I:Nat.ble 1000000 s with
 | true=>rw[I,cond_true]at h; exact z5q h B hR
 | false=>rw[I,cond_false]at h; exact z5o h B hR
theorem z06:∀ (l:List Nat) {fr:Fr} {O:KS} {a:Act} {r:Fr×St},(frz l fr O.st).leads r->Inv O->Rel O n fr.get a->∃ E:KS,E.w=O.w/\E.st=r.2/\Inv E/\Ext O E/\Rel E n r.1.get a
 | [],fr,O,a,r,h,B,hR=>by cases h; exact⟨O,rfl,rfl,B,Ext.refl O,hR⟩
 | s::l,fr,O,a,r,h,B,hR=>by
  simp only[frz,T.xg]at h
  obtain⟨x,h1,M⟩:=h
  obtain⟨κ1,e1,e2,e3,e4,e5⟩:=z5s h1 B hR
  rw[<- e2]at M
  obtain⟨κ2,g1,g2,g3,g4,g5⟩:=z06 l M e3 e5
  exact⟨κ2,g1.trans e1,g2,g3,e4.trans g4,g5⟩
end
end Go.AM