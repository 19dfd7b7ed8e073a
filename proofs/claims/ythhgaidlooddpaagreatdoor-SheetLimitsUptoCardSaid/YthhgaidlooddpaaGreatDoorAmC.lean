/-
  The abstract machine, part C: texts of our own, the same for each claim.
-/
import Derived.Test.YthhgaidlooddpaaGreatDoorAmB
import Derived.Deep.LoopGhost
set_option linter.unusedVariables false
namespace Go.AM
set_option linter.unusedSectionVars false
variable [vz]
abbrev F:=Nat->Option D
def qh(f:F):Operand->Option D
 | .tmp t=>f t
 | .const v=>Qf v
 | .global _=>none
 | .func g=>bif Nat.blt g 1000000 then some (.qS g [])else none
theorem yV(fr:Fr):uf fr=qh fr.get:=by rfl
def jP(f:F)(dst:Option Nat)(d:Option D):F:=match dst with
 | some t=>λs=>if s=t then d else f s
 | none=>f
theorem iR{a b:Nat}(h:a≠b):Nat.beq a b=false:=by
 cases hb:Nat.beq a b with
 | false=>rfl
 | true=>exact absurd (Nat.eq_of_beq_eq_true hb) h
theorem lp(fr:Fr)(dst:Option Nat)(d:Option D):(fr.put dst d).get=jP fr.get dst d:=by
 cases dst with
 | none=>rfl
 | some t =>
  funext s
  simp only[Fr.put,Fr.get,jP]
  by_cases h:s=t
  ·subst h; simp
  ·rw[if_neg h,iR (λe=>h e.symm),cond_false]
section
variable (c:Ctx) (n:Nat) (ops:Array Oper)
def xT(f:F)(o:Oper):Option Bool:=match o.guard with
 | none=>some true
 | some (j,w)=>match ub ops j with
  | none=>none
  | some t=>match f t with
   | some (.zD .bool b)=>some (b==w)
   | some (.kY [])=>some false
   | _=>none
def yg(i:Nat)(s s':F×St)(k:Nat):Prop:=∃ o,ops[i]? = some o/\vw n o.dst=true /\
 ((xT ops s.1 o=some true/\k=(qC c (qh s.1) o).kind/\∃ d zq,(zB (qC c (qh s.1) o) s.2).leads (d,zq)/\s'=(jP s.1 o.dst d,zq)) \/
  (xT ops s.1 o=some false/\k=0/\s'=(jP s.1 o.dst (some IC),s.2)))
def LU:List Nat->F×St->F×St->List Nat->Prop
 | [],s,s',ks=>s'=s/\ks=[]
 | i::l,s,s',ks=>∃ s1 k Cg,ks=k::Cg/\yg c n ops i s s1 k/\LU l s1 s' Cg
end
section
variable {c:Ctx} {n:Nat} {ops:Array Oper}
def vd(kn:Kn)(f:F):Prop:=∀ t b,kn.get t=some b->f t=some (.zD .bool b)
theorem VI(t:Nat)(b:Option Bool)(kn:Kn)(s:Nat):Kn.get ((t,b)::kn) s=if s=t then b else kn.get s:=by
 simp only[Kn.get]
 by_cases h:s=t
 ·subst h; simp
 ·rw[if_neg h,iR (λe=>h e.symm),cond_false]
theorem gK{kn:Kn}{f:F}(h:vd kn f){x:Operand}{b:Bool}(hx:bL kn x=some b):qh f x=some (.zD .bool b):=by
 unfold bL at hx
 split at hx
 ·exact h _ _ hx
 ·cases hx; rfl
 ·cases hx
theorem G1{kn:Kn}{fr:Fr}{o:Oper}(hk:vd kn fr.get){st:St}{r:Option D×St}(h:(zB (lN c kn fr o) st).leads r) :
  (zB (qC c (qh fr.get) o) st).leads r/\(lN c kn fr o).kind=(qC c (qh fr.get) o).kind/\∀ b,Uf kn o.op=some b->r.1=some (.zD .bool b):=by
 obtain⟨dst,op,ty,pos,after,guard⟩:=o
 rw[<- yV]
 cases op with
 | pick x a b =>
  simp only[lN]at h ⊢
  cases hx:bL kn x with
  | none =>
   rw[hx]at h
   refine⟨h,rfl,λb' hb => ?_⟩
   simp[Uf,hx]at hb
  | some bx =>
   rw[hx]at h
   have VZ:=gK hk hx
   rw[<- yV]at VZ
   have z7x:qC c (uf fr) ⟨dst,.pick x a b,ty,pos,after,guard⟩=.val (.ite bx (.ret (uf fr a)) (.ret (uf fr b))):=by
    simp only[qC,By,VZ,asBool]
   rw[z7x]
   obtain⟨d,zq⟩:=r
   cases bx with
   | true =>
    simp only[wH,T.leads]at h ⊢
    refine⟨⟨.inl ⟨by first | rfl | trivial,h.1⟩,h.2⟩,rfl,λb' hb => ?_⟩
    simp only[Uf,hx]at hb
    have:=gK hk hb
    rw[<- yV]at this
    grind
   | false =>
    simp only[wH,T.leads]at h ⊢
    refine⟨⟨.inr ⟨by first | rfl | trivial,h.1⟩,h.2⟩,rfl,λb' hb => ?_⟩
    simp only[Uf,hx]at hb
    have:=gK hk hb
    rw[<- yV]at this
    grind
 | move x =>
  refine⟨h,rfl,λb hb => ?_⟩
  obtain⟨d,zq⟩:=r
  simp only[lN,qC,wH,T.leads]at h
  have:=gK hk (show bL kn x=some b from hb)
  rw[<- yV]at this
  grind
 | assign x =>
  refine⟨h,rfl,λb hb => ?_⟩
  obtain⟨d,zq⟩:=r
  simp only[lN,qC,wH,T.leads]at h
  have:=gK hk (show bL kn x=some b from hb)
  rw[<- yV]at this
  grind
 | _=>exact⟨h,rfl,λb hb=>by simp[Uf]at hb⟩
theorem Fh{kn:Kn}{f:F}(hk:vd kn f){dst:Option Nat}{d:Option D}{b:Option Bool}(hb:∀ b',b=some b'->d=some (.zD .bool b')):vd (Uv kn dst b) (jP f dst d):=by
 cases dst with
 | none=>exact hk
 | some t =>
  intro s b' h
  simp only[Uv,VI]at h
  simp only[jP]
  split at h
  ·grind
  ·rename_i e; rw[if_neg e]; exact hk s b' h
theorem o6{kn:Kn}{f:F}(hk:vd kn f){t:Nat}{b:Bool}(hb:f t=some (.zD .bool b)):vd ((t,some b)::kn) f:=by
 intro s b' h
 rw[VI]at h
 split at h
 ·grind
 ·exact hk s b' h
theorem XO{o:Oper}{s s':cg}(hk:vd s.kn s.fr.get)(h:(yQ c n o s).leads s') :
  vw n o.dst=true/\(∃ d zq,(zB (qC c (qh s.fr.get) o) s.st).leads (d,zq)/\s'.fr.get=jP s.fr.get o.dst d/\s'.st=zq)/\vd s'.kn s'.fr.get/\s'.ks=(qC c (qh s.fr.get) o).kind::s.ks:=by
 unfold yQ at h
 cases hd:vw n o.dst with
 | false=>rw[hd]at h; exact h.elim
 | true =>
  rw[hd,cond_true]at h
  simp only[T.zy]at h
  obtain⟨⟨d,zq⟩,h1,rfl⟩:=h
  obtain⟨h2,h3,h4⟩:=G1 hk h1
  refine⟨rfl,⟨d,zq,h2,lp _ _ _,rfl⟩,?_,by grind⟩
  rw[lp]
  exact Fh hk h4
theorem E2{o:Oper}{s:cg}(hk:vd s.kn s.fr.get):vd (uV o s).kn (uV o s).fr.get:=by
 show vd (Uv s.kn o.dst none) (s.fr.put o.dst (some IC)).get
 rw[lp]
 exact Fh hk nofun
theorem JI{i:Nat}{o:Oper}{s s':cg}(ho:ops[i]? = some o)(hk:vd s.kn s.fr.get)(h:(stepG c n ops o s).leads s') :
  ∃ k,yg c n ops i (s.fr.get,s.st) (s'.fr.get,s'.st) k/\vd s'.kn s'.fr.get/\s'.ks=k::s.ks:=by
 have run:∀ (s0:cg),s0.fr=s.fr->s0.st=s.st->s0.ks=s.ks->vd s0.kn s0.fr.get->xT ops s.fr.get o=some true->(yQ c n o s0).leads s' ->
   ∃ k,yg c n ops i (s.fr.get,s.st) (s'.fr.get,s'.st) k/\vd s'.kn s'.fr.get/\s'.ks=k::s.ks:=by
  intro s0 e1 e2 e3 JZ hw h
  obtain⟨h1,⟨d,zq,h2,h3,h4⟩,h5,h6⟩:=XO JZ h
  rw[e1]at h2 h3 h6
  rw[e2]at h2
  rw[e3]at h6
  exact⟨_,⟨o,ho,h1,.inl ⟨hw,rfl,d,zq,h2,by rw[h3,h4]⟩⟩,h5,h6⟩
 have skip:∀ (s0:cg),s0.fr=s.fr->s0.st=s.st->s0.ks=s.ks->vd s0.kn s0.fr.get->xT ops s.fr.get o=some false->vw n o.dst=true->uV o s0=s' ->
   ∃ k,yg c n ops i (s.fr.get,s.st) (s'.fr.get,s'.st) k/\vd s'.kn s'.fr.get/\s'.ks=k::s.ks:=by
  intro s0 e1 e2 e3 JZ hw hd h
  subst h
  refine⟨0,⟨o,ho,hd,.inr ⟨hw,rfl,?_⟩⟩,E2 JZ,by simp[uV,e3]⟩
  simp only[uV,lp,e1,e2]
 unfold stepG at h
 split at h
 ·rename_i hg
  exact run s rfl rfl rfl hk (by simp[xT,hg]) h
 ·rename_i j w hg
  split at h
  ·exact h.elim
  ·rename_i t ht
   split at h
   ·rename_i b hb
    have hf:=hk t b hb
    have hw:xT ops s.fr.get o=some (b==w):=by simp[xT,hg,ht,hf]
    cases Mp:(b==w)with
    | true=>grind
    | false =>
     rw[Mp,cond_false]at h
     cases hd:vw n o.dst with
     | false=>rw[hd]at h; exact h.elim
     | true=>rw[hd,cond_true]at h; exact skip s rfl rfl rfl hk (by rw[hw,Mp]) hd h
   ·split at h
    ·rename_i x hx
     have hw:xT ops s.fr.get o=some (x==w):=by simp[xT,hg,ht,hx]
     cases hd:vw n o.dst with
     | false=>rw[hd]at h; exact h.elim
     | true =>
      rw[hd,cond_true]at h
      rcases h with⟨rfl,h⟩ | ⟨rfl,h⟩
      ·have Kt:vd (s.gB t true).kn (s.gB t true).fr.get:=o6 hk hx
       cases w with
       | true=>exact run (s.gB t true) rfl rfl rfl Kt hw h
       | false=>exact skip (s.gB t true) rfl rfl rfl Kt hw hd h
      ·have Kt:vd (s.gB t false).kn (s.gB t false).fr.get:=o6 hk hx
       cases w with
       | true=>exact skip (s.gB t false) rfl rfl rfl Kt hw hd h
       | false=>exact run (s.gB t false) rfl rfl rfl Kt hw h
    ·rename_i hx
     have hw:xT ops s.fr.get o=some false:=by simp[xT,hg,ht,hx]
     cases hd:vw n o.dst with
     | false=>rw[hd]at h; exact h.elim
     | true=>rw[hd,cond_true]at h; exact skip s rfl rfl rfl hk hw hd h
    ·exact h.elim
theorem dv:∀ (l:List Oper) (k0:Nat) (s s':cg),(∀ j,l[j]? = ops[k0+j]? \/ l.length<=j)->vd s.kn s.fr.get->(eX c n ops l s).leads s' ->
  ∃ ks,LU c n ops (List.range' k0 l.length) (s.fr.get,s.st) (s'.fr.get,s'.st) ks/\vd s'.kn s'.fr.get/\s'.ks=ks.reverse++s.ks
 | [],k0,s,s',_,hk,h=>by cases h; exact⟨[],⟨rfl,rfl⟩,hk,rfl⟩
 | o::l,k0,s,s',hl,hk,h=>by
  simp only[eX,T.zy]at h
  obtain⟨s1,h1,h2⟩:=h
  have ho:ops[k0]? = some o:=by rcases hl 0 with h | h<;>simp at h; exact h.symm
  obtain⟨k,g1,g2,g3⟩:=JI ho hk h1
  obtain⟨ks,g4,g5,g6⟩:=dv l (k0+1) s1 s' (λj=>by have:=hl (j+1); simpa[Nat.add_assoc,Nat.add_comm 1 j]using this) g2 h2
  refine⟨k::ks,?_,g5,by grind⟩
  exact⟨_,k,ks,rfl,g1,g4⟩
end
end Go.AM
namespace Go.AM
set_option linter.unusedSectionVars false
variable [vz]
section
variable {c:Ctx} {n:Nat} {ops:Array Oper}
theorem nU{α:Type}{ρ ρ':α->Option D}(L:List (Nat×α))(h:∀ p∈L,ρ p.2=ρ' p.2):(L.map λp=>(p.1,ρ p.2))=L.map λp=>(p.1,ρ' p.2) :=
 List.map_congr_left λp hp=>by rw[h p hp]
theorem rG{ρ ρ':Operand->Option D}(o:Oper)(h:∀ x∈o.op.operands,ρ x=ρ' x):qC c ρ o=qC c ρ' o:=by
 obtain⟨dst,op,ty,pos,after,guard⟩:=o
 cases op with
 | move x=>simp only[qC]; rw[h x (by simp[Op.operands])]
 | assign x=>simp only[qC]; rw[h x (by simp[Op.operands])]
 | pick x a b=>simp only[qC]; rw[h x (by simp[Op.operands]),h a (by simp[Op.operands]),h b (by simp[Op.operands])]
 | box t x=>simp only[qC]; rw[h x (by simp[Op.operands])]
 | load t x=>simp only[qC]; rw[h x (by simp[Op.operands])]
 | store t x y=>simp only[qC]; rw[h x (by simp[Op.operands]),h y (by simp[Op.operands])]
 | nilCheck x=>simp only[qC]; rw[h x (by simp[Op.operands])]
 | binOp op t x y _=>simp only[qC]; rw[h x (by simp[Op.operands]),h y (by simp[Op.operands])]
 | typeAssert x xt t ok=>simp only[qC]; rw[h x (by simp[Op.operands])]
 | unOp op t x=>simp only[qC]; rw[h x (by simp[Op.operands])]
 | convert s t x=>simp only[qC]; rw[h x (by simp[Op.operands])]
 | makeInterface t x=>simp only[qC]; rw[h x (by simp[Op.operands])]
 | makeFunc fn first cap =>
  cases fn<;>simp only[qC]
  rw[List.map_congr_left (l:=cap.toList) (λx hx=>h x (by simp[Op.operands,Array.mem_toList_iff.1 hx])),List.map_congr_left (l:=first.toList) (λx hx=>h x (by simp[Op.operands,Array.mem_toList_iff.1 hx]))]
 | makeSlice t x y=>simp only[qC]; rw[h x (by simp[Op.operands]),h y (by simp[Op.operands])]
 | slice t x lo hi mx =>
  simp only[qC]
  have ho:∀ o:Option Operand,(∀ y,o=some y->ρ y=ρ' y)->o.map ρ=o.map ρ':=λo ho=>by
   cases o with
   | none=>rfl
   | some y=>grind
  rw[h x (by simp[Op.operands]),ho lo (λy hy=>h y (by simp[Op.operands,hy])),ho hi (λy hy=>h y (by simp[Op.operands,hy])),ho mx (λy hy=>h y (by simp[Op.operands,hy]))]
 | fieldAddr s x f=>simp only[qC]; rw[h x (by simp[Op.operands])]
 | field s x f=>simp only[qC]; rw[h x (by simp[Op.operands])]
 | indexAddr t x y=>simp only[qC]; rw[h x (by simp[Op.operands]),h y (by simp[Op.operands])]
 | index t x y=>simp only[qC]; rw[h x (by simp[Op.operands]),h y (by simp[Op.operands])]
 | extract x i=>simp only[qC]; rw[h x (by simp[Op.operands])]
 | build t ps=>simp only[qC]; rw[nU ps.toList λp hp=>h p.2 (by simp[Op.operands]; exact⟨p.1,Array.mem_toList_iff.1 hp⟩)]
 | buildSlice t k ps=>simp only[qC]; rw[nU ps.toList λp hp=>h p.2 (by simp[Op.operands]; exact⟨p.1,Array.mem_toList_iff.1 hp⟩)]
 | call cl =>
  obtain⟨callee,args,ml⟩:=cl
  have gF:args.toList.map ρ=args.toList.map ρ':=List.map_congr_left λx hx=>h x (by simp[Op.operands,Call.operands,Array.mem_toList_iff.1 hx])
  cases callee with
  | builtin b=>simp only[qC]; rw[gF]
  | value f=>simp only[qC]; rw[gF,h f (by simp[Op.operands,Call.operands])]
  | invoke r m=>rfl
 | _=>rfl
theorem J6{f:F}{dst:Option Nat}{d:Option D}{x:Operand}(h:∀ t,dst=some t->x≠.tmp t):qh (jP f dst d) x=qh f x:=by
 cases dst with
 | none=>rfl
 | some t=>cases x with
  | tmp s=>simp only[qh,jP]; rw[if_neg (λe=>h t rfl (by rw[e]))]
  | _=>rfl
theorem yn(f:F){a b:Option Nat}(d e:Option D)(h:∀ t,a=some t->b≠some t):jP (jP f a d) b e=jP (jP f b e) a d:=by
 cases a with
 | none=>rfl
 | some s=>cases b with
  | none=>rfl
  | some t =>
   simp only[jP]
   grind
def Ind(ops:Array Oper)(kd:Nat->Nat)(p i:Nat):Prop:=∀ x y,ops[p]? = some x->ops[i]? = some y ->
 (∀ d,x.dst=some d->d ∉ tmpsOf ops y)/\(∀ d,y.dst=some d->d ∉ tmpsOf ops x)/\vW (kd p) (kd i)=false
theorem jM{o:Oper}{d:Nat}(h:o.dst=some d):d∈tmpsOf ops o:=by simp[tmpsOf,h]
theorem nT{o:Oper}{d:Nat}(h:Operand.tmp d∈o.op.operands):d∈tmpsOf ops o:=by
 simp only[tmpsOf,List.mem_append,List.mem_filterMap]
 exact .inr ⟨.tmp d,by grind,rfl⟩
theorem mD{o:Oper}{j:Nat}{w:Bool}{d:Nat}(h:o.guard=some (j,w))(hg:ub ops j=some d):d∈tmpsOf ops o:=by
 simp[tmpsOf,h,hg]
theorem xQ{f:F}{o:Oper}{dst:Option Nat}{d:Option D}(h:∀ t,dst=some t->t ∉ tmpsOf ops o):xT ops (jP f dst d) o=xT ops f o:=by
 unfold xT
 cases hg:o.guard with
 | none=>rfl
 | some jw =>
  obtain⟨j,w⟩:=jw
  simp only
  cases hs:ub ops j with
  | none=>rfl
  | some t =>
   simp only
   have:jP f dst d t=f t:=by
    cases dst with
    | none=>rfl
    | some s=>simp only[jP]; rw[if_neg]; intro e; exact h s rfl (e▸mD hg hs)
   rw[this]
theorem ji{f:F}{o:Oper}{dst:Option Nat}{d:Option D}(h:∀ t,dst=some t->t ∉ tmpsOf ops o):qC c (qh (jP f dst d)) o=qC c (qh f) o :=
 rG o λx hx=>J6 λt ht e=>h t ht (nT (ops:=ops) (e▸hx))
theorem dN{cl:gU}(h:cl.kind=0){st zq:St}{d:Option D}(hl:(zB cl st).leads (d,zq)):zq=st/\∀ j3,(zB cl j3).leads (d,j3):=by
 cases cl with
 | val t=>rw[wH]at hl; exact⟨hl.2,λj3=>by rw[wH]; exact⟨hl.1,rfl⟩⟩
 | rd k=>cases h
 | wr k=>cases h
theorem bh{cl:gU}(h:cl.kind<=1){st zq:St}{d:Option D}(hl:(zB cl st).leads (d,zq)):zq=st:=by
 cases cl with
 | val t=>rw[wH]at hl; exact hl.2
 | rd k=>rw[fI]at hl; exact hl.2
 | wr k=>simp[gU.kind]at h
theorem tW(cl:gU):cl.kind<=2:=by cases cl<;>simp[gU.kind]
theorem Jm{kd:Nat->Nat}{p i:Nat}(hi:Ind ops kd p i){s s1 s2:F×St}(h1:yg c n ops p s s1 (kd p))(h2:yg c n ops i s1 s2 (kd i)) :
  ∃ s',yg c n ops i s s' (kd i)/\yg c n ops p s' s2 (kd p):=by
 obtain⟨x,hx,hdx,K3⟩:=h1
 obtain⟨y,hy,hdy,hy'⟩:=h2
 obtain⟨a1,a2,a3⟩:=hi x y hx hy
 have FJ:∀ t,x.dst=some t->y.dst≠some t:=λt ht e=>a1 t ht (jM e)
 obtain⟨f,st⟩:=s
 rcases K3 with⟨hw,hk,d,yJ,hl,rfl⟩ | ⟨hw,hk,rfl⟩
 ·rcases hy' with⟨tF,bF,e,j3,dJ,rfl⟩ | ⟨tF,bF,rfl⟩
  ·simp only[xQ a1,ji (c:=c) a1]at tF bF dJ
   simp only at hw hk hl
   -- the two meet nowhere in the store
   have key:(zB (qC c (qh f) y) st).leads (e,(if(qC c (qh f) y).kind=2 then j3 else st))/\(zB (qC c (qh f) x) (if(qC c (qh f) y).kind=2 then j3 else st)).leads (d,j3):=by
    rw[hk,bF]at a3
    rcases Nat.lt_or_ge (qC c (qh f) y).kind 2 with S0 | S0
    ·rw[if_neg (by omega)]
     have e2:=bh (by omega) dJ
     subst e2
     rcases Nat.lt_or_ge (qC c (qh f) x).kind 2 with Dx | Dx
     ·have e1:=bh (by omega) hl
      grind
     ·have hx3:(qC c (qh f) x).kind=2:=Nat.le_antisymm (tW _) Dx
      have hy0:(qC c (qh f) y).kind=0:=by
       rw[hx3]at a3
       cases hy0:(qC c (qh f) y).kind with
       | zero=>rfl
       | succ m=>rw[hy0]at a3; simp[vW]at a3
      exact⟨(dN hy0 dJ).2 st,hl⟩
    ·have T8:(qC c (qh f) y).kind=2:=Nat.le_antisymm (tW _) S0
     rw[if_pos T8]
     have Xz:(qC c (qh f) x).kind=0:=by
      rw[T8]at a3
      cases Xz:(qC c (qh f) x).kind with
      | zero=>rfl
      | succ m=>rw[Xz]at a3; simp[vW]at a3
     obtain⟨e1,h3⟩:=dN Xz hl
     grind
   refine⟨_,⟨y,hy,hdy,.inl ⟨tF,bF,e,_,key.1,rfl⟩⟩,x,hx,hdx,.inl ⟨?_,?_,d,j3,?_,?_⟩⟩
   ·rw[xQ a2]; exact hw
   ·rw[ji (c:=c) a2]; exact hk
   ·rw[ji (c:=c) a2]; exact key.2
   ·simp only[yn f d e FJ]
  ·simp only[xQ a1]at tF
   refine⟨_,⟨y,hy,hdy,.inr ⟨tF,bF,rfl⟩⟩,x,hx,hdx,.inl ⟨?_,?_,d,yJ,?_,?_⟩⟩
   ·rw[xQ a2]; exact hw
   ·rw[ji (c:=c) a2]; exact hk
   ·rw[ji (c:=c) a2]; exact hl
   ·simp only[yn f d (some IC) FJ]
 ·rcases hy' with⟨tF,bF,e,j3,dJ,rfl⟩ | ⟨tF,bF,rfl⟩
  ·simp only[xQ a1,ji (c:=c) a1]at tF bF dJ
   refine⟨_,⟨y,hy,hdy,.inl ⟨tF,bF,e,j3,dJ,rfl⟩⟩,x,hx,hdx,.inr ⟨?_,hk,?_⟩⟩
   ·rw[xQ a2]; exact hw
   ·simp only[yn f (some IC) e FJ]
  ·simp only[xQ a1]at tF
   refine⟨_,⟨y,hy,hdy,.inr ⟨tF,bF,rfl⟩⟩,x,hx,hdx,.inr ⟨?_,hk,?_⟩⟩
   ·rw[xQ a2]; exact hw
   ·simp only[yn f (some IC) (some IC) FJ]
def lO(c:Ctx)(n:Nat)(ops:Array Oper)(kd:Nat->Nat):List Nat->F×St->F×St->Prop
 | [],s,s'=>s'=s
 | i::l,s,s'=>∃ s1,yg c n ops i s s1 (kd i)/\lO c n ops kd l s1 s'
theorem VO{kd:Nat->Nat}{i:Nat}{post:List Nat}{s':F×St}:∀ {pre:List Nat} {s:F×St},(∀ p∈pre,Ind ops kd p i)->lO c n ops kd (pre++i::post) s s' ->
  ∃ s1,yg c n ops i s s1 (kd i)/\lO c n ops kd (pre++post) s1 s'
 | [],s,_,h=>h
 | p::pre,s,hp,⟨sp,h1,h2⟩=>by
  obtain⟨s1,h3,h4⟩:=VO (λq hq=>hp q (List.mem_cons_of_mem _ hq)) h2
  obtain⟨s2,h5,h6⟩:=Jm (hp p List.mem_cons_self) h1 h3
  exact⟨s2,h5,s1,h6,h4⟩
end
end Go.AM
namespace Go.AM
set_option linter.unusedSectionVars false
variable [vz]
section
variable (c:Ctx) (n:Nat) (ops:Array Oper)
def bJ(i:Nat)(s s':F×St)(k:RK):Prop:=∃ o,ops[i]? = some o/\vw n o.dst=true /\
 ((xT ops s.1 o=some true/\k=xR c (qh s.1) s.2 o/\∃ d zq,(zB (qC c (qh s.1) o) s.2).leads (d,zq)/\s'=(jP s.1 o.dst d,zq)) \/
  (xT ops s.1 o=some false/\k=.z 0/\s'=(jP s.1 o.dst (some IC),s.2)))
def Ih:List Nat->F×St->F×St->List RK->Prop
 | [],s,s',ks=>s'=s/\ks=[]
 | i::l,s,s',ks=>∃ s1 k Cg,ks=k::Cg/\bJ c n ops i s s1 k/\Ih l s1 s' Cg
end
section
variable {c:Ctx} {n:Nat} {ops:Array Oper}
theorem bJ.plain{i:Nat}{s s':F×St}{k:RK}(h:bJ c n ops i s s' k):∃ k',yg c n ops i s s' k':=by
 obtain⟨o,h1,h2,h3⟩:=h
 rcases h3 with⟨g1,_,g3⟩ | ⟨g1,_,g3⟩
 ·exact⟨_,o,h1,h2,.inl ⟨g1,rfl,g3⟩⟩
 ·exact⟨_,o,h1,h2,.inr ⟨g1,rfl,g3⟩⟩
theorem BK{i:Nat}{o:Oper}{s s':cg}(ho:ops[i]? = some o)(hk:vd s.kn s.fr.get)(h:(stepG c n ops o s).leads s') :
  ∃ k,bJ c n ops i (s.fr.get,s.st) (s'.fr.get,s'.st) k/\vd s'.kn s'.fr.get/\s'.bk=k::s.bk:=by
 have bkS:∀ {s0:cg},(yQ c n o s0).leads s'->s'.bk=xR c (uf s0.fr) s0.st o::s0.bk:=by
  intro s0 h
  unfold yQ at h
  cases hd:vw n o.dst with
  | false=>rw[hd]at h; exact h.elim
  | true =>
   rw[hd,cond_true]at h
   simp only[T.zy]at h
   obtain⟨⟨d,zq⟩,h1,rfl⟩:=h
   rfl
 have run:∀ (s0:cg),s0.fr=s.fr->s0.st=s.st->s0.bk=s.bk->vd s0.kn s0.fr.get->xT ops s.fr.get o=some true->(yQ c n o s0).leads s' ->
   ∃ k,bJ c n ops i (s.fr.get,s.st) (s'.fr.get,s'.st) k/\vd s'.kn s'.fr.get/\s'.bk=k::s.bk:=by
  intro s0 e1 e2 e3 JZ hw h
  obtain⟨h1,⟨d,zq,h2,h3,h4⟩,h5,h6⟩:=XO JZ h
  have hb:=bkS h
  rw[e1]at h2 h3 hb
  rw[e2]at h2 hb
  rw[e3]at hb
  rw[yV]at hb
  exact⟨_,⟨o,ho,h1,.inl ⟨hw,rfl,d,zq,h2,by rw[h3,h4]⟩⟩,h5,hb⟩
 have skip:∀ (s0:cg),s0.fr=s.fr->s0.st=s.st->s0.bk=s.bk->vd s0.kn s0.fr.get->xT ops s.fr.get o=some false->vw n o.dst=true->uV o s0=s' ->
   ∃ k,bJ c n ops i (s.fr.get,s.st) (s'.fr.get,s'.st) k/\vd s'.kn s'.fr.get/\s'.bk=k::s.bk:=by
  intro s0 e1 e2 e3 JZ hw hd h
  subst h
  refine⟨.z 0,⟨o,ho,hd,.inr ⟨hw,rfl,?_⟩⟩,E2 JZ,by simp[uV,e3]⟩
  simp only[uV,lp,e1,e2]
 unfold stepG at h
 split at h
 ·rename_i hg
  exact run s rfl rfl rfl hk (by simp[xT,hg]) h
 ·rename_i j w hg
  split at h
  ·exact h.elim
  ·rename_i t ht
   split at h
   ·rename_i b hb
    have hf:=hk t b hb
    have hw:xT ops s.fr.get o=some (b==w):=by simp[xT,hg,ht,hf]
    cases Mp:(b==w)with
    | true=>grind
    | false =>
     rw[Mp,cond_false]at h
     cases hd:vw n o.dst with
     | false=>rw[hd]at h; exact h.elim
     | true=>rw[hd,cond_true]at h; exact skip s rfl rfl rfl hk (by rw[hw,Mp]) hd h
   ·split at h
    ·rename_i x hx
     have hw:xT ops s.fr.get o=some (x==w):=by simp[xT,hg,ht,hx]
     cases hd:vw n o.dst with
     | false=>rw[hd]at h; exact h.elim
     | true =>
      rw[hd,cond_true]at h
      rcases h with⟨rfl,h⟩ | ⟨rfl,h⟩
      ·have Kt:vd (s.gB t true).kn (s.gB t true).fr.get:=o6 hk hx
       cases w with
       | true=>exact run (s.gB t true) rfl rfl rfl Kt hw h
       | false=>exact skip (s.gB t true) rfl rfl rfl Kt hw hd h
      ·have Kt:vd (s.gB t false).kn (s.gB t false).fr.get:=o6 hk hx
       cases w with
       | true=>exact skip (s.gB t false) rfl rfl rfl Kt hw hd h
       | false=>exact run (s.gB t false) rfl rfl rfl Kt hw h
    ·rename_i hx
     have hw:xT ops s.fr.get o=some false:=by simp[xT,hg,ht,hx]
     cases hd:vw n o.dst with
     | false=>rw[hd]at h; exact h.elim
     | true=>rw[hd,cond_true]at h; exact skip s rfl rfl rfl hk hw hd h
    ·exact h.elim
theorem ZU:∀ (l:List Oper) (k0:Nat) (s s':cg),(∀ j,l[j]? = ops[k0+j]? \/ l.length<=j)->vd s.kn s.fr.get->(eX c n ops l s).leads s' ->
  ∃ ks,Ih c n ops (List.range' k0 l.length) (s.fr.get,s.st) (s'.fr.get,s'.st) ks/\s'.bk=ks.reverse++s.bk
 | [],k0,s,s',_,hk,h=>by cases h; exact⟨[],⟨rfl,rfl⟩,rfl⟩
 | o::l,k0,s,s',hl,hk,h=>by
  simp only[eX,T.zy]at h
  obtain⟨s1,h1,h2⟩:=h
  have ho:ops[k0]? = some o:=by rcases hl 0 with h | h<;>simp at h; exact h.symm
  obtain⟨k,g1,g2,g3⟩:=BK ho hk h1
  obtain⟨ks,g4,g6⟩:=ZU l (k0+1) s1 s' (λj=>by have:=hl (j+1); simpa[Nat.add_assoc,Nat.add_comm 1 j]using this) g2 h2
  refine⟨k::ks,?_,by grind⟩
  exact⟨_,k,ks,rfl,g1,g4⟩
theorem BY{m b:Nat}{l:List Nat}:b∈others m l↔b<m/\∀ x∈l,b≠x:=by
 simp only[others]
 simp
theorem ES{d:Option D}{b:Nat}(h:z3U d=some b):(∃ off,d=some (.ptr b off))\/∃ v e i off,d=some (.vU b v e i off):=by
 cases d with
 | none=>cases h
 | some d=>cases d<;>first | (cases h; exact .inl ⟨_,rfl⟩) | (cases h; exact .inr ⟨_,_,_,_,rfl⟩) | cases h
theorem tT{bi:Builtin}{l:List (Option D)}:Fw bi l=.z 2\/∃ b v e off len x,bi=.append/\l=[some (.ms b v e off len),some x]/\JP x=false/\Fw bi l=.up b:=by
 unfold Fw
 grind
theorem WZ(ρ:Operand->Option D)(st:St)(o:Oper):(xR c ρ st o).base=(qC c ρ o).kind:=by
 unfold xR
 split
 ·rename_i h
  rw[h]
  cases o.op with
  | load t a=>simp only; split<;>rfl
  | _=>rfl
 ·rename_i h
  rw[h]
  cases o.op with
  | call cl =>
   cases hc:cl.callee with
   | builtin bi =>
    simp only[hc]
    rcases tT (bi:=bi) (l:=cl.args.toList.map ρ)with e | ⟨b,v,e,off,len,x,_,_,_,e⟩<;>rw[e]<;>rfl
   | value f=>simp only[hc]; split<;>rfl
   | _=>simp only[hc]; rfl
  | store t a v=>simp only; split<;>rfl
  | _=>rfl
 ·rfl
theorem ZW{ρ:Operand->Option D}{o:Oper}(h:(qC c ρ o).kind<=1)(st zq:St):xR c ρ st o=xR c ρ zq o:=by
 unfold xR
 grind
theorem sr{ρ:Operand->Option D}{st:St}{o:Oper}{b:Nat}(h:xR c ρ st o=.rd b){yJ j3 HZ:St}{d:Option D}(hl:(zB (qC c ρ o) yJ).leads (d,HZ))(hb:j3[b]? = yJ[b]?):(zB (qC c ρ o) j3).leads (d,j3):=by
 obtain⟨dst,op,ty,pos,after,guard⟩:=o
 cases op with
 | load t a =>
  have h':(∃ off,ρ a=some (.ptr b off))\/∃ v e i off,ρ a=some (.vU b v e i off):=by
   unfold xR at h
   simp only at h
   split at h
   ·split at h
    ·rename_i b' ha; cases h; exact ES ha
    ·cases h
   ·cases h
   ·cases h
  have he:qC c ρ ⟨dst,.load t a,ty,pos,after,guard⟩=Wv c t (ρ a):=rfl
  rcases h' with⟨off,ha⟩ | ⟨v,e,i,off,ha⟩
  all_goals
   rw[he,ha]at hl ⊢
   simp only[Wv]at hl ⊢
   rw[fI]at hl ⊢
   grind
 | call cl =>
  obtain⟨callee,args,ml⟩:=cl
  unfold xR at h
  split at h
  ·cases h
  ·cases callee with
   | builtin bi =>
    simp only at h
    rcases tT (bi:=bi) (l:=args.toList.map ρ)with e | ⟨b,v,e,off,len,x,_,_,_,e⟩<;>rw[e]at h<;>cases h
   | value f=>grind
   | _=>cases h
  ·cases h
 | _ =>
  unfold xR at h
  grind
theorem HI{ρ:Operand->Option D}{st:St}{o:Oper}{A:List Nat}(h:xR c ρ st o=.wr A){zq:St}{d:Option D}(hl:(zB (qC c ρ o) st).leads (d,zq)):∀ b∈A,zq[b]? = st[b]? := by
 obtain⟨dst,op,ty,pos,after,guard⟩:=o
 cases op with
 | alloc t =>
  have h':A=others st.length []:=by
   unfold xR at h
   grind
  subst h'
  intro b hb
  obtain⟨hb,_⟩:=BY.1 hb
  have hl:(zB (iP c t) st).leads (d,zq):=hl
  unfold iP at hl
  split at hl
  ·rename_i z hz
   have hl:(some (D.ptr st.length 0),st++[jW.var z])=(d,zq):=hl
   grind
  ·exact absurd hl ze
 | store t a v =>
  exfalso
  unfold xR at h
  grind
 | call cl =>
  obtain⟨callee,args,ml⟩:=cl
  cases callee with
  | value f =>
   have h':(qC c ρ ⟨dst,.call ⟨.value f,args,ml⟩,ty,pos,after,guard⟩).kind=2/\∃ g caps l,ρ f=some (.qS g caps)/\u6 (args.toList.map ρ)=some l/\A=c.free (y8 g) (uT g l caps) st:=by
    unfold xR at h
    grind
   obtain⟨hk,g,caps,l,hg,RU,rfl⟩:=h'
   intro b hb
   have he:qC c ρ ⟨dst,.call ⟨.value f,args,ml⟩,ty,pos,after,guard⟩=bO c (ρ f) (args.toList.map ρ):=rfl
   rw[he,hg]at hl hk
   simp only[bO,RU]at hl hk
   split at hl
   ·rename_i s hs
    rw[hs]at hk
    simp only[gv]at hk
    cases hn:(!(uT g l caps).any Wy)<;>rw[hn]at hk<;>simp[gU.kind]at hk
   ·simp only[oN,zB,T.zy]at hl
    obtain⟨⟨rs,yJ⟩,h1,h2⟩:=hl
    cases rs with
    | ret ds=>cases h2; exact c.PA _ _ _ _ _ b h1 hb
    | kb p=>exact h2.elim
  | builtin bi =>
   exfalso
   unfold xR at h
   simp only at h
   split at h
   ·cases h
   ·rcases tT (bi:=bi) (l:=args.toList.map ρ)with e | ⟨b,v,e,off,len,x,_,_,_,e⟩<;>rw[e]at h<;>cases h
   ·cases h
  | invoke r m =>
   exfalso
   unfold xR at h
   simp only at h
   split at h<;>cases h
 | _ =>
  exfalso
  unfold xR at h
  simp only at h
  split at h
  ·first
    | cases h
    | (split at h<;>cases h)
  ·cases h
  ·cases h
theorem sK{ρ:Operand->Option D}{st:St}{o:Oper}{b:Nat}(h:xR c ρ st o=.up b){yJ HZ:St}{d:Option D}(hl:(zB (qC c ρ o) yJ).leads (d,HZ)) :
  ∃ y,HZ=yJ.set b y/\∀ j3:St,j3[b]? = yJ[b]? -> (zB (qC c ρ o) j3).leads (d,j3.set b y):=by
 obtain⟨dst,op,ty,pos,after,guard⟩:=o
 cases op with
 | store t a v =>
  have h':(∃ off,ρ a=some (.ptr b off))\/∃ v e i off,ρ a=some (.vU b v e i off):=by
   unfold xR at h
   simp only at h
   split at h
   ·cases h
   ·split at h
    ·rename_i b ha; cases h; exact ES ha
    ·cases h
   ·cases h
  have he:qC c ρ ⟨dst,.store t a v,ty,pos,after,guard⟩=Xe c t (ρ a) (ρ v):=rfl
  rw[he]at hl ⊢
  cases hv:ρ v with
  | none =>
   rw[hv]at hl
   rcases h' with⟨off,ha⟩ | ⟨w,e,i,off,ha⟩<;>(rw[ha]at hl; exact absurd hl ze)
  | some x =>
   rw[hv]at hl
   rcases h' with⟨off,ha⟩ | ⟨w,e,i,off,ha⟩
   ·rw[ha]at hl ⊢
    have hl:(match yJ[b]? with
     | some (.var d)=>match B4 c t d off x with | some r=>bif iu d r then T.ret ((none:Option D),yJ.set b (.var r))else .fail | none=>.fail
     | _=>.fail:T (Option D×St)).leads (d,HZ):=hl
    split at hl
    ·rename_i d0 hb
     split at hl
     ·rename_i r hr
      cases ho:iu d0 r with
      | false=>rw[ho]at hl; exact hl.elim
      | true =>
       rw[ho]at hl
       cases hl
       refine⟨.var r,rfl,λj3 h2 => ?_⟩
       show(match j3[b]? with
        | some (.var d)=>match B4 c t d off x with | some r=>bif iu d r then T.ret ((none:Option D),j3.set b (.var r))else .fail | none=>.fail
        | _=>.fail:T (Option D×St)).leads _
       rw[h2,hb]
       simp only[hr,ho,cond_true]
       rfl
     ·exact hl.elim
    ·exact hl.elim
   ·rw[ha]at hl ⊢
    have hl:(match yJ[b]? with
     | some (.arr jv e' xs)=>bif decide (e'=e)then
       .zA (w=jv/\i<xs.length) (match B4 c t (.zD e' (xs.getD i (zj e'))) off x with
        | some r=>match cN e' r with | some y=>T.ret ((none:Option D),yJ.set b (.arr jv e' (xs.set i y))) | none=>.fail
        | none=>.fail)
      else .fail
     | _=>.fail:T (Option D×St)).leads (d,HZ):=hl
    split at hl
    ·rename_i jv e' xs hb
     cases hd:decide (e'=e)with
     | false=>rw[hd]at hl; exact hl.elim
     | true =>
      rw[hd,cond_true]at hl
      obtain⟨ho,hl⟩:=hl
      split at hl
      ·rename_i r hr
       split at hl
       ·rename_i y hy
        cases hl
        refine⟨.arr jv e' (xs.set i y),rfl,λj3 h2 => ?_⟩
        show(match j3[b]? with
         | some (.arr jv e' xs)=>bif decide (e'=e)then
           .zA (w=jv/\i<xs.length) (match B4 c t (.zD e' (xs.getD i (zj e'))) off x with
            | some r=>match cN e' r with | some y=>T.ret ((none:Option D),j3.set b (.arr jv e' (xs.set i y))) | none=>.fail
            | none=>.fail)
          else .fail
         | _=>.fail:T (Option D×St)).leads _
        rw[h2,hb]
        simp only[hd,cond_true,hr,hy]
        exact⟨ho,rfl⟩
       ·exact hl.elim
      ·exact hl.elim
    ·exact hl.elim
 | call cl =>
  obtain⟨callee,args,ml⟩:=cl
  cases callee with
  | builtin bi =>
   have h':bi=.append/\∃ v e off len x,args.toList.map ρ=[some (.ms b v e off len),some x]/\JP x=false:=by
    unfold xR at h
    simp only at h
    split at h
    ·cases h
    ·rcases tT (bi:=bi) (l:=args.toList.map ρ)with e | ⟨b',v,e,off,len,x,h1,h2,h3,e'⟩
     ·grind
     ·rw[e']at h; cases h; exact⟨h1,v,e,off,len,x,h2,h3⟩
    ·cases h
   obtain⟨rfl,v,e,off,len,x,hx,hm⟩:=h'
   have he:qC c ρ ⟨dst,.call ⟨.builtin .append,args,ml⟩,ty,pos,after,guard⟩=fy c .append ml.toList (args.toList.map ρ):=rfl
   rw[he,hx]at hl ⊢
   -- what the row gets
   have one:∀ {e':Ty} {ys:List (den e')} {ne:Bool} {mf:Nat},(jl e' (.ms b v e off len) ys ne mf yJ).leads (d,HZ)->∃ y,HZ=yJ.set b y/\∀ j3:St,j3[b]? = yJ[b]? -> (jl e' (.ms b v e off len) ys ne mf j3).leads (d,j3.set b y):=by
    intro e' ys ne mf hl
    simp only[jl]at hl
    split at hl
    ·rename_i jv e'' xs hb
     split at hl
     ·rename_i zs hz
      cases hd:decide (e=e')with
      | false=>rw[hd]at hl; exact hl.elim
      | true =>
       rw[hd,cond_true]at hl
       obtain⟨ho,hl⟩:=hl
       cases hl
       refine⟨_,rfl,λj3 h2 => ?_⟩
       simp only[jl]
       rw[h2,hb]
       simp only[hz,hd,cond_true]
       exact⟨ho,rfl⟩
     ·exact hl.elim
    ·exact hl.elim
   have snp:∀ j3,mb j3 x=.ret x:=λj3=>by cases x<;>first | rfl | cases hm
   generalize ml.toList=tl at hl ⊢
   rcases tl with _ | ⟨t,_ | ⟨t',_ | ⟨t'',tl⟩⟩⟩
   ·exact absurd hl ze
   ·exact absurd hl ze
   rotate_left
   ·exact absurd hl ze
   ·
    simp only[fy]at hl ⊢
    cases ht:Nat.beq t t' with
    | true =>
     rw[ht,cond_true]at hl
     simp only[cond_true]
     unfold sB at hl ⊢
     cases het:ep c t with
     | none=>rw[het]at hl; exact absurd hl ze
     | some et =>
      rw[het]at hl
      simp only at hl ⊢
      cases h1:Yb c 20 et with
      | none=>rw[h1]at hl; exact absurd hl ze
      | some ee =>
       rw[h1]at hl
       try simp only at hl ⊢
       cases h2:iv c et with
       | none=>rw[h2]at hl; exact absurd hl ze
       | some bytes =>
        rw[h2]at hl
        simp only at hl ⊢
        cases hc:jK c et ee&&Nat.blt 0 ee.size&&Nat.blt 0 bytes&&(zeroOf c et ee).isSome with
        | false=>rw[hc]at hl; exact absurd hl ze
        | true =>
         rw[hc,cond_true]at hl
         simp only[cond_true,zB,snp,T.bind]at hl ⊢
         cases x<;>simp only at hl ⊢ <;> first | exact hl.elim | exact one hl | skip
         ·split at hl
          ·exact one hl
          ·exact hl.elim
         ·split at hl
          ·exact one hl
          ·exact hl.elim
    | false =>
     rw[ht,cond_false]at hl
     simp only[cond_false]
     unfold oG at hl ⊢
     cases het:ep c t with
     | none=>rw[het]at hl; exact absurd hl ze
     | some et =>
      rw[het]at hl
      simp only at hl ⊢
      split at hl
      ·rename_i bytes h1 h2 h3
       cases hc:jK c et (.int .u8)&&Nat.blt 0 bytes&&(zeroOf c et (.int .u8)).isSome with
       | false=>rw[hc]at hl; exact absurd hl ze
       | true =>
        rw[hc,cond_true]at hl
        simp only[cond_true]
        split at hl
        ·rename_i s l e1 e2
         cases e1
         cases e2
         simp only[zB]at hl ⊢
         exact one hl
        ·exact absurd hl ze
      ·exact absurd hl ze
  | _ =>
   exfalso
   unfold xR at h
   simp only at h
   split at h
   ·cases h
   ·first | cases h | (split at h<;>cases h)
   ·cases h
 | _ =>
  exfalso
  unfold xR at h
  simp only at h
  split at h
  ·first
    | cases h
    | (split at h<;>cases h)
  ·cases h
  ·cases h
theorem Jz:∀ (l:List Nat) (s s':F×St) (ks:List RK),Ih c n ops l s s' ks->ks.length=l.length
 | [],_,_,_,h=>by rw[h.2]; rfl
 | i::l,s,s',ks,⟨s1,k,Cg,e,h1,h2⟩=>by subst e; simp[Jz l s1 s' Cg h2]
theorem mN{ρ:Operand->Option D}{st:St}{o:Oper}{b:Nat}(h:xR c ρ st o=.up b)(zq:St):xR c ρ zq o=.up b:=by
 obtain⟨dst,op,ty,pos,after,guard⟩:=o
 cases op with
 | alloc t =>
  unfold xR at h
  grind
 | call cl =>
  obtain⟨callee,args,ml⟩:=cl
  cases callee with
  | value f =>
   unfold xR at h
   grind
  | builtin bi=>cases bi<;>exact h
  | _=>exact h
 | _=>exact h
def z3J(ops:Array Oper)(kd:Nat->RK)(p i:Nat):Prop:=∀ x y,ops[p]? = some x->ops[i]? = some y ->
 (∀ d,x.dst=some d->d ∉ tmpsOf ops y)/\(∀ d,y.dst=some d->d ∉ tmpsOf ops x)/\vT (kd p) (kd i)=false
theorem oD{f:F}{o:Oper}{dst:Option Nat}{d:Option D}{st:St}(h:∀ t,dst=some t->t ∉ tmpsOf ops o):xR c (qh (jP f dst d)) st o=xR c (qh f) st o:=by
 have e1:qC c (qh (jP f dst d)) o=qC c (qh f) o:=ji h
 have e2:∀ x∈o.op.operands,qh (jP f dst d) x=qh f x:=λx hx=>J6 λt ht e=>h t ht (nT (ops:=ops) (e▸hx))
 obtain⟨dd,op,ty,pos,after,guard⟩:=o
 unfold xR
 rw[e1]
 cases op with
 | load t a=>simp only[e2 a (by simp[Op.operands])]
 | store t a v=>simp only[e2 a (by simp[Op.operands])]
 | call cl =>
  obtain⟨callee,args,ml⟩:=cl
  cases callee with
  | value g =>
   have gF:args.toList.map (qh (jP f dst d))=args.toList.map (qh f):=List.map_congr_left λx hx=>e2 x (by simp[Op.operands,Call.operands,Array.mem_toList_iff.1 hx])
   simp only[gF,e2 g (by simp[Op.operands,Call.operands])]
  | builtin bi =>
   have gF:args.toList.map (qh (jP f dst d))=args.toList.map (qh f):=List.map_congr_left λx hx=>e2 x (by simp[Op.operands,Call.operands,Array.mem_toList_iff.1 hx])
   grind
  | _=>rfl
 | _=>rfl
theorem Cl{kd:Nat->RK}{p i:Nat}(hi:z3J ops kd p i){s s1 s2:F×St}(h1:bJ c n ops p s s1 (kd p))(h2:bJ c n ops i s1 s2 (kd i)) :
  ∃ s',bJ c n ops i s s' (kd i)/\bJ c n ops p s' s2 (kd p):=by
 obtain⟨x,hx,hdx,K3⟩:=h1
 obtain⟨y,hy,hdy,hy'⟩:=h2
 obtain⟨a1,a2,a3⟩:=hi x y hx hy
 have FJ:∀ t,x.dst=some t->y.dst≠some t:=λt ht e=>a1 t ht (jM e)
 obtain⟨f,st⟩:=s
 rcases K3 with⟨hw,hk,d,yJ,hl,rfl⟩ | ⟨hw,hk,rfl⟩
 ·rcases hy' with⟨tF,bF,e,j3,dJ,rfl⟩ | ⟨tF,bF,rfl⟩
  ·simp only[xQ a1,ji (c:=c) a1,oD (c:=c) a1]at tF bF dJ
   simp only at hw hk hl
   -- the two meet nowhere in the store
   have key:∃ zq,(zB (qC c (qh f) y) st).leads (e,zq)/\(zB (qC c (qh f) x) zq).leads (d,j3)/\xR c (qh f) st y=kd i/\xR c (qh f) zq x=kd p:=by
    have bx:=WZ (c:=c) (qh f) st x
    have mf:=WZ (c:=c) (qh f) yJ y
    rw[<- hk]at bx
    rw[<- bF]at mf
    rcases Nat.lt_or_ge (qC c (qh f) x).kind 2 with Dx | Dx
    ·-- x writes nothing
     have e1:=bh (by omega) hl
     subst e1
     refine⟨j3,dJ,?_,bF.symm,(ZW (by omega) j3 yJ).trans hk.symm⟩
     rcases Nat.lt_or_ge (qC c (qh f) y).kind 2 with S0 | S0
     ·have e2:=bh (by omega) dJ
      grind
     ·have T8:(qC c (qh f) y).kind=2:=Nat.le_antisymm (tW _) S0
      cases hp:kd p with
      | rd b =>
       cases hq:kd i with
       | wr A =>
        rw[hp,hq]at a3
        simp only[vT,Bool.not_eq_false',List.any_eq_true]at a3
        obtain⟨b',Km,hbb⟩:=a3
        have:=Nat.eq_of_beq_eq_true hbb
        subst this
        exact sr (by rw[<- hk]; exact hp) hl (HI (by rw[<- bF]; exact hq) dJ b Km)
       | rd b'=>rw[hq]at mf; simp[RK.base]at mf; omega
       | z k=>rw[hp,hq]at a3; rw[hq,T8]at mf; simp only[RK.base]at mf; subst mf; simp[vT,vW,RK.base]at a3
       | up a =>
        rw[hp,hq]at a3
        have WA:a≠b:=λe=>by subst e; simp[vT]at a3
        obtain⟨z,e1,_⟩:=sK (by rw[<- bF]; exact hq) dJ
        subst e1
        exact sr (by rw[<- hk]; exact hp) hl (by rw[List.getElem?_set_ne WA])
      | wr A=>rw[hp]at bx; simp[RK.base]at bx; omega
      | up A=>rw[hp]at bx; simp[RK.base]at bx; omega
      | z k =>
       rw[hp]at bx
       simp only[RK.base]at bx
       have JZ:k=0:=by
        cases hq:kd i with
        | wr A =>
         rw[hp,hq]at a3
         simp only[vT,RK.base,vW]at a3
         cases k with
         | zero=>rfl
         | succ m=>simp at a3
        | rd b'=>rw[hq]at mf; simp[RK.base]at mf; omega
        | z k' =>
         rw[hq,T8]at mf
         simp only[RK.base]at mf
         subst mf
         rw[hp,hq]at a3
         simp only[vT,RK.base,vW]at a3
         cases k with
         | zero=>rfl
         | succ m=>simp at a3
        | up A =>
         rw[hp,hq]at a3
         simp only[vT,RK.base,vW]at a3
         cases k with
         | zero=>rfl
         | succ m=>simp at a3
       subst JZ
       exact(dN bx.symm hl).2 j3
    ·have hx3:(qC c (qh f) x).kind=2:=Nat.le_antisymm (tW _) Dx
     -- x writes
     rcases Nat.lt_or_ge (qC c (qh f) y).kind 2 with S0 | S0
     ·have e2:=bh (by omega) dJ
      subst e2
      refine⟨st,?_,hl,(ZW (by omega) st j3).trans bF.symm,hk.symm⟩
      cases hq:kd i with
      | wr A=>rw[hq]at mf; simp[RK.base]at mf; omega
      | up A=>rw[hq]at mf; simp[RK.base]at mf; omega
      | rd b =>
       cases hp:kd p with
       | wr A =>
        rw[hp,hq]at a3
        simp only[vT,Bool.not_eq_false',List.any_eq_true]at a3
        obtain⟨b',Km,hbb⟩:=a3
        have:=Nat.eq_of_beq_eq_true hbb
        subst this
        exact sr (st:=j3) (by rw[<- bF]; exact hq) dJ (HI (by rw[<- hk]; exact hp) hl b Km).symm
       | up a =>
        rw[hp,hq]at a3
        have WA:a≠b:=λe=>by subst e; simp[vT]at a3
        obtain⟨z,e1,_⟩:=sK (by rw[<- hk]; exact hp) hl
        subst e1
        exact sr (st:=st.set a z) (by rw[<- bF]; exact hq) dJ (by rw[List.getElem?_set_ne WA])
       | rd b'=>rw[hp]at bx; simp[RK.base]at bx; omega
       | z k=>rw[hp]at bx; simp only[RK.base]at bx; rw[hx3]at bx; subst bx; rw[hp,hq]at a3; simp[vT,RK.base,vW]at a3
      | z k =>
       rw[hq]at mf
       simp only[RK.base]at mf
       have JZ:k=0:=by
        have a4:vT (kd p) (.z k)=false:=by rw[hq]at a3; exact a3
        have a5:vW 2 k=false:=by
         cases hp:kd p with
         | wr A=>rw[hp]at a4; exact a4
         | up A=>rw[hp]at a4; exact a4
         | rd b'=>rw[hp]at bx; simp[RK.base]at bx; omega
         | z k'=>rw[hp]at bx a4; simp only[RK.base]at bx; rw[hx3]at bx; subst bx; exact a4
        cases k with
        | zero=>rfl
        | succ m=>simp[vW]at a5
       subst JZ
       exact(dN mf.symm dJ).2 st
     ·have T8:(qC c (qh f) y).kind=2:=Nat.le_antisymm (tW _) S0
      -- both write: one block each
      have hup:∃ a b,kd p=.up a/\kd i=.up b/\a≠b:=by
       cases hp:kd p with
       | rd b'=>rw[hp]at bx; simp[RK.base]at bx; omega
       | up a =>
        cases hq:kd i with
        | up b=>rw[hp,hq]at a3; exact⟨a,b,rfl,rfl,λe=>by subst e; simp[vT]at a3⟩
        | rd b'=>rw[hq]at mf; simp[RK.base]at mf; omega
        | wr A=>rw[hp,hq]at a3; simp[vT,RK.base,vW]at a3
        | z k=>rw[hq,T8]at mf; simp only[RK.base]at mf; subst mf; rw[hp,hq]at a3; simp[vT,RK.base,vW]at a3
       | wr A =>
        cases hq:kd i with
        | up b=>rw[hp,hq]at a3; simp[vT,RK.base,vW]at a3
        | rd b'=>rw[hq]at mf; simp[RK.base]at mf; omega
        | wr B=>rw[hp,hq]at a3; simp[vT,RK.base,vW]at a3
        | z k=>rw[hq,T8]at mf; simp only[RK.base]at mf; subst mf; rw[hp,hq]at a3; simp[vT,RK.base,vW]at a3
       | z k' =>
        rw[hp,hx3]at bx
        simp only[RK.base]at bx
        subst bx
        cases hq:kd i with
        | up b=>rw[hp,hq]at a3; simp[vT,RK.base,vW]at a3
        | rd b'=>rw[hq]at mf; simp[RK.base]at mf; omega
        | wr B=>rw[hp,hq]at a3; simp[vT,RK.base,vW]at a3
        | z k=>rw[hq,T8]at mf; simp only[RK.base]at mf; subst mf; rw[hp,hq]at a3; simp[vT,RK.base,vW]at a3
      obtain⟨a,b,hp,hq,WA⟩:=hup
      obtain⟨z1,e1,w1⟩:=sK (by rw[<- hk]; exact hp) hl
      subst e1
      obtain⟨z2,e2,w2⟩:=sK (by rw[<- bF]; exact hq) dJ
      subst e2
      refine⟨st.set b z2,w2 st (by rw[List.getElem?_set_ne WA]),?_,(mN (by rw[<- bF]; exact hq) st).trans hq.symm,(mN (by rw[<- hk]; exact hp) _).trans hp.symm⟩
      rw[List.set_comm _ _ WA]
      exact w1 (st.set b z2) (by rw[List.getElem?_set_ne (λe=>WA e.symm)])
   obtain⟨zq,k1,k2,k3,k4⟩:=key
   refine⟨_,⟨y,hy,hdy,.inl ⟨tF,k3.symm,e,_,k1,rfl⟩⟩,x,hx,hdx,.inl ⟨?_,?_,d,j3,?_,?_⟩⟩
   ·rw[xQ a2]; exact hw
   ·rw[oD (c:=c) a2]; exact k4.symm
   ·rw[ji (c:=c) a2]; exact k2
   ·simp only[yn f d e FJ]
  ·simp only[xQ a1]at tF
   refine⟨_,⟨y,hy,hdy,.inr ⟨tF,bF,rfl⟩⟩,x,hx,hdx,.inl ⟨?_,?_,d,yJ,?_,?_⟩⟩
   ·rw[xQ a2]; exact hw
   ·rw[oD (c:=c) a2]; exact hk
   ·rw[ji (c:=c) a2]; exact hl
   ·simp only[yn f d (some IC) FJ]
 ·rcases hy' with⟨tF,bF,e,j3,dJ,rfl⟩ | ⟨tF,bF,rfl⟩
  ·simp only[xQ a1,ji (c:=c) a1,oD (c:=c) a1]at tF bF dJ
   refine⟨_,⟨y,hy,hdy,.inl ⟨tF,bF,e,j3,dJ,rfl⟩⟩,x,hx,hdx,.inr ⟨?_,hk,?_⟩⟩
   ·rw[xQ a2]; exact hw
   ·simp only[yn f (some IC) e FJ]
  ·simp only[xQ a1]at tF
   refine⟨_,⟨y,hy,hdy,.inr ⟨tF,bF,rfl⟩⟩,x,hx,hdx,.inr ⟨?_,hk,?_⟩⟩
   ·rw[xQ a2]; exact hw
   ·simp only[yn f (some IC) (some IC) FJ]
end
end Go.AM
namespace Go.AM
set_option linter.unusedSectionVars false
variable [vz]
class VW where
 df:List Deferred
instance Vb:VW:=⟨[]⟩
variable [VW]
structure Rel(κ:KS)(n:Nat)(f:F)(a:Act):Prop where
 size:a.tmps.size=n
 defers:a.defers=VW.df
 get:∀ (s:Nat) (d:D),f s=some d->∃ v,a.tmps[s]? = some v/\RD κ d v
section
variable {c:Ctx} {κ:KS} {n:Nat} {f:F} {a:Act}
theorem Rel.eval(h:Rel κ n f a){x:Operand}{d:D}(hx:qh f x=some d):RD κ d (a.eval x):=by
 cases x with
 | tmp t =>
  obtain⟨v,h1,h2⟩:=h.get t d hx
  simp only[Act.eval,Array.getD_eq_getD_getElem?,h1]
  exact h2
 | const v=>exact(Ww hx).1
 | global g=>cases hx
 | func g =>
  have hx:(bif Nat.blt g 1000000 then some (D.qS g [])else none)=some d:=hx
  cases hb:Nat.blt g 1000000 with
  | false=>grind
  | true =>
   rw[hb]at hx
   cases hx
   have:=RD.qS (κ:=κ) g [] [] rfl (λi h=>absurd h (Nat.not_lt_zero i))
   rwa [Kq hb]at this
theorem Rel.mono{κ':KS}(x:Ext κ κ')(h:Rel κ n f a):Rel κ' n f a:=⟨h.size,h.defers,λs d hd=>by obtain⟨v,h1,h2⟩:=h.get s d hd; exact⟨v,h1,h2.mono x⟩⟩
theorem Rel.put{dst:Option Nat}{d:Option D}{v:Value}(h:Rel κ n f a)(hd:vw n dst=true)(hv:∀ d',d=some d'->RD κ d' v):Rel κ n (jP f dst d) (a.put dst v):=by
 cases dst with
 | none=>exact h
 | some t =>
  have qs:t<n:=Nat.le_of_ble_eq_true hd
  refine⟨by simp[Act.put,h.size],h.defers,λs d' hs => ?_⟩
  simp only[jP]at hs
  simp only[Act.put]
  by_cases e:s=t
  ·subst e
   rw[if_pos rfl]at hs
   exact⟨v,by simp[h.size,qs],hv d' hs⟩
  ·rw[if_neg e]at hs
   obtain⟨u,h1,h2⟩:=h.get s d' hs
   grind
theorem O3{v:Value}:RD κ IC undef:=.kY [] [] rfl (λi h=>absurd h (Nat.not_lt_zero i))
theorem z0g{o:Oper}{d:Option D}{zq:St}(h:qt c.P (execOp a.eval o) κ d zq){K:Act->World->Prop}{Q:Exit->Act->World->Prop}
  (hK:∀ (v:Value) (κ':KS),κ'.st=zq->Inv κ'->Ext κ κ'->(∀ d',d=some d'->RD κ' d' v)->K (a.put o.dst v) κ'.w):o.wp c.P a κ.w K Q:=by
 obtain⟨κ',nx,v,h1,h2,h3,h4,h5,h6⟩:=h
 unfold Oper.wp
 rw[h1]
 rcases h2 with rfl | ⟨rfl,rfl⟩
 ·exact hK v κ' h3 h4 h5 h6
 ·exact hK undef κ' h3 h4 h5 h6
theorem C9(h:Rel κ n f a)(x:Option Operand):QD κ (x.map (qh f)) (x.map a.eval):=by
 cases x with
 | none=>trivial
 | some x=>exact λy hy=>h.eval hy
theorem KO(hI:Inv κ)(hR:Rel κ n f a){b:Builtin}{args:Array Operand}{ml:Array TypeId}{o:Oper}(ho:o.op=.call ⟨.builtin b,args,ml⟩){d:Option D}{zq:St}
  (h:(zB (fy c b ml.toList (args.toList.map (qh f))) κ.st).leads (d,zq)):qt c.P (execOp a.eval o) κ d zq:=by
 have two:∀ {g:Value->Value->Sem Value} {m:Int->Int->Int},(∀ k k' a b,(g (.int k a) (.int k' b)).run c.P κ.w=.ok (.int k (m a b)) κ.w)->(zB (Vz m (args.toList.map (qh f))) κ.st).leads (d,zq) ->
   (∀ p q,args = #[p,q]->execOp a.eval o=(do Pure.pure (.value (<- g (a.eval p) (a.eval q))):Sem Next))->qt c.P (execOp a.eval o) κ d zq:=by
  intro g m hg h he
  match hl:args.toList,h with
  | [p,q],h =>
   have T9:args = #[p,q]:=by rw[<- Array.toArray_toList (xs:=args),hl]
   rw[he p q T9]
   obtain⟨r,h1,rfl,h3⟩:=Bx hg hI (λz hz=>hR.eval (x:=p) hz) (λz hz=>hR.eval (x:=q) hz) h
   exact⟨κ,.value r,r,by simp[h1],.inl rfl,rfl,hI,Ext.refl κ,h3⟩
  | [],h=>exact absurd h ze
  | [_],h=>exact absurd h ze
  | _::_::_::_,h=>exact absurd h ze
 unfold fy at h
 split at h
 ·rename_i t ts x xs h1 h2
  have ht:ml[0]? = some t:=by rw[<- Array.getElem?_toList,h1]; rfl
  obtain⟨y,hy,rfl⟩:∃ y,args[0]? = some y/\x=qh f y:=by
   cases hl:args.toList with
   | nil=>grind
   | cons y ys=>rw[hl]at h2; simp at h2; exact⟨y,by rw[<- Array.getElem?_toList,hl]; rfl,h2.1.symm⟩
  have:=TN (c:=c) (ty:=o.type) (ts:=ml) (vs:=args.map a.eval) hI (λz hz=>hR.eval (x:=y) hz) ht (by simp[hy]) h
  simp only[execOp,ho,resolve,invoke,builtin,pure_bind]
  exact this
 ·rename_i t t' s x h1 h2
  obtain⟨p,q,rfl,rfl,T9⟩:∃ p q,s=qh f p/\x=qh f q/\args = #[p,q]:=by
   cases hl:args.toList with
   | nil=>grind
   | cons p r=>rw[hl]at h2; cases r with
    | nil=>simp at h2
    | cons q r=>cases r with
     | nil=>grind
     | cons _ _=>simp at h2
  subst T9
  cases hb:Nat.beq t t' with
  | false =>
   rw[hb,cond_false]at h
   have Nd:ml = #[t,t']:=by rw[<- Array.toArray_toList (xs:=ml),h1]
   subst Nd
   have:=VJ (c:=c) (ty:=o.type) hI (λz hz=>hR.eval (x:=p) hz) (λz hz=>hR.eval (x:=q) hz) h
   have e2:(#[p,q]:Array Operand).map a.eval = #[a.eval p,a.eval q]:=by simp
   simp only[execOp,ho,resolve,invoke,builtin,pure_bind,e2]
   exact this
  | true =>
   rw[hb,cond_true]at h
   have e:=Nat.eq_of_beq_eq_true hb
   subst e
   have Nd:ml = #[t,t]:=by rw[<- Array.toArray_toList (xs:=ml),h1]
   subst Nd
   have:=GD (c:=c) (ty:=o.type) hI (λz hz=>hR.eval (x:=p) hz) (λz hz=>hR.eval (x:=q) hz) h
   have e2:(#[p,q]:Array Operand).map a.eval = #[a.eval p,a.eval q]:=by simp
   simp only[execOp,ho,resolve,invoke,builtin,pure_bind,e2]
   exact this
 ·rename_i t t' s x h1 h2
  obtain⟨p,q,rfl,rfl,T9⟩:∃ p q,s=qh f p/\x=qh f q/\args = #[p,q]:=by
   cases hl:args.toList with
   | nil=>grind
   | cons p r=>rw[hl]at h2; cases r with
    | nil=>simp at h2
    | cons q r=>cases r with
     | nil=>simp at h2; exact⟨p,q,h2.1.symm,h2.2.symm,by rw[<- Array.toArray_toList (xs:=args),hl]⟩
     | cons _ _=>simp at h2
  subst T9
  have Nd:ml = #[t,t']:=by rw[<- Array.toArray_toList (xs:=ml),h1]
  subst Nd
  have:=M8 (c:=c) (ty:=o.type) (t':=t') hI (λz hz=>hR.eval (x:=p) hz) (λz hz=>hR.eval (x:=q) hz) h
  have e2:(#[p,q]:Array Operand).map a.eval = #[a.eval p,a.eval q]:=by simp
  simp only[execOp,ho,resolve,invoke,builtin,pure_bind,e2]
  exact this
 ·rename_i h2
  exact two (g:=Builtin.min2) (λk k' a b=>by simp[Builtin.min2,Ki]) h λp q T9=>by
   subst T9
   have e2:(#[p,q]:Array Operand).map a.eval = #[a.eval p,a.eval q]:=by simp
   simp only[execOp,ho,resolve,invoke,builtin,pure_bind,e2]
   simp[Builtin.min_]
 ·rename_i h2
  exact two (g:=Builtin.max2) (λk k' a b=>by simp[Builtin.max2,lJ]) h λp q T9=>by
   subst T9
   have e2:(#[p,q]:Array Operand).map a.eval = #[a.eval p,a.eval q]:=by simp
   simp only[execOp,ho,resolve,invoke,builtin,pure_bind,e2]
   simp[Builtin.max_]
 ·exact absurd h ze
theorem z01{o:Oper}{g:Nat}{caps:Array Value}{args:Array Value}{R:Ending->World->Prop}(vi:(execOp a.eval o).run c.P κ.w=(callFunc g args).run c.P κ.w)
  (h:ug c.P g args κ.w R) {K:Act->World->Prop} {Q:Exit->Act->World->Prop} (hR:∀ e w',R e w'->∃ v,e=.returned v/\K (a.put o.dst v) w'):o.wp c.P a κ.w K Q:=by
 unfold Oper.wp
 rw[vi]
 rcases h with⟨h1,h2⟩ | ⟨v,w',h1,h2⟩
 ·rw[h1]
  refine h2.mono λe w' he => ?_
  grind
 ·rw[h1]
  obtain⟨u,hu,hk⟩:=hR _ _ h2
  cases hu
  exact hk
theorem W5(g:Nat){l caps:List D}{vs us:List Value}(h1:qA κ l vs)(h2:qA κ caps us):qA κ (uT g l caps) (uT g vs us):=by
 unfold uT
 cases Nat.ble 1000000 g with
 | true=>exact h2.append h1
 | false=>exact h1.append h2
theorem YY{dst:Option Nat}{p:Operand}{args:Array Operand}{ml:Array TypeId}{ty:TypeId}{pos:String}{after:Array Edge}{guard:Option (Nat×Bool)}{g:Nat}{us:List Value}{P:Program}{w:World}(GL:a.eval p=me g us) :
  (execOp a.eval ⟨dst,.call ⟨.value p,args,ml⟩,ty,pos,after,guard⟩).run P w=(callFunc (y8 g) (uT g (args.toList.map a.eval) us).toArray).run P w:=by
 unfold me at GL
 unfold y8 uT
 cases hb:Nat.ble 1000000 g with
 | true =>
  rw[hb]at GL
  simp at GL ⊢
  have e:us.toArray++args.map a.eval=(us++args.toList.map a.eval).toArray:=by apply Array.ext'; simp
  simp only[execOp,resolve,GL,Deferred.ofValue,pure_bind,invoke,Array.append_empty,e]
 | false =>
  rw[hb]at GL
  simp at GL ⊢
  have e:args.map a.eval++us.toArray=(args.toList.map a.eval++us).toArray:=by apply Array.ext'; simp
  simp only[execOp,resolve,GL,Deferred.ofValue,pure_bind,invoke,Array.empty_append,e]
theorem Ht{o:Oper}{d:Option D}{zq:St}(hC:∀ g,YB c.P g (c.fn g))(hI:Inv κ)(hR:Rel κ n f a)(h:(zB (qC c (qh f) o) κ.st).leads (d,zq)){K:Act->World->Prop}{Q:Exit->Act->World->Prop}
  (hK:∀ (v:Value) (κ':KS),κ'.st=zq->Inv κ'->Ext κ κ'->(∀ d',d=some d'->RD κ' d' v)->K (a.put o.dst v) κ'.w):o.wp c.P a κ.w K Q:=by
 have dL:∀ (x:Operand) (z:D),qh f x=some z->RD κ z (a.eval x):=λx z hz=>hR.eval hz
 obtain⟨dst,op,ty,pos,after,guard⟩:=o
 have fin:qt c.P (execOp a.eval ⟨dst,op,ty,pos,after,guard⟩) κ d zq->Oper.wp c.P ⟨dst,op,ty,pos,after,guard⟩ a κ.w K Q:=λhd=>z0g hd hK
 cases op with
 | move x =>
  simp only[qC,wH,T.leads]at h
  obtain⟨h,rfl⟩:=h
  exact fin (qt.val hI λd' ke=>dL x d' (h.trans ke))
 | assign x =>
  simp only[qC,wH,T.leads]at h
  obtain⟨h,rfl⟩:=h
  exact fin (qt.val hI λd' ke=>dL x d' (h.trans ke))
 | pick x p q =>
  simp only[qC,By]at h
  split at h
  ·rename_i b hb
   have hv:=ox hb (dL x)
   rw[wH]at h
   obtain⟨h,rfl⟩:=h
   refine fin ⟨κ,.value (if b then a.eval p else a.eval q),if b then a.eval p else a.eval q,?_,.inl rfl,rfl,hI,Ext.refl κ,λd' ke => ?_⟩
   ·simp[execOp,hv,Go.asBool]
   ·rcases h with⟨rfl,h⟩ | ⟨rfl,h⟩
    ·exact dL p d' (h.trans ke)
    ·exact dL q d' (h.trans ke)
  ·exact absurd h ze
 | alloc t=>exact fin (C0 hI h)
 | box t x=>exact fin (BG hI (dL x) h)
 | load t x=>exact fin (L1 hI (dL x) h)
 | store t x y=>exact fin (Ci hI (dL x) (dL y) h)
 | nilCheck x=>exact fin (Uj rfl hI (dL x) h)
 | binOp op t x y ty' =>
  have h:(zB (Dh c op t y (qh f x) (qh f y)) κ.st).leads (d,zq):=h
  unfold Dh at h
  split at h
  ·exact fin (CK hI (dL x) h)
  ·exact fin (Oy hI (dL x) (dL y) h)
 | typeAssert x xt t ok=>exact fin (X2 hI (dL x) h)
 | unOp op t x=>exact fin (Sc hI (dL x) h)
 | convert s t x=>exact fin (Kp hI (dL x) h)
 | makeInterface t x=>exact fin (WU hI (dL x) h)
 | makeFunc fn first cap =>
  cases fn with
  | func g =>
   simp only[qC]at h
   cases hb:Nat.beq first.size 0&&Nat.blt g 1000000 with
   | false =>
    rw[hb,cond_false]at h
    cases YW:Nat.beq cap.size 0&&Nat.blt g 1000000 with
    | false=>rw[YW]at h; exact absurd h ze
    | true =>
     rw[YW,cond_true]at h
     simp only[Bool.and_eq_true]at YW
     have hf:cap = #[]:=Array.eq_empty_of_size_eq_zero (Nat.eq_of_beq_eq_true YW.1)
     subst hf
     split at h
     ·rename_i l hl
      rw[jj]at h
      obtain⟨rfl,rfl⟩:=h
      have hr:=yi (κ:=κ) (vs:=first.toList.map a.eval) hl (by simp) (λi d v hd hv=>by
       simp only[List.getElem?_map]at hd hv
       cases hi:first.toList[i]? with
       | none=>grind
       | some x=>rw[hi]at hd hv; simp at hd hv; subst hv; exact dL x d hd)
      refine fin (qt.pure hI ?_ (.qS (g+1000000) l _ hr.1 hr.2))
      have e:(first.toList.map a.eval).toArray=first.map a.eval:=by apply Array.ext'; simp
      rw[CY YW.2,e]
      simp[Instr.makeFunc]
     ·exact absurd h ze
   | true =>
    rw[hb,cond_true]at h
    simp only[Bool.and_eq_true]at hb
    have hf:first = #[]:=Array.eq_empty_of_size_eq_zero (Nat.eq_of_beq_eq_true hb.1)
    subst hf
    split at h
    ·rename_i l hl
     rw[jj]at h
     obtain⟨rfl,rfl⟩:=h
     have hr:=yi (κ:=κ) (vs:=cap.toList.map a.eval) hl (by simp) (λi d v hd hv=>by
      simp only[List.getElem?_map]at hd hv
      cases hi:cap.toList[i]? with
      | none=>grind
      | some x=>rw[hi]at hd hv; simp at hd hv; subst hv; exact dL x d hd)
     refine fin (qt.pure hI ?_ (.qS g l _ hr.1 hr.2))
     have e:(cap.toList.map a.eval).toArray=cap.map a.eval:=by apply Array.ext'; simp
     rw[Kq hb.2,e]
     simp[Instr.makeFunc]
    ·exact absurd h ze
  | _=>exact absurd h ze
 | makeSlice t x y=>exact fin (IP hI (dL x) (dL y) h)
 | slice t x lo hi mx=>exact fin (BT hI (dL x) (C9 hR lo) (C9 hR hi) (C9 hR mx) h)
 | fieldAddr s x fl=>exact fin (WJ hI (dL x) h)
 | field s x fl=>exact fin (Dn hI (dL x) h)
 | indexAddr t x i=>exact fin (W4 hI (dL x) (dL i) h)
 | index t x i=>exact fin (CN hI (dL x) (dL i) h)
 | extract x i=>exact fin (KN hI (dL x) h)
 | build t ps =>
  have:=CM (L:=ps.toList) (G:=a.eval) hI dL h
  refine fin ?_
  have e:(ps.toList.map λp=>(p.1,a.eval p.2)).toArray=ps.map λp=>(p.1,a.eval p.2):=by apply Array.ext'; simp
  rw[e]at this
  exact this
 | buildSlice t k ps =>
  have:=QZ (L:=ps.toList) (G:=a.eval) hI dL h
  refine fin ?_
  have e:(ps.toList.map λp=>(p.1,a.eval p.2)).toArray=ps.map λp=>(p.1,a.eval p.2):=by apply Array.ext'; simp
  rw[e]at this
  exact this
 | call cl =>
  obtain⟨callee,args,ml⟩:=cl
  cases callee with
  | builtin b=>exact fin (KO hI hR rfl h)
  | invoke r m=>exact absurd h ze
  | value p =>
   simp only[qC,bO]at h
   split at h
   ·rename_i g caps l hp hl
    have RJ:=dL p _ hp
    have hr:=yi (κ:=κ) (vs:=args.toList.map a.eval) hl (by simp) (λi d v hd hv=>by
      simp only[List.getElem?_map]at hd hv
      cases hi:args.toList[i]? with
      | none=>rw[hi]at hd; cases hd
      | some x=>rw[hi]at hd hv; simp at hd hv; subst hv; exact dL x d hd)
    generalize GL:a.eval p=pv at RJ
    cases RJ with
    | qS _ _ us dJ hh2 =>
     have oX:=W5 g hr (⟨dJ,hh2⟩:qA κ caps us)
     refine z01 (c:=c) (κ:=κ) (g:=y8 g) (caps := #[]) (args:=(uT g (args.toList.map a.eval) us).toArray) ?_ (Ij (hC (y8 g)) hI oX h) ?_
     ·exact YY GL
     ·rintro e w' ⟨κ',v,rfl,h1,h2,h3,rfl,h4⟩
      exact⟨v,rfl,hK v κ' h1 h2 h3 h4⟩
   ·exact absurd h ze
 | _=>exact absurd h ze
end
end Go.AM
namespace Go.AM
set_option linter.unusedSectionVars false
variable [vz] [VW]
section
variable {c:Ctx} {n:Nat} {ops:Array Oper}
theorem Yl(j:Nat):ub ops j=(ops[j]?).bind (·.dst):=by
 unfold ub; cases ops[j]? <;> rfl
theorem fp{κ:KS}{f:F}{a:Act}{o:Oper}{b:Bool}(hR:Rel κ n f a)(h:xT ops f o=some b):Region.wanted o (yielded ops a.tmps)=b:=by
 unfold xT at h
 unfold Region.wanted
 split at h
 ·grind
 ·rename_i j w hg
  rw[hg]
  split at h
  ·cases h
  ·rename_i t ht
   rw[Yl]at ht
   simp only[yielded,ht,Option.bind_some]
   split at h
   ·rename_i x hx
    obtain⟨v,h1,h2⟩:=hR.get t _ hx
    have:=h2.jq
    cases h
    grind
   ·rename_i hx
    obtain⟨v,h1,h2⟩:=hR.get t _ hx
    cases h
    rw[h1]
    cases h2 with
    | kY _ vs hl hh=>rfl
   ·cases h
def cO(ops:Array Oper)(a a':Act):Prop:=∀ s:Nat,(∀ o∈ops.toList,o.dst≠some s)->a'.tmps[s]? = a.tmps[s]?
theorem cO.refl(ops:Array Oper)(a:Act):cO ops a a:=λ_ _=>rfl
theorem cO.trans{ops:Array Oper}{a b d:Act}(h:cO ops a b)(k:cO ops b d):cO ops a d:=λs hs=>(k s hs).trans (h s hs)
theorem mr{ops:Array Oper}{i:Nat}{o:Oper}{a:Act}{v:Value}(ho:ops[i]? = some o):cO ops a (a.put o.dst v):=by
 intro s hs
 have hm:o∈ops.toList:=by have:=Array.mem_of_getElem? ho; simpa using this
 have:=hs o hm
 cases hd:o.dst with
 | none=>rfl
 | some t =>
  rw[hd]at this
  have vy:t≠s:=λe=>this (by rw[e])
  simp[Act.put,Array.getElem?_setIfInBounds_ne vy]
theorem XD{κ:KS}{a:Act}{i k:Nat}{s s':F×St}(hC:∀ g,YB c.P g (c.fn g))(hI:Inv κ)(hR:Rel κ n s.1 a)(xE:κ.st=s.2)(h:yg c n ops i s s' k){K:Act->World->Prop}{Q:Exit->Act->World->Prop}
  (hK:∀ (a':Act) (κ':KS),κ'.st=s'.2->Inv κ'->Ext κ κ'->Rel κ' n s'.1 a'->cO ops a a'->K a' κ'.w):wpOp c.P ops Q i K a κ.w:=by
 obtain⟨o,ho,hd,h⟩:=h
 unfold wpOp
 rw[ho]
 simp only
 rcases h with⟨hw,_,d,zq,hl,rfl⟩ | ⟨hw,_,rfl⟩
 ·rw[if_pos (fp hR hw)]
  refine .inl (Ht hC hI hR (xE▸hl) λv κ' h1 h2 h3 h4=>hK _ κ' h1 h2 h3 ((hR.mono h3).put hd h4) (mr ho))
 ·rw[if_neg (by rw[fp hR hw]; exact Bool.false_ne_true)]
  exact hK _ κ xE hI (Ext.refl κ) (hR.put hd λd' ke=>by cases ke; exact O3 (v:=undef)) (mr ho)
theorem EZ{Q:Exit->Act->World->Prop}(hC:∀ g,YB c.P g (c.fn g)):∀ (l:List Nat) {κ:KS} {a:Act} {s s':F×St} {ks:List Nat},Inv κ->Rel κ n s.1 a->κ.st=s.2->LU c n ops l s s' ks ->
  (∀ (a':Act) (κ':KS),κ'.st=s'.2->Inv κ'->Ext κ κ'->Rel κ' n s'.1 a'->cO ops a a'->Q .normal a' κ'.w)->wpOps c.P ops Q l a κ.w
 | [],κ,a,s,s',ks,hI,hR,xE,h,hQ=>by
  obtain⟨rfl,_⟩:=h
  exact hQ a κ xE hI (Ext.refl κ) hR (cO.refl _ _)
 | i::l,κ,a,s,s',ks,hI,hR,xE,h,hQ=>by
  obtain⟨s1,k,Cg,_,h1,h2⟩:=h
  refine XD hC hI hR xE h1 λa1 κ1 g1 g2 g3 g4 g5 => ?_
  exact EZ hC l g2 g4 g1 h2 λa' κ' e1 e2 e3 e4 e5=>hQ a' κ' e1 e2 (g3.trans e3) e4 (g5.trans e5)
theorem ZJ{Q:Exit->Act->World->Prop}(hC:∀ g,YB c.P g (c.fn g)):∀ (l m:List Nat) {κ:KS} {a:Act} {s s':F×St} {ks:List Nat},Inv κ->Rel κ n s.1 a->κ.st=s.2->LU c n ops l s s' ks ->
  (∀ (a':Act) (κ':KS),κ'.st=s'.2->Inv κ'->Ext κ κ'->Rel κ' n s'.1 a'->cO ops a a'->wpOps c.P ops Q m a' κ'.w)->wpOps c.P ops Q (l++m) a κ.w
 | [],m,κ,a,s,s',ks,hI,hR,xE,h,hQ=>by
  obtain⟨rfl,_⟩:=h
  exact hQ a κ xE hI (Ext.refl κ) hR (cO.refl _ _)
 | i::l,m,κ,a,s,s',ks,hI,hR,xE,h,hQ=>by
  obtain⟨s1,k,Cg,_,h1,h2⟩:=h
  refine XD hC hI hR xE h1 λa1 κ1 g1 g2 g3 g4 g5 => ?_
  exact ZJ hC l m g2 g4 g1 h2 λa' κ' e1 e2 e3 e4 e5=>hQ a' κ' e1 e2 (g3.trans e3) e4 (g5.trans e5)
theorem VN{kd:Nat->Nat}:∀ (l:List Nat) (s s':F×St) (ks:List Nat),LU c n ops l s s' ks->ks=l.map kd->lO c n ops kd l s s'
 | [],s,s',ks,h,_=>h.1
 | i::l,s,s',ks,⟨s1,k,Cg,e,h1,h2⟩,hk=>by
  subst e
  simp at hk
  obtain⟨rfl,hk⟩:=hk
  exact⟨s1,h1,VN l s1 s' Cg h2 hk⟩
theorem Gi:∀ (l:List Nat) (s s':F×St) (ks:List Nat),LU c n ops l s s' ks->ks.length=l.length
 | [],_,_,_,h=>by rw[h.2]
 | i::l,s,s',ks,⟨s1,k,Cg,e,h1,h2⟩=>by subst e; simp[Gi l s1 s' Cg h2]
theorem H9(acc:List Nat):∀ (es:List Edge) (s0 p:Nat),Nat.testBit (es.foldl (λs e=>bif Region.binds .any e then s ||| 2 ^ e.on ||| acc.getD e.on 0 else s) s0) p=true ->
  Nat.testBit s0 p=true\/∃ e∈es,Region.binds .any e=true/\(p=e.on\/Nat.testBit (acc.getD e.on 0) p=true)
 | [],s0,p,h=>.inl h
 | e::es,s0,p,h=>by
  rcases H9 acc es _ p h with h1 | ⟨e',h1,h2⟩
  ·grind
  ·grind
theorem iF:∀ (l:List Oper) (acc:List Nat),∃ r,xc l acc=acc++r/\r.length=l.length /\
  ∀ j o,l[j]? = some o->∀ p,Nat.testBit ((xc l acc).getD (acc.length+j) 0) p=true ->
   ∃ e∈o.after.toList,Region.binds .any e=true/\(p=e.on\/(e.on<acc.length+j/\Nat.testBit ((xc l acc).getD e.on 0) p=true))
 | [],acc=>⟨[],by simp[xc],rfl,λj o h=>by simp at h⟩
 | o::l,acc=>by
  let b:=o.after.toList.foldl (λs e=>bif Region.binds .any e then s ||| 2 ^ e.on ||| acc.getD e.on 0 else s) 0
  obtain⟨r,h1,h2,h3⟩:=iF l (acc++[b])
  have hb:xc (o::l) acc=xc l (acc++[b]):=rfl
  have Lx:∀ i,i<acc.length->(xc l (acc++[b])).getD i 0=acc.getD i 0:=λi hi=>by
   grind
  refine⟨b::r,by rw[hb,h1]; simp,by simp[h2],?_⟩
  rw[hb]
  intro j o' ho p hp
  cases j with
  | zero =>
   simp at ho
   subst ho
   have he:(xc l (acc++[b])).getD (acc.length+0) 0=b:=by rw[h1]; simp[List.getD]
   rw[he]at hp
   rcases H9 acc _ 0 p hp with h | ⟨e,k1,k2,k3⟩
   ·simp at h
   ·grind
  | succ j =>
   have:=h3 j o' (by simpa using ho) p (by rw[show(acc++[b]).length+j=acc.length+(j+1) by simp; omega]; exact hp)
   grind
theorem iV:∀ (l:List Oper) (k:Nat),yM l k=true->∀ j o,l[j]? = some o->∀ e∈o.after.toList,Region.binds .any e=true->e.on<k+j
 | [],_,_,j,o,h,_,_,_=>by simp at h
 | o::l,k,h,j,o',ho,e,he,hb=>by
  simp only[yM,Bool.and_eq_true,List.all_eq_true]at h
  cases j with
  | zero =>
   simp at ho
   subst ho
   have:=h.1 e he
   rw[hb]at this
   exact Nat.le_of_ble_eq_true this
  | succ j =>
   have:=iV l (k+1) h.2 j o' (by grind) e he hb
   omega
def Oi{K:Type}(cl:K->K->Bool)(ops:Array Oper)(x:Oper)(kx:K)(y:Oper)(ky:K):Prop:=(∀ d,x.dst=some d->d ∉ tmpsOf ops y)/\(∀ d,y.dst=some d->d ∉ tmpsOf ops x)/\cl kx ky=false
theorem Gw{K:Type}{cl:K->K->Bool}{bs:List Nat}{xs:List (Nat×Option Nat×List Nat×K)}{j:Nat}{ky:K}{y:Oper}(h:D2 cl bs xs j y.dst (tmpsOf ops y) ky=true){i:Nat}{kx:K}{x:Oper}(hx:(i,x.dst,tmpsOf ops x,kx)∈xs) :
  ordered bs i j=true\/Oi cl ops x kx y ky:=by
 simp only[D2,List.all_eq_true]at h
 have:=h _ hx
 simp at this
 rcases this with h1 | ⟨⟨h1,h2⟩,h3⟩
 ·grind
 ·refine .inr ⟨λd hd hm => ?_,λd hd hm => ?_,h3⟩
  ·grind
  ·grind
theorem lG{K:Type}{cl:K->K->Bool}{bs:List Nat}:∀ (l:List Oper) (ks:List K) (k0:Nat) (xs:List (Nat×Option Nat×List Nat×K)),lh cl ops bs l ks k0 xs=true ->
  (∀ j y ky,l[j]? = some y->ks[j]? = some ky->(∀ i x kx,(i,x.dst,tmpsOf ops x,kx)∈xs->ordered bs i (k0+j)=true\/Oi cl ops x kx y ky) /\
   (∀ i x kx,i<j->l[i]? = some x->ks[i]? = some kx->ordered bs (k0+i) (k0+j)=true\/Oi cl ops x kx y ky))
 | [],_,_,_,_,j,y,ky,hy,_=>by simp at hy
 | o::l,[],_,_,h,_,_,_,_,_=>by simp[lh]at h
 | o::l,k::ks,k0,xs,h,j,y,ky,hy,hk=>by
  simp only[lh,Bool.and_eq_true]at h
  obtain⟨h1,h2⟩:=h
  have ih:=lG l ks (k0+1) _ h2
  cases j with
  | zero =>
   simp at hy hk
   subst hy hk
   exact⟨λi x kx hx=>by simpa using Gw h1 hx,λi x kx hi=>absurd hi (Nat.not_lt_zero i)⟩
  | succ j =>
   obtain⟨g1,g2⟩:=ih j y ky (by simpa using hy) (by simpa using hk)
   have e:k0+1+j=k0+(j+1):=by omega
   rw[e]at g1 g2
   refine⟨λi x kx hx=>g1 i x kx (List.mem_cons_of_mem _ hx),λi x kx hi hx hkx => ?_⟩
   cases i with
   | zero =>
    grind
   | succ i =>
    grind
def rest(ops:Array Oper)(listed:Array Bool):List Nat:=(List.range ops.size).filter λi => !listed.getD i true
def rD(ops:Array Oper)(listed:Array Bool):Prop:=∀ q,q<ops.size->listed.getD q true=true->∀ p,ordered (xc ops.toList []) p q=true->p<ops.size->listed.getD p true=true
theorem uD{listed:Array Bool}{i j:Nat}(hi:i<listed.size):(listed.setIfInBounds i true).getD j true=if j=i then true else listed.getD j true:=by
 simp
 grind
theorem gy{p q:Nat->Bool}{i:Nat}:∀ (l:List Nat),l.Pairwise (· < ·)->i∈l->p i=true->(∀ j,q j=(p j && !(j==i))) ->
  ∃ pre post,l.filter p=pre++i::post/\l.filter q=pre++post/\∀ x∈pre,p x=true/\x∈l/\x<i
 | [],_,hi,_,_=>by simp at hi
 | a::l,hn,hi,hp,hq=>by
  have hn':=List.pairwise_cons.1 hn
  by_cases ha:a=i
  ·subst ha
   refine⟨[],l.filter p,by grind,?_,by simp⟩
   have hqa:q a=false:=by rw[hq]; simp
   simp only[List.filter_cons,hqa]
   refine List.filter_congr λx hx => ?_
   rw[hq]
   have:(x==a)=false:=by simp; exact λe=>absurd (hn'.1 x hx) (by omega)
   simp[this]
  ·have VT:i∈l:=by rcases List.mem_cons.1 hi with h | h; exact absurd h.symm ha; exact h
   obtain⟨pre,post,h1,h2,h3⟩:=gy l hn'.2 VT hp hq
   grind
theorem iG{listed:Array Bool}{i:Nat}:i∈Region.ready .any ops listed↔i<ops.size/\listed.getD i true=false/\∀ o,ops[i]? = some o->∀ e∈o.after.toList,Region.binds .any e=true->listed.getD e.on false=true:=by
 unfold Region.ready
 simp only[List.mem_filter,List.mem_range,Bool.and_eq_true,Bool.not_eq_true']
 constructor
 ·rintro⟨h1,h2,h3⟩
  refine⟨h1,h2,λo ho e he hb => ?_⟩
  rw[ho]at h3
  simp only[Option.map_some,Option.getD_some,Array.all_eq_true_iff_forall_mem]at h3
  grind
 ·grind
theorem VE(Cq:yM ops.toList 0=true){listed:Array Bool}(uo:listed.size=ops.size):Region.ready .any ops listed=[]->rest ops listed=[]:=by
 intro hr
 cases SG:rest ops listed with
 | nil=>rfl
 | cons i l =>
  have hi:i∈rest ops listed:=by rw[SG]; exact List.mem_cons_self
  simp only[rest,List.mem_filter,List.mem_range,Bool.not_eq_true']at hi
  have z4j:∀ j,j<i->listed.getD j true=true:=by
   intro j hj
   cases hl:listed.getD j true with
   | true=>rfl
   | false =>
    have hpw:(rest ops listed).Pairwise (· < ·):=List.Pairwise.filter _ List.pairwise_lt_range
    have hjm:j∈rest ops listed:=by simp only[rest,List.mem_filter,List.mem_range,Bool.not_eq_true']; exact⟨by omega,hl⟩
    rw[SG]at hpw hjm
    rcases List.mem_cons.1 hjm with rfl | hjm
    ·grind
    ·have:=(List.pairwise_cons.1 hpw).1 j hjm; omega
  have:i∈Region.ready .any ops listed:=by
   rw[iG]
   refine⟨hi.1,hi.2,λo ho e he hb => ?_⟩
   have qs:=iV ops.toList 0 Cq i o (by grind) e he hb
   grind
  grind
def XS(Stp:Nat->F×St->F×St->Prop):List Nat->F×St->F×St->Prop
 | [],s,s'=>s'=s
 | i::l,s,s'=>∃ s1,Stp i s s1/\XS Stp l s1 s'
theorem Jt{Stp:Nat->F×St->F×St->Prop}{In:Nat->Nat->Prop}(H0:∀ p i,In p i->∀ s s1 s2,Stp p s s1->Stp i s1 s2->∃ s',Stp i s s'/\Stp p s' s2){i:Nat}{post:List Nat}{s':F×St}:∀ {pre:List Nat} {s:F×St},(∀ p∈pre,In p i)->XS Stp (pre++i::post) s s' ->
  ∃ s1,Stp i s s1/\XS Stp (pre++post) s1 s'
 | [],s,_,h=>h
 | p::pre,s,hp,⟨sp,h1,h2⟩=>by
  obtain⟨s1,h3,h4⟩:=Jt H0 (λq hq=>hp q (List.mem_cons_of_mem _ hq)) h2
  obtain⟨s2,h5,h6⟩:=H0 _ _ (hp p List.mem_cons_self) _ _ _ h1 h3
  exact⟨s2,h5,s1,h6,h4⟩
theorem ZO{Stp:Nat->F×St->F×St->Prop}{In:Nat->Nat->Prop}(O1:∀ i s s',Stp i s s'->∃ k,yg c n ops i s s' k)(H0:∀ p i,In p i->∀ s s1 s2,Stp p s s1->Stp i s1 s2->∃ s',Stp i s s'/\Stp p s' s2){Q:Exit->Act->World->Prop}(hC:∀ g,YB c.P g (c.fn g))(Cq:yM ops.toList 0=true)
  {sf:F×St}:∀ (fuel:Nat) (listed:Array Bool) {κ:KS} {a:Act} {s:F×St},(∀ p i,p<i->i<ops.size->listed.getD p true=false->ordered (xc ops.toList []) p i=true\/In p i) ->
  listed.size=ops.size->fuel=(rest ops listed).length->rD ops listed->Inv κ->Rel κ n s.1 a->κ.st=s.2->XS Stp (rest ops listed) s sf ->
  (∀ (a':Act) (κ':KS),κ'.st=sf.2->Inv κ'->Ext κ κ'->Rel κ' n sf.1 a'->cO ops a a'->Q .normal a' κ'.w)->wpAny c.P .any ops Q fuel listed a κ.w
 | fuel,listed,κ,a,s,jY,uo,hfuel,Xl,hI,hR,xE,vi,hQ=>by
  have z4q:=VE Cq (listed:=listed) uo
  have Ry:rest ops listed=[]->Q .normal a κ.w:=by
   intro h
   rw[h]at vi
   cases vi
   exact hQ a κ xE hI (Ext.refl κ) hR (cO.refl _ _)
  cases fuel with
  | zero =>
   have SG:rest ops listed=[]:=List.eq_nil_of_length_eq_zero hfuel.symm
   refine⟨?_,Ry SG⟩
   apply List.eq_nil_iff_forall_not_mem.2
   intro i hi
   rw[iG]at hi
   have:i∈rest ops listed:=by simp only[rest,List.mem_filter,List.mem_range,Bool.not_eq_true']; exact⟨hi.1,hi.2.1⟩
   grind
  | succ fuel =>
   refine⟨λh=>Ry (z4q h),λi hi => ?_⟩
   rw[iG]at hi
   obtain⟨h1,h2,h3⟩:=hi
   have ho:ops[i]? = some ops[i]:=Array.getElem?_eq_getElem h1
   obtain⟨pre,post,g1,g2,g3⟩:=gy (p:=λi => !listed.getD i true) (q:=λj => !(listed.setIfInBounds i true).getD j true) (i:=i) (List.range ops.size) List.pairwise_lt_range
    (List.mem_range.2 h1) (by simp[h2]) (λj=>by
     rw[uD (by omega)]
     by_cases h:j=i
     ·grind
     ·simp[h])
   have Pq:∀ p,ordered (xc ops.toList []) p i=true->p<ops.size->listed.getD p true=true:=by
    intro p hp qs
    obtain⟨r,_,_,hb⟩:=iF ops.toList []
    obtain⟨e,k1,k2,k3⟩:=hb i ops[i] (by simp) p (by simpa[ordered]using hp)
    have hle:=h3 _ ho e k1 k2
    have VU:=iV ops.toList 0 Cq i ops[i] (by simp) e k1 k2
    have Ul:listed.getD e.on true=true:=by
     grind
    rcases k3 with rfl | ⟨_,k3⟩
    ·exact Ul
    ·exact Xl e.on (by omega) Ul p k3 qs
   have Pl:∀ p∈pre,In p i:=by
    grind
   have Hh:XS Stp (pre++i::post) s sf:=by
    have:rest ops listed=pre++i::post:=g1
    grind
   obtain⟨s1,k1,k2⟩:=Jt H0 Pl Hh
   have mM:rest ops (listed.setIfInBounds i true)=pre++post:=g2
   obtain⟨kk,k1⟩:=O1 _ _ _ k1
   refine XD hC hI hR xE k1 λa1 κ1 e1 e2 e3 e4 e5 => ?_
   refine ZO O1 H0 hC Cq fuel (listed.setIfInBounds i true) (λp j hpj hj hp=>jY p j hpj hj (by
    rw[uD (by omega)]at hp
    split at hp
    ·cases hp
    ·exact hp)) (by simp[uo]) ?_ ?_ e2 e4 e1 (by rw[mM]; exact k2) λa' κ' d1 d2 d3 d4 d5=>hQ a' κ' d1 d2 (e3.trans d3) d4 (e5.trans d5)
   ·have:rest ops listed=pre++i::post:=g1
    rw[this]at hfuel
    rw[mM]
    simp only[List.length_append,List.length_cons]at hfuel ⊢
    omega
   ·intro q hq Lw p hp qs
    rw[uD (by omega)]at Lw ⊢
    split
    ·rfl
    ·split at Lw
     ·rename_i e; subst e; exact Pq p hp qs
     ·exact Xl q hq Lw p hp qs
theorem Gz{kd:Nat->Nat}:∀ (l:List Nat) (s s':F×St),lO c n ops kd l s s'->XS (λi s s'=>yg c n ops i s s' (kd i)) l s s'
 | [],_,_,h=>h
 | i::l,s,s',⟨s1,h1,h2⟩=>⟨s1,h1,Gz l s1 s' h2⟩
theorem Wj{kd:Nat->Nat}{Q:Exit->Act->World->Prop}(hC:∀ g,YB c.P g (c.fn g))(Cq:yM ops.toList 0=true)
  {sf:F×St}:∀ (fuel:Nat) (listed:Array Bool) {κ:KS} {a:Act} {s:F×St},(∀ p i,p<i->i<ops.size->listed.getD p true=false->ordered (xc ops.toList []) p i=true\/Ind ops kd p i) ->
  listed.size=ops.size->fuel=(rest ops listed).length->rD ops listed->Inv κ->Rel κ n s.1 a->κ.st=s.2->lO c n ops kd (rest ops listed) s sf ->
  (∀ (a':Act) (κ':KS),κ'.st=sf.2->Inv κ'->Ext κ κ'->Rel κ' n sf.1 a'->cO ops a a'->Q .normal a' κ'.w)->wpAny c.P .any ops Q fuel listed a κ.w
 | fuel,listed,κ,a,s,jY,uo,hfuel,Xl,hI,hR,xE,vi,hQ =>
  ZO (Stp:=λi s s'=>yg c n ops i s s' (kd i)) (In:=λp i=>Ind ops kd p i) (λi s s' h=>⟨_,h⟩) (λp i hi s s1 s2 h1 h2=>Jm hi h1 h2) hC Cq fuel listed jY uo hfuel Xl hI hR xE (Gz _ _ _ vi) hQ
end
end Go.AM
namespace Go.AM
set_option linter.unusedSectionVars false
variable [vz] [VW]
open Go.RowKit
structure Up(κ κ':KS):Prop where
 same:Df κ.w κ'.w κ.ok κ'.ok
 var:∀ (b:Nat) (d:D),κ.st[b]? = some (.var d)->(∃ d',κ'.st[b]? = some (.var d'))/\κ'.ph[b]? = κ.ph[b]?
 old:∀ (b qw:Nat),Old κ.st b qw->Old κ'.st b qw
 row:∀ (b v:Nat) (e:Ty) (xs:List (den e)),Old κ.st b v->κ'.st[b]? = some (.arr v e xs)->κ.st[b]? = some (.arr v e xs)/\κ'.ph[b]? = κ.ph[b]?
theorem RD.up{κ κ':KS}(x:Up κ κ'){d:D}{v:Value}(h:RD κ d v):RD κ' d v:=by
 induction h with
 | zD τ y cs h=>exact .zD τ y cs (h.mono x.same)
 | xd e a=>exact .xd e a
 | tight e l ne blk off f vy w7 h hc=>exact .tight e l ne blk off f vy (x.same _ w7).1 (λi hi=>(h i hi).mono x.same) λi hi j v hv=>by rw[gN (x.same _ w7).2]; exact hc i hi j v hv
 | xo=>exact .xo
 | kG=>exact .kG
 | qP=>exact .qP
 | vC=>exact .vC
 | vB=>exact .vB
 | pK v h=>exact .pK v h
 | bj T=>exact .bj T
 | bC b T d hd =>
  obtain⟨⟨d',ke⟩,hp⟩:=x.var b d hd
  exact .bC b T d' ke
 | bE b T blk n d hd h =>
  obtain⟨⟨d',ke⟩,hp⟩:=x.var b d hd
  exact .bE b T blk n d' ke (hp.trans h)
 | ptr b off blk n d hd h =>
  obtain⟨⟨d',ke⟩,hp⟩:=x.var b d hd
  exact .ptr b off blk n d' ke (hp.trans h)
 | qN τ y cs blk off w7 h hc=>exact .qN τ y cs blk off (x.same _ w7).1 (h.mono x.same) λj v hv=>by rw[gN (x.same _ w7).2]; exact hc j v hv
 | vU b qw e idx off blk o hb h =>
  refine .vU b qw e idx off blk o (x.old b qw hb) λxs hx hi => ?_
  obtain⟨h1,h2⟩:=x.row b qw e xs hb hx
  grind
 | ms b qw e off len cap a hb wM ha mW h =>
  refine .ms b qw e off len cap a (x.old b qw hb) wM ha mW λxs hx => ?_
  obtain⟨h1,h2⟩:=x.row b qw e xs hb hx
  have:=h xs h1
  unfold DO at this ⊢
  grind
 | qS f l vs hl h ih=>exact .qS f l vs hl ih
 | agg l vs hl ho h ih=>exact .agg l vs hl ho ih
 | kY l vs hl h ih=>exact .kY l vs hl ih
 | iface t d v h ih=>exact .iface t d v ih
structure Nob(κ:KS)(blk:Nat):Prop where
 lt:blk<κ.w.heap.size
 ok:¬ κ.ok blk
 ph:∀ (b n:Nat),κ.ph[b]? ≠ some (some (blk,n))
theorem Nob.ext{κ κ':KS}(x:Ext κ κ'){blk:Nat}(h:Nob κ blk):Nob κ' blk/\κ'.w.heap[blk]? = κ.w.heap[blk]? := by
 refine⟨⟨Nat.lt_of_lt_of_le h.lt x.size,λhk => ?_,λb n hb => ?_⟩,x.frame blk h.lt h.ph⟩
 ·rcases x.fresh blk hk with h1 | h1 | ⟨b,n,h1⟩
  ·exact h.ok h1
  ·have:=h.lt; omega
  ·exact h.ph b n h1
 ·rcases x.RI b blk n hb with h1 | h1
  ·exact h.ph b n h1
  ·have:=h.lt; omega
def KS.push(κ:KS)(blk n:Nat)(d:D):KS:={ κ with ph:=κ.ph++[some (blk,n)],st:=κ.st++[.var d] }
theorem fA{α:Type}{l:List α}{x y:α}{b:Nat}(h:l[b]? = some y):(l++[x])[b]? = some y:=by grind
theorem nV{α:Type}{l:List α}{x y:α}{b:Nat}(h:(l++[x])[b]? = some y):l[b]? = some y\/(b=l.length/\y=x):=by grind
theorem FV{κ:KS}(hI:Inv κ)(blk n:Nat)(d:D):Up κ (κ.push blk n d):=by
 have Jd:∀ {b:Nat} {y:jW},κ.st[b]? = some y->(κ.ph++[some (blk,n)])[b]? = κ.ph[b]? := λh=>by
  rw[List.getElem?_append_left]; rw[hI.len]; exact(List.getElem?_eq_some_iff.1 h).1
 refine⟨λk hk=>⟨hk,rfl⟩,λb d' h=>⟨⟨d',fA h⟩,Jd h⟩,λb qw h => ?_,λb v e xs ho h => ?_⟩
 ·rcases h with h | ⟨v0,e0,rB,h,hv⟩
  ·exact .inl (fA h)
  ·exact .inr ⟨v0,e0,rB,fA h,hv⟩
 ·rcases nV h with h1 | ⟨_,h1⟩
  ·exact⟨h1,Jd h1⟩
  ·cases h1
theorem Th{κ0 κ:KS}{blk:Nat}{d:D}{z:Value}{t:TypeId}(hI:Inv κ)(hx:Ext κ0 κ)(hb:Nob κ blk)(h0:κ0.w.heap.size<=blk)(hz:RD κ d z)(ht:d.uj=false)(F2:∀ T,d.typed=some T->t=T)(hh:κ.w.heap[blk]? = some (.cells z.cells t (0,0))) :
  Inv (κ.push blk z.cells.size d)/\Ext κ0 (κ.push blk z.cells.size d)/\RD (κ.push blk z.cells.size d) (.ptr κ.st.length 0) (.pointer (some ⟨blk,0,none⟩)):=by
 have hu:=FV hI blk z.cells.size d
 have xE:(κ.push blk z.cells.size d).st[κ.st.length]? = some (.var d):=by simp[KS.push]
 have Jd:(κ.push blk z.cells.size d).ph[κ.st.length]? = some (some (blk,z.cells.size)):=by simp[KS.push,<- hI.len]
 have Nv:∀ {b k m:Nat},(κ.push blk z.cells.size d).ph[b]? = some (some (k,m))->κ.ph[b]? = some (some (k,m))\/(b=κ.ph.length/\k=blk):=by
  intro b k m h
  rcases nV h with h1 | ⟨h1,h2⟩
  ·grind
  ·grind
 refine⟨⟨by simp[KS.push,hI.len],hI.y4,λb k m h => ?_,λb b' k m m' h h' => ?_,λb y h => ?_,hI.gl⟩,?_,.ptr _ 0 blk _ d xE Jd⟩
 ·rcases Nv h with h1 | ⟨_,rfl⟩
  ·exact hI.apart b k m h1
  ·exact⟨hb.lt,hb.ok⟩
 ·rcases Nv h with h1 | ⟨h1,rfl⟩
  ·rcases Nv h' with h2 | ⟨h2,rfl⟩
   ·exact hI.inj b b' k m m' h1 h2
   ·exact(hb.ph b m h1).elim
  ·rcases Nv h' with h2 | ⟨h2,_⟩
   ·exact(hb.ph b' m' h2).elim
   ·omega
 ·rcases nV h with h1 | ⟨h1,h2⟩
  ·have hp:(κ.push blk z.cells.size d).ph[b]? = κ.ph[b]? := by
    show(κ.ph++[_])[b]? = _
    grind
   have hy:=hI.blk b y h1
   cases y with
   | dead=>trivial
   | var d' =>
    obtain⟨k,m,cs,T,g1,g2,g3,g4,g5⟩:=hy
    exact⟨k,m,cs,T,hp.trans g1,g2,g3,⟨g4.1,λi h1 h2=>(g4.2 i h1 h2).up hu⟩,g5⟩
   | arr qw e xs =>
    obtain⟨g0,g⟩:=hy
    refine⟨g0,da g (λh=>⟨h.1,hp.trans h.2⟩) ?_⟩
    rintro⟨k,m,cs,T,g1,g2⟩
    exact⟨k,m,cs,T,hp.trans g1,g2⟩
  ·subst h1
   subst h2
   have hf:=uN hz ht
   exact⟨blk,z.cells.size,z.cells,t,Jd,hh,rfl,⟨hf.1,λi h1 h2=>(hf.2 i h1 h2).up hu⟩,uL hz,F2⟩
 ·refine⟨hx.os,hx.tape,hx.output,hx.size,hx.same,hx.fresh,λb k m h => ?_,λb d' h => ?_,λb v0 e xs h => ?_,λb h=>fA (hx.dead b h),Nat.le_trans hx.G9 (by simp[KS.push]),hx.frame⟩
  ·rcases Nv h with h1 | ⟨_,rfl⟩
   ·exact hx.RI b k m h1
   ·exact .inr h0
  ·obtain⟨⟨d1,h1⟩,h2⟩:=hx.var b d' h
   obtain⟨h3,h4⟩:=hu.var b d1 h1
   exact⟨h3,h4.trans h2⟩
  ·rcases hx.arr b v0 e xs h with h1 | ⟨v1,gz,h1,h2,h3⟩
   ·exact .inl (fA h1)
   ·refine .inr ⟨v1,gz,fA h1,h2,λhe=>⟨?_,(h3 he).2⟩⟩
    have hp:(κ.push blk z.cells.size d).ph[b]? = κ.ph[b]? := by
     show(κ.ph++[_])[b]? = _
     rw[List.getElem?_append_left]; rw[hI.len]; exact(List.getElem?_eq_some_iff.1 h1).1
    exact hp.trans (h3 he).1
theorem TO{κ:KS}(hI:Inv κ)(o:Obj):Inv { κ with w:=κ.w.alloc o }/\Ext κ { κ with w:=κ.w.alloc o }/\Nob { κ with w:=κ.w.alloc o } κ.w.heap.size/\(κ.w.alloc o).heap[κ.w.heap.size]? = some o:=by
 have hs:(κ.w.alloc o).heap.size=κ.w.heap.size+1:=by simp
 have hold:∀ k,k<κ.w.heap.size->(κ.w.alloc o).heap[k]? = κ.w.heap[k]? := λk hk=>by
  show(κ.w.heap.push o)[k]? = _
  grind
 have hx:Ext κ { κ with w:=κ.w.alloc o }:=⟨rfl,rfl,rfl,by simp,λk hk=>⟨hk,hold k (hI.y4 k hk)⟩,λk hk=>.inl hk,λ_ _ _ h=>.inl h,λb d h=>⟨⟨d,h⟩,rfl⟩,
  λb v0 e xs h=>.inr ⟨v0,xs,h,Nat.le_refl _,λ_=>⟨rfl,rfl⟩⟩,λ_ h=>h,Nat.le_refl _,λk hk _=>hold k hk⟩
 refine⟨⟨hI.len,λk hk => ?_,λb blk n h => ?_,hI.inj,λb y hy=>(hI.blk b y hy).mono hx rfl λblk n h=>hold _ (hI.apart b blk n h).1,hI.gl.mono hx.same⟩,hx,⟨?_,λhk => ?_,λb n h => ?_⟩,?_⟩
 ·have:=hI.y4 k hk; show k<(κ.w.alloc o).heap.size; omega
 ·have:=hI.apart b blk n h; exact⟨by grind,this.2⟩
 ·simp
 ·have:=hI.y4 _ hk; omega
 ·have:=(hI.apart b _ n h).1; omega
 ·show(κ.w.heap.push o)[κ.w.heap.size]? = some o
  simp
section
variable {c:Ctx} {n:Nat} {ops:Array Oper}
structure Em where
 i:Nat
 d:Nat
 blk:Nat
 t:TypeId
 z:Value
 D:D
structure DF(c:Ctx)(ops:Array Oper)(κ0 κ:KS)(a:Act)(e:Em):Prop where
 op:∃ o,ops[e.i]? = some o/\o.op=.alloc e.t/\o.guard=none/\o.dst=some e.d
 zero:Qj c e.t=some e.D
 z:∃ i,c.P.info? e.t=some i/\i.zero=some e.z/\ZD e.t e.D e.z
 val:a.tmps[e.d]? = some (.pointer (some ⟨e.blk,0,none⟩))
 heap:κ.w.heap[e.blk]? = some (.cells e.z.cells e.t (0,0))
 nob:Nob κ e.blk
 new:κ0.w.heap.size<=e.blk
theorem DF.mono{κ0 κ κ':KS}{a a':Act}{e:Em}(h:DF c ops κ0 κ a e)(x:Ext κ κ')(ha:a'.tmps[e.d]? = a.tmps[e.d]?):DF c ops κ0 κ' a' e:=by
 obtain⟨h1,h2⟩:=h.nob.ext x
 exact⟨h.op,h.zero,h.z,ha.trans h.val,h2.trans h.heap,h1,h.new⟩
def ka(es:List Em)(f:F):F:=λs=>if es.any (λe=>Nat.beq e.d s)then none else f s
theorem Z6{es:List Em}{f:F}{s:Nat}(h:∀ e∈es,e.d≠s):ka es f s=f s:=by
 unfold ka
 rw[if_neg]
 intro hh
 obtain⟨e,he,hb⟩:=List.any_eq_true.1 hh
 exact h e he (Nat.eq_of_beq_eq_true hb)
theorem Jn{es:List Em}{f:F}{s:Nat}{d:D}(h:ka es f s=some d):f s=some d/\∀ e∈es,e.d≠s:=by
 unfold ka at h
 split at h
 ·cases h
 ·rename_i hh
  refine⟨h,λe he hs=>hh (List.any_eq_true.2 ⟨e,he,?_⟩)⟩
  subst hs; simp
def dt(ops:Array Oper)(i:Nat):Prop:=∃ o,ops[i]? = some o/\QP o=true
theorem Ld{o:Oper}(h:QP o=true):∃ t d,o.op=.alloc t/\o.guard=none/\o.dst=some d:=by
 unfold QP at h
 simp only[Bool.and_eq_true]at h
 obtain⟨⟨h1,h2⟩,h3⟩:=h
 split at h1
 ·rename_i t ht
  obtain⟨d,hd⟩:=Option.isSome_iff_exists.1 h3
  exact⟨t,d,ht,Option.isNone_iff_eq_none.1 h2,hd⟩
 ·cases h1
theorem Yu{o:Oper}{t d:Nat}(h1:o.op=.alloc t)(h2:o.guard=none)(h3:o.dst=some d):QP o=true:=by
 unfold QP; rw[h1,h2,h3]; rfl
theorem GX{kd:Nat->Nat}:∀ {l:List Nat} {s sf:F×St} {i:Nat},lO c n ops kd l s sf->i∈l->∃ s1 s2,yg c n ops i s1 s2 (kd i)
 | [],_,_,_,_,h=>by cases h
 | j::l,s,sf,i,⟨s1,h1,h2⟩,h=>by
  rcases List.mem_cons.1 h with rfl | h
  ·grind
  ·exact GX h2 h
theorem W2{kd:Nat->Nat}{i t d:Nat}{o:Oper}(ho:ops[i]? = some o)(h1:o.op=.alloc t)(h2:o.guard=none)(h3:o.dst=some d){s s':F×St}(h:yg c n ops i s s' (kd i)) :
  ∃ D,Qj c t=some D/\d<n/\s'=(jP s.1 (some d) (some (.ptr s.2.length 0)),s.2++[.var D]):=by
 obtain⟨o',NV,hd,h⟩:=h
 rw[ho]at NV
 cases NV
 rw[h3]at hd
 have qs:d<n:=Nat.le_of_ble_eq_true hd
 have hw:xT ops s.1 o=some true:=by unfold xT; rw[h2]
 rcases h with⟨_,_,D,zq,hl,rfl⟩ | ⟨hw',_,_⟩
 ·have he:qC c (qh s.1) o=iP c t:=by
   obtain⟨dst,op,ty,pos,after,guard⟩:=o
   cases h1
   rfl
  rw[he]at hl
  unfold iP at hl
  split at hl
  ·rename_i y hy
   simp only[zB,T.leads]at hl
   grind
  ·exact absurd hl ze
 ·grind
theorem BZ{es:List Em}{i k:Nat}{s s':F×St}(h:yg c n ops i s s' k)(hd:∀ o,ops[i]? = some o->∀ e∈es,e.d ∉ tmpsOf ops o) :
  yg c n ops i (ka es s.1,s.2) (ka es s'.1,s'.2) k:=by
 obtain⟨o,ho,Sy,h⟩:=h
 have ya:=hd o ho
 have z5I:∀ x:Option D,jP (ka es s.1) o.dst x=ka es (jP s.1 o.dst x):=by
  intro x
  cases hds:o.dst with
  | none=>rfl
  | some t =>
   funext u
   simp only[jP,ka]
   by_cases hu:u=t
   ·subst hu
    rw[if_pos rfl]
    rw[if_neg,if_pos rfl]
    intro hh
    obtain⟨e,he,hb⟩:=List.any_eq_true.1 hh
    exact ya e he (by rw[Nat.eq_of_beq_eq_true hb]; exact jM hds)
   ·grind
 have dL:∀ x∈o.op.operands,qh (ka es s.1) x=qh s.1 x:=by
  intro x hx
  cases x with
  | tmp t=>exact Z6 λe he ht=>ya e he (ht▸nT hx)
  | _=>rfl
 have hw:xT ops (ka es s.1) o=xT ops s.1 o:=by
  unfold xT
  cases hg:o.guard with
  | none=>rfl
  | some jw =>
   obtain⟨j,w⟩:=jw
   simp only
   cases hs:ub ops j with
   | none=>rfl
   | some t =>
    simp only
    rw[Z6 λe he ht=>ya e he (ht▸mD hg hs)]
 refine⟨o,ho,Sy,?_⟩
 rcases h with⟨h1,h2,d,zq,h3,rfl⟩ | ⟨h1,h2,rfl⟩
 ·refine .inl ⟨hw.trans h1,?_,d,zq,?_,?_⟩
  ·rw[show qC c (qh (ka es s.1)) o=qC c (qh s.1) o from rG o dL]; exact h2
  ·rw[show qC c (qh (ka es s.1)) o=qC c (qh s.1) o from rG o dL]; exact h3
  ·rw[z5I]
 ·grind
theorem La{κ:KS}{a:Act}{i k:Nat}{s s':F×St}(hC:∀ g,YB c.P g (c.fn g))(hI:Inv κ)(hR:Rel κ n s.1 a)(xE:κ.st=s.2)(h:yg c n ops i s s' k){K:Act->World->Prop}{Q:Exit->Act->World->Prop}
  (hK:∀ (a':Act) (κ':KS),κ'.st=s'.2->Inv κ'->Ext κ κ'->Rel κ' n s'.1 a'->cO ops a a'->(∀ u:Nat,(∀ o,ops[i]? = some o->o.dst≠some u)->a'.tmps[u]? = a.tmps[u]?)->K a' κ'.w):wpOp c.P ops Q i K a κ.w:=by
 obtain⟨o,ho,hd,h⟩:=h
 have hu:∀ (v:Value) (u:Nat),(∀ o,ops[i]? = some o->o.dst≠some u)->(a.put o.dst v).tmps[u]? = a.tmps[u]? := by
  intro v u hn
  have:=hn o ho
  cases hds:o.dst with
  | none=>rfl
  | some t =>
   rw[hds]at this
   have vy:t≠u:=λe=>this (by rw[e])
   simp[Act.put,Array.getElem?_setIfInBounds_ne vy]
 unfold wpOp
 rw[ho]
 simp only
 rcases h with⟨hw,_,d,zq,hl,rfl⟩ | ⟨hw,_,rfl⟩
 ·rw[if_pos (fp hR hw)]
  refine .inl (Ht hC hI hR (xE▸hl) λv κ' h1 h2 h3 h4=>hK _ κ' h1 h2 h3 ((hR.mono h3).put hd h4) (mr ho) (hu v))
 ·rw[if_neg (by rw[fp hR hw]; exact Bool.false_ne_true)]
  exact hK _ κ xE hI (Ext.refl κ) (hR.put hd λd' ke=>by cases ke; exact O3 (v:=undef)) (mr ho) (hu undef)
def kd3(kd:Nat->Nat)(o:Oper)(i:Nat):Nat:=bif QP o then 3 else kd i
def T3(ops:Array Oper)(kd:Nat->Nat)(p i:Nat):Prop:=∀ x y,ops[p]? = some x->ops[i]? = some y ->
 (∀ d,x.dst=some d->d ∉ tmpsOf ops y)/\(∀ d,y.dst=some d->d ∉ tmpsOf ops x)/\ng (kd3 kd x p) (kd3 kd y i)=false
theorem NM{k l:Nat}(hk:k<=2)(hl:l<=2)(h:ng k l=false):vW k l=false:=by
 have h1:Nat.beq k 3=false:=iR (by omega)
 have h2:Nat.beq l 3=false:=iR (by omega)
 simpa[ng,h1,h2]using h
theorem z0d{k l:Nat}(hl:l<=2)(h:ng 3 l=false):vW k l=false:=by
 have h2:Nat.beq l 3=false:=iR (by omega)
 have h3:vW 2 l=false:=by simpa[ng,h2]using h
 have h0:l=0:=by
  match l,hl,h3 with
  | 0,_,_=>rfl
  | 1,_,h3=>cases h3
  | 2,_,h3=>cases h3
 subst h0
 simp[vW]
theorem Tm{k l:Nat}(hk:k<=2)(h:ng k 3=false):vW k l=false:=by
 have h2:Nat.beq k 3=false:=iR (by omega)
 have h3:vW k 2=false:=by simpa[ng,h2]using h
 have h0:k=0:=by
  match k,hk,h3 with
  | 0,_,_=>rfl
  | 1,_,h3=>cases h3
  | 2,_,h3=>cases h3
 subst h0
 simp[vW]
theorem KM{kd:Nat->Nat}{p i:Nat}(h:T3 ops kd p i)(hp:kd p<=2)(hi:kd i<=2)(hn:¬ (dt ops p/\dt ops i)):Ind ops kd p i:=by
 intro x y hx hy
 obtain⟨h1,h2,h3⟩:=h x y hx hy
 refine⟨h1,h2,?_⟩
 unfold kd3 at h3
 cases hax:QP x with
 | true =>
  cases hay:QP y with
  | true=>exact(hn ⟨⟨x,hx,hax⟩,y,hy,hay⟩).elim
  | false=>rw[hax,hay]at h3; exact z0d hi h3
 | false =>
  cases hay:QP y with
  | true=>rw[hax,hay]at h3; exact Tm hp h3
  | false=>rw[hax,hay]at h3; exact NM hp hi h3
theorem least{es:List Em}(h:es≠[]):∃ e∈es,∀ f∈es,e.i<=f.i:=by
 induction es with
 | nil=>grind
 | cons e r ih =>
  by_cases hr:r=[]
  ·subst hr; exact⟨e,List.mem_cons_self,λf hf=>by grind⟩
  ·grind
def S2(e f:Em):Prop:=e.i≠f.i/\e.blk≠f.blk/\e.d≠f.d
theorem S2.symm{e f:Em}(h:S2 e f):S2 f e:=⟨h.1.symm,h.2.1.symm,h.2.2.symm⟩
theorem flush{kd:Nat->Nat}{κ0:KS}(jY:∀ p i,p<i->i<ops.size->ordered (xc ops.toList []) p i=true\/T3 ops kd p i)(bF:∀ i,i<ops.size->kd i<=2)
  {listed:Array Bool} (Xl:rD ops listed) (oX:∀ q,q<ops.size->dt ops q->listed.getD q true=true) {a:Act} {sf:F×St} :
  ∀ (m:Nat) (es:List Em) (qq:Array Bool) (κ:KS) (s:F×St),es.length=m->qq.size=ops.size->(∀ j,j<ops.size->qq.getD j true=true->listed.getD j true=true) ->
  (∀ j,j<ops.size->listed.getD j true=true->qq.getD j true=false->∃ e∈es,e.i=j)->(∀ e∈es,e.i<ops.size/\listed.getD e.i true=true/\qq.getD e.i true=false)->es.Pairwise S2 ->
  Inv κ->Rel κ n (ka es s.1) a->κ.st=s.2->Ext κ0 κ->(∀ e∈es,DF c ops κ0 κ a e)->lO c n ops kd (rest ops qq) s sf ->
  ∃ (κ':KS) (s':F×St),κ'.w=κ.w/\κ'.st=s'.2/\Inv κ'/\Ext κ0 κ'/\Rel κ' n s'.1 a/\lO c n ops kd (rest ops listed) s' sf:=by
 intro m
 induction m with
 | zero =>
  intro es qq κ s hl _ h1 h2 _ _ hI hR xE hx _ vi
  obtain rfl:es=[]:=List.eq_nil_of_length_eq_zero hl
  refine⟨κ,s,rfl,xE,hI,hx,hR,?_⟩
  have:rest ops qq=rest ops listed:=by
   unfold rest
   refine List.filter_congr λi hi => ?_
   grind
  grind
 | succ m ih =>
  intro es qq κ s hl uo h1 h2 h3 Cs hI hR xE hx RH vi
  obtain⟨e,he,z4j⟩:=least (es:=es) (λh=>by rw[h]at hl; cases hl)
  obtain⟨l1,l2,rfl⟩:=List.append_of_mem he
  obtain⟨hei,hel,hea⟩:=h3 e he
  have sU:∀ f,f∈l1++l2->f∈l1++e::l2:=λf hf=>by
   grind
  have z2u:∀ f,f∈l1++e::l2->f=e\/f∈l1++l2:=λf hf=>by
   rcases List.mem_append.1 hf with hf | hf
   ·exact .inr (List.mem_append_left _ hf)
   ·rcases List.mem_cons.1 hf with rfl | hf
    ·exact .inl rfl
    ·exact .inr (List.mem_append_right _ hf)
  have RW:∀ f∈l1++l2,S2 e f:=by
   intro f hf
   rw[List.pairwise_append]at Cs
   obtain⟨_,d2,d3⟩:=Cs
   rcases List.mem_append.1 hf with hf | hf
   ·exact(d3 f hf e List.mem_cons_self).symm
   ·exact(List.pairwise_cons.1 d2).1 f hf
  have F5:(l1++l2).Pairwise S2:=Cs.sublist (List.Sublist.append_left (List.sublist_cons_self e l2) l1)
  obtain⟨pre,post,g1,g2,g3⟩:=gy (p:=λi => !qq.getD i true) (q:=λj => !(qq.setIfInBounds e.i true).getD j true) (i:=e.i) (List.range ops.size) List.pairwise_lt_range
   (List.mem_range.2 hei) (by simp[hea]) (λj=>by
    rw[uD (by omega)]
    by_cases h:j=e.i
    ·subst h; simp
    ·simp[h])
  have Pl:∀ p∈pre,Ind ops kd p e.i:=by
   intro p hp
   obtain⟨q1,q2,q3⟩:=g3 p hp
   have q2:=List.mem_range.1 q2
   have hpa:qq.getD p true=false:=by simpa using q1
   have Qa:listed.getD p true=false:=by
    cases hb:listed.getD p true with
    | false=>rfl
    | true =>
     obtain⟨f,hf,YN⟩:=h2 p q2 hb hpa
     have:=z4j f hf
     omega
   have hna:¬ dt ops p:=λh=>by rw[oX p q2 h]at Qa; cases Qa
   rcases jY p e.i q3 hei with h | h
   ·have:=Xl e.i hei hel p h q2
    rw[this]at Qa; cases Qa
   ·exact KM h (bF p q2) (bF e.i hei) λhh=>hna hh.1
  have Hh:lO c n ops kd (pre++e.i::post) s sf:=by
   have:rest ops qq=pre++e.i::post:=g1
   rw[<- this]; exact vi
  obtain⟨s1,k1,k2⟩:=VO Pl Hh
  have hE:=RH e he
  obtain⟨o,o1,o2,o3,o4⟩:=hE.op
  obtain⟨D,d1,d2,rfl⟩:=W2 o1 o2 o3 o4 k1
  obtain rfl:D=e.D:=Option.some.inj (d1.symm.trans hE.zero)
  obtain⟨iz,z1,z2,z3⟩:=hE.z
  obtain⟨p1,p2,p3⟩:=Th hI hx hE.nob hE.new (z3.rd κ) z3.kY z3.ty hE.heap
  have hup:=FV hI e.blk e.z.cells.size e.D
  refine ih (l1++l2) (qq.setIfInBounds e.i true) (κ.push e.blk e.z.cells.size e.D) (jP s.1 (some e.d) (some (.ptr s.2.length 0)),s.2++[.var e.D]) (by simp at hl ⊢; omega) (by simp[uo]) (λj hj ha => ?_) (λj hj hb ha => ?_) (λf hf => ?_) F5 p1 ?_ (by show κ.st++_=s.2++_; rw[xE]) p2 (λf hf => ?_) ?_
  ·rw[uD (by omega)]at ha
   split at ha
   ·rename_i h; subst h; exact hel
   ·exact h1 j hj ha
  ·rw[uD (by omega)]at ha
   split at ha
   ·cases ha
   ·rename_i vy
    obtain⟨f,hf,YN⟩:=h2 j hj hb ha
    rcases z2u f hf with rfl | hf
    ·exact absurd YN.symm vy
    ·exact⟨f,hf,YN⟩
  ·obtain⟨f1,f2,f3⟩:=h3 f (sU f hf)
   refine⟨f1,f2,?_⟩
   rw[uD (by omega),if_neg (RW f hf).1.symm]
   exact f3
  ·refine⟨hR.size,hR.defers,λu d0 hu => ?_⟩
   obtain⟨u1,u2⟩:=Jn hu
   simp only[jP]at u1
   by_cases hue:u=e.d
   ·subst hue
    rw[if_pos rfl]at u1
    cases u1
    rw[<- xE]
    exact⟨_,hE.val,p3⟩
   ·rw[if_neg hue]at u1
    have:ka (l1++e::l2) s.1 u=some d0:=by
     rw[Z6 λf hf hfu => ?_]
     ·exact u1
     ·rcases z2u f hf with rfl | hf
      ·exact hue hfu.symm
      ·exact u2 f hf hfu
    obtain⟨v,v1,v2⟩:=hR.get u d0 this
    exact⟨v,v1,v2.up hup⟩
  ·have hF:=RH f (sU f hf)
   refine⟨hF.op,hF.zero,hF.z,hF.val,hF.heap,⟨hF.nob.lt,hF.nob.ok,λb m hb => ?_⟩,hF.new⟩
   rcases nV hb with hb | ⟨_,hb⟩
   ·exact hF.nob.ph b m hb
   ·exact(RW f hf).2.1 (congrArg Prod.fst (Option.some.inj hb)).symm
  ·have:rest ops (qq.setIfInBounds e.i true)=pre++post:=g2
   rw[this]; exact k2
theorem Pb{listed:Array Bool}{i:Nat}(uo:listed.size=ops.size)(h1:i<ops.size)(h2:listed.getD i true=false):(rest ops listed).length=(rest ops (listed.setIfInBounds i true)).length+1:=by
 obtain⟨pre,post,g1,g2,_⟩:=gy (p:=λi => !listed.getD i true) (q:=λj => !(listed.setIfInBounds i true).getD j true) (i:=i) (List.range ops.size) List.pairwise_lt_range
  (List.mem_range.2 h1) (by grind) (λj=>by
   rw[uD (by omega)]
   by_cases h:j=i
   ·grind
   ·simp[h])
 have e1:rest ops listed=pre++i::post:=g1
 have e2:rest ops (listed.setIfInBounds i true)=pre++post:=g2
 grind
theorem DB{listed:Array Bool}{i:Nat}(Cq:yM ops.toList 0=true)(uo:listed.size=ops.size)(Xl:rD ops listed)(h1:i<ops.size)
  (h3:∀ o,ops[i]? = some o->∀ e∈o.after.toList,Region.binds .any e=true->listed.getD e.on false=true) :
  (∀ p,ordered (xc ops.toList []) p i=true->p<ops.size->listed.getD p true=true)/\rD ops (listed.setIfInBounds i true):=by
 have Pq:∀ p,ordered (xc ops.toList []) p i=true->p<ops.size->listed.getD p true=true:=by
  intro p hp qs
  obtain⟨r,_,_,hb⟩:=iF ops.toList []
  obtain⟨e,k1,k2,k3⟩:=hb i ops[i] (by simp) p (by simpa[ordered]using hp)
  have VU:=iV ops.toList 0 Cq i ops[i] (by simp) e k1 k2
  have Ul:listed.getD e.on true=true:=by
   grind
  rcases k3 with rfl | ⟨_,k3⟩
  ·exact Ul
  ·exact Xl e.on (by omega) Ul p k3 qs
 refine⟨Pq,λq hq Lw p hp qs => ?_⟩
 rw[uD (by omega)]at Lw ⊢
 split
 ·rfl
 ·split at Lw
  ·grind
  ·exact Xl q hq Lw p hp qs
theorem Yr{κ:KS}{a:Act}{es:List Em}{f:F}{e:Em}{v:Value}(hR:Rel κ n (ka es f) a):Rel κ n (ka (e::es) f) (a.put (some e.d) v):=by
 refine⟨by simp[Act.put,hR.size],hR.defers,λu d hu => ?_⟩
 obtain⟨u1,u2⟩:=Jn hu
 have vy:e.d≠u:=u2 e List.mem_cons_self
 have:ka es f u=some d:=by rw[Z6 λg hg=>u2 g (List.mem_cons_of_mem _ hg)]; exact u1
 obtain⟨w,w1,w2⟩:=hR.get u d this
 exact⟨w,by simp[Act.put,Array.getElem?_setIfInBounds_ne vy]; exact w1,w2⟩
theorem ru{kd:Nat->Nat}{Q:Exit->Act->World->Prop}(hC:∀ g,YB c.P g (c.fn g))(Cq:yM ops.toList 0=true)
  (jY:∀ p i,p<i->i<ops.size->ordered (xc ops.toList []) p i=true\/T3 ops kd p i) (bF:∀ i,i<ops.size->kd i<=2)
  (oX:∀ p j,p<ops.size->dt ops p->j<ops.size->ordered (xc ops.toList []) p j=true->∀ q,q<ops.size->dt ops q->ordered (xc ops.toList []) q j=true)
  {κ0:KS} {a0:Act} {sf:F×St}:∀ (fuel:Nat) (listed qq:Array Bool) (es:List Em) {κ:KS} {a:Act} {s:F×St},
  listed.size=ops.size->qq.size=ops.size->fuel=(rest ops listed).length->rD ops listed->(∀ j,j<ops.size->qq.getD j true=true->listed.getD j true=true) ->
  (∀ j,j<ops.size->listed.getD j true=true->qq.getD j true=false->∃ e∈es,e.i=j)->(∀ e∈es,e.i<ops.size/\listed.getD e.i true=true/\qq.getD e.i true=false)->es.Pairwise S2 ->
  (∃ q,q<ops.size/\dt ops q/\listed.getD q true=false)->Inv κ->Rel κ n (ka es s.1) a->κ.st=s.2->Ext κ0 κ->(∀ e∈es,DF c ops κ0 κ a e)->lO c n ops kd (rest ops qq) s sf->cO ops a0 a ->
  (∀ (a':Act) (κ':KS),κ'.st=sf.2->Inv κ'->Ext κ0 κ'->Rel κ' n sf.1 a'->cO ops a0 a'->Q .normal a' κ'.w)->wpAny c.P .any ops Q fuel listed a κ.w
 | 0,listed,qq,es,κ,a,s,uo,hszA,hfuel,Xl,h1,h2,h3,Cs,⟨q,q1,q2,q3⟩,hI,hR,xE,hx,RH,vi,hkp,hQ=>by
  have SG:rest ops listed=[]:=List.eq_nil_of_length_eq_zero hfuel.symm
  have:q∈rest ops listed:=by simp only[rest,List.mem_filter,List.mem_range,Bool.not_eq_true']; exact⟨q1,q3⟩
  grind
 | fuel+1,listed,qq,es,κ,a,s,uo,hszA,hfuel,Xl,h1,h2,h3,Cs,⟨q,q1,q2,q3⟩,hI,hR,xE,hx,RH,vi,hkp,hQ=>by
  refine⟨λh => ?_,λi hi => ?_⟩
  ·have SG:=VE Cq uo h
   grind
  rw[iG]at hi
  obtain⟨i1,i2,i3⟩:=hi
  obtain⟨Pq,Lp⟩:=DB Cq uo Xl i1 i3
  have BN:fuel=(rest ops (listed.setIfInBounds i true)).length:=by have:=Pb uo i1 i2; omega
  have hia:qq.getD i true=false:=by
   grind
  have OV:∀ p,p<ops.size->dt ops p->ordered (xc ops.toList []) p i=true->False:=by
   grind
  have gA:∀ j,(listed.setIfInBounds i true).getD j true=if j=i then true else listed.getD j true:=λj=>uD (by omega)
  by_cases fc:dt ops i
  ·-- a new variable is laid
   obtain⟨o,ho,hao⟩:=fc
   obtain⟨t,d,o1,o2,o3⟩:=Ld hao
   have him:i∈rest ops qq:=by simp only[rest,List.mem_filter,List.mem_range,Bool.not_eq_true']; exact⟨i1,hia⟩
   obtain⟨t1,t2,hos⟩:=GX vi him
   obtain⟨D,d1,d2,_⟩:=W2 ho o1 o2 o3 hos
   obtain⟨iz,z,z1,z2,z3⟩:=dr d1
   obtain⟨w1,w2,w3,w4⟩:=TO hI (.cells z.cells t)
   let e:Em:=⟨i,d,κ.w.heap.size,t,z,D⟩
   have z8g:(execOp a.eval o).run c.P κ.w=.ok (.value (.pointer (some ⟨κ.w.heap.size,0,none⟩))) (κ.w.alloc (.cells z.cells t)):=by
    obtain⟨dst,op,ty,pos,after,guard⟩:=o
    cases o1
    simp[execOp,Instr.alloc,zeroValue,typeInfo,z1,z2,newVar,newRow]
   have z8V:Region.wanted o (yielded ops a.tmps)=true:=by unfold Region.wanted; rw[o2]
   unfold wpOp
   rw[ho]
   simp only
   rw[if_pos z8V]
   refine .inl ?_
   unfold Oper.wp
   rw[z8g]
   show wpAny c.P Region.Mode.any ops Q fuel (listed.setIfInBounds i true) (a.put o.dst (Value.pointer (some { block:=κ.w.heap.size,off:=0 }))) (κ.w.alloc (Obj.cells z.cells t))
   rw[o3]
   have vy:∀ f∈es,f.d≠d:=by
    intro f hf hfd
    obtain⟨f1,f2,f3⟩:=h3 f hf
    obtain⟨fo,SR,fo2,fo3,Sr⟩:=(RH f hf).op
    have YN:f.i≠i:=λh=>by rw[h,i2]at f2; cases f2
    rcases Nat.lt_or_gt_of_ne YN with qs | qs
    ·rcases jY f.i i qs i1 with h | h
     ·exact OV f.i f1 ⟨fo,SR,Yu fo2 fo3 Sr⟩ h
     ·exact(h fo o SR ho).1 f.d Sr (hfd▸jM o3)
    ·rcases jY i f.i qs f1 with h | h
     ·have:=Xl f.i f1 f2 i h i1; rw[i2]at this; cases this
     ·exact(h o fo ho SR).1 d o3 (hfd▸jM Sr)
   have zcj:DF c ops κ0 { κ with w:=κ.w.alloc (.cells z.cells t) } (a.put (some d) (.pointer (some ⟨κ.w.heap.size,0,none⟩))) e :=
    ⟨⟨o,ho,o1,o2,o3⟩,d1,⟨iz,z1,z2,z3⟩,by simp[e,Act.put,hR.size,d2],w4,w3,hx.size⟩
   have z8S:∀ f∈e::es,DF c ops κ0 { κ with w:=κ.w.alloc (.cells z.cells t) } (a.put (some d) (.pointer (some ⟨κ.w.heap.size,0,none⟩))) f:=by
    intro f hf
    rcases List.mem_cons.1 hf with rfl | hf
    ·exact zcj
    ·exact(RH f hf).mono w2 (by simp[Act.put,Array.getElem?_setIfInBounds_ne (λe'=>vy f hf e'.symm)])
   have SV:Rel { κ with w:=κ.w.alloc (.cells z.cells t) } n (ka (e::es) s.1) (a.put (some d) (.pointer (some ⟨κ.w.heap.size,0,none⟩))):=Yr (e:=e) (hR.mono w2)
   have hdE:∀ f∈es,S2 e f:=by
    intro f hf
    unfold S2
    refine⟨λh => ?_,λh => ?_,λh=>vy f hf h.symm⟩
    ·have hf2:=(h3 f hf).2.1
     rw[<- h]at hf2
     have i2':listed.getD e.i true=false:=i2
     rw[i2']at hf2
     cases hf2
    ·have hl:=(RH f hf).nob.lt
     rw[<- h]at hl
     exact Nat.lt_irrefl _ hl
   have F5:(e::es).Pairwise S2:=List.pairwise_cons.2 ⟨hdE,Cs⟩
   have z69:cO ops a0 (a.put (some d) (.pointer (some ⟨κ.w.heap.size,0,none⟩))):=hkp.trans (by have:=mr (a:=a) (v:=.pointer (some ⟨κ.w.heap.size,0,none⟩)) ho; rw[o3]at this; exact this)
   have QS:∀ j,j<ops.size->qq.getD j true=true->(listed.setIfInBounds i true).getD j true=true:=λj hj ha=>by
    rw[gA]; split
    ·rfl
    ·exact h1 j hj ha
   have h2':∀ j,j<ops.size->(listed.setIfInBounds i true).getD j true=true->qq.getD j true=false->∃ f∈e::es,f.i=j:=λj hj hb ha=>by
    rw[gA]at hb
    split at hb
    ·rename_i h; exact⟨e,List.mem_cons_self,h.symm⟩
    ·obtain⟨f,hf,YN⟩:=h2 j hj hb ha; exact⟨f,List.mem_cons_of_mem _ hf,YN⟩
   have h3':∀ f∈e::es,f.i<ops.size/\(listed.setIfInBounds i true).getD f.i true=true/\qq.getD f.i true=false:=λf hf=>by
    rcases List.mem_cons.1 hf with rfl | hf
    ·exact⟨i1,by rw[gA]; exact if_pos rfl,hia⟩
    ·obtain⟨f1,f2,f3⟩:=h3 f hf
     exact⟨f1,by rw[gA]; split<;>first | rfl | exact f2,f3⟩
   by_cases hmore:∃ q,q<ops.size/\dt ops q/\(listed.setIfInBounds i true).getD q true=false
   ·exact ru hC Cq jY bF oX fuel (listed.setIfInBounds i true) qq (e::es) (κ:={ κ with w:=κ.w.alloc (.cells z.cells t) }) (by simp[uo]) hszA BN Lp QS h2' h3' F5 hmore w1 SV xE (hx.trans w2) z8S vi z69 hQ
   ·-- all are laid
    have z1r:∀ q,q<ops.size->dt ops q->(listed.setIfInBounds i true).getD q true=true:=λq q1 q2=>by
     cases hb:(listed.setIfInBounds i true).getD q true with
     | true=>rfl
     | false=>exact(hmore ⟨q,q1,q2,hb⟩).elim
    obtain⟨κ',s',f1,f2,f3,f4,f5,f6⟩:=flush (c:=c) (n:=n) jY bF Lp z1r (e::es).length (e::es) qq { κ with w:=κ.w.alloc (.cells z.cells t) } s rfl hszA QS h2' h3' F5 w1 SV xE (hx.trans w2) z8S vi
    have hgo:=Wj (κ:=κ') hC Cq fuel (listed.setIfInBounds i true) (Q:=Q) (λp j hpj hj hp=>(jY p j hpj hj).elim .inl λh=>.inr (KM h (bF p (by omega)) (bF j hj) λhh=>by
     rw[z1r p (by omega) hh.1]at hp; cases hp)) (by simp[uo]) BN Lp f3 f5 f2 f6 λa' Lh e1 e2 e3 e4 e5=>hQ a' Lh e1 e2 (f4.trans e3) e4 (z69.trans e5)
    rw[f1]at hgo
    exact hgo
  ·-- another operation
   have z1w:∀ o,ops[i]? = some o->∀ e∈es,e.d ∉ tmpsOf ops o:=by
    intro o ho f hf
    obtain⟨f1,f2,f3⟩:=h3 f hf
    obtain⟨fo,SR,fo2,fo3,Sr⟩:=(RH f hf).op
    have YN:f.i≠i:=λh=>by rw[h,i2]at f2; cases f2
    rcases Nat.lt_or_gt_of_ne YN with qs | qs
    ·rcases jY f.i i qs i1 with h | h
     ·exact(OV f.i f1 ⟨fo,SR,Yu fo2 fo3 Sr⟩ h).elim
     ·exact(h fo o SR ho).1 f.d Sr
    ·rcases jY i f.i qs f1 with h | h
     ·have:=Xl f.i f1 f2 i h i1; rw[i2]at this; cases this
     ·exact(h o fo ho SR).2.1 f.d Sr
   obtain⟨pre,post,g1,g2,g3⟩:=gy (p:=λi => !qq.getD i true) (q:=λj => !(qq.setIfInBounds i true).getD j true) (i:=i) (List.range ops.size) List.pairwise_lt_range
    (List.mem_range.2 i1) (by simp[hia]) (λj=>by
     rw[uD (by omega)]
     by_cases h:j=i
     ·subst h; simp
     ·simp[h])
   have Pl:∀ p∈pre,Ind ops kd p i:=by
    intro p hp
    obtain⟨r1,r2,r3⟩:=g3 p hp
    have r2:=List.mem_range.1 r2
    have r1:qq.getD p true=false:=by simpa using r1
    rcases jY p i r3 i1 with h | h
    ·obtain⟨f,hf,YN⟩:=h2 p r2 (Pq p h r2) r1
     obtain⟨fo,SR,fo2,fo3,Sr⟩:=(RH f hf).op
     exact(OV p r2 ⟨fo,by rw[<- YN]; exact SR,Yu fo2 fo3 Sr⟩ h).elim
    ·exact KM h (bF p r2) (bF i i1) λhh=>fc hh.2
   have Hh:lO c n ops kd (pre++i::post) s sf:=by
    have:rest ops qq=pre++i::post:=g1
    rw[<- this]; exact vi
   obtain⟨s1,k1,k2⟩:=VO Pl Hh
   refine La (s:=(ka es s.1,s.2)) (s':=(ka es s1.1,s1.2)) hC hI hR xE (BZ k1 z1w) λa1 κ1 e1 e2 e3 e4 e5 e6 => ?_
   have OD:∀ j,(qq.setIfInBounds i true).getD j true=if j=i then true else qq.getD j true:=λj=>uD (by omega)
   refine ru hC Cq jY bF oX fuel (listed.setIfInBounds i true) (qq.setIfInBounds i true) es (κ:=κ1) (s:=s1) (by simp[uo]) (by simp[hszA]) BN Lp (λj hj ha => ?_) (λj hj hb ha => ?_) (λf hf => ?_) Cs
    ⟨q,q1,q2,?_⟩ e2 e4 e1 (hx.trans e3) (λf hf=>(RH f hf).mono e3 (e6 f.d λo ho hod=>z1w o ho f hf (jM hod))) ?_ (hkp.trans e5) hQ
   ·rw[OD]at ha; rw[gA]
    split
    ·rfl
    ·rename_i h; rw[if_neg h]at ha; exact h1 j hj ha
   ·rw[OD]at ha; rw[gA]at hb
    split at ha
    ·cases ha
    ·rename_i h; rw[if_neg h]at hb; exact h2 j hj hb ha
   ·obtain⟨f1,f2,f3⟩:=h3 f hf
    have YN:f.i≠i:=λh=>by rw[h,i2]at f2; cases f2
    exact⟨f1,by rw[gA,if_neg YN]; exact f2,by rw[OD,if_neg YN]; exact f3⟩
   ·have hqi:q≠i:=λh=>fc (by rw[<- h]; exact q2)
    rw[gA,if_neg hqi]; exact q3
   ·have:rest ops (qq.setIfInBounds i true)=pre++post:=g2
    rw[this]; exact k2
theorem rC{kd:Nat->Nat}:∀ {l:List Oper} {ks:List Nat} {i j:Nat} {o:Oper},l[i]? = some o->ks[i]? = some (kd j)->(Wf l ks)[i]? = some (kd3 kd o j)
 | [],_,i,_,_,h,_=>by simp at h
 | _::_,[],i,_,_,_,h=>by simp at h
 | x::l,k::ks,0,j,o,h1,h2=>by simp at h1 h2; subst h1; subst h2; rfl
 | x::l,k::ks,i+1,j,o,h1,h2=>by
  have:=rC (kd:=kd) (l:=l) (ks:=ks) (i:=i) (j:=j) (o:=o) (by grind) (by grind)
  simpa[Wf]using this
theorem J2:∀ {l:List Oper} {k i:Nat} {o:Oper},l[i]? = some o->QP o=true->k+i∈V7 l k
 | [],_,_,_,h,_=>by simp at h
 | x::l,k,0,o,h1,h2=>by simp at h1; subst h1; simp[V7,h2]
 | x::l,k,i+1,o,h1,h2=>by
  have:=J2 (l:=l) (k:=k+1) (i:=i) (o:=o) (by grind) h2
  simp only[V7]
  grind
theorem Qd{kd:Nat->RK}:∀ (l:List Nat) (s s':F×St) (ks:List RK),Ih c n ops l s s' ks->ks=l.map kd->XS (λi s s'=>bJ c n ops i s s' (kd i)) l s s'
 | [],s,s',ks,h,_=>h.1
 | i::l,s,s',ks,⟨s1,k,Cg,e,h1,h2⟩,hk=>by
  subst e
  simp at hk
  obtain⟨rfl,hk⟩:=hk
  exact⟨s1,h1,Qd l s1 s' Cg h2 hk⟩
theorem M5{κ:KS}{a:Act}{id:Nat}{draw:Bool}{fr:Fr}{kn:Kn}{s':cg}(hm:c.P.follows .mixedOrders=true)(hC:∀ g,YB c.P g (c.fn g))(hI:Inv κ)(hR:Rel κ n fr.get a)(hk:vd kn fr.get)
  (h:(gV c n ops draw fr kn κ.st).leads s') {Q:Exit->Act->World->Prop} (hQ:∀ (a':Act) (κ':KS),κ'.st=s'.st->Inv κ'->Ext κ κ'->Rel κ' n s'.fr.get a'->cO ops a a'->Q .normal a' κ'.w) :
  (Code.region id ops draw).wp c.P Q a κ.w/\vd s'.kn s'.fr.get:=by
 simp only[gV,T.zy]at h
 obtain⟨s1,h1,h2⟩:=h
 obtain⟨ks,g1,g2,g3⟩:=dv ops.toList 0 ⟨fr,kn,κ.st,[],[]⟩ s1 (λj=>.inl (by simp)) hk h1
 simp only[List.append_nil]at g3
 have hl:ops.toList.length=ops.size:=by simp
 rw[hl,<- List.range_eq_range']at g1
 cases hd:(!draw||rS ops s1.ks.reverse s1.bk.reverse)with
 | false=>rw[hd]at h2; exact h2.elim
 | true =>
  rw[hd,cond_true]at h2
  cases h2
  refine⟨?_,g2⟩
  cases draw with
  | false=>exact wp_region (EZ hC _ hI hR rfl g1 hQ)
  | true =>
   simp only[Bool.not_true,Bool.false_or,rS,Bool.or_eq_true]at hd
   obtain⟨rks,r1,r3⟩:=ZU (ops:=ops) ops.toList 0 ⟨fr,kn,κ.st,[],[]⟩ _ (λj=>.inl (by simp)) hk h1
   simp only[List.append_nil]at r3
   rw[hl,<- List.range_eq_range']at r1
   let kd:Nat->Nat:=λi=>ks.getD i 0
   have DY:ks.length=ops.size:=by rw[Gi _ _ _ _ g1]; simp
   have hks:ks=(List.range ops.size).map kd:=by
    apply List.ext_getElem?
    intro i
    grind
   have vi:=VN (kd:=kd) _ _ _ _ g1 hks
   refine wp_region_any hm ?_
   let κd:KS:={ κ with w:=κ.w.drew }
   have hx:Ext κ κd:=⟨rfl,rfl,rfl,Nat.le_refl _,λk hk=>⟨hk,rfl⟩,λk hk=>.inl hk,λ_ _ _ h=>.inl h,λb d h=>⟨⟨d,h⟩,rfl⟩,
    λb v0 e xs h=>.inr ⟨v0,xs,h,Nat.le_refl _,λ_=>⟨rfl,rfl⟩⟩,λ_ h=>h,Nat.le_refl _,λk _ _=>rfl⟩
   have hId:Inv κd:=⟨hI.len,hI.y4,hI.apart,hI.inj,λb y hy=>(hI.blk b y hy).mono hx rfl λ_ _ _=>rfl,hI.gl.mono hx.same⟩
   have mM:rest ops (Array.replicate ops.size false)=List.range ops.size:=by
    unfold rest
    rw[List.filter_eq_self]
    intro i hi
    have:=List.mem_range.1 hi
    simp[Array.getD_eq_getD_getElem?,this]
   have Jx:∀ j,j<ops.size->(Array.replicate ops.size false).getD j true=false:=λj hj=>by simp[Array.getD_eq_getD_getElem?,hj]
   have z0T:rD ops (Array.replicate ops.size false):=λq hq Lw=>by rw[Jx q hq]at Lw; cases Lw
   have B0:∀ i,i<ops.size->ks[i]? = some (kd i):=λi hi=>by simp[kd,List.getD,List.getElem?_eq_getElem (show i<ks.length by omega)]
   have QC:∀ i (hi:i<ops.size),ops.toList[i]? = some ops[i]:=λi hi=>by simp
   rcases hd with(hd | hd) | hd
   ·simp only[EC,Bool.and_eq_true]at hd
    obtain⟨d1,d2⟩:=hd
    rw[g3,List.reverse_reverse]at d2
    have jY:∀ p i,p<i->i<ops.size->ordered (xc ops.toList []) p i=true\/Ind ops kd p i:=by
     intro p i YG hi
     have hp:=lG ops.toList ks 0 [] d2 i ops[i] (kd i) (QC i hi) (B0 i hi)
     have:=hp.2 p ops[p] (kd p) YG (QC p (by omega)) (B0 p (by omega))
     simp only[Nat.zero_add]at this
     refine da this (λh=>h) λhap x y hx hy => ?_
     rw[Array.getElem?_eq_getElem (by omega)]at hx hy
     cases hx
     cases hy
     exact hap
    exact Wj (κ:=κd) hC d1 ops.size _ (λp i h1 h2 _=>jY p i h1 h2) (by simp) (by rw[mM]; simp) z0T hId (hR.mono hx) rfl (by rw[mM]; exact vi) λa' κ' e1 e2 e3 e4 e5=>hQ a' κ' e1 e2 (hx.trans e3) e4 e5
   ·simp only[EH,Bool.and_eq_true]at hd
    obtain⟨⟨⟨d1,d0⟩,d2⟩,d3⟩:=hd
    rw[g3,List.reverse_reverse]at d0 d2
    have bF:∀ i,i<ops.size->kd i<=2:=λi hi=>Nat.le_of_ble_eq_true (List.all_eq_true.1 d0 _ (List.mem_of_getElem? (B0 i hi)))
    have jY:∀ p i,p<i->i<ops.size->ordered (xc ops.toList []) p i=true\/T3 ops kd p i:=by
     intro p i YG hi
     have hp:=lG ops.toList (Wf ops.toList ks) 0 [] d2 i ops[i] (kd3 kd ops[i] i) (QC i hi) (rC (QC i hi) (B0 i hi))
     have:=hp.2 p ops[p] (kd3 kd ops[p] p) YG (QC p (by omega)) (rC (QC p (by omega)) (B0 p (by omega)))
     simp only[Nat.zero_add]at this
     refine da this (λh=>h) λhap x y hx hy => ?_
     rw[Array.getElem?_eq_getElem (by omega)]at hx hy
     cases hx
     cases hy
     exact hap
    have oX:∀ p j,p<ops.size->dt ops p->j<ops.size->ordered (xc ops.toList []) p j=true->∀ q,q<ops.size->dt ops q->ordered (xc ops.toList []) q j=true:=by
     intro p j hp hap hj ho q hq haq
     unfold GJ at d3
     have:=List.all_eq_true.1 d3 j (List.mem_range.2 (by simpa using hj))
     simp only[Bool.or_eq_true,Bool.not_eq_true',List.any_eq_false,List.all_eq_true]at this
     have hm:∀ r,dt ops r->r∈V7 ops.toList 0:=λr ⟨o,h1,h2⟩=>by
      have:=J2 (l:=ops.toList) (k:=0) (i:=r) (o:=o) (by rw[Array.getElem?_toList]; exact h1) h2
      rwa [Nat.zero_add]at this
     rcases this with h | h
     ·have:=h p (hm p hap); rw[ho]at this; exact absurd rfl this
     ·exact h q (hm q haq)
    by_cases hex:∃ q,q<ops.size/\dt ops q
    ·obtain⟨q,q1,q2⟩:=hex
     exact ru (κ0:=κd) (κ:=κd) (a0:=a) hC d1 jY bF oX ops.size _ (Array.replicate ops.size false) [] (by simp) (by simp) (by rw[mM]; simp) z0T (λj hj h=>by rw[Jx j hj]at h; cases h)
      (λj hj h _=>by rw[Jx j hj]at h; cases h) (λe he=>by cases he) .nil ⟨q,q1,q2,Jx q q1⟩ hId (hR.mono hx) rfl (Ext.refl _) (λe he=>by cases he) (by rw[mM]; exact vi) (cO.refl _ _)
      λa' κ' e1 e2 e3 e4 e5=>hQ a' κ' e1 e2 (hx.trans e3) e4 e5
    ·exact Wj (κ:=κd) hC d1 ops.size _ (λp i h1 h2 _=>(jY p i h1 h2).elim .inl λh=>.inr (KM h (bF p (by omega)) (bF i h2) λhh=>hex ⟨p,by omega,hh.1⟩)) (by simp) (by rw[mM]; simp) z0T hId (hR.mono hx) rfl (by rw[mM]; exact vi) λa' κ' e1 e2 e3 e4 e5=>hQ a' κ' e1 e2 (hx.trans e3) e4 e5
   ·simp only[FU,Bool.and_eq_true]at hd
    obtain⟨d1,d2⟩:=hd
    rw[r3,List.reverse_reverse]at d2
    let kr:Nat->RK:=λi=>rks.getD i (.z 0)
    have hrl:rks.length=ops.size:=by rw[Jz _ _ _ _ r1]; simp
    have zdf:rks=(List.range ops.size).map kr:=by
     apply List.ext_getElem?
     intro i
     by_cases hi:i<ops.size
     ·simp[kr,hi,List.getD,List.getElem?_eq_getElem (show i<rks.length by omega)]
     ·rw[List.getElem?_eq_none (by omega),List.getElem?_eq_none (by simp; omega)]
    have z1u:∀ i,i<ops.size->rks[i]? = some (kr i):=λi hi=>by simp[kr,List.getD,List.getElem?_eq_getElem (show i<rks.length by omega)]
    have z8v:=Qd (kd:=kr) _ _ _ _ r1 zdf
    have jY:∀ p i,p<i->i<ops.size->ordered (xc ops.toList []) p i=true\/z3J ops kr p i:=by
     intro p i YG hi
     have hp:=lG ops.toList rks 0 [] d2 i ops[i] (kr i) (QC i hi) (z1u i hi)
     have:=hp.2 p ops[p] (kr p) YG (QC p (by omega)) (z1u p (by omega))
     simp only[Nat.zero_add]at this
     refine da this (λh=>h) λhap x y hx hy => ?_
     rw[Array.getElem?_eq_getElem (by omega)]at hx hy
     cases hx
     cases hy
     exact hap
    exact ZO (κ:=κd) (Stp:=λi s s'=>bJ c n ops i s s' (kr i)) (In:=λp i=>z3J ops kr p i) (λi s s' h=>h.plain) (λp i hi s s1 s2 h1 h2=>Cl hi h1 h2) hC d1 ops.size _ (λp i h1 h2 _=>jY p i h1 h2) (by simp) (by rw[mM]; simp) z0T hId (hR.mono hx) rfl (by rw[mM]; exact z8v) λa' κ' e1 e2 e3 e4 e5=>hQ a' κ' e1 e2 (hx.trans e3) e4 e5
end
end Go.AM
namespace Go.AM
set_option linter.unusedSectionVars false
variable [vz] [VW]
def Hv(κ:KS):Ex->Exit->Prop
 | .normal,e=>e=.normal
 | .exit id,e=>e=.exit id
 | .ret,e=>e=.ret
 | .kb d,e=>∃ v,e=.panic [{ v,recovered:=false }]/\RD κ d v
section
variable {c:Ctx} {n:Nat}
def xh:Code->List (Nat×Code)
 | .seq a b=>xh a++xh b
 | .cond _ a b=>xh a++xh b
 | .block id (.loop b)=>[(id,b)]
 | .block _ a=>xh a
 | _=>[]
theorem ID{ops:Array Oper}{draw:Bool}{fr:Fr}{kn:Kn}{st:St}{s':cg}(hk:vd kn fr.get)(h:(gV c n ops draw fr kn st).leads s'):vd s'.kn s'.fr.get:=by
 simp only[gV,T.zy]at h
 obtain⟨s1,h1,h2⟩:=h
 obtain⟨ks,g1,g2,g3⟩:=dv ops.toList 0 ⟨fr,kn,st,[],[]⟩ s1 (λj=>.inl (by simp)) hk h1
 cases hd:(!draw||rS ops s1.ks.reverse s1.bk.reverse)with
 | false=>rw[hd]at h2; exact h2.elim
 | true=>rw[hd,cond_true]at h2; cases h2; exact g2
theorem bp(f:F):vd [] f:=by nofun
theorem G3{id:Nat}{b:Code}(hb:∀ b',b≠.loop b'):xh (.block id b)=xh b:=by
 cases b<;>first | rfl | exact absurd rfl (hb _)
end
end Go.AM
namespace Go.AM
set_option linter.unusedSectionVars false
variable [vz] [VW]
section
variable {c:Ctx} {n:Nat}
theorem J5:∀ (ds:List D) (i s:Nat),(w6 ds i).get s=if i<=s then ds[s-i]? else none
 | [],i,s=>by simp[w6,Fr.get]
 | d::r,i,s=>by
  simp only[w6,Fr.get]
  by_cases h:i=s
  ·subst h; simp
  ·rw[iR h,cond_false,J5 r (i+1) s]
   grind
theorem tn{κ:KS}{args:List D}{zw:List Value}(h:qA κ args zw)(hn:args.length<=n) :
  Rel κ n (w6 args 0).get { tmps:=zw.toArray++Array.replicate (n-zw.toArray.size) undef,defers:=VW.df }:=by
 have hl:=h.1
 refine⟨by grind,rfl,λs d hd => ?_⟩
 rw[J5]at hd
 obtain⟨v,h1,h2⟩:=h.get hd
 grind
theorem rP{κ:KS}{fr:Fr}{a:Act}(hI:Inv κ)(hR:Rel κ n fr.get a):∀ (rvs:List ResultVar) (ds:List D),(gC c fr κ.st rvs).leads ds ->
  ∃ vs:List Value,Sem.run c.P (rvs.mapM λr=>match r with | ResultVar.tmp t=>(Pure.pure (a.tmps.getD t undef):Sem Value) | ResultVar.cell p t=>do loadVar t (<- asAddr (a.tmps.getD p undef))) κ.w=Result.ok vs κ.w/\qA κ ds vs
 | [],ds,h=>by cases h; exact⟨[],by simp,.nil⟩
 | .tmp t::r,ds,h=>by
  simp only[gC]at h
  split at h
  ·rename_i d hd
   simp only[T.zy]at h
   obtain⟨l,hl,rfl⟩:=h
   obtain⟨v,h1,h2⟩:=hR.get t d hd
   obtain⟨vs,h3,h4⟩:=rP hI hR r l hl
   refine⟨v::vs,?_,.cons h2 h4⟩
   simp only[List.mapM_cons,Sem.run_bind,Sem.run_pure,Result.andThen_ok,h3]
   simp[h1]
  ·exact h.elim
 | .cell p t::r,ds,h=>by
  simp only[gC]at h
  split at h
  ·rename_i b off hd
   split at h
   ·rename_i d hb
    split at h
    ·rename_i x hx
     simp only[T.zy]at h
     obtain⟨l,hl,rfl⟩:=h
     obtain⟨v,h1,h2⟩:=hR.get p _ hd
     obtain⟨vs,h3,h4⟩:=rP hI hR r l hl
     cases h2 with
     | ptr _ _ blk m d1 BJ hp =>
      obtain⟨fS,n',cs,T,g1,g2,g3,g4,g5⟩:=hI.blk b _ hb
      rw[hp]at g1
      cases g1
      obtain⟨u,e1,e2⟩:=WO (c:=c) (blk:=blk) 0 hx g4 g5.1 (λj v hj=>by rw[oQ g2]; simpa using hj)
      rw[Nat.zero_add]at e1
      refine⟨u::vs,?_,.cons e2 h4⟩
      have hA:(asAddr (a.tmps.getD p undef)).run c.P κ.w=.ok ⟨blk,off,none⟩ κ.w:=by simp[h1,asAddr]
      simp only[List.mapM_cons,Sem.run_bind,hA,Result.andThen_ok,e1,h3,Sem.run_pure]
    ·exact h.elim
   ·exact h.elim
  ·exact h.elim
def PB:List Value->Value
 | [v]=>v
 | vs=>.tuple vs.toArray
theorem lL{κ:KS}{fr:Fr}{a:Act}{fn:Func}{ds:List D}(hI:Inv κ)(hR:Rel κ n fr.get a)(h:(gC c fr κ.st fn.results.toList).leads ds) :
  ∃ vs:List Value,(results fn a.tmps).run c.P κ.w=.ok (PB vs) κ.w/\qA κ ds vs:=by
 obtain⟨vs,h1,h2⟩:=rP hI hR _ _ h
 simp only[results,Array.mapM_eq_mapM_toList,Sem.run_bind,Sem.run_map]
 have key:∀ r:Result (List Value),r=.ok vs κ.w->((r.andThen λa w'=>.ok a.toArray w').andThen λa w'=>(Pure.pure (if h:a.size=1 then a[0]else .tuple a):Sem Value).run c.P w')=.ok (PB vs) κ.w:=by
  rintro _ rfl
  match vs with
  | []=>rfl
  | [v]=>rfl
  | _::_::_=>rfl
 grind
theorem rQ{κ:KS}{ds:List D}{vs:List Value}(h:qA κ ds vs):RD κ (kO ds) (PB vs):=by
 match ds,vs,h with
 | [],vs,h=>rw[h.qc]; exact .kY [] [] rfl (λi h=>absurd h (Nat.not_lt_zero i))
 | [d],vs,h =>
  obtain⟨v,r,rfl,h1,h2⟩:=h.cons_inv
  rw[h2.qc]
  exact h1
 | d::e::r,vs,h =>
  obtain⟨v,us,rfl,h1,h2⟩:=h.cons_inv
  obtain⟨u,ws,rfl,h3,h4⟩:=h2.cons_inv
  exact .kY _ _ h.1 h.2
def KS.cut(κ:KS)(m:Nat):KS:={ κ with ph:=κ.ph.take m,st:=κ.st.take m }
theorem q8{α:Type}{l:List α}{m i:Nat}{a:α}(h:l[i]? = some a)(hi:i<m):(l.take m)[i]? = some a:=by grind
theorem gq{α:Type}{l:List α}{m i:Nat}{a:α}(h:(l.take m)[i]? = some a):l[i]? = some a/\i<m:=by grind
theorem cp{κ:KS}{m:Nat}{d:D}{v:Value}(h:RD κ d v)(hd:vu m d=true):RD (κ.cut m) d v:=by
 cases h with
 | zD τ y cs h=>exact .zD τ y cs h
 | xd e a=>exact .xd e a
 | tight e l ne blk off f vy w7 h hc=>exact .tight e l ne blk off f vy w7 h hc
 | xo=>exact .xo
 | kG=>exact .kG
 | qP=>exact .qP
 | vC=>exact .vC
 | vB=>exact .vB
 | pK v h=>exact .pK v h
 | bj T=>exact .bj T
 | bC b T d hb=>exact .bC b T d (q8 hb (Nat.le_of_ble_eq_true hd))
 | bE b T blk n d hb h=>exact .bE b T blk n d (q8 hb (Nat.le_of_ble_eq_true hd)) (q8 h (Nat.le_of_ble_eq_true hd))
 | ptr b off blk n d hb h=>exact .ptr b off blk n d (q8 hb (Nat.le_of_ble_eq_true hd)) (q8 h (Nat.le_of_ble_eq_true hd))
 | qN τ y cs blk off w7 h hc=>exact .qN τ y cs blk off w7 h hc
 | vU b qw e idx off blk o hb h =>
  have qs:b<m:=Nat.le_of_ble_eq_true hd
  refine .vU b qw e idx off blk o (da hb (λh=>q8 h qs) ?_) λxs hx hi => ?_
  ·rintro⟨v0,e0,x0,h1,h2⟩; exact⟨v0,e0,x0,q8 h1 qs,h2⟩
  ·obtain⟨n,h1,h2⟩:=h xs (gq hx).1 hi
   exact⟨n,q8 h1 qs,h2⟩
 | ms b qw e off len cap a hb wM ha mW h =>
  have qs:b<m:=Nat.le_of_ble_eq_true hd
  refine .ms b qw e off len cap a (da hb (λh=>q8 h qs) ?_) wM ha mW λxs hx => ?_
  ·rintro⟨v0,e0,x0,h1,h2⟩; exact⟨v0,e0,x0,q8 h1 qs,h2⟩
  ·obtain⟨h1,h2⟩:=h xs (gq hx).1
   refine⟨h1,da h2 ?_ ?_⟩
   ·rintro⟨g1,g2,g3,g4⟩; exact⟨g1,g2,g3,q8 g4 qs⟩
   ·rintro⟨blk,n,o,Cw,g1,g2⟩; exact⟨blk,n,o,Cw,q8 g1 qs,g2⟩
 | qS=>cases hd
 | agg=>cases hd
 | kY=>cases hd
 | iface=>cases hd
theorem Ca{κ:KS}{m:Nat}{d:D}{v:Value}(h:RD κ d v)(hd:yW m d=true):RD (κ.cut m) d v:=by
 cases d with
 | qS f l =>
  cases h with
  | qS _ _ vs hl hh =>
   simp only[yW,List.all_eq_true]at hd
   exact .qS f l vs hl λi h1 h2=>cp (hh i h1 h2) (hd _ (List.getElem_mem h1))
 | agg l =>
  cases h with
  | agg _ vs hl ho hh =>
   simp only[yW,List.all_eq_true]at hd
   exact .agg l vs hl ho λi h1 h2=>cp (hh i h1 h2) (hd _ (List.getElem_mem h1))
 | kY l=>cases hd
 | iface t d =>
  cases h with
  | iface _ _ v h=>exact .iface t _ v (cp h hd)
 | _=>exact cp h hd
theorem Ef{κ:KS}{m:Nat}{l:List D}{vs:List Value}(h:qA κ l vs)(hd:∀ d∈l,yW m d=true):qA (κ.cut m) l vs:=⟨h.1,λi h1 h2=>Ca (h.2 i h1 h2) (hd _ (List.getElem_mem h1))⟩
theorem KD{m:Nat}{d:D}(h:yW m d=true):∀ x∈qe d,yW m x=true:=by
 have YC:∀ (τ:Ty) (x:den τ),∀ y∈flat τ x,yW m y=true:=by
  intro τ x y hy
  have:∃ σ z,y=.zD σ z:=by
   induction τ with
   | cons a b ia ib =>
    simp only[flat]at hy
    grind
   | nil=>simp[flat]at hy
   | expr=>simp[flat]at hy; rcases hy with rfl | rfl | rfl | rfl | rfl | rfl<;>exact⟨_,_,rfl⟩
   | _=>simp[flat]at hy; subst hy; exact⟨_,_,rfl⟩
  obtain⟨σ,z,rfl⟩:=this
  rfl
 cases d with
 | zD τ x=>exact YC τ x
 | agg l =>
  intro x hx
  simp only[yW,List.all_eq_true]at h
  have:=h x hx
  cases x<;>first | exact this | cases this
 | kY l=>cases h
 | _=>intro x hx; simp[qe]at hx; subst hx; exact h
theorem z0D{κ:KS}{m:Nat}(hI:Inv κ)(hc:∀ x∈κ.st.take m,Kz m x=true):Inv (κ.cut m):=by
 refine⟨by simp[KS.cut,hI.len],hI.y4,λb blk n h=>hI.apart b blk n (gq h).1,λb b' blk n n' h h'=>hI.inj b b' blk n n' (gq h).1 (gq h').1,λb x h => ?_,hI.gl⟩
 obtain⟨h1,h2⟩:=gq h
 have hb:=hI.blk b x h1
 have hcx:=hc x (List.mem_of_getElem? h)
 cases x with
 | dead=>trivial
 | var d =>
  obtain⟨blk,n,cs,t,g1,g2,g3,g4,g5⟩:=hb
  exact⟨blk,n,cs,t,q8 g1 h2,g2,g3,Ef g4 (KD hcx),g5⟩
 | arr qw e xs =>
  obtain⟨h0,hb⟩:=hb
  refine⟨h0,da hb (λh=>⟨h.1,q8 h.2 h2⟩) ?_⟩
  rintro⟨blk,n,cs,t,g1,g2⟩
  exact⟨blk,n,cs,t,q8 g1 h2,g2⟩
end
end Go.AM
namespace Go.AM
set_option linter.unusedSectionVars false
variable [vz]
section
variable {c:Ctx}
theorem wz{P:Program}{f:Nat}{fn:Func}{args:Array Value}(hf:P.funcs[f]? = some fn) (hn:(fn.name == "runtime.NumGoroutine")=false) (hb:fn.body.isNone=false) (w:World) :
  (callFunc f args).run P w=.ok (.enter f args) w:=by
 simp only[callFunc,Sem.run_bind,run_program,Result.andThen_ok,hf,hn,hb,Bool.false_eq_true,if_false,Sem.run_pure]
theorem Io{κ κe:KS}(hI:Inv κ)(xE:κ.st=[])(hIe:Inv κe)(hx:Ext κ κe):Inv (κe.bare (Mg κe))/\Ext κ (κe.bare (Mg κe)):=by
 have qs:∀ k,Mg κe k->k<κe.w.heap.size:=by
  rintro k (hk | ⟨b,n,hk⟩)
  ·exact hIe.y4 k hk
  ·exact(hIe.apart b k n hk).1
 refine⟨Vg hIe (λ_ h=>.inl h) qs,hx.os,hx.tape,hx.output,hx.size,λk hk=>⟨.inl (hx.same k hk).1,(hx.same k hk).2⟩,?_,λb blk n h=>by simp[KS.bare]at h,λb d h=>by grind,
  λb v0 e xs h=>by grind,λb h=>by grind,by grind,hx.frame⟩
 rintro k (hk | ⟨b,n,hk⟩)
 ·exact hx.fresh k hk
 ·rcases hx.RI b k n hk with h | h
  ·grind
  ·grind
end
end Go.AM
namespace Go.AM
set_option linter.unusedSectionVars false
variable [vz] [VW]
open Go.RowKit
def z0f(s:Nat)(fr:Fr)(st:St):T (Fr×St):=match fr.get s with
 | some (.ms b qw e off len)=>match st[b]? with
  | some (.arr jv e' xs)=>match(wv (a:=.sl e') (b:=.sl e) xs:Option (List (den e)))with
   | some ys=>.zA (qw=jv) (.ret ((s,some (.zD (.sl e) ((ys.take (off+len)).drop off)))::fr,st.set b .dead))
   | none=>.fail
  | _=>.fail
 | _=>.ret (fr,st)
def z0k(j i:Nat)(fr:Fr)(st:St):T (Fr×St):=match st[j]? with
 | some (.var (.agg ds))=>match ds[i]? with
  | some (.ms b qw e off len)=>match st[b]? with
   | some (.arr jv e' xs)=>match(wv (a:=.sl e') (b:=.sl e) xs:Option (List (den e)))with
    | some ys=>.zA (qw=jv) (.ret (fr,(st.set b .dead).set j (.var (.agg (ds.set i (.zD (.sl e) ((ys.take (off+len)).drop off)))))))
    | none=>.fail
   | _=>.fail
  | _=>.ret (fr,st)
 | _=>.ret (fr,st)
def z0c(s:Nat)(fr:Fr)(st:St):T (Fr×St):=bif Nat.ble 1000000 s then z0k ((s-1000000) / 1000) ((s-1000000) % 1000) fr st else z0f s fr st
def RT:List Nat->Fr->St->T (Fr×St)
 | [],fr,st=>.ret (fr,st)
 | s::r,fr,st=>(z0c s fr st).bind λx=>RT r x.1 x.2
section
variable {c:Ctx} {κ:KS} {n:Nat}
theorem z7y{b qw off len:Nat}{e:Ty}{xs:List (den e)}{v:Value}(hI:Inv κ)(h:RD κ (.ms b qw e off len) v)(hb:κ.st[b]? = some (.arr qw e xs)){Q0:Nat->Prop}(h1:∀ k,κ.ok k->Q0 k)(h2:∀ k n,κ.ph[b]? = some (some (k,n))->Q0 k) :
  Rc κ.w Q0 (.sl e) ((xs.take (off+len)).drop off) [v]:=by
 obtain⟨Y0,_⟩:=BW hI h hb
 obtain⟨a,cap,f,hve,wM,hn,g1,g2⟩:=Y0.ex
 have OM:∀ blk o:Nat,v=.slice (some ⟨blk,o,none⟩) ((xs.take (off+len)).drop off).length cap->Q0 blk:=by
  intro blk o he
  cases h with
  | ms _ _ _ _ _ Cw a' hold z6a ha mW hm =>
   obtain⟨_,hm⟩:=hm xs hb
   grind
 rw[hve]
 cases a with
 | none=>obtain⟨k1,k2⟩:=hn rfl; rw[k1,k2]; exact .eK e none
 | some p =>
  rcases g2 p rfl with⟨k1,k2⟩ | ⟨hp,_,hc⟩
  ·rw[k1,k2]; exact .eK e _
  ·obtain⟨blk,o,sp⟩:=p
   subst hp
   exact .sl e _ blk o cap f (OM blk o hve) wM (λi hi=>(g1 i hi).mono λk hk=>⟨h1 k hk,rfl⟩) hc
theorem I2{b qw:Nat}{e:Ty}{xs:List (den e)}(hb:κ.st[b]? = some (.arr qw e xs))(hI:Inv κ):∃ κ':KS,κ'.w=κ.w/\κ'.st=κ.st.set b .dead/\Inv κ'/\Ext κ κ' /\
  ∀ (off len:Nat) (v:Value),RD κ (.ms b qw e off len) v->RD κ' (.zD (.sl e) ((xs.take (off+len)).drop off)) v:=by
 have qs:b<κ.st.length:=(List.getElem?_eq_some_iff.1 hb).1
 let κ':KS:=⟨κ.w,λk=>κ.ok k\/∃ n,κ.ph[b]? = some (some (k,n)),κ.ph.set b none,κ.st.set b .dead⟩
 have xE:∀ i,i≠b->κ'.st[i]? = κ.st[i]? := λi hi=>by show(κ.st.set b .dead)[i]? = _; rw[List.getElem?_set_ne (λe=>hi e.symm)]
 have Jd:∀ i,i≠b->κ'.ph[i]? = κ.ph[i]? := λi hi=>by show(κ.ph.set b none)[i]? = _; rw[List.getElem?_set_ne (λe=>hi e.symm)]
 have SX:∀ (i blk m:Nat),κ'.ph[i]? = some (some (blk,m))->i≠b/\κ.ph[i]? = some (some (blk,m)):=by
  grind
 have hx:Ext κ κ':=by
  refine⟨rfl,rfl,rfl,Nat.le_refl _,λk hk=>⟨.inl hk,rfl⟩,?_,λi blk m hi=>.inl (SX i blk m hi).2,?_,?_,?_,by show _<=(κ.st.set b .dead).length; simp,λ_ _ _=>rfl⟩
  ·grind
  ·grind
  ·grind
  ·grind
 have hI':Inv κ':=by
  refine⟨by show(κ.ph.set b none).length=(κ.st.set b .dead).length; simp[hI.len],?_,?_,?_,?_,hI.gl.mono hx.same⟩
  ·rintro k (hk | ⟨m,hk⟩)
   ·exact hI.y4 k hk
   ·exact(hI.apart b k m hk).1
  ·intro i blk m hi
   obtain⟨hib,VT⟩:=SX i blk m hi
   obtain⟨g1,g2⟩:=hI.apart i blk m VT
   refine⟨g1,?_⟩
   rintro(hk | ⟨m',hk⟩)
   ·exact g2 hk
   ·exact hib (hI.inj i b blk m m' VT hk)
  ·intro i i' blk m m' hi VT
   exact hI.inj i i' blk m m' (SX i blk m hi).2 (SX i' blk m' VT).2
  ·intro i B hB
   by_cases hib:i=b
   ·subst hib
    have:(κ.st.set i .dead)[i]? = some B:=hB
    rw[List.getElem?_set_self qs]at this
    cases this
    trivial
   ·rw[xE i hib]at hB
    exact(hI.blk i B hB).mono hx (Jd i hib) λ_ _ _=>rfl
 exact⟨κ',rfl,rfl,hI',hx,λoff len v hd=>RD.ik rfl (z7y hI hd hb (λk hk=>.inl hk) λk m hk=>.inr ⟨m,hk⟩)⟩
theorem z0q{s:Nat}{fr:Fr}{a:Act}{r:Fr×St}(h:(z0f s fr κ.st).leads r)(hI:Inv κ)(hR:Rel κ n fr.get a):∃ κ':KS,κ'.w=κ.w/\κ'.st=r.2/\Inv κ'/\Ext κ κ'/\Rel κ' n r.1.get a:=by
 unfold z0f at h
 split at h
 ·rename_i b qw e off len hs
  split at h
  ·rename_i jv e' xs hb
   split at h
   ·rename_i ys hy
    obtain⟨he,hx⟩:=qj hy
    obtain⟨rfl,h⟩:=h
    cases h
    obtain⟨v,hv,hd⟩:=hR.get s _ hs
    obtain⟨κ',e1,e2,hI',hx,hk⟩:=I2 hb hI
    refine⟨κ',e1,e2,hI',hx,hR.size,hR.defers,λt d ke => ?_⟩
    simp only[Fr.get]at ke
    cases ht:Nat.beq s t with
    | true =>
     rw[<- Nat.eq_of_beq_eq_true ht]
     grind
    | false =>
     rw[ht,cond_false]at ke
     obtain⟨u,g1,g2⟩:=hR.get t d ke
     exact⟨u,g1,g2.mono hx⟩
   ·exact h.elim
  ·exact h.elim
 ·cases h; exact⟨κ,rfl,rfl,hI,Ext.refl κ,hR⟩
theorem Ii{ds:List D}{i b qw off len:Nat}{e:Ty}{d':D}(hd:ds[i]? = some (.ms b qw e off len))(hn:yR [d']=none){T:Nat}(h:yR (ds.set i d')=some T):yR ds=some T:=by
 cases ds with
 | nil=>cases hd
 | cons x r =>
  cases i with
  | zero =>
   have:yR (d'::r)=yR [d']:=by cases d'<;>rfl
   grind
  | succ i =>
   have:∀ r':List D,yR (x::r')=yR [x]:=by intro r'; cases x<;>rfl
   grind
theorem z11{j i:Nat}{fr:Fr}{a:Act}{r:Fr×St}(h:(z0k j i fr κ.st).leads r)(hI:Inv κ)(hR:Rel κ n fr.get a):∃ κ':KS,κ'.w=κ.w/\κ'.st=r.2/\Inv κ'/\Ext κ κ'/\Rel κ' n r.1.get a:=by
 unfold z0k at h
 split at h
 ·rename_i ds hj
  split at h
  ·rename_i b qw e off len hi
   split at h
   ·rename_i jv e' xs hb
    split at h
    ·rename_i ys hy
     obtain⟨he,hx⟩:=qj hy
     cases he
     cases hx
     obtain⟨rfl,h⟩:=h
     cases h
     obtain⟨κ1,e1,e2,Ze,hx1,hk⟩:=I2 hb hI
     have hjb:j≠b:=λq=>by subst q; rw[hb]at hj; cases hj
     have hj1:κ1.st[j]? = some (.var (.agg ds)):=by rw[e2,List.getElem?_set_ne (λq=>hjb q.symm)]; exact hj
     have Mh:j<κ1.st.length:=(List.getElem?_eq_some_iff.1 hj1).1
     let d':D:=.zD (.sl e) ((xs.take (off+len)).drop off)
     let κ2:KS:={ κ1 with st:=κ1.st.set j (.var (.agg (ds.set i d'))) }
     have xE:∀ k,k≠j->κ2.st[k]? = κ1.st[k]? := λk hk=>by show(κ1.st.set j _)[k]? = _; rw[List.getElem?_set_ne (λq=>hk q.symm)]
     have zcH:κ2.st[j]? = some (.var (.agg (ds.set i d'))):=by show(κ1.st.set j _)[j]? = _; rw[List.getElem?_set_self Mh]
     have Dx:Ext κ1 κ2:=by
      refine⟨rfl,rfl,rfl,Nat.le_refl _,λk hk=>⟨hk,rfl⟩,λk hk=>.inl hk,λk blk m hk=>.inl hk,?_,?_,?_,by show _<=(κ1.st.set j _).length; simp,λ_ _ _=>rfl⟩
      ·grind
      ·grind
      ·grind
     have hI2:Inv κ2:=by
      refine⟨by show κ1.ph.length=(κ1.st.set j _).length; simp[Ze.len],Ze.y4,Ze.apart,Ze.inj,?_,Ze.gl⟩
      intro k B hB
      by_cases q:k=j
      ·subst q
       rw[zcH]at hB
       cases hB
       obtain⟨blk,m,cs,t,g1,g2,g3,g4,g5,g6⟩:=hI.blk k _ hj
       obtain⟨fS,m',hM,t',p1,p2,p3,p4,p5,p6⟩:=Ze.blk k _ hj1
       have Jd:κ1.ph[k]? = κ.ph[k]? := (hx1.var k _ hj).2
       rw[Jd,g1]at p1
       cases p1
       rw[e1,g2]at p2
       cases p2
       refine⟨blk,m,cs,t,Jd.trans g1,by show κ1.w.heap[blk]? = _; rw[e1]; exact g2,g3,?_,?_,λT hT=>g6 T (Ii hi rfl hT)⟩
       ·have p4':qA κ2 ds cs.toList:=qA.mono Dx p4
        refine⟨by show(ds.set i d').length=_; rw[List.length_set]; exact p4'.1,λk' h1 h2 => ?_⟩
        have QS:k'<(ds.set i d').length:=h1
        rw[List.length_set]at QS
        show RD κ2 ((ds.set i d')[k']) _
        by_cases q:i=k'
        ·subst q
         have hdi:ds[i]'QS=.ms b qw e off len:=Option.some.inj ((List.getElem?_eq_getElem QS).symm.trans hi)
         have:=g4.2 i QS h2
         have YN:(qe (D.agg ds))[i]'QS=.ms b qw e off len:=hdi
         rw[YN]at this
         have e3:(ds.set i d')[i]'h1=d':=List.getElem_set_self _
         rw[e3]
         exact(hk _ _ _ this).mono Dx
        ·have e3:(ds.set i d')[k']'h1=ds[k']'QS:=List.getElem_set_ne q _
         rw[e3]
         exact p4'.2 k' QS h2
       ·intro x hx
        rcases List.mem_or_eq_of_mem_set hx with hx | rfl
        ·exact g5 x hx
        ·rfl
      ·rw[xE k q]at hB
       exact(Ze.blk k B hB).mono Dx rfl λ_ _ _=>rfl
     refine⟨κ2,e1,by show κ1.st.set j _=_; rw[e2],hI2,hx1.trans Dx,hR.size,hR.defers,λt d ke => ?_⟩
     obtain⟨u,q1,q2⟩:=hR.get t d ke
     exact⟨u,q1,(q2.mono hx1).mono Dx⟩
    ·exact h.elim
   ·exact h.elim
  ·cases h; exact⟨κ,rfl,rfl,hI,Ext.refl κ,hR⟩
 ·cases h; exact⟨κ,rfl,rfl,hI,Ext.refl κ,hR⟩
theorem Ss{s:Nat}{fr:Fr}{a:Act}{r:Fr×St}(h:(z0c s fr κ.st).leads r)(hI:Inv κ)(hR:Rel κ n fr.get a):∃ κ':KS,κ'.w=κ.w/\κ'.st=r.2/\Inv κ'/\Ext κ κ'/\Rel κ' n r.1.get a:=by
 unfold z0c at h
 cases hb:Nat.ble 1000000 s with
 | true=>rw[hb,cond_true]at h; exact z11 h hI hR
 | false=>rw[hb,cond_false]at h; exact z0q h hI hR
theorem Nt:∀ (l:List Nat) {fr:Fr} {κ:KS} {a:Act} {r:Fr×St},(RT l fr κ.st).leads r->Inv κ->Rel κ n fr.get a->∃ κ':KS,κ'.w=κ.w/\κ'.st=r.2/\Inv κ'/\Ext κ κ'/\Rel κ' n r.1.get a
 | [],fr,κ,a,r,h,hI,hR=>by cases h; exact⟨κ,rfl,rfl,hI,Ext.refl κ,hR⟩
 | s::l,fr,κ,a,r,h,hI,hR=>by
  simp only[RT,T.zy]at h
  obtain⟨x,h1,h2⟩:=h
  obtain⟨κ1,e1,e2,e3,e4,e5⟩:=Ss h1 hI hR
  rw[<- e2]at h2
  obtain⟨κ2,g1,g2,g3,g4,g5⟩:=Nt l h2 e3 e5
  exact⟨κ2,g1.trans e1,g2,g3,e4.trans g4,g5⟩
end
end Go.AM