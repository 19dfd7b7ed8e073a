/-
  The abstract machine, part C: texts of our own, the same for each claim.
-/
import Derived.Test.YtilkokbbfmkkbaaGreatDoorAmB
import Derived.Deep.LoopGhost
set_option linter.unusedVariables false
namespace Go.AM
set_option linter.unusedSectionVars false
variable [we]
abbrev F:=Nat->Option D
def zN(f:F):Operand->Option D
 | .tmp t=>f t
 | .const v=>pU v
 | .global _=>none
 | .func g=>bif Nat.blt g 1000000 then some (.zK g [])else none
theorem ko(fr:Fr):wZ fr=zN fr.get:=by rfl
def uO(f:F)(dst:Option Nat)(d:Option D):F:=match dst with
 | some t=>λs=>if s=t then d else f s
 | none=>f
theorem dJ{a b:Nat}(h:a≠b):Nat.beq a b=false:=by
 cases hb:Nat.beq a b with
 | false=>rfl
 | true=>exact absurd (Nat.eq_of_beq_eq_true hb) h
theorem dB(fr:Fr)(dst:Option Nat)(d:Option D):(fr.put dst d).get=uO fr.get dst d:=by
 cases dst with
 | none=>rfl
 | some t =>
  funext s
  simp only[Fr.put,Fr.get,uO]
  by_cases h:s=t
  ·subst h; simp
  ·rw[if_neg h,dJ (λe=>h e.symm),cond_false]
section
variable (c:Ctx) (n:Nat) (ops:Array Oper)
def qX(f:F)(o:Oper):Option Bool:=match o.guard with
 | none=>some true
 | some (j,w)=>match wQ ops j with
  | none=>none
  | some t=>match f t with
   | some (.zj .bool b)=>some (b==w)
   | some (.jC [])=>some false
   | _=>none
def jJ(i:Nat)(s s':F×St)(k:Nat):Prop:=∃ o,ops[i]? = some o/\wi n o.dst=true /\
 ((qX ops s.1 o=some true/\k=(zV c (zN s.1) o).kind/\∃ d zg,(zk (zV c (zN s.1) o) s.2).leads (d,zg)/\s'=(uO s.1 o.dst d,zg)) \/
  (qX ops s.1 o=some false/\k=0/\s'=(uO s.1 o.dst (some B3),s.2)))
def BU:List Nat->F×St->F×St->List Nat->Prop
 | [],s,s',ks=>s'=s/\ks=[]
 | i::l,s,s',ks=>∃ s1 k UQ,ks=k::UQ/\jJ c n ops i s s1 k/\BU l s1 s' UQ
end
section
variable {c:Ctx} {n:Nat} {ops:Array Oper}
def xX(kn:Kn)(f:F):Prop:=∀ t b,kn.get t=some b->f t=some (.zj .bool b)
theorem sx(t:Nat)(b:Option Bool)(kn:Kn)(s:Nat):Kn.get ((t,b)::kn) s=if s=t then b else kn.get s:=by
 simp only[Kn.get]
 by_cases h:s=t
 ·subst h; simp
 ·rw[if_neg h,dJ (λe=>h e.symm),cond_false]
theorem y7{kn:Kn}{f:F}(h:xX kn f){x:Operand}{b:Bool}(hx:gM kn x=some b):zN f x=some (.zj .bool b):=by
 unfold gM at hx
 split at hx
 ·exact h _ _ hx
 ·cases hx; rfl
 ·cases hx
theorem VT{kn:Kn}{fr:Fr}{o:Oper}(hk:xX kn fr.get){st:St}{r:Option D×St}(h:(zk (ew c kn fr o) st).leads r) :
  (zk (zV c (zN fr.get) o) st).leads r/\(ew c kn fr o).kind=(zV c (zN fr.get) o).kind/\∀ b,ZU kn o.op=some b->r.1=some (.zj .bool b):=by
 obtain⟨dst,op,ty,pos,after,guard⟩:=o
 rw[<- ko]
 cases op with
 | pick x a b =>
  simp only[ew]at h ⊢
  cases hx:gM kn x with
  | none =>
   rw[hx]at h
   refine⟨h,rfl,λb' hb => ?_⟩
   simp[ZU,hx]at hb
  | some bx =>
   rw[hx]at h
   have hval:=y7 hk hx
   rw[<- ko]at hval
   have z48:zV c (wZ fr) ⟨dst,.pick x a b,ty,pos,after,guard⟩=.val (.ite bx (.ret (wZ fr a)) (.ret (wZ fr b))):=by
    simp only[zV,Kl,hval,asBool]
   rw[z48]
   obtain⟨d,zg⟩:=r
   cases bx with
   | true =>
    simp only[xD,T.leads]at h ⊢
    refine⟨⟨.inl ⟨by first | rfl | trivial,h.1⟩,h.2⟩,rfl,λb' hb => ?_⟩
    simp only[ZU,hx]at hb
    have:=y7 hk hb
    rw[<- ko]at this
    grind
   | false =>
    simp only[xD,T.leads]at h ⊢
    refine⟨⟨.inr ⟨by first | rfl | trivial,h.1⟩,h.2⟩,rfl,λb' hb => ?_⟩
    simp only[ZU,hx]at hb
    have:=y7 hk hb
    rw[<- ko]at this
    grind
 | move x =>
  refine⟨h,rfl,λb hb => ?_⟩
  obtain⟨d,zg⟩:=r
  simp only[ew,zV,xD,T.leads]at h
  have:=y7 hk (show gM kn x=some b from hb)
  rw[<- ko]at this
  grind
 | assign x =>
  refine⟨h,rfl,λb hb => ?_⟩
  obtain⟨d,zg⟩:=r
  simp only[ew,zV,xD,T.leads]at h
  have:=y7 hk (show gM kn x=some b from hb)
  rw[<- ko]at this
  grind
 | _=>exact⟨h,rfl,λb hb=>by simp[ZU]at hb⟩
theorem GN{kn:Kn}{f:F}(hk:xX kn f){dst:Option Nat}{d:Option D}{b:Option Bool}(hb:∀ b',b=some b'->d=some (.zj .bool b')):xX (ZS kn dst b) (uO f dst d):=by
 cases dst with
 | none=>exact hk
 | some t =>
  intro s b' h
  simp only[ZS,sx]at h
  simp only[uO]
  split at h
  ·grind
  ·rename_i e; rw[if_neg e]; exact hk s b' h
theorem iQ{kn:Kn}{f:F}(hk:xX kn f){t:Nat}{b:Bool}(hb:f t=some (.zj .bool b)):xX ((t,some b)::kn) f:=by
 intro s b' h
 rw[sx]at h
 split at h
 ·grind
 ·exact hk s b' h
theorem tA{o:Oper}{s s':gG}(hk:xX s.kn s.fr.get)(h:(kH c n o s).leads s') :
  wi n o.dst=true/\(∃ d zg,(zk (zV c (zN s.fr.get) o) s.st).leads (d,zg)/\s'.fr.get=uO s.fr.get o.dst d/\s'.st=zg)/\xX s'.kn s'.fr.get/\s'.ks=(zV c (zN s.fr.get) o).kind::s.ks:=by
 unfold kH at h
 cases hd:wi n o.dst with
 | false=>rw[hd]at h; exact h.elim
 | true =>
  rw[hd,cond_true]at h
  simp only[T.zq]at h
  obtain⟨⟨d,zg⟩,h1,rfl⟩:=h
  obtain⟨h2,h3,h4⟩:=VT hk h1
  refine⟨rfl,⟨d,zg,h2,dB _ _ _,rfl⟩,?_,by grind⟩
  rw[dB]
  exact GN hk h4
theorem YK{o:Oper}{s:gG}(hk:xX s.kn s.fr.get):xX (vT o s).kn (vT o s).fr.get:=by
 show xX (ZS s.kn o.dst none) (s.fr.put o.dst (some B3)).get
 rw[dB]
 exact GN hk nofun
theorem X6{i:Nat}{o:Oper}{s s':gG}(ho:ops[i]? = some o)(hk:xX s.kn s.fr.get)(h:(stepG c n ops o s).leads s') :
  ∃ k,jJ c n ops i (s.fr.get,s.st) (s'.fr.get,s'.st) k/\xX s'.kn s'.fr.get/\s'.ks=k::s.ks:=by
 have run:∀ (s0:gG),s0.fr=s.fr->s0.st=s.st->s0.ks=s.ks->xX s0.kn s0.fr.get->qX ops s.fr.get o=some true->(kH c n o s0).leads s' ->
   ∃ k,jJ c n ops i (s.fr.get,s.st) (s'.fr.get,s'.st) k/\xX s'.kn s'.fr.get/\s'.ks=k::s.ks:=by
  intro s0 e1 e2 e3 WY hw h
  obtain⟨h1,⟨d,zg,h2,h3,h4⟩,h5,h6⟩:=tA WY h
  rw[e1]at h2 h3 h6
  rw[e2]at h2
  rw[e3]at h6
  exact⟨_,⟨o,ho,h1,.inl ⟨hw,rfl,d,zg,h2,by rw[h3,h4]⟩⟩,h5,h6⟩
 have skip:∀ (s0:gG),s0.fr=s.fr->s0.st=s.st->s0.ks=s.ks->xX s0.kn s0.fr.get->qX ops s.fr.get o=some false->wi n o.dst=true->vT o s0=s' ->
   ∃ k,jJ c n ops i (s.fr.get,s.st) (s'.fr.get,s'.st) k/\xX s'.kn s'.fr.get/\s'.ks=k::s.ks:=by
  intro s0 e1 e2 e3 WY hw hd h
  subst h
  refine⟨0,⟨o,ho,hd,.inr ⟨hw,rfl,?_⟩⟩,YK WY,by simp[vT,e3]⟩
  simp only[vT,dB,e1,e2]
 unfold stepG at h
 split at h
 ·rename_i hg
  exact run s rfl rfl rfl hk (by simp[qX,hg]) h
 ·rename_i j w hg
  split at h
  ·exact h.elim
  ·rename_i t ht
   split at h
   ·rename_i b hb
    have hf:=hk t b hb
    have hw:qX ops s.fr.get o=some (b==w):=by simp[qX,hg,ht,hf]
    cases MD:(b==w)with
    | true=>grind
    | false =>
     rw[MD,cond_false]at h
     cases hd:wi n o.dst with
     | false=>rw[hd]at h; exact h.elim
     | true=>rw[hd,cond_true]at h; exact skip s rfl rfl rfl hk (by rw[hw,MD]) hd h
   ·split at h
    ·rename_i x hx
     have hw:qX ops s.fr.get o=some (x==w):=by simp[qX,hg,ht,hx]
     cases hd:wi n o.dst with
     | false=>rw[hd]at h; exact h.elim
     | true =>
      rw[hd,cond_true]at h
      rcases h with⟨rfl,h⟩ | ⟨rfl,h⟩
      ·have WK:xX (s.kM t true).kn (s.kM t true).fr.get:=iQ hk hx
       cases w with
       | true=>exact run (s.kM t true) rfl rfl rfl WK hw h
       | false=>exact skip (s.kM t true) rfl rfl rfl WK hw hd h
      ·have WK:xX (s.kM t false).kn (s.kM t false).fr.get:=iQ hk hx
       cases w with
       | true=>exact skip (s.kM t false) rfl rfl rfl WK hw hd h
       | false=>exact run (s.kM t false) rfl rfl rfl WK hw h
    ·rename_i hx
     have hw:qX ops s.fr.get o=some false:=by simp[qX,hg,ht,hx]
     cases hd:wi n o.dst with
     | false=>rw[hd]at h; exact h.elim
     | true=>rw[hd,cond_true]at h; exact skip s rfl rfl rfl hk hw hd h
    ·exact h.elim
theorem bh:∀ (l:List Oper) (k0:Nat) (s s':gG),(∀ j,l[j]? = ops[k0+j]? \/ l.length<=j)->xX s.kn s.fr.get->(cg c n ops l s).leads s' ->
  ∃ ks,BU c n ops (List.range' k0 l.length) (s.fr.get,s.st) (s'.fr.get,s'.st) ks/\xX s'.kn s'.fr.get/\s'.ks=ks.reverse++s.ks
 | [],k0,s,s',_,hk,h=>by cases h; exact⟨[],⟨rfl,rfl⟩,hk,rfl⟩
 | o::l,k0,s,s',hl,hk,h=>by
  simp only[cg,T.zq]at h
  obtain⟨s1,h1,h2⟩:=h
  have ho:ops[k0]? = some o:=by rcases hl 0 with h | h<;>simp at h; exact h.symm
  obtain⟨k,g1,g2,g3⟩:=X6 ho hk h1
  obtain⟨ks,g4,g5,g6⟩:=bh l (k0+1) s1 s' (λj=>by have:=hl (j+1); simpa[Nat.add_assoc,Nat.add_comm 1 j]using this) g2 h2
  refine⟨k::ks,?_,g5,by grind⟩
  exact⟨_,k,ks,rfl,g1,g4⟩
end
end Go.AM
namespace Go.AM
set_option linter.unusedSectionVars false
variable [we]
section
variable {c:Ctx} {n:Nat} {ops:Array Oper}
theorem ig{α:Type}{ρ ρ':α->Option D}(L:List (Nat×α))(h:∀ p∈L,ρ p.2=ρ' p.2):(L.map λp=>(p.1,ρ p.2))=L.map λp=>(p.1,ρ' p.2) :=
 List.map_congr_left λp hp=>by rw[h p hp]
theorem mw{ρ ρ':Operand->Option D}(o:Oper)(h:∀ x∈o.op.operands,ρ x=ρ' x):zV c ρ o=zV c ρ' o:=by
 obtain⟨dst,op,ty,pos,after,guard⟩:=o
 cases op with
 | move x=>simp only[zV]; rw[h x (by simp[Op.operands])]
 | assign x=>simp only[zV]; rw[h x (by simp[Op.operands])]
 | pick x a b=>simp only[zV]; rw[h x (by simp[Op.operands]),h a (by simp[Op.operands]),h b (by simp[Op.operands])]
 | box t x=>simp only[zV]; rw[h x (by simp[Op.operands])]
 | load t x=>simp only[zV]; rw[h x (by simp[Op.operands])]
 | store t x y=>simp only[zV]; rw[h x (by simp[Op.operands]),h y (by simp[Op.operands])]
 | nilCheck x=>simp only[zV]; rw[h x (by simp[Op.operands])]
 | binOp op t x y _=>simp only[zV]; rw[h x (by simp[Op.operands]),h y (by simp[Op.operands])]
 | typeAssert x xt t ok=>simp only[zV]; rw[h x (by simp[Op.operands])]
 | unOp op t x=>simp only[zV]; rw[h x (by simp[Op.operands])]
 | convert s t x=>simp only[zV]; rw[h x (by simp[Op.operands])]
 | makeInterface t x=>simp only[zV]; rw[h x (by simp[Op.operands])]
 | makeFunc fn first cap =>
  cases fn<;>simp only[zV]
  rw[List.map_congr_left (l:=cap.toList) (λx hx=>h x (by simp[Op.operands,Array.mem_toList_iff.1 hx])),List.map_congr_left (l:=first.toList) (λx hx=>h x (by simp[Op.operands,Array.mem_toList_iff.1 hx]))]
 | makeSlice t x y=>simp only[zV]; rw[h x (by simp[Op.operands]),h y (by simp[Op.operands])]
 | slice t x lo hi mx =>
  simp only[zV]
  have ho:∀ o:Option Operand,(∀ y,o=some y->ρ y=ρ' y)->o.map ρ=o.map ρ':=λo ho=>by
   cases o with
   | none=>rfl
   | some y=>grind
  rw[h x (by simp[Op.operands]),ho lo (λy hy=>h y (by simp[Op.operands,hy])),ho hi (λy hy=>h y (by simp[Op.operands,hy])),ho mx (λy hy=>h y (by simp[Op.operands,hy]))]
 | fieldAddr s x f=>simp only[zV]; rw[h x (by simp[Op.operands])]
 | field s x f=>simp only[zV]; rw[h x (by simp[Op.operands])]
 | indexAddr t x y=>simp only[zV]; rw[h x (by simp[Op.operands]),h y (by simp[Op.operands])]
 | lookup t x y _=>simp only[zV]; rw[h x (by simp[Op.operands]),h y (by simp[Op.operands])]
 | mapUpdate t x y z=>simp only[zV]; rw[h x (by simp[Op.operands]),h y (by simp[Op.operands]),h z (by simp[Op.operands])]
 | index t x y=>simp only[zV]; rw[h x (by simp[Op.operands]),h y (by simp[Op.operands])]
 | extract x i=>simp only[zV]; rw[h x (by simp[Op.operands])]
 | build t ps=>simp only[zV]; rw[ig ps.toList λp hp=>h p.2 (by simp[Op.operands]; exact⟨p.1,Array.mem_toList_iff.1 hp⟩)]
 | buildSlice t k ps=>simp only[zV]; rw[ig ps.toList λp hp=>h p.2 (by simp[Op.operands]; exact⟨p.1,Array.mem_toList_iff.1 hp⟩)]
 | call cl =>
  obtain⟨callee,args,cy⟩:=cl
  have kS:args.toList.map ρ=args.toList.map ρ':=List.map_congr_left λx hx=>h x (by simp[Op.operands,Call.operands,Array.mem_toList_iff.1 hx])
  cases callee with
  | builtin b=>simp only[zV]; rw[kS]
  | value f=>simp only[zV]; rw[kS,h f (by simp[Op.operands,Call.operands])]
  | invoke r m=>rfl
 | _=>rfl
theorem Xv{f:F}{dst:Option Nat}{d:Option D}{x:Operand}(h:∀ t,dst=some t->x≠.tmp t):zN (uO f dst d) x=zN f x:=by
 cases dst with
 | none=>rfl
 | some t=>cases x with
  | tmp s=>simp only[zN,uO]; rw[if_neg (λe=>h t rfl (by rw[e]))]
  | _=>rfl
theorem jX(f:F){a b:Option Nat}(d e:Option D)(h:∀ t,a=some t->b≠some t):uO (uO f a d) b e=uO (uO f b e) a d:=by
 cases a with
 | none=>rfl
 | some s=>cases b with
  | none=>rfl
  | some t =>
   simp only[uO]
   grind
def Ox(ops:Array Oper)(kd:Nat->Nat)(p i:Nat):Prop:=∀ x y,ops[p]? = some x->ops[i]? = some y ->
 (∀ d,x.dst=some d->d ∉ tmpsOf ops y)/\(∀ d,y.dst=some d->d ∉ tmpsOf ops x)/\ve (kd p) (kd i)=false
theorem uN{o:Oper}{d:Nat}(h:o.dst=some d):d∈tmpsOf ops o:=by simp[tmpsOf,h]
theorem ff{o:Oper}{d:Nat}(h:Operand.tmp d∈o.op.operands):d∈tmpsOf ops o:=by
 simp only[tmpsOf,List.mem_append,List.mem_filterMap]
 exact .inr ⟨.tmp d,by grind,rfl⟩
theorem eK{o:Oper}{j:Nat}{w:Bool}{d:Nat}(h:o.guard=some (j,w))(hg:wQ ops j=some d):d∈tmpsOf ops o:=by
 simp[tmpsOf,h,hg]
theorem qW{f:F}{o:Oper}{dst:Option Nat}{d:Option D}(h:∀ t,dst=some t->t ∉ tmpsOf ops o):qX ops (uO f dst d) o=qX ops f o:=by
 unfold qX
 cases hg:o.guard with
 | none=>rfl
 | some jw =>
  obtain⟨j,w⟩:=jw
  simp only
  cases hs:wQ ops j with
  | none=>rfl
  | some t =>
   simp only
   have:uO f dst d t=f t:=by
    cases dst with
    | none=>rfl
    | some s=>simp only[uO]; rw[if_neg]; intro e; exact h s rfl (e▸eK hg hs)
   rw[this]
theorem uD{f:F}{o:Oper}{dst:Option Nat}{d:Option D}(h:∀ t,dst=some t->t ∉ tmpsOf ops o):zV c (zN (uO f dst d)) o=zV c (zN f) o :=
 mw o λx hx=>Xv λt ht e=>h t ht (ff (ops:=ops) (e▸hx))
theorem bU{cl:j5}(h:cl.kind=0){st zg:St}{d:Option D}(hl:(zk cl st).leads (d,zg)):zg=st/\∀ wq,(zk cl wq).leads (d,wq):=by
 cases cl with
 | val t=>rw[xD]at hl; exact⟨hl.2,λwq=>by rw[xD]; exact⟨hl.1,rfl⟩⟩
 | rd k=>cases h
 | wr k=>cases h
theorem yz{cl:j5}(h:cl.kind<=1){st zg:St}{d:Option D}(hl:(zk cl st).leads (d,zg)):zg=st:=by
 cases cl with
 | val t=>rw[xD]at hl; exact hl.2
 | rd k=>rw[gQ]at hl; exact hl.2
 | wr k=>simp[j5.kind]at h
theorem n7(cl:j5):cl.kind<=2:=by cases cl<;>simp[j5.kind]
theorem QI{kd:Nat->Nat}{p i:Nat}(hi:Ox ops kd p i){s s1 s2:F×St}(h1:jJ c n ops p s s1 (kd p))(h2:jJ c n ops i s1 s2 (kd i)) :
  ∃ s',jJ c n ops i s s' (kd i)/\jJ c n ops p s' s2 (kd p):=by
 obtain⟨x,hx,LF,CQ⟩:=h1
 obtain⟨y,hy,Nw,Lh⟩:=h2
 obtain⟨a1,a2,a3⟩:=hi x y hx hy
 have M5:∀ t,x.dst=some t->y.dst≠some t:=λt ht e=>a1 t ht (uN e)
 obtain⟨f,st⟩:=s
 rcases CQ with⟨hw,hk,d,uJ,hl,rfl⟩ | ⟨hw,hk,rfl⟩
 ·rcases Lh with⟨ru,yO,e,wq,ly,rfl⟩ | ⟨ru,yO,rfl⟩
  ·simp only[qW a1,uD (c:=c) a1]at ru yO ly
   simp only at hw hk hl
   -- the two meet nowhere in the store
   have key:(zk (zV c (zN f) y) st).leads (e,(if(zV c (zN f) y).kind=2 then wq else st))/\(zk (zV c (zN f) x) (if(zV c (zN f) y).kind=2 then wq else st)).leads (d,wq):=by
    rw[hk,yO]at a3
    rcases Nat.lt_or_ge (zV c (zN f) y).kind 2 with Ih | Ih
    ·rw[if_neg (by omega)]
     have e2:=yz (by omega) ly
     subst e2
     rcases Nat.lt_or_ge (zV c (zN f) x).kind 2 with BC | BC
     ·have e1:=yz (by omega) hl
      grind
     ·have hx3:(zV c (zN f) x).kind=2:=Nat.le_antisymm (n7 _) BC
      have Sq:(zV c (zN f) y).kind=0:=by
       rw[hx3]at a3
       cases Sq:(zV c (zN f) y).kind with
       | zero=>rfl
       | succ m=>rw[Sq]at a3; simp[ve]at a3
      exact⟨(bU Sq ly).2 st,hl⟩
    ·have Rt:(zV c (zN f) y).kind=2:=Nat.le_antisymm (n7 _) Ih
     rw[if_pos Rt]
     have WW:(zV c (zN f) x).kind=0:=by
      rw[Rt]at a3
      cases WW:(zV c (zN f) x).kind with
      | zero=>rfl
      | succ m=>rw[WW]at a3; simp[ve]at a3
     obtain⟨e1,h3⟩:=bU WW hl
     grind
   refine⟨_,⟨y,hy,Nw,.inl ⟨ru,yO,e,_,key.1,rfl⟩⟩,x,hx,LF,.inl ⟨?_,?_,d,wq,?_,?_⟩⟩
   ·rw[qW a2]; exact hw
   ·rw[uD (c:=c) a2]; exact hk
   ·rw[uD (c:=c) a2]; exact key.2
   ·simp only[jX f d e M5]
  ·simp only[qW a1]at ru
   refine⟨_,⟨y,hy,Nw,.inr ⟨ru,yO,rfl⟩⟩,x,hx,LF,.inl ⟨?_,?_,d,uJ,?_,?_⟩⟩
   ·rw[qW a2]; exact hw
   ·rw[uD (c:=c) a2]; exact hk
   ·rw[uD (c:=c) a2]; exact hl
   ·simp only[jX f d (some B3) M5]
 ·rcases Lh with⟨ru,yO,e,wq,ly,rfl⟩ | ⟨ru,yO,rfl⟩
  ·simp only[qW a1,uD (c:=c) a1]at ru yO ly
   refine⟨_,⟨y,hy,Nw,.inl ⟨ru,yO,e,wq,ly,rfl⟩⟩,x,hx,LF,.inr ⟨?_,hk,?_⟩⟩
   ·rw[qW a2]; exact hw
   ·simp only[jX f (some B3) e M5]
  ·simp only[qW a1]at ru
   refine⟨_,⟨y,hy,Nw,.inr ⟨ru,yO,rfl⟩⟩,x,hx,LF,.inr ⟨?_,hk,?_⟩⟩
   ·rw[qW a2]; exact hw
   ·simp only[jX f (some B3) (some B3) M5]
def dW(c:Ctx)(n:Nat)(ops:Array Oper)(kd:Nat->Nat):List Nat->F×St->F×St->Prop
 | [],s,s'=>s'=s
 | i::l,s,s'=>∃ s1,jJ c n ops i s s1 (kd i)/\dW c n ops kd l s1 s'
theorem tb{kd:Nat->Nat}{i:Nat}{post:List Nat}{s':F×St}:∀ {pre:List Nat} {s:F×St},(∀ p∈pre,Ox ops kd p i)->dW c n ops kd (pre++i::post) s s' ->
  ∃ s1,jJ c n ops i s s1 (kd i)/\dW c n ops kd (pre++post) s1 s'
 | [],s,_,h=>h
 | p::pre,s,hp,⟨sp,h1,h2⟩=>by
  obtain⟨s1,h3,h4⟩:=tb (λq hq=>hp q (List.mem_cons_of_mem _ hq)) h2
  obtain⟨s2,h5,h6⟩:=QI (hp p List.mem_cons_self) h1 h3
  exact⟨s2,h5,s1,h6,h4⟩
end
end Go.AM
namespace Go.AM
set_option linter.unusedSectionVars false
variable [we]
section
variable (c:Ctx) (n:Nat) (ops:Array Oper)
def yL(i:Nat)(s s':F×St)(k:RK):Prop:=∃ o,ops[i]? = some o/\wi n o.dst=true /\
 ((qX ops s.1 o=some true/\k=qe c (zN s.1) s.2 o/\∃ d zg,(zk (zV c (zN s.1) o) s.2).leads (d,zg)/\s'=(uO s.1 o.dst d,zg)) \/
  (qX ops s.1 o=some false/\k=.z 0/\s'=(uO s.1 o.dst (some B3),s.2)))
def GC:List Nat->F×St->F×St->List RK->Prop
 | [],s,s',ks=>s'=s/\ks=[]
 | i::l,s,s',ks=>∃ s1 k UQ,ks=k::UQ/\yL c n ops i s s1 k/\GC l s1 s' UQ
end
section
variable {c:Ctx} {n:Nat} {ops:Array Oper}
theorem yL.plain{i:Nat}{s s':F×St}{k:RK}(h:yL c n ops i s s' k):∃ k',jJ c n ops i s s' k':=by
 obtain⟨o,h1,h2,h3⟩:=h
 rcases h3 with⟨g1,_,g3⟩ | ⟨g1,_,g3⟩
 ·exact⟨_,o,h1,h2,.inl ⟨g1,rfl,g3⟩⟩
 ·exact⟨_,o,h1,h2,.inr ⟨g1,rfl,g3⟩⟩
theorem Kt{i:Nat}{o:Oper}{s s':gG}(ho:ops[i]? = some o)(hk:xX s.kn s.fr.get)(h:(stepG c n ops o s).leads s') :
  ∃ k,yL c n ops i (s.fr.get,s.st) (s'.fr.get,s'.st) k/\xX s'.kn s'.fr.get/\s'.bk=k::s.bk:=by
 have bkS:∀ {s0:gG},(kH c n o s0).leads s'->s'.bk=qe c (wZ s0.fr) s0.st o::s0.bk:=by
  intro s0 h
  unfold kH at h
  cases hd:wi n o.dst with
  | false=>rw[hd]at h; exact h.elim
  | true =>
   rw[hd,cond_true]at h
   simp only[T.zq]at h
   obtain⟨⟨d,zg⟩,h1,rfl⟩:=h
   rfl
 have run:∀ (s0:gG),s0.fr=s.fr->s0.st=s.st->s0.bk=s.bk->xX s0.kn s0.fr.get->qX ops s.fr.get o=some true->(kH c n o s0).leads s' ->
   ∃ k,yL c n ops i (s.fr.get,s.st) (s'.fr.get,s'.st) k/\xX s'.kn s'.fr.get/\s'.bk=k::s.bk:=by
  intro s0 e1 e2 e3 WY hw h
  obtain⟨h1,⟨d,zg,h2,h3,h4⟩,h5,h6⟩:=tA WY h
  have hb:=bkS h
  rw[e1]at h2 h3 hb
  rw[e2]at h2 hb
  rw[e3]at hb
  rw[ko]at hb
  exact⟨_,⟨o,ho,h1,.inl ⟨hw,rfl,d,zg,h2,by rw[h3,h4]⟩⟩,h5,hb⟩
 have skip:∀ (s0:gG),s0.fr=s.fr->s0.st=s.st->s0.bk=s.bk->xX s0.kn s0.fr.get->qX ops s.fr.get o=some false->wi n o.dst=true->vT o s0=s' ->
   ∃ k,yL c n ops i (s.fr.get,s.st) (s'.fr.get,s'.st) k/\xX s'.kn s'.fr.get/\s'.bk=k::s.bk:=by
  intro s0 e1 e2 e3 WY hw hd h
  subst h
  refine⟨.z 0,⟨o,ho,hd,.inr ⟨hw,rfl,?_⟩⟩,YK WY,by simp[vT,e3]⟩
  simp only[vT,dB,e1,e2]
 unfold stepG at h
 split at h
 ·rename_i hg
  exact run s rfl rfl rfl hk (by simp[qX,hg]) h
 ·rename_i j w hg
  split at h
  ·exact h.elim
  ·rename_i t ht
   split at h
   ·rename_i b hb
    have hf:=hk t b hb
    have hw:qX ops s.fr.get o=some (b==w):=by simp[qX,hg,ht,hf]
    cases MD:(b==w)with
    | true=>grind
    | false =>
     rw[MD,cond_false]at h
     cases hd:wi n o.dst with
     | false=>rw[hd]at h; exact h.elim
     | true=>rw[hd,cond_true]at h; exact skip s rfl rfl rfl hk (by rw[hw,MD]) hd h
   ·split at h
    ·rename_i x hx
     have hw:qX ops s.fr.get o=some (x==w):=by simp[qX,hg,ht,hx]
     cases hd:wi n o.dst with
     | false=>rw[hd]at h; exact h.elim
     | true =>
      rw[hd,cond_true]at h
      rcases h with⟨rfl,h⟩ | ⟨rfl,h⟩
      ·have WK:xX (s.kM t true).kn (s.kM t true).fr.get:=iQ hk hx
       cases w with
       | true=>exact run (s.kM t true) rfl rfl rfl WK hw h
       | false=>exact skip (s.kM t true) rfl rfl rfl WK hw hd h
      ·have WK:xX (s.kM t false).kn (s.kM t false).fr.get:=iQ hk hx
       cases w with
       | true=>exact skip (s.kM t false) rfl rfl rfl WK hw hd h
       | false=>exact run (s.kM t false) rfl rfl rfl WK hw h
    ·rename_i hx
     have hw:qX ops s.fr.get o=some false:=by simp[qX,hg,ht,hx]
     cases hd:wi n o.dst with
     | false=>rw[hd]at h; exact h.elim
     | true=>rw[hd,cond_true]at h; exact skip s rfl rfl rfl hk hw hd h
    ·exact h.elim
theorem pM:∀ (l:List Oper) (k0:Nat) (s s':gG),(∀ j,l[j]? = ops[k0+j]? \/ l.length<=j)->xX s.kn s.fr.get->(cg c n ops l s).leads s' ->
  ∃ ks,GC c n ops (List.range' k0 l.length) (s.fr.get,s.st) (s'.fr.get,s'.st) ks/\s'.bk=ks.reverse++s.bk
 | [],k0,s,s',_,hk,h=>by cases h; exact⟨[],⟨rfl,rfl⟩,rfl⟩
 | o::l,k0,s,s',hl,hk,h=>by
  simp only[cg,T.zq]at h
  obtain⟨s1,h1,h2⟩:=h
  have ho:ops[k0]? = some o:=by rcases hl 0 with h | h<;>simp at h; exact h.symm
  obtain⟨k,g1,g2,g3⟩:=Kt ho hk h1
  obtain⟨ks,g4,g6⟩:=pM l (k0+1) s1 s' (λj=>by have:=hl (j+1); simpa[Nat.add_assoc,Nat.add_comm 1 j]using this) g2 h2
  refine⟨k::ks,?_,by grind⟩
  exact⟨_,k,ks,rfl,g1,g4⟩
theorem JV{m b:Nat}{l:List Nat}:b∈others m l↔b<m/\∀ x∈l,b≠x:=by
 simp only[others]
 simp
theorem XZ{d:Option D}{b:Nat}(h:PL d=some b):(∃ off,d=some (.ptr b off))\/∃ v e i off,d=some (.wB b v e i off):=by
 cases d with
 | none=>cases h
 | some d=>cases d<;>first | (cases h; exact .inl ⟨_,rfl⟩) | (cases h; exact .inr ⟨_,_,_,_,rfl⟩) | cases h
theorem bg{bi:Builtin}{l:List (Option D)}:YA bi l=.z 2\/∃ b v e off len x,bi=.append/\l=[some (.ms b v e off len),some x]/\QB x=false/\YA bi l=.up b:=by
 unfold YA
 grind
theorem Zi(ρ:Operand->Option D)(st:St)(o:Oper):(qe c ρ st o).base=(zV c ρ o).kind:=by
 unfold qe
 split
 ·rename_i h
  rw[h]
  cases o.op with
  | load t a=>simp only; split<;>rfl
  | _=>rfl
 ·rename_i h
  rw[h]
  cases o.op with
  | call cl =>
   cases hc:cl.callee with
   | builtin bi =>
    simp only[hc]
    rcases bg (bi:=bi) (l:=cl.args.toList.map ρ)with e | ⟨b,v,e,off,len,x,_,_,_,e⟩<;>rw[e]<;>rfl
   | value f=>simp only[hc]; split<;>first | rfl | (split<;>rfl)
   | _=>simp only[hc]; rfl
  | store t a v=>simp only; split<;>rfl
  | _=>rfl
 ·rfl
theorem pJ{ρ:Operand->Option D}{o:Oper}(h:(zV c ρ o).kind<=1)(st zg:St):qe c ρ st o=qe c ρ zg o:=by
 unfold qe
 grind
theorem yE{ρ:Operand->Option D}{st:St}{o:Oper}{b:Nat}(h:qe c ρ st o=.rd b){uJ wq Q8:St}{d:Option D}(hl:(zk (zV c ρ o) uJ).leads (d,Q8))(hb:wq[b]? = uJ[b]?):(zk (zV c ρ o) wq).leads (d,wq):=by
 obtain⟨dst,op,ty,pos,after,guard⟩:=o
 cases op with
 | load t a =>
  have h':(∃ off,ρ a=some (.ptr b off))\/∃ v e i off,ρ a=some (.wB b v e i off):=by
   unfold qe at h
   simp only at h
   split at h
   ·split at h
    ·rename_i b' ha; cases h; exact XZ ha
    ·cases h
   ·cases h
   ·cases h
  have he:zV c ρ ⟨dst,.load t a,ty,pos,after,guard⟩=mj c t (ρ a):=rfl
  rcases h' with⟨off,ha⟩ | ⟨v,e,i,off,ha⟩
  all_goals
   rw[he,ha]at hl ⊢
   simp only[mj]at hl ⊢
   rw[gQ]at hl ⊢
   grind
 | call cl =>
  obtain⟨callee,args,cy⟩:=cl
  unfold qe at h
  split at h
  ·cases h
  ·cases callee with
   | builtin bi =>
    simp only at h
    rcases bg (bi:=bi) (l:=args.toList.map ρ)with e | ⟨b,v,e,off,len,x,_,_,_,e⟩<;>rw[e]at h<;>cases h
   | value f=>grind
   | _=>cases h
  ·cases h
 | _ =>
  unfold qe at h
  grind
theorem Vh{ρ:Operand->Option D}{st:St}{o:Oper}{A:List Nat}(h:qe c ρ st o=.wr A){zg:St}{d:Option D}(hl:(zk (zV c ρ o) st).leads (d,zg)):∀ b∈A,zg[b]? = st[b]? := by
 obtain⟨dst,op,ty,pos,after,guard⟩:=o
 cases op with
 | alloc t =>
  exfalso
  unfold qe at h
  grind
 | store t a v =>
  exfalso
  unfold qe at h
  grind
 | call cl =>
  obtain⟨callee,args,cy⟩:=cl
  cases callee with
  | value f =>
   have h':(zV c ρ ⟨dst,.call ⟨.value f,args,cy⟩,ty,pos,after,guard⟩).kind=2/\∃ g caps l,ρ f=some (.zK g caps)/\wD (args.toList.map ρ)=some l/\A=c.free (jc g) (v8 g l caps) st:=by
    unfold qe at h
    grind
   obtain⟨hk,g,caps,l,hg,Kz,rfl⟩:=h'
   intro b hb
   have he:zV c ρ ⟨dst,.call ⟨.value f,args,cy⟩,ty,pos,after,guard⟩=jE c (ρ f) (args.toList.map ρ):=rfl
   rw[he,hg]at hl hk
   simp only[jE,Kz]at hl hk
   split at hl
   ·rename_i s hs
    rw[hs]at hk
    simp only[jt]at hk
    cases hn:(!(v8 g l caps).any oj)<;>rw[hn]at hk<;>simp[j5.kind]at hk
   ·simp only[c7,zk,T.zq]at hl
    obtain⟨⟨rs,uJ⟩,h1,h2⟩:=hl
    cases rs with
    | ret ds=>cases h2; exact c.E7 _ _ _ _ _ b h1 hb
    | wN p=>exact h2.elim
  | builtin bi =>
   exfalso
   unfold qe at h
   simp only at h
   split at h
   ·cases h
   ·rcases bg (bi:=bi) (l:=args.toList.map ρ)with e | ⟨b,v,e,off,len,x,_,_,_,e⟩<;>rw[e]at h<;>cases h
   ·cases h
  | invoke r m =>
   exfalso
   unfold qe at h
   simp only at h
   split at h<;>cases h
 | _ =>
  exfalso
  unfold qe at h
  simp only at h
  split at h
  ·first
    | cases h
    | (split at h<;>cases h)
  ·cases h
  ·cases h
theorem Z3{ρ:Operand->Option D}{st:St}{o:Oper}{A:List Nat}(h:qe c ρ st o=.al A){zg:St}{d:Option D}(hl:(zk (zV c ρ o) st).leads (d,zg)) :
  (∀ b∈A,zg[b]? = st[b]?)/\A=others st.length []/\∃ z,zg=st++[.var z]/\d=some (.ptr st.length 0)/\∀ wq:St,(zk (zV c ρ o) wq).leads (some (.ptr wq.length 0),wq++[.var z])/\qe c ρ wq o=.al (others wq.length []):=by
 obtain⟨dst,op,ty,pos,after,guard⟩:=o
 cases op with
 | alloc t =>
  have h2:(zV c ρ ⟨dst,.alloc t,ty,pos,after,guard⟩).kind=2/\A=others st.length []:=by
   unfold qe at h
   grind
  obtain⟨hk,rfl⟩:=h2
  have hl:(zk (gE c t) st).leads (d,zg):=hl
  unfold gE at hl
  split at hl
  ·rename_i z hz
   have hl:(some (D.ptr st.length 0),st++[vX.var z])=(d,zg):=hl
   cases hl
   refine⟨λb hb => ?_,rfl,z,rfl,rfl,λwq=>⟨?_,?_⟩⟩
   ·obtain⟨hb,_⟩:=JV.1 hb
    exact List.getElem?_append_left hb
   ·show(zk (gE c t) wq).leads _
    unfold gE
    rw[hz]
    rfl
   ·unfold qe
    simp only[hk]
  ·exact absurd hl z7
 | call cl =>
  exfalso
  obtain⟨callee,args,cy⟩:=cl
  unfold qe at h
  cases callee with
  | builtin bi =>
   simp only at h
   split at h
   ·cases h
   ·rcases bg (bi:=bi) (l:=args.toList.map ρ)with e | ⟨b,v,e,off,len,x,_,_,_,e⟩<;>rw[e]at h<;>cases h
   ·cases h
  | value f=>grind
  | invoke r m=>grind
 | _ =>
  exfalso
  unfold qe at h
  grind
theorem sw{ρ:Operand->Option D}{st:St}{o:Oper}{U:List Nat}(h:qe c ρ st o=.wc U){zg:St}{d:Option D}(hl:(zk (zV c ρ o) st).leads (d,zg)) :
  zg.length=st.length/\(∀ b,b<st.length->b ∉ U->zg[b]? = st[b]?)/\(∀ x,(zk (zV c ρ o) (st++[x])).leads (d,zg++[x]))/\∀ wq,qe c ρ wq o=.wc U:=by
 obtain⟨dst,op,ty,pos,after,guard⟩:=o
 cases op with
 | call cl =>
  obtain⟨callee,args,cy⟩:=cl
  cases callee with
  | value f =>
   have h':(zV c ρ ⟨dst,.call ⟨.value f,args,cy⟩,ty,pos,after,guard⟩).kind=2/\∃ g caps l,ρ f=some (.zK g caps)/\wD (args.toList.map ρ)=some l/\c.ec (jc g) (v8 g l caps)=some U:=by
    unfold qe at h
    grind
   obtain⟨hk,g,caps,l,hg,Kz,hU⟩:=h'
   have yO:=hk
   have he:zV c ρ ⟨dst,.call ⟨.value f,args,cy⟩,ty,pos,after,guard⟩=jE c (ρ f) (args.toList.map ρ):=rfl
   rw[he,hg]at hl hk
   simp only[jE,Kz]at hl hk
   split at hl
   ·rename_i s hs
    rw[hs]at hk
    simp only[jt]at hk
    cases hn:(!(v8 g l caps).any oj)<;>rw[hn]at hk<;>simp[j5.kind]at hk
   ·rename_i hs
    simp only[c7,zk,T.zq]at hl
    obtain⟨⟨rs,uJ⟩,h1,h2⟩:=hl
    cases rs with
    | wN p=>exact h2.elim
    | ret ds =>
     cases h2
     obtain⟨q1,q2,q3⟩:=c.GA _ _ _ _ _ _ hU h1
     refine⟨q1,q2,λx => ?_,λwq => ?_⟩
     ·rw[he,hg]
      simp only[jE,Kz,hs]
      simp only[c7,zk,T.zq]
      exact⟨_,q3 x,rfl⟩
     ·unfold qe
      rw[yO]
      simp only[hg,Kz,hU]
  | builtin bi =>
   exfalso
   unfold qe at h
   simp only at h
   split at h
   ·cases h
   ·rcases bg (bi:=bi) (l:=args.toList.map ρ)with e | ⟨b,v,e,off,len,x,_,_,_,e⟩<;>rw[e]at h<;>cases h
   ·cases h
  | invoke r m =>
   exfalso
   unfold qe at h
   grind
 | _ =>
  exfalso
  unfold qe at h
  grind
theorem Zc{ρ:Operand->Option D}{st:St}{o:Oper}{b:Nat}(h:qe c ρ st o=.rd b){uJ Q8:St}{d:Option D}(hl:(zk (zV c ρ o) uJ).leads (d,Q8)):b<uJ.length:=by
 rcases Nat.lt_or_ge b uJ.length with g | g
 ·exact g
 ·exfalso
  have hn:uJ[b]? = none:=List.getElem?_eq_none g
  obtain⟨dst,op,ty,pos,after,guard⟩:=o
  cases op with
  | load t a =>
   have h':(∃ off,ρ a=some (.ptr b off))\/∃ v e i off,ρ a=some (.wB b v e i off):=by
    unfold qe at h
    simp only at h
    split at h
    ·split at h
     ·rename_i b' ha; cases h; exact XZ ha
     ·cases h
    ·cases h
    ·cases h
   have he:zV c ρ ⟨dst,.load t a,ty,pos,after,guard⟩=mj c t (ρ a):=rfl
   rcases h' with⟨off,ha⟩ | ⟨v,e,i,off,ha⟩
   all_goals
    rw[he,ha]at hl
    simp only[mj]at hl
    rw[gQ]at hl
    simp only[hn]at hl
    exact hl.1.elim
  | call cl =>
   obtain⟨callee,args,cy⟩:=cl
   unfold qe at h
   split at h
   ·cases h
   ·cases callee with
    | builtin bi =>
     simp only at h
     rcases bg (bi:=bi) (l:=args.toList.map ρ)with e | ⟨b,v,e,off,len,x,_,_,_,e⟩<;>rw[e]at h<;>cases h
    | value f=>grind
    | _=>cases h
   ·cases h
  | _ =>
   unfold qe at h
   grind
theorem nJ{ρ:Operand->Option D}{st:St}{o:Oper}{b:Nat}(h:qe c ρ st o=.up b){uJ Q8:St}{d:Option D}(hl:(zk (zV c ρ o) uJ).leads (d,Q8)) :
  ∃ y,Q8=uJ.set b y/\∀ wq:St,wq[b]? = uJ[b]? -> (zk (zV c ρ o) wq).leads (d,wq.set b y):=by
 obtain⟨dst,op,ty,pos,after,guard⟩:=o
 cases op with
 | store t a v =>
  have h':(∃ off,ρ a=some (.ptr b off))\/∃ v e i off,ρ a=some (.wB b v e i off):=by
   unfold qe at h
   simp only at h
   split at h
   ·cases h
   ·split at h
    ·rename_i b ha; cases h; exact XZ ha
    ·cases h
   ·cases h
  have he:zV c ρ ⟨dst,.store t a v,ty,pos,after,guard⟩=se c t (ρ a) (ρ v):=rfl
  rw[he]at hl ⊢
  cases hv:ρ v with
  | none =>
   rw[hv]at hl
   rcases h' with⟨off,ha⟩ | ⟨w,e,i,off,ha⟩<;>(rw[ha]at hl; exact absurd hl z7)
  | some x =>
   rw[hv]at hl
   rcases h' with⟨off,ha⟩ | ⟨w,e,i,off,ha⟩
   ·rw[ha]at hl ⊢
    have hl:(match uJ[b]? with
     | some (.var d)=>match ZT c t d off x with | some r=>bif dE d r then T.ret ((none:Option D),uJ.set b (.var r))else .fail | none=>.fail
     | _=>.fail:T (Option D×St)).leads (d,Q8):=hl
    split at hl
    ·rename_i d0 hb
     split at hl
     ·rename_i r hr
      cases ho:dE d0 r with
      | false=>rw[ho]at hl; exact hl.elim
      | true =>
       rw[ho]at hl
       cases hl
       refine⟨.var r,rfl,λwq h2 => ?_⟩
       show(match wq[b]? with
        | some (.var d)=>match ZT c t d off x with | some r=>bif dE d r then T.ret ((none:Option D),wq.set b (.var r))else .fail | none=>.fail
        | _=>.fail:T (Option D×St)).leads _
       rw[h2,hb]
       simp only[hr,ho,cond_true]
       rfl
     ·exact hl.elim
    ·exact hl.elim
   ·rw[ha]at hl ⊢
    have hl:(match uJ[b]? with
     | some (.arr uF e' xs)=>bif decide (e'=e)then
       .zb (w=uF/\i<xs.length) (match ZT c t (.zj e' (xs.getD i (zd e'))) off x with
        | some r=>match gF e' r with | some y=>T.ret ((none:Option D),uJ.set b (.arr uF e' (xs.set i y))) | none=>.fail
        | none=>.fail)
      else .fail
     | _=>.fail:T (Option D×St)).leads (d,Q8):=hl
    split at hl
    ·rename_i uF e' xs hb
     cases hd:decide (e'=e)with
     | false=>rw[hd]at hl; exact hl.elim
     | true =>
      rw[hd,cond_true]at hl
      obtain⟨ho,hl⟩:=hl
      split at hl
      ·rename_i r hr
       split at hl
       ·rename_i y hy
        cases hl
        refine⟨.arr uF e' (xs.set i y),rfl,λwq h2 => ?_⟩
        show(match wq[b]? with
         | some (.arr uF e' xs)=>bif decide (e'=e)then
           .zb (w=uF/\i<xs.length) (match ZT c t (.zj e' (xs.getD i (zd e'))) off x with
            | some r=>match gF e' r with | some y=>T.ret ((none:Option D),wq.set b (.arr uF e' (xs.set i y))) | none=>.fail
            | none=>.fail)
          else .fail
         | _=>.fail:T (Option D×St)).leads _
        rw[h2,hb]
        simp only[hd,cond_true,hr,hy]
        exact⟨ho,rfl⟩
       ·exact hl.elim
      ·exact hl.elim
    ·exact hl.elim
 | call cl =>
  obtain⟨callee,args,cy⟩:=cl
  cases callee with
  | builtin bi =>
   have h':bi=.append/\∃ v e off len x,args.toList.map ρ=[some (.ms b v e off len),some x]/\QB x=false:=by
    unfold qe at h
    simp only at h
    split at h
    ·cases h
    ·rcases bg (bi:=bi) (l:=args.toList.map ρ)with e | ⟨b',v,e,off,len,x,h1,h2,h3,e'⟩
     ·grind
     ·rw[e']at h; cases h; exact⟨h1,v,e,off,len,x,h2,h3⟩
    ·cases h
   obtain⟨rfl,v,e,off,len,x,hx,hm⟩:=h'
   have he:zV c ρ ⟨dst,.call ⟨.builtin .append,args,cy⟩,ty,pos,after,guard⟩=cL c .append cy.toList (args.toList.map ρ):=rfl
   rw[he,hx]at hl ⊢
   -- what the row gets
   have one:∀ {e':Ty} {ys:List (den e')} {ne:Bool} {lV:Nat},(uv e' (.ms b v e off len) ys ne lV uJ).leads (d,Q8)->∃ y,Q8=uJ.set b y/\∀ wq:St,wq[b]? = uJ[b]? -> (uv e' (.ms b v e off len) ys ne lV wq).leads (d,wq.set b y):=by
    intro e' ys ne lV hl
    simp only[uv]at hl
    split at hl
    ·rename_i uF e'' xs hb
     split at hl
     ·rename_i zs hz
      cases hd:decide (e=e')with
      | false=>rw[hd]at hl; exact hl.elim
      | true =>
       rw[hd,cond_true]at hl
       obtain⟨ho,hl⟩:=hl
       cases hl
       refine⟨_,rfl,λwq h2 => ?_⟩
       simp only[uv]
       rw[h2,hb]
       simp only[hz,hd,cond_true]
       exact⟨ho,rfl⟩
     ·exact hl.elim
    ·exact hl.elim
   have snp:∀ wq,ef wq x=.ret x:=λwq=>by cases x<;>first | rfl | cases hm
   generalize cy.toList=tl at hl ⊢
   rcases tl with _ | ⟨t,_ | ⟨t',_ | ⟨t'',tl⟩⟩⟩
   ·exact absurd hl z7
   ·exact absurd hl z7
   rotate_left
   ·exact absurd hl z7
   ·
    simp only[cL]at hl ⊢
    cases ht:Nat.beq t t' with
    | true =>
     rw[ht,cond_true]at hl
     simp only[cond_true]
     unfold mS at hl ⊢
     cases het:b9 c t with
     | none=>rw[het]at hl; exact absurd hl z7
     | some et =>
      rw[het]at hl
      simp only at hl ⊢
      cases h1:ZW c 20 et with
      | none=>rw[h1]at hl; exact absurd hl z7
      | some ee =>
       rw[h1]at hl
       try simp only at hl ⊢
       cases h2:cv c et with
       | none=>rw[h2]at hl; exact absurd hl z7
       | some bytes =>
        rw[h2]at hl
        simp only at hl ⊢
        cases hc:vU c et ee&&Nat.blt 0 ee.size&&Nat.blt 0 bytes&&(zeroOf c et ee).isSome with
        | false=>rw[hc]at hl; exact absurd hl z7
        | true =>
         rw[hc,cond_true]at hl
         simp only[cond_true,zk,snp,T.bind]at hl ⊢
         cases x<;>simp only at hl ⊢ <;> first | exact hl.elim | exact one hl | skip
         ·split at hl
          ·exact one hl
          ·exact hl.elim
         ·split at hl
          ·exact one hl
          ·exact hl.elim
    | false =>
     rw[ht,cond_false]at hl
     simp only[cond_false]
     unfold l7 at hl ⊢
     cases het:b9 c t with
     | none=>rw[het]at hl; exact absurd hl z7
     | some et =>
      rw[het]at hl
      simp only at hl ⊢
      split at hl
      ·rename_i bytes h1 h2 h3
       cases hc:vU c et (.int .u8)&&Nat.blt 0 bytes&&(zeroOf c et (.int .u8)).isSome with
       | false=>rw[hc]at hl; exact absurd hl z7
       | true =>
        rw[hc,cond_true]at hl
        simp only[cond_true]
        split at hl
        ·rename_i s l e1 e2
         cases e1
         cases e2
         simp only[zk]at hl ⊢
         exact one hl
        ·exact absurd hl z7
      ·exact absurd hl z7
  | _ =>
   exfalso
   unfold qe at h
   simp only at h
   split at h
   ·cases h
   ·first | cases h | (split at h<;>first | cases h | (split at h<;>cases h))
   ·cases h
 | _ =>
  exfalso
  unfold qe at h
  simp only at h
  split at h
  ·first
    | cases h
    | (split at h<;>cases h)
  ·cases h
  ·cases h
theorem QJ:∀ (l:List Nat) (s s':F×St) (ks:List RK),GC c n ops l s s' ks->ks.length=l.length
 | [],_,_,_,h=>by rw[h.2]; rfl
 | i::l,s,s',ks,⟨s1,k,UQ,e,h1,h2⟩=>by subst e; simp[QJ l s1 s' UQ h2]
theorem fS{ρ:Operand->Option D}{st:St}{o:Oper}{b:Nat}(h:qe c ρ st o=.up b)(zg:St):qe c ρ zg o=.up b:=by
 obtain⟨dst,op,ty,pos,after,guard⟩:=o
 cases op with
 | alloc t =>
  unfold qe at h
  grind
 | call cl =>
  obtain⟨callee,args,cy⟩:=cl
  cases callee with
  | value f =>
   unfold qe at h
   grind
  | builtin bi=>cases bi<;>exact h
  | _=>exact h
 | _=>exact h
def OR(ops:Array Oper)(kd:Nat->RK)(p i:Nat):Prop:=∀ x y,ops[p]? = some x->ops[i]? = some y ->
 (∀ d,x.dst=some d->d ∉ tmpsOf ops y)/\(∀ d,y.dst=some d->d ∉ tmpsOf ops x)/\w7 (kd p) (kd i)=false
theorem iX{f:F}{o:Oper}{dst:Option Nat}{d:Option D}{st:St}(h:∀ t,dst=some t->t ∉ tmpsOf ops o):qe c (zN (uO f dst d)) st o=qe c (zN f) st o:=by
 have e1:zV c (zN (uO f dst d)) o=zV c (zN f) o:=uD h
 have e2:∀ x∈o.op.operands,zN (uO f dst d) x=zN f x:=λx hx=>Xv λt ht e=>h t ht (ff (ops:=ops) (e▸hx))
 obtain⟨dd,op,ty,pos,after,guard⟩:=o
 unfold qe
 rw[e1]
 cases op with
 | load t a=>simp only[e2 a (by simp[Op.operands])]
 | store t a v=>simp only[e2 a (by simp[Op.operands])]
 | call cl =>
  obtain⟨callee,args,cy⟩:=cl
  cases callee with
  | value g =>
   have kS:args.toList.map (zN (uO f dst d))=args.toList.map (zN f):=List.map_congr_left λx hx=>e2 x (by simp[Op.operands,Call.operands,Array.mem_toList_iff.1 hx])
   simp only[kS,e2 g (by simp[Op.operands,Call.operands])]
  | builtin bi =>
   have kS:args.toList.map (zN (uO f dst d))=args.toList.map (zN f):=List.map_congr_left λx hx=>e2 x (by simp[Op.operands,Call.operands,Array.mem_toList_iff.1 hx])
   grind
  | _=>rfl
 | _=>rfl
theorem JO{kd:Nat->RK}{p i:Nat}(hi:OR ops kd p i){s s1 s2:F×St}(h1:yL c n ops p s s1 (kd p))(h2:yL c n ops i s1 s2 (kd i)) :
  ∃ s',yL c n ops i s s' (kd i)/\yL c n ops p s' s2 (kd p):=by
 obtain⟨x,hx,LF,CQ⟩:=h1
 obtain⟨y,hy,Nw,Lh⟩:=h2
 obtain⟨a1,a2,a3⟩:=hi x y hx hy
 have M5:∀ t,x.dst=some t->y.dst≠some t:=λt ht e=>a1 t ht (uN e)
 obtain⟨f,st⟩:=s
 rcases CQ with⟨hw,hk,d,uJ,hl,rfl⟩ | ⟨hw,hk,rfl⟩
 ·rcases Lh with⟨ru,yO,e,wq,ly,rfl⟩ | ⟨ru,yO,rfl⟩
  ·simp only[qW a1,uD (c:=c) a1,iX (c:=c) a1]at ru yO ly
   simp only at hw hk hl
   -- the two meet nowhere in the store
   have key:∃ zg,(zk (zV c (zN f) y) st).leads (e,zg)/\(zk (zV c (zN f) x) zg).leads (d,wq)/\qe c (zN f) st y=kd i/\qe c (zN f) zg x=kd p:=by
    have bx:=Zi (c:=c) (zN f) st x
    have lV:=Zi (c:=c) (zN f) uJ y
    rw[<- hk]at bx
    rw[<- yO]at lV
    rcases Nat.lt_or_ge (zV c (zN f) x).kind 2 with BC | BC
    ·-- x writes nothing
     have e1:=yz (by omega) hl
     subst e1
     refine⟨wq,ly,?_,yO.symm,(pJ (by omega) wq uJ).trans hk.symm⟩
     rcases Nat.lt_or_ge (zV c (zN f) y).kind 2 with Ih | Ih
     ·have e2:=yz (by omega) ly
      grind
     ·have Rt:(zV c (zN f) y).kind=2:=Nat.le_antisymm (n7 _) Ih
      cases hp:kd p with
      | rd b =>
       cases hq:kd i with
       | wr A =>
        rw[hp,hq]at a3
        simp only[w7,Bool.not_eq_false',List.any_eq_true]at a3
        obtain⟨b',ZH,Jm⟩:=a3
        have:=Nat.eq_of_beq_eq_true Jm
        subst this
        exact yE (by rw[<- hk]; exact hp) hl (Vh (by rw[<- yO]; exact hq) ly b ZH)
       | al A =>
        rw[hp,hq]at a3
        simp only[w7,Bool.not_eq_false',List.any_eq_true]at a3
        obtain⟨b',ZH,Jm⟩:=a3
        have:=Nat.eq_of_beq_eq_true Jm
        subst this
        exact yE (by rw[<- hk]; exact hp) hl ((Z3 (by rw[<- yO]; exact hq) ly).1 b ZH)
       | wc U =>
        rw[hp,hq]at a3
        have hbu:b ∉ U:=λhm=>by
         simp only[w7,List.any_eq_false]at a3
         exact a3 b hm (Nat.beq_refl b)
        exact yE (by rw[<- hk]; exact hp) hl ((sw (by rw[<- yO]; exact hq) ly).2.1 b (Zc (by rw[<- hk]; exact hp) hl) hbu)
       | rd b'=>rw[hq]at lV; simp[RK.base]at lV; omega
       | z k=>rw[hp,hq]at a3; rw[hq,Rt]at lV; simp only[RK.base]at lV; subst lV; simp[w7,ve,RK.base]at a3
       | up a =>
        rw[hp,hq]at a3
        have Pu:a≠b:=λe=>by subst e; simp[w7]at a3
        obtain⟨z,e1,_⟩:=nJ (by rw[<- yO]; exact hq) ly
        subst e1
        exact yE (by rw[<- hk]; exact hp) hl (by rw[List.getElem?_set_ne Pu])
      | wr A=>rw[hp]at bx; simp[RK.base]at bx; omega
      | al A=>rw[hp]at bx; simp[RK.base]at bx; omega
      | wc A=>rw[hp]at bx; simp[RK.base]at bx; omega
      | up A=>rw[hp]at bx; simp[RK.base]at bx; omega
      | z k =>
       rw[hp]at bx
       simp only[RK.base]at bx
       have WY:k=0:=by
        cases hq:kd i with
        | wr A =>
         rw[hp,hq]at a3
         simp only[w7,RK.base,ve]at a3
         cases k with
         | zero=>rfl
         | succ m=>simp at a3
        | al A =>
         rw[hp,hq]at a3
         simp only[w7,RK.base,ve]at a3
         cases k with
         | zero=>rfl
         | succ m=>simp at a3
        | wc A =>
         rw[hp,hq]at a3
         simp only[w7,RK.base,ve]at a3
         cases k with
         | zero=>rfl
         | succ m=>simp at a3
        | rd b'=>rw[hq]at lV; simp[RK.base]at lV; omega
        | z k' =>
         rw[hq,Rt]at lV
         simp only[RK.base]at lV
         subst lV
         rw[hp,hq]at a3
         simp only[w7,RK.base,ve]at a3
         cases k with
         | zero=>rfl
         | succ m=>simp at a3
        | up A =>
         rw[hp,hq]at a3
         simp only[w7,RK.base,ve]at a3
         cases k with
         | zero=>rfl
         | succ m=>simp at a3
       subst WY
       exact(bU bx.symm hl).2 wq
    ·have hx3:(zV c (zN f) x).kind=2:=Nat.le_antisymm (n7 _) BC
     -- x writes
     rcases Nat.lt_or_ge (zV c (zN f) y).kind 2 with Ih | Ih
     ·have e2:=yz (by omega) ly
      subst e2
      refine⟨st,?_,hl,(pJ (by omega) st wq).trans yO.symm,hk.symm⟩
      cases hq:kd i with
      | wr A=>rw[hq]at lV; simp[RK.base]at lV; omega
      | al A=>rw[hq]at lV; simp[RK.base]at lV; omega
      | wc A=>rw[hq]at lV; simp[RK.base]at lV; omega
      | up A=>rw[hq]at lV; simp[RK.base]at lV; omega
      | rd b =>
       cases hp:kd p with
       | wr A =>
        rw[hp,hq]at a3
        simp only[w7,Bool.not_eq_false',List.any_eq_true]at a3
        obtain⟨b',ZH,Jm⟩:=a3
        have:=Nat.eq_of_beq_eq_true Jm
        subst this
        exact yE (st:=wq) (by rw[<- yO]; exact hq) ly (Vh (by rw[<- hk]; exact hp) hl b ZH).symm
       | al A =>
        rw[hp,hq]at a3
        simp only[w7,Bool.not_eq_false',List.any_eq_true]at a3
        obtain⟨b',ZH,Jm⟩:=a3
        have:=Nat.eq_of_beq_eq_true Jm
        subst this
        exact yE (st:=wq) (by rw[<- yO]; exact hq) ly ((Z3 (by rw[<- hk]; exact hp) hl).1 b ZH).symm
       | wc U =>
        rw[hp,hq]at a3
        have hbu:b ∉ U:=λhm=>by
         simp only[w7,List.any_eq_false]at a3
         exact a3 b hm (Nat.beq_refl b)
        obtain⟨q1,q2,_⟩:=sw (by rw[<- hk]; exact hp) hl
        have qc:=Zc (by rw[<- yO]; exact hq) ly
        exact yE (st:=wq) (by rw[<- yO]; exact hq) ly (q2 b (by omega) hbu).symm
       | up a =>
        rw[hp,hq]at a3
        have Pu:a≠b:=λe=>by subst e; simp[w7]at a3
        obtain⟨z,e1,_⟩:=nJ (by rw[<- hk]; exact hp) hl
        subst e1
        exact yE (st:=st.set a z) (by rw[<- yO]; exact hq) ly (by rw[List.getElem?_set_ne Pu])
       | rd b'=>rw[hp]at bx; simp[RK.base]at bx; omega
       | z k=>rw[hp]at bx; simp only[RK.base]at bx; rw[hx3]at bx; subst bx; rw[hp,hq]at a3; simp[w7,RK.base,ve]at a3
      | z k =>
       rw[hq]at lV
       simp only[RK.base]at lV
       have WY:k=0:=by
        have a4:w7 (kd p) (.z k)=false:=by rw[hq]at a3; exact a3
        have a5:ve 2 k=false:=by
         cases hp:kd p with
         | wr A=>rw[hp]at a4; exact a4
         | al A=>rw[hp]at a4; exact a4
         | wc A=>rw[hp]at a4; exact a4
         | up A=>rw[hp]at a4; exact a4
         | rd b'=>rw[hp]at bx; simp[RK.base]at bx; omega
         | z k'=>rw[hp]at bx a4; simp only[RK.base]at bx; rw[hx3]at bx; subst bx; exact a4
        cases k with
        | zero=>rfl
        | succ m=>simp[ve]at a5
       subst WY
       exact(bU lV.symm ly).2 st
     ·have Rt:(zV c (zN f) y).kind=2:=Nat.le_antisymm (n7 _) Ih
      -- both write: one block each
      have Sj:(∃ a b,kd p=.up a/\kd i=.up b/\a≠b)\/∃ U A,kd p=.wc U/\kd i=.al A:=by
       rw[hx3]at bx
       rw[Rt]at lV
       cases hp:kd p<;>cases hq:kd i<;>rw[hp,hq]at a3<;>rw[hp]at bx<;>rw[hq]at lV<;>simp only[RK.base]at bx lV <;>
        first
         | exact .inr ⟨_,_,rfl,rfl⟩
         | exact .inl ⟨_,_,rfl,rfl,λe=>by subst e; simp[w7]at a3⟩
         | (exfalso; omega)
         | (exfalso; subst bx; simp[w7,RK.base,ve]at a3; done)
         | (exfalso; subst lV; simp[w7,RK.base,ve]at a3; done)
         | (exfalso; simp[w7,RK.base,ve]at a3; done)
         | (exfalso; subst bx lV; simp[w7,RK.base,ve]at a3; done)
      rcases Sj with Sj | ⟨U,A,hp,hq⟩
      rotate_left
      ·obtain⟨q1,q2,q3,q4⟩:=sw (by rw[<- hk]; exact hp) hl
       obtain⟨_,r2,z,r3,r4,r5⟩:=Z3 (by rw[<- yO]; exact hq) ly
       subst r3 r4
       refine⟨st++[.var z],?_,q3 _,?_,(q4 _).trans hp.symm⟩
       ·rw[q1]; exact(r5 st).1
       ·rw[(r5 st).2,hq,r2,q1]
      obtain⟨a,b,hp,hq,Pu⟩:=Sj
      obtain⟨z1,e1,w1⟩:=nJ (by rw[<- hk]; exact hp) hl
      subst e1
      obtain⟨z2,e2,w2⟩:=nJ (by rw[<- yO]; exact hq) ly
      subst e2
      refine⟨st.set b z2,w2 st (by rw[List.getElem?_set_ne Pu]),?_,(fS (by rw[<- yO]; exact hq) st).trans hq.symm,(fS (by rw[<- hk]; exact hp) _).trans hp.symm⟩
      rw[List.set_comm _ _ Pu]
      exact w1 (st.set b z2) (by rw[List.getElem?_set_ne (λe=>Pu e.symm)])
   obtain⟨zg,k1,k2,k3,k4⟩:=key
   refine⟨_,⟨y,hy,Nw,.inl ⟨ru,k3.symm,e,_,k1,rfl⟩⟩,x,hx,LF,.inl ⟨?_,?_,d,wq,?_,?_⟩⟩
   ·rw[qW a2]; exact hw
   ·rw[iX (c:=c) a2]; exact k4.symm
   ·rw[uD (c:=c) a2]; exact k2
   ·simp only[jX f d e M5]
  ·simp only[qW a1]at ru
   refine⟨_,⟨y,hy,Nw,.inr ⟨ru,yO,rfl⟩⟩,x,hx,LF,.inl ⟨?_,?_,d,uJ,?_,?_⟩⟩
   ·rw[qW a2]; exact hw
   ·rw[iX (c:=c) a2]; exact hk
   ·rw[uD (c:=c) a2]; exact hl
   ·simp only[jX f d (some B3) M5]
 ·rcases Lh with⟨ru,yO,e,wq,ly,rfl⟩ | ⟨ru,yO,rfl⟩
  ·simp only[qW a1,uD (c:=c) a1,iX (c:=c) a1]at ru yO ly
   refine⟨_,⟨y,hy,Nw,.inl ⟨ru,yO,e,wq,ly,rfl⟩⟩,x,hx,LF,.inr ⟨?_,hk,?_⟩⟩
   ·rw[qW a2]; exact hw
   ·simp only[jX f (some B3) e M5]
  ·simp only[qW a1]at ru
   refine⟨_,⟨y,hy,Nw,.inr ⟨ru,yO,rfl⟩⟩,x,hx,LF,.inr ⟨?_,hk,?_⟩⟩
   ·rw[qW a2]; exact hw
   ·simp only[jX f (some B3) (some B3) M5]
end
end Go.AM
namespace Go.AM
set_option linter.unusedSectionVars false
variable [we]
class X0 where
 df:List Deferred
instance sK:X0:=⟨[]⟩
variable [X0]
structure Rel(κ:KS)(n:Nat)(f:F)(a:Act):Prop where
 size:a.tmps.size=n
 defers:a.defers=X0.df
 get:∀ (s:Nat) (d:D),f s=some d->∃ v,a.tmps[s]? = some v/\RD κ d v
section
variable {c:Ctx} {κ:KS} {n:Nat} {f:F} {a:Act}
theorem Rel.eval(h:Rel κ n f a){x:Operand}{d:D}(hx:zN f x=some d):RD κ d (a.eval x):=by
 cases x with
 | tmp t =>
  obtain⟨v,h1,h2⟩:=h.get t d hx
  simp only[Act.eval,Array.getD_eq_getD_getElem?,h1]
  exact h2
 | const v=>exact(tg hx).1
 | global g=>cases hx
 | func g =>
  have hx:(bif Nat.blt g 1000000 then some (D.zK g [])else none)=some d:=hx
  cases hb:Nat.blt g 1000000 with
  | false=>grind
  | true =>
   rw[hb]at hx
   cases hx
   have:=RD.zK (κ:=κ) g [] [] rfl (λi h=>absurd h (Nat.not_lt_zero i))
   rwa [Wu hb]at this
theorem Rel.mono{κ':KS}(x:Ext κ κ')(h:Rel κ n f a):Rel κ' n f a:=⟨h.size,h.defers,λs d hd=>by obtain⟨v,h1,h2⟩:=h.get s d hd; exact⟨v,h1,h2.mono x⟩⟩
theorem Rel.put{dst:Option Nat}{d:Option D}{v:Value}(h:Rel κ n f a)(hd:wi n dst=true)(hv:∀ d',d=some d'->RD κ d' v):Rel κ n (uO f dst d) (a.put dst v):=by
 cases dst with
 | none=>exact h
 | some t =>
  have qc:t<n:=Nat.le_of_ble_eq_true hd
  refine⟨by simp[Act.put,h.size],h.defers,λs d' hs => ?_⟩
  simp only[uO]at hs
  simp only[Act.put]
  by_cases e:s=t
  ·subst e
   rw[if_pos rfl]at hs
   exact⟨v,by simp[h.size,qc],hv d' hs⟩
  ·rw[if_neg e]at hs
   obtain⟨u,h1,h2⟩:=h.get s d' hs
   grind
theorem Cb{v:Value}:RD κ B3 undef:=.jC [] [] rfl (λi h=>absurd h (Nat.not_lt_zero i))
theorem MN{o:Oper}{d:Option D}{zg:St}(h:zL c.P (execOp a.eval o) κ d zg){K:Act->World->Prop}{Q:Exit->Act->World->Prop}
  (hK:∀ (v:Value) (κ':KS),κ'.st=zg->Inv κ'->Ext κ κ'->(∀ d',d=some d'->RD κ' d' v)->K (a.put o.dst v) κ'.w):o.wp c.P a κ.w K Q:=by
 obtain⟨κ',nx,v,h1,h2,h3,h4,h5,h6⟩:=h
 unfold Oper.wp
 rw[h1]
 rcases h2 with rfl | ⟨rfl,rfl⟩
 ·exact hK v κ' h3 h4 h5 h6
 ·exact hK undef κ' h3 h4 h5 h6
theorem Kh(h:Rel κ n f a)(x:Option Operand):pA κ (x.map (zN f)) (x.map a.eval):=by
 cases x with
 | none=>trivial
 | some x=>exact λy hy=>h.eval hy
theorem Wz(hI:Inv κ)(hR:Rel κ n f a){b:Builtin}{args:Array Operand}{cy:Array TypeId}{o:Oper}(ho:o.op=.call ⟨.builtin b,args,cy⟩){d:Option D}{zg:St}
  (h:(zk (cL c b cy.toList (args.toList.map (zN f))) κ.st).leads (d,zg)):zL c.P (execOp a.eval o) κ d zg:=by
 have two:∀ {g:Value->Value->Sem Value} {m:Int->Int->Int},(∀ k k' a b,(g (.int k a) (.int k' b)).run c.P κ.w=.ok (.int k (m a b)) κ.w)->(zk (Ze m (args.toList.map (zN f))) κ.st).leads (d,zg) ->
   (∀ p q,args = #[p,q]->execOp a.eval o=(do Pure.pure (.value (<- g (a.eval p) (a.eval q))):Sem Next))->zL c.P (execOp a.eval o) κ d zg:=by
  intro g m hg h he
  match hl:args.toList,h with
  | [p,q],h =>
   have Ix:args = #[p,q]:=by rw[<- Array.toArray_toList (xs:=args),hl]
   rw[he p q Ix]
   obtain⟨r,h1,rfl,h3⟩:=Je hg hI (λz hz=>hR.eval (x:=p) hz) (λz hz=>hR.eval (x:=q) hz) h
   exact⟨κ,.value r,r,by simp[h1],.inl rfl,rfl,hI,Ext.refl κ,h3⟩
  | [],h=>exact absurd h z7
  | [_],h=>exact absurd h z7
  | _::_::_::_,h=>exact absurd h z7
 unfold cL at h
 split at h
 ·rename_i t ts x xs h1 h2
  have ht:cy[0]? = some t:=by rw[<- Array.getElem?_toList,h1]; rfl
  obtain⟨y,hy,rfl⟩:∃ y,args[0]? = some y/\x=zN f y:=by
   cases hl:args.toList with
   | nil=>grind
   | cons y ys=>rw[hl]at h2; simp at h2; exact⟨y,by rw[<- Array.getElem?_toList,hl]; rfl,h2.1.symm⟩
  have:=LI (c:=c) (ty:=o.type) (ts:=cy) (vs:=args.map a.eval) hI (λz hz=>hR.eval (x:=y) hz) ht (by simp[hy]) h
  simp only[execOp,ho,resolve,invoke,builtin,pure_bind]
  exact this
 ·rename_i t t' s x h1 h2
  obtain⟨p,q,rfl,rfl,Ix⟩:∃ p q,s=zN f p/\x=zN f q/\args = #[p,q]:=by
   cases hl:args.toList with
   | nil=>grind
   | cons p r=>rw[hl]at h2; cases r with
    | nil=>simp at h2
    | cons q r=>cases r with
     | nil=>grind
     | cons _ _=>simp at h2
  subst Ix
  cases hb:Nat.beq t t' with
  | false =>
   rw[hb,cond_false]at h
   have D9:cy = #[t,t']:=by rw[<- Array.toArray_toList (xs:=cy),h1]
   subst D9
   have:=tW (c:=c) (ty:=o.type) hI (λz hz=>hR.eval (x:=p) hz) (λz hz=>hR.eval (x:=q) hz) h
   have e2:(#[p,q]:Array Operand).map a.eval = #[a.eval p,a.eval q]:=by simp
   simp only[execOp,ho,resolve,invoke,builtin,pure_bind,e2]
   exact this
  | true =>
   rw[hb,cond_true]at h
   have e:=Nat.eq_of_beq_eq_true hb
   subst e
   have D9:cy = #[t,t]:=by rw[<- Array.toArray_toList (xs:=cy),h1]
   subst D9
   have:=Vp (c:=c) (ty:=o.type) hI (λz hz=>hR.eval (x:=p) hz) (λz hz=>hR.eval (x:=q) hz) h
   have e2:(#[p,q]:Array Operand).map a.eval = #[a.eval p,a.eval q]:=by simp
   simp only[execOp,ho,resolve,invoke,builtin,pure_bind,e2]
   exact this
 ·rename_i t t' s x h1 h2
  obtain⟨p,q,rfl,rfl,Ix⟩:∃ p q,s=zN f p/\x=zN f q/\args = #[p,q]:=by
   cases hl:args.toList with
   | nil=>grind
   | cons p r=>rw[hl]at h2; cases r with
    | nil=>simp at h2
    | cons q r=>cases r with
     | nil=>simp at h2; exact⟨p,q,h2.1.symm,h2.2.symm,by rw[<- Array.toArray_toList (xs:=args),hl]⟩
     | cons _ _=>simp at h2
  subst Ix
  have D9:cy = #[t,t']:=by rw[<- Array.toArray_toList (xs:=cy),h1]
  subst D9
  have:=HY (c:=c) (ty:=o.type) (t':=t') hI (λz hz=>hR.eval (x:=p) hz) (λz hz=>hR.eval (x:=q) hz) h
  have e2:(#[p,q]:Array Operand).map a.eval = #[a.eval p,a.eval q]:=by simp
  simp only[execOp,ho,resolve,invoke,builtin,pure_bind,e2]
  exact this
 ·rename_i h2
  exact two (g:=Builtin.min2) (λk k' a b=>by simp[Builtin.min2,HA]) h λp q Ix=>by
   subst Ix
   have e2:(#[p,q]:Array Operand).map a.eval = #[a.eval p,a.eval q]:=by simp
   simp only[execOp,ho,resolve,invoke,builtin,pure_bind,e2]
   simp[Builtin.min_]
 ·rename_i h2
  exact two (g:=Builtin.max2) (λk k' a b=>by simp[Builtin.max2,rI]) h λp q Ix=>by
   subst Ix
   have e2:(#[p,q]:Array Operand).map a.eval = #[a.eval p,a.eval q]:=by simp
   simp only[execOp,ho,resolve,invoke,builtin,pure_bind,e2]
   simp[Builtin.max_]
 ·exact absurd h z7
theorem Mh{o:Oper}{g:Nat}{caps:Array Value}{args:Array Value}{R:Ending->World->Prop}(xg:(execOp a.eval o).run c.P κ.w=(callFunc g args).run c.P κ.w)
  (h:wY c.P g args κ.w R) {K:Act->World->Prop} {Q:Exit->Act->World->Prop} (hR:∀ e w',R e w'->∃ v,e=.returned v/\K (a.put o.dst v) w'):o.wp c.P a κ.w K Q:=by
 unfold Oper.wp
 rw[xg]
 rcases h with⟨h1,h2⟩ | ⟨v,w',h1,h2⟩
 ·rw[h1]
  refine h2.mono λe w' he => ?_
  grind
 ·rw[h1]
  obtain⟨u,hu,hk⟩:=hR _ _ h2
  cases hu
  exact hk
theorem sH(g:Nat){l caps:List D}{vs us:List Value}(h1:zU κ l vs)(h2:zU κ caps us):zU κ (v8 g l caps) (v8 g vs us):=by
 unfold v8
 cases Nat.ble 1000000 g with
 | true=>exact h2.append h1
 | false=>exact h1.append h2
theorem Vy{dst:Option Nat}{p:Operand}{args:Array Operand}{cy:Array TypeId}{ty:TypeId}{pos:String}{after:Array Edge}{guard:Option (Nat×Bool)}{g:Nat}{us:List Value}{P:Program}{w:World}(Un:a.eval p=eI g us) :
  (execOp a.eval ⟨dst,.call ⟨.value p,args,cy⟩,ty,pos,after,guard⟩).run P w=(callFunc (jc g) (v8 g (args.toList.map a.eval) us).toArray).run P w:=by
 unfold eI at Un
 unfold jc v8
 cases hb:Nat.ble 1000000 g with
 | true =>
  rw[hb]at Un
  simp at Un ⊢
  have e:us.toArray++args.map a.eval=(us++args.toList.map a.eval).toArray:=by apply Array.ext'; simp
  simp only[execOp,resolve,Un,Deferred.ofValue,pure_bind,invoke,Array.append_empty,e]
 | false =>
  rw[hb]at Un
  simp at Un ⊢
  have e:args.map a.eval++us.toArray=(args.toList.map a.eval++us).toArray:=by apply Array.ext'; simp
  simp only[execOp,resolve,Un,Deferred.ofValue,pure_bind,invoke,Array.empty_append,e]
theorem Uj{o:Oper}{d:Option D}{zg:St}(hC:∀ g,WZ c.P g (c.fn g))(hI:Inv κ)(hR:Rel κ n f a)(h:(zk (zV c (zN f) o) κ.st).leads (d,zg)){K:Act->World->Prop}{Q:Exit->Act->World->Prop}
  (hK:∀ (v:Value) (κ':KS),κ'.st=zg->Inv κ'->Ext κ κ'->(∀ d',d=some d'->RD κ' d' v)->K (a.put o.dst v) κ'.w):o.wp c.P a κ.w K Q:=by
 have kP:∀ (x:Operand) (z:D),zN f x=some z->RD κ z (a.eval x):=λx z hz=>hR.eval hz
 obtain⟨dst,op,ty,pos,after,guard⟩:=o
 have fin:zL c.P (execOp a.eval ⟨dst,op,ty,pos,after,guard⟩) κ d zg->Oper.wp c.P ⟨dst,op,ty,pos,after,guard⟩ a κ.w K Q:=λhd=>MN hd hK
 cases op with
 | move x =>
  simp only[zV,xD,T.leads]at h
  obtain⟨h,rfl⟩:=h
  exact fin (zL.val hI λd' j9=>kP x d' (h.trans j9))
 | assign x =>
  simp only[zV,xD,T.leads]at h
  obtain⟨h,rfl⟩:=h
  exact fin (zL.val hI λd' j9=>kP x d' (h.trans j9))
 | pick x p q =>
  simp only[zV,Kl]at h
  split at h
  ·rename_i b hb
   have hv:=cN hb (kP x)
   rw[xD]at h
   obtain⟨h,rfl⟩:=h
   refine fin ⟨κ,.value (if b then a.eval p else a.eval q),if b then a.eval p else a.eval q,?_,.inl rfl,rfl,hI,Ext.refl κ,λd' j9 => ?_⟩
   ·simp[execOp,hv,Go.asBool]
   ·rcases h with⟨rfl,h⟩ | ⟨rfl,h⟩
    ·exact kP p d' (h.trans j9)
    ·exact kP q d' (h.trans j9)
  ·exact absurd h z7
 | alloc t=>exact fin (Kp hI h)
 | box t x=>exact fin (Jb hI (kP x) h)
 | load t x=>exact fin (Bj hI (kP x) h)
 | store t x y=>exact fin (JF hI (kP x) (kP y) h)
 | nilCheck x=>exact fin (Q6 rfl hI (kP x) h)
 | binOp op t x y ty' =>
  have h:(zk (J1 c op t y (zN f x) (zN f y)) κ.st).leads (d,zg):=h
  unfold J1 at h
  split at h
  ·exact fin (Kj hI (kP x) h)
  ·exact fin (JM hI (kP x) (λh=>tC hI (kP x) (kP _) h) h)
  ·exact fin (Jw hI (kP x) (λh=>tC hI (kP x) (kP _) h) h)
  ·exact fin (tC hI (kP x) (kP y) h)
 | typeAssert x xt t ok=>exact fin (rD hI (kP x) h)
 | unOp op t x=>exact fin (LD hI (kP x) h)
 | convert s t x=>exact fin (W3 hI (kP x) h)
 | makeInterface t x=>exact fin (Z1 hI (kP x) h)
 | makeFunc fn first cap =>
  cases fn with
  | func g =>
   simp only[zV]at h
   cases hb:Nat.beq first.size 0&&Nat.blt g 1000000 with
   | false =>
    rw[hb,cond_false]at h
    cases Uf:Nat.beq cap.size 0&&Nat.blt g 1000000 with
    | false=>rw[Uf]at h; exact absurd h z7
    | true =>
     rw[Uf,cond_true]at h
     simp only[Bool.and_eq_true]at Uf
     have hf:cap = #[]:=Array.eq_empty_of_size_eq_zero (Nat.eq_of_beq_eq_true Uf.1)
     subst hf
     split at h
     ·rename_i l hl
      rw[uB]at h
      obtain⟨rfl,rfl⟩:=h
      have hr:=jU (κ:=κ) (vs:=first.toList.map a.eval) hl (by simp) (λi d v hd hv=>by
       simp only[List.getElem?_map]at hd hv
       cases hi:first.toList[i]? with
       | none=>grind
       | some x=>rw[hi]at hd hv; simp at hd hv; subst hv; exact kP x d hd)
      refine fin (zL.pure hI ?_ (.zK (g+1000000) l _ hr.1 hr.2))
      have e:(first.toList.map a.eval).toArray=first.map a.eval:=by apply Array.ext'; simp
      rw[JH Uf.2,e]
      simp[Instr.makeFunc]
     ·exact absurd h z7
   | true =>
    rw[hb,cond_true]at h
    simp only[Bool.and_eq_true]at hb
    have hf:first = #[]:=Array.eq_empty_of_size_eq_zero (Nat.eq_of_beq_eq_true hb.1)
    subst hf
    split at h
    ·rename_i l hl
     rw[uB]at h
     obtain⟨rfl,rfl⟩:=h
     have hr:=jU (κ:=κ) (vs:=cap.toList.map a.eval) hl (by simp) (λi d v hd hv=>by
      simp only[List.getElem?_map]at hd hv
      cases hi:cap.toList[i]? with
      | none=>grind
      | some x=>rw[hi]at hd hv; simp at hd hv; subst hv; exact kP x d hd)
     refine fin (zL.pure hI ?_ (.zK g l _ hr.1 hr.2))
     have e:(cap.toList.map a.eval).toArray=cap.map a.eval:=by apply Array.ext'; simp
     rw[Wu hb.2,e]
     simp[Instr.makeFunc]
    ·exact absurd h z7
  | _=>exact absurd h z7
 | makeSlice t x y=>exact fin (Bc hI (kP x) (kP y) h)
 | slice t x lo hi mx=>exact fin (JR hI (kP x) (Kh hR lo) (Kh hR hi) (Kh hR mx) h)
 | fieldAddr s x fl=>exact fin (tc hI (kP x) h)
 | field s x fl=>exact fin (JK hI (kP x) h)
 | indexAddr t x i=>exact fin (sD hI (kP x) (kP i) h)
 | index t x i=>exact fin (Ku hI (kP x) (kP i) h)
 | extract x i=>exact fin (XV hI (kP x) h)
 | build t ps =>
  have:=JU (L:=ps.toList) (G:=a.eval) hI kP h
  refine fin ?_
  have e:(ps.toList.map λp=>(p.1,a.eval p.2)).toArray=ps.map λp=>(p.1,a.eval p.2):=by apply Array.ext'; simp
  rw[e]at this
  exact this
 | buildSlice t k ps =>
  have h:(zk (bif C6 c dst&&Nat.beq k 0&&Nat.beq ps.size 0 then nq c t (vj c t k (ps.toList.map λp=>(p.1,zN f p.2)))else vj c t k (ps.toList.map λp=>(p.1,zN f p.2))) κ.st).leads (d,zg):=h
  refine fin ?_
  have e:(ps.toList.map λp=>(p.1,a.eval p.2)).toArray=ps.map λp=>(p.1,a.eval p.2):=by apply Array.ext'; simp
  have key:(zk (vj c t k (ps.toList.map λp=>(p.1,zN f p.2))) κ.st).leads (d,zg)->zL c.P (do Pure.pure (.value (<- Instr.buildSlice t k (ps.map λp=>(p.1,a.eval p.2))))) κ d zg:=λh=>by
   have:=rk (L:=ps.toList) (G:=a.eval) hI kP h
   rw[e]at this
   exact this
  cases hb:C6 c dst&&Nat.beq k 0&&Nat.beq ps.size 0 with
  | false=>rw[hb]at h; exact key h
  | true =>
   rw[hb,cond_true]at h
   simp only[Bool.and_eq_true]at hb
   have hk:=Nat.eq_of_beq_eq_true hb.1.2
   have hp:ps = #[]:=Array.eq_empty_of_size_eq_zero (Nat.eq_of_beq_eq_true hb.2)
   subst hk hp
   have e0:((#[]:Array (Nat×Operand)).map λp=>(p.1,a.eval p.2)) = #[]:=by simp
   rw[e0]at key
   have r:=ZM hI key h
   rw[<- e0]at r
   exact r
 | call cl =>
  obtain⟨callee,args,cy⟩:=cl
  cases callee with
  | builtin b=>exact fin (Wz hI hR rfl h)
  | invoke r m=>exact absurd h z7
  | value p =>
   simp only[zV,jE]at h
   split at h
   ·rename_i g caps l hp hl
    have Ie:=kP p _ hp
    have hr:=jU (κ:=κ) (vs:=args.toList.map a.eval) hl (by simp) (λi d v hd hv=>by
      simp only[List.getElem?_map]at hd hv
      cases hi:args.toList[i]? with
      | none=>rw[hi]at hd; cases hd
      | some x=>rw[hi]at hd hv; simp at hd hv; subst hv; exact kP x d hd)
    generalize Un:a.eval p=pv at Ie
    cases Ie with
    | zK _ _ us ly SG =>
     have dH:=sH g hr (⟨ly,SG⟩:zU κ caps us)
     refine Mh (c:=c) (κ:=κ) (g:=jc g) (caps := #[]) (args:=(v8 g (args.toList.map a.eval) us).toArray) ?_ (BF (hC (jc g)) hI dH h) ?_
     ·exact Vy Un
     ·rintro e w' ⟨κ',v,rfl,h1,h2,h3,rfl,h4⟩
      exact⟨v,rfl,hK v κ' h1 h2 h3 h4⟩
   ·exact absurd h z7
 | makeMap t r=>exact fin (Wh hI h)
 | lookup t m x ok=>exact fin (VY hI (kP m) (kP x) h)
 | mapUpdate t m x y=>exact fin (sA hI (kP m) (kP x) (kP y) h)
 | _=>exact absurd h z7
end
end Go.AM
namespace Go.AM
set_option linter.unusedSectionVars false
variable [we] [X0]
section
variable {c:Ctx} {n:Nat} {ops:Array Oper}
theorem WE(j:Nat):wQ ops j=(ops[j]?).bind (·.dst):=by
 unfold wQ; cases ops[j]? <;> rfl
theorem cR{κ:KS}{f:F}{a:Act}{o:Oper}{b:Bool}(hR:Rel κ n f a)(h:qX ops f o=some b):Region.wanted o (yielded ops a.tmps)=b:=by
 unfold qX at h
 unfold Region.wanted
 split at h
 ·grind
 ·rename_i j w hg
  rw[hg]
  split at h
  ·cases h
  ·rename_i t ht
   rw[WE]at ht
   simp only[yielded,ht,Option.bind_some]
   split at h
   ·rename_i x hx
    obtain⟨v,h1,h2⟩:=hR.get t _ hx
    have:=h2.um
    cases h
    grind
   ·rename_i hx
    obtain⟨v,h1,h2⟩:=hR.get t _ hx
    cases h
    rw[h1]
    cases h2 with
    | jC _ vs hl hh=>rfl
   ·cases h
def bc(ops:Array Oper)(a a':Act):Prop:=∀ s:Nat,(∀ o∈ops.toList,o.dst≠some s)->a'.tmps[s]? = a.tmps[s]?
theorem bc.refl(ops:Array Oper)(a:Act):bc ops a a:=λ_ _=>rfl
theorem bc.trans{ops:Array Oper}{a b d:Act}(h:bc ops a b)(k:bc ops b d):bc ops a d:=λs hs=>(k s hs).trans (h s hs)
theorem iu{ops:Array Oper}{i:Nat}{o:Oper}{a:Act}{v:Value}(ho:ops[i]? = some o):bc ops a (a.put o.dst v):=by
 intro s hs
 have hm:o∈ops.toList:=by have:=Array.mem_of_getElem? ho; simpa using this
 have:=hs o hm
 cases hd:o.dst with
 | none=>rfl
 | some t =>
  rw[hd]at this
  have ui:t≠s:=λe=>this (by rw[e])
  simp[Act.put,Array.getElem?_setIfInBounds_ne ui]
theorem tY{κ:KS}{a:Act}{i k:Nat}{s s':F×St}(hC:∀ g,WZ c.P g (c.fn g))(hI:Inv κ)(hR:Rel κ n s.1 a)(qQ:κ.st=s.2)(h:jJ c n ops i s s' k){K:Act->World->Prop}{Q:Exit->Act->World->Prop}
  (hK:∀ (a':Act) (κ':KS),κ'.st=s'.2->Inv κ'->Ext κ κ'->Rel κ' n s'.1 a'->bc ops a a'->K a' κ'.w):wpOp c.P ops Q i K a κ.w:=by
 obtain⟨o,ho,hd,h⟩:=h
 unfold wpOp
 rw[ho]
 simp only
 rcases h with⟨hw,_,d,zg,hl,rfl⟩ | ⟨hw,_,rfl⟩
 ·rw[if_pos (cR hR hw)]
  refine .inl (Uj hC hI hR (qQ▸hl) λv κ' h1 h2 h3 h4=>hK _ κ' h1 h2 h3 ((hR.mono h3).put hd h4) (iu ho))
 ·rw[if_neg (by rw[cR hR hw]; exact Bool.false_ne_true)]
  exact hK _ κ qQ hI (Ext.refl κ) (hR.put hd λd' j9=>by cases j9; exact Cb (v:=undef)) (iu ho)
theorem G2{Q:Exit->Act->World->Prop}(hC:∀ g,WZ c.P g (c.fn g)):∀ (l:List Nat) {κ:KS} {a:Act} {s s':F×St} {ks:List Nat},Inv κ->Rel κ n s.1 a->κ.st=s.2->BU c n ops l s s' ks ->
  (∀ (a':Act) (κ':KS),κ'.st=s'.2->Inv κ'->Ext κ κ'->Rel κ' n s'.1 a'->bc ops a a'->Q .normal a' κ'.w)->wpOps c.P ops Q l a κ.w
 | [],κ,a,s,s',ks,hI,hR,qQ,h,hQ=>by
  obtain⟨rfl,_⟩:=h
  exact hQ a κ qQ hI (Ext.refl κ) hR (bc.refl _ _)
 | i::l,κ,a,s,s',ks,hI,hR,qQ,h,hQ=>by
  obtain⟨s1,k,UQ,_,h1,h2⟩:=h
  refine tY hC hI hR qQ h1 λa1 κ1 g1 g2 g3 g4 g5 => ?_
  exact G2 hC l g2 g4 g1 h2 λa' κ' e1 e2 e3 e4 e5=>hQ a' κ' e1 e2 (g3.trans e3) e4 (g5.trans e5)
theorem oh{Q:Exit->Act->World->Prop}(hC:∀ g,WZ c.P g (c.fn g)):∀ (l m:List Nat) {κ:KS} {a:Act} {s s':F×St} {ks:List Nat},Inv κ->Rel κ n s.1 a->κ.st=s.2->BU c n ops l s s' ks ->
  (∀ (a':Act) (κ':KS),κ'.st=s'.2->Inv κ'->Ext κ κ'->Rel κ' n s'.1 a'->bc ops a a'->wpOps c.P ops Q m a' κ'.w)->wpOps c.P ops Q (l++m) a κ.w
 | [],m,κ,a,s,s',ks,hI,hR,qQ,h,hQ=>by
  obtain⟨rfl,_⟩:=h
  exact hQ a κ qQ hI (Ext.refl κ) hR (bc.refl _ _)
 | i::l,m,κ,a,s,s',ks,hI,hR,qQ,h,hQ=>by
  obtain⟨s1,k,UQ,_,h1,h2⟩:=h
  refine tY hC hI hR qQ h1 λa1 κ1 g1 g2 g3 g4 g5 => ?_
  exact oh hC l m g2 g4 g1 h2 λa' κ' e1 e2 e3 e4 e5=>hQ a' κ' e1 e2 (g3.trans e3) e4 (g5.trans e5)
theorem tR{kd:Nat->Nat}:∀ (l:List Nat) (s s':F×St) (ks:List Nat),BU c n ops l s s' ks->ks=l.map kd->dW c n ops kd l s s'
 | [],s,s',ks,h,_=>h.1
 | i::l,s,s',ks,⟨s1,k,UQ,e,h1,h2⟩,hk=>by
  subst e
  simp at hk
  obtain⟨rfl,hk⟩:=hk
  exact⟨s1,h1,tR l s1 s' UQ h2 hk⟩
theorem Uy:∀ (l:List Nat) (s s':F×St) (ks:List Nat),BU c n ops l s s' ks->ks.length=l.length
 | [],_,_,_,h=>by rw[h.2]
 | i::l,s,s',ks,⟨s1,k,UQ,e,h1,h2⟩=>by subst e; simp[Uy l s1 s' UQ h2]
theorem VC(acc:List Nat):∀ (es:List Edge) (s0 p:Nat),Nat.testBit (es.foldl (λs e=>bif Region.binds .any e then s ||| 2 ^ e.on ||| acc.getD e.on 0 else s) s0) p=true ->
  Nat.testBit s0 p=true\/∃ e∈es,Region.binds .any e=true/\(p=e.on\/Nat.testBit (acc.getD e.on 0) p=true)
 | [],s0,p,h=>.inl h
 | e::es,s0,p,h=>by
  rcases VC acc es _ p h with h1 | ⟨e',h1,h2⟩
  ·grind
  ·grind
theorem db:∀ (l:List Oper) (acc:List Nat),∃ r,ql l acc=acc++r/\r.length=l.length /\
  ∀ j o,l[j]? = some o->∀ p,Nat.testBit ((ql l acc).getD (acc.length+j) 0) p=true ->
   ∃ e∈o.after.toList,Region.binds .any e=true/\(p=e.on\/(e.on<acc.length+j/\Nat.testBit ((ql l acc).getD e.on 0) p=true))
 | [],acc=>⟨[],by simp[ql],rfl,λj o h=>by simp at h⟩
 | o::l,acc=>by
  let b:=o.after.toList.foldl (λs e=>bif Region.binds .any e then s ||| 2 ^ e.on ||| acc.getD e.on 0 else s) 0
  obtain⟨r,h1,h2,h3⟩:=db l (acc++[b])
  have hb:ql (o::l) acc=ql l (acc++[b]):=rfl
  have IA:∀ i,i<acc.length->(ql l (acc++[b])).getD i 0=acc.getD i 0:=λi hi=>by
   grind
  refine⟨b::r,by rw[hb,h1]; simp,by simp[h2],?_⟩
  rw[hb]
  intro j o' ho p hp
  cases j with
  | zero =>
   simp at ho
   subst ho
   have he:(ql l (acc++[b])).getD (acc.length+0) 0=b:=by rw[h1]; simp[List.getD]
   rw[he]at hp
   rcases VC acc _ 0 p hp with h | ⟨e,k1,k2,k3⟩
   ·simp at h
   ·grind
  | succ j =>
   have:=h3 j o' (by simpa using ho) p (by rw[show(acc++[b]).length+j=acc.length+(j+1) by simp; omega]; exact hp)
   grind
theorem dD:∀ (l:List Oper) (k:Nat),kc l k=true->∀ j o,l[j]? = some o->∀ e∈o.after.toList,Region.binds .any e=true->e.on<k+j
 | [],_,_,j,o,h,_,_,_=>by simp at h
 | o::l,k,h,j,o',ho,e,he,hb=>by
  simp only[kc,Bool.and_eq_true,List.all_eq_true]at h
  cases j with
  | zero =>
   simp at ho
   subst ho
   have:=h.1 e he
   rw[hb]at this
   exact Nat.le_of_ble_eq_true this
  | succ j =>
   have:=dD l (k+1) h.2 j o' (by grind) e he hb
   omega
def EL{K:Type}(cl:K->K->Bool)(ops:Array Oper)(x:Oper)(kx:K)(y:Oper)(ky:K):Prop:=(∀ d,x.dst=some d->d ∉ tmpsOf ops y)/\(∀ d,y.dst=some d->d ∉ tmpsOf ops x)/\cl kx ky=false
theorem VJ{K:Type}{cl:K->K->Bool}{bs:List Nat}{xs:List (Nat×Option Nat×List Nat×K)}{j:Nat}{ky:K}{y:Oper}(h:KA cl bs xs j y.dst (tmpsOf ops y) ky=true){i:Nat}{kx:K}{x:Oper}(hx:(i,x.dst,tmpsOf ops x,kx)∈xs) :
  ordered bs i j=true\/EL cl ops x kx y ky:=by
 simp only[KA,List.all_eq_true]at h
 have:=h _ hx
 simp at this
 rcases this with h1 | ⟨⟨h1,h2⟩,h3⟩
 ·grind
 ·refine .inr ⟨λd hd hm => ?_,λd hd hm => ?_,h3⟩
  ·grind
  ·grind
theorem du{K:Type}{cl:K->K->Bool}{bs:List Nat}:∀ (l:List Oper) (ks:List K) (k0:Nat) (xs:List (Nat×Option Nat×List Nat×K)),dh cl ops bs l ks k0 xs=true ->
  (∀ j y ky,l[j]? = some y->ks[j]? = some ky->(∀ i x kx,(i,x.dst,tmpsOf ops x,kx)∈xs->ordered bs i (k0+j)=true\/EL cl ops x kx y ky) /\
   (∀ i x kx,i<j->l[i]? = some x->ks[i]? = some kx->ordered bs (k0+i) (k0+j)=true\/EL cl ops x kx y ky))
 | [],_,_,_,_,j,y,ky,hy,_=>by simp at hy
 | o::l,[],_,_,h,_,_,_,_,_=>by simp[dh]at h
 | o::l,k::ks,k0,xs,h,j,y,ky,hy,hk=>by
  simp only[dh,Bool.and_eq_true]at h
  obtain⟨h1,h2⟩:=h
  have ih:=du l ks (k0+1) _ h2
  cases j with
  | zero =>
   simp at hy hk
   subst hy hk
   exact⟨λi x kx hx=>by simpa using VJ h1 hx,λi x kx hi=>absurd hi (Nat.not_lt_zero i)⟩
  | succ j =>
   obtain⟨g1,g2⟩:=ih j y ky (by simpa using hy) (by simpa using hk)
   have e:k0+1+j=k0+(j+1):=by omega
   rw[e]at g1 g2
   refine⟨λi x kx hx=>g1 i x kx (List.mem_cons_of_mem _ hx),λi x kx hi hx hkx => ?_⟩
   cases i with
   | zero =>
    grind
   | succ i =>
    grind
def rest(ops:Array Oper)(listed:Array Bool):List Nat:=(List.range ops.size).filter λi => !listed.getD i true
def lR(ops:Array Oper)(listed:Array Bool):Prop:=∀ q,q<ops.size->listed.getD q true=true->∀ p,ordered (ql ops.toList []) p q=true->p<ops.size->listed.getD p true=true
theorem vA{listed:Array Bool}{i j:Nat}(hi:i<listed.size):(listed.setIfInBounds i true).getD j true=if j=i then true else listed.getD j true:=by
 simp
 grind
theorem k9{p q:Nat->Bool}{i:Nat}:∀ (l:List Nat),l.Pairwise (· < ·)->i∈l->p i=true->(∀ j,q j=(p j && !(j==i))) ->
  ∃ pre post,l.filter p=pre++i::post/\l.filter q=pre++post/\∀ x∈pre,p x=true/\x∈l/\x<i
 | [],_,hi,_,_=>by simp at hi
 | a::l,hn,hi,hp,hq=>by
  have RU:=List.pairwise_cons.1 hn
  by_cases ha:a=i
  ·subst ha
   refine⟨[],l.filter p,by grind,?_,by simp⟩
   have hqa:q a=false:=by rw[hq]; simp
   simp only[List.filter_cons,hqa]
   refine List.filter_congr λx hx => ?_
   rw[hq]
   have:(x==a)=false:=by simp; exact λe=>absurd (RU.1 x hx) (by omega)
   simp[this]
  ·have BJ:i∈l:=by rcases List.mem_cons.1 hi with h | h; exact absurd h.symm ha; exact h
   obtain⟨pre,post,h1,h2,h3⟩:=k9 l RU.2 BJ hp hq
   grind
theorem de{listed:Array Bool}{i:Nat}:i∈Region.ready .any ops listed↔i<ops.size/\listed.getD i true=false/\∀ o,ops[i]? = some o->∀ e∈o.after.toList,Region.binds .any e=true->listed.getD e.on false=true:=by
 unfold Region.ready
 simp only[List.mem_filter,List.mem_range,Bool.and_eq_true,Bool.not_eq_true']
 constructor
 ·rintro⟨h1,h2,h3⟩
  refine⟨h1,h2,λo ho e he hb => ?_⟩
  rw[ho]at h3
  simp only[Option.map_some,Option.getD_some,Array.all_eq_true_iff_forall_mem]at h3
  grind
 ·grind
theorem Z7(Jy:kc ops.toList 0=true){listed:Array Bool}(vb:listed.size=ops.size):Region.ready .any ops listed=[]->rest ops listed=[]:=by
 intro hr
 cases IS:rest ops listed with
 | nil=>rfl
 | cons i l =>
  have hi:i∈rest ops listed:=by rw[IS]; exact List.mem_cons_self
  simp only[rest,List.mem_filter,List.mem_range,Bool.not_eq_true']at hi
  have TK:∀ j,j<i->listed.getD j true=true:=by
   intro j hj
   cases hl:listed.getD j true with
   | true=>rfl
   | false =>
    have hpw:(rest ops listed).Pairwise (· < ·):=List.Pairwise.filter _ List.pairwise_lt_range
    have hjm:j∈rest ops listed:=by simp only[rest,List.mem_filter,List.mem_range,Bool.not_eq_true']; exact⟨by omega,hl⟩
    rw[IS]at hpw hjm
    rcases List.mem_cons.1 hjm with rfl | hjm
    ·grind
    ·have:=(List.pairwise_cons.1 hpw).1 j hjm; omega
  have:i∈Region.ready .any ops listed:=by
   rw[de]
   refine⟨hi.1,hi.2,λo ho e he hb => ?_⟩
   have qc:=dD ops.toList 0 Jy i o (by grind) e he hb
   grind
  grind
def Zd(Stp:Nat->F×St->F×St->Prop):List Nat->F×St->F×St->Prop
 | [],s,s'=>s'=s
 | i::l,s,s'=>∃ s1,Stp i s s1/\Zd Stp l s1 s'
theorem XB{Stp:Nat->F×St->F×St->Prop}{In:Nat->Nat->Prop}(Vg:∀ p i,In p i->∀ s s1 s2,Stp p s s1->Stp i s1 s2->∃ s',Stp i s s'/\Stp p s' s2){i:Nat}{post:List Nat}{s':F×St}:∀ {pre:List Nat} {s:F×St},(∀ p∈pre,In p i)->Zd Stp (pre++i::post) s s' ->
  ∃ s1,Stp i s s1/\Zd Stp (pre++post) s1 s'
 | [],s,_,h=>h
 | p::pre,s,hp,⟨sp,h1,h2⟩=>by
  obtain⟨s1,h3,h4⟩:=XB Vg (λq hq=>hp q (List.mem_cons_of_mem _ hq)) h2
  obtain⟨s2,h5,h6⟩:=Vg _ _ (hp p List.mem_cons_self) _ _ _ h1 h3
  exact⟨s2,h5,s1,h6,h4⟩
theorem om{Stp:Nat->F×St->F×St->Prop}{In:Nat->Nat->Prop}(DM:∀ i s s',Stp i s s'->∃ k,jJ c n ops i s s' k)(Vg:∀ p i,In p i->∀ s s1 s2,Stp p s s1->Stp i s1 s2->∃ s',Stp i s s'/\Stp p s' s2){Q:Exit->Act->World->Prop}(hC:∀ g,WZ c.P g (c.fn g))(Jy:kc ops.toList 0=true)
  {sf:F×St}:∀ (fuel:Nat) (listed:Array Bool) {κ:KS} {a:Act} {s:F×St},(∀ p i,p<i->i<ops.size->listed.getD p true=false->ordered (ql ops.toList []) p i=true\/In p i) ->
  listed.size=ops.size->fuel=(rest ops listed).length->lR ops listed->Inv κ->Rel κ n s.1 a->κ.st=s.2->Zd Stp (rest ops listed) s sf ->
  (∀ (a':Act) (κ':KS),κ'.st=sf.2->Inv κ'->Ext κ κ'->Rel κ' n sf.1 a'->bc ops a a'->Q .normal a' κ'.w)->wpAny c.P .any ops Q fuel listed a κ.w
 | fuel,listed,κ,a,s,uW,vb,hfuel,sd,hI,hR,qQ,xg,hQ=>by
  have Rm:=Z7 Jy (listed:=listed) vb
  have Ef:rest ops listed=[]->Q .normal a κ.w:=by
   intro h
   rw[h]at xg
   cases xg
   exact hQ a κ qQ hI (Ext.refl κ) hR (bc.refl _ _)
  cases fuel with
  | zero =>
   have IS:rest ops listed=[]:=List.eq_nil_of_length_eq_zero hfuel.symm
   refine⟨?_,Ef IS⟩
   apply List.eq_nil_iff_forall_not_mem.2
   intro i hi
   rw[de]at hi
   have:i∈rest ops listed:=by simp only[rest,List.mem_filter,List.mem_range,Bool.not_eq_true']; exact⟨hi.1,hi.2.1⟩
   grind
  | succ fuel =>
   refine⟨λh=>Ef (Rm h),λi hi => ?_⟩
   rw[de]at hi
   obtain⟨h1,h2,h3⟩:=hi
   have ho:ops[i]? = some ops[i]:=Array.getElem?_eq_getElem h1
   obtain⟨pre,post,g1,g2,g3⟩:=k9 (p:=λi => !listed.getD i true) (q:=λj => !(listed.setIfInBounds i true).getD j true) (i:=i) (List.range ops.size) List.pairwise_lt_range
    (List.mem_range.2 h1) (by simp[h2]) (λj=>by
     rw[vA (by omega)]
     by_cases h:j=i
     ·grind
     ·simp[h])
   have Fo:∀ p,ordered (ql ops.toList []) p i=true->p<ops.size->listed.getD p true=true:=by
    intro p hp qc
    obtain⟨r,_,_,hb⟩:=db ops.toList []
    obtain⟨e,k1,k2,k3⟩:=hb i ops[i] (by simp) p (by simpa[ordered]using hp)
    have hle:=h3 _ ho e k1 k2
    have Qb:=dD ops.toList 0 Jy i ops[i] (by simp) e k1 k2
    have Q3:listed.getD e.on true=true:=by
     grind
    rcases k3 with rfl | ⟨_,k3⟩
    ·exact Q3
    ·exact sd e.on (by omega) Q3 p k3 qc
   have EH:∀ p∈pre,In p i:=by
    grind
   have UG:Zd Stp (pre++i::post) s sf:=by
    have:rest ops listed=pre++i::post:=g1
    grind
   obtain⟨s1,k1,k2⟩:=XB Vg EH UG
   have iB:rest ops (listed.setIfInBounds i true)=pre++post:=g2
   obtain⟨kk,k1⟩:=DM _ _ _ k1
   refine tY hC hI hR qQ k1 λa1 κ1 e1 e2 e3 e4 e5 => ?_
   refine om DM Vg hC Jy fuel (listed.setIfInBounds i true) (λp j hpj hj hp=>uW p j hpj hj (by
    rw[vA (by omega)]at hp
    split at hp
    ·cases hp
    ·exact hp)) (by simp[vb]) ?_ ?_ e2 e4 e1 (by rw[iB]; exact k2) λa' κ' d1 d2 d3 d4 d5=>hQ a' κ' d1 d2 (e3.trans d3) d4 (e5.trans d5)
   ·have:rest ops listed=pre++i::post:=g1
    rw[this]at hfuel
    rw[iB]
    simp only[List.length_append,List.length_cons]at hfuel ⊢
    omega
   ·intro q hq Br p hp qc
    rw[vA (by omega)]at Br ⊢
    split
    ·rfl
    ·split at Br
     ·rename_i e; subst e; exact Fo p hp qc
     ·exact sd q hq Br p hp qc
theorem Ul{kd:Nat->Nat}:∀ (l:List Nat) (s s':F×St),dW c n ops kd l s s'->Zd (λi s s'=>jJ c n ops i s s' (kd i)) l s s'
 | [],_,_,h=>h
 | i::l,s,s',⟨s1,h1,h2⟩=>⟨s1,h1,Ul l s1 s' h2⟩
theorem th{kd:Nat->Nat}{Q:Exit->Act->World->Prop}(hC:∀ g,WZ c.P g (c.fn g))(Jy:kc ops.toList 0=true)
  {sf:F×St}:∀ (fuel:Nat) (listed:Array Bool) {κ:KS} {a:Act} {s:F×St},(∀ p i,p<i->i<ops.size->listed.getD p true=false->ordered (ql ops.toList []) p i=true\/Ox ops kd p i) ->
  listed.size=ops.size->fuel=(rest ops listed).length->lR ops listed->Inv κ->Rel κ n s.1 a->κ.st=s.2->dW c n ops kd (rest ops listed) s sf ->
  (∀ (a':Act) (κ':KS),κ'.st=sf.2->Inv κ'->Ext κ κ'->Rel κ' n sf.1 a'->bc ops a a'->Q .normal a' κ'.w)->wpAny c.P .any ops Q fuel listed a κ.w
 | fuel,listed,κ,a,s,uW,vb,hfuel,sd,hI,hR,qQ,xg,hQ =>
  om (Stp:=λi s s'=>jJ c n ops i s s' (kd i)) (In:=λp i=>Ox ops kd p i) (λi s s' h=>⟨_,h⟩) (λp i hi s s1 s2 h1 h2=>QI hi h1 h2) hC Jy fuel listed uW vb hfuel sd hI hR qQ (Ul _ _ _ xg) hQ
end
end Go.AM
namespace Go.AM
set_option linter.unusedSectionVars false
variable [we] [X0]
open Go.RowKit
structure Up(κ κ':KS):Prop where
 same:J9 κ.w κ'.w κ.ok κ'.ok
 var:∀ (b:Nat) (d:D),κ.st[b]? = some (.var d)->(∃ d',κ'.st[b]? = some (.var d'))/\κ'.ph[b]? = κ.ph[b]?
 old:∀ (b q7:Nat),Old κ.st b q7->Old κ'.st b q7
 row:∀ (b v:Nat) (e:Ty) (xs:List (den e)),Old κ.st b v->κ'.st[b]? = some (.arr v e xs)->κ.st[b]? = some (.arr v e xs)/\κ'.ph[b]? = κ.ph[b]?
theorem RD.up{κ κ':KS}(x:Up κ κ'){d:D}{v:Value}(h:RD κ d v):RD κ' d v:=by
 induction h with
 | zj τ y cs h=>exact .zj τ y cs (h.mono x.same)
 | bu e l b v h ht hf=>exact .bu e l b v (h.mono x.same) ht hf
 | qm e a=>exact .qm e a
 | tight e l ne blk off f ui qI h hc=>exact .tight e l ne blk off f ui (x.same _ qI).1 (λi hi=>(h i hi).mono x.same) λi hi j v hv=>by rw[y6 (x.same _ qI).2]; exact hc i hi j v hv
 | zW=>exact .zW
 | wJ=>exact .wJ
 | q8=>exact .q8
 | wo=>exact .wo
 | qC=>exact .qC
 | lr v h=>exact .lr v h
 | yA T=>exact .yA T
 | yw b T d hd =>
  obtain⟨⟨d',j9⟩,hp⟩:=x.var b d hd
  exact .yw b T d' j9
 | w8 b blk n d hd h =>
  obtain⟨⟨d',j9⟩,hp⟩:=x.var b d hd
  exact .w8 b blk n d' j9 (hp.trans h)
 | yI b T blk n d hd h =>
  obtain⟨⟨d',j9⟩,hp⟩:=x.var b d hd
  exact .yI b T blk n d' j9 (hp.trans h)
 | ptr b off blk n d hd h =>
  obtain⟨⟨d',j9⟩,hp⟩:=x.var b d hd
  exact .ptr b off blk n d' j9 (hp.trans h)
 | qf τ y cs blk off qI h hc=>exact .qf τ y cs blk off (x.same _ qI).1 (h.mono x.same) λj v hv=>by rw[y6 (x.same _ qI).2]; exact hc j v hv
 | wB b q7 e idx off blk o hb h =>
  refine .wB b q7 e idx off blk o (x.old b q7 hb) λxs hx hi => ?_
  obtain⟨h1,h2⟩:=x.row b q7 e xs hb hx
  grind
 | ms b q7 e off len cap a hb qR ha mX h =>
  refine .ms b q7 e off len cap a (x.old b q7 hb) qR ha mX λxs hx => ?_
  obtain⟨h1,h2⟩:=x.row b q7 e xs hb hx
  have:=h xs h1
  unfold KK at this ⊢
  grind
 | zK f l vs hl h ih=>exact .zK f l vs hl ih
 | agg l vs hl ho h ih=>exact .agg l vs hl ho ih
 | jC l vs hl h ih=>exact .jC l vs hl ih
 | iface t d v h ih=>exact .iface t d v ih
structure RX(κ:KS)(blk:Nat):Prop where
 lt:blk<κ.w.heap.size
 ok:¬ κ.ok blk
 ph:∀ (b n:Nat),κ.ph[b]? ≠ some (some (blk,n))
theorem RX.ext{κ κ':KS}(x:Ext κ κ'){blk:Nat}(h:RX κ blk):RX κ' blk/\κ'.w.heap[blk]? = κ.w.heap[blk]? := by
 refine⟨⟨Nat.lt_of_lt_of_le h.lt x.size,λhk => ?_,λb n hb => ?_⟩,x.frame blk h.lt h.ph⟩
 ·rcases x.fresh blk hk with h1 | h1 | ⟨b,n,h1⟩
  ·exact h.ok h1
  ·have:=h.lt; omega
  ·exact h.ph b n h1
 ·rcases x.Dg b blk n hb with h1 | h1
  ·exact h.ph b n h1
  ·have:=h.lt; omega
def KS.push(κ:KS)(blk n:Nat)(d:D):KS:={ κ with ph:=κ.ph++[some (blk,n)],st:=κ.st++[.var d] }
theorem cU{α:Type}{l:List α}{x y:α}{b:Nat}(h:l[b]? = some y):(l++[x])[b]? = some y:=by grind
theorem iP{α:Type}{l:List α}{x y:α}{b:Nat}(h:(l++[x])[b]? = some y):l[b]? = some y\/(b=l.length/\y=x):=by grind
theorem Yt{κ:KS}(hI:Inv κ)(blk n:Nat)(d:D):Up κ (κ.push blk n d):=by
 have X9:∀ {b:Nat} {y:vX},κ.st[b]? = some y->(κ.ph++[some (blk,n)])[b]? = κ.ph[b]? := λh=>by
  rw[List.getElem?_append_left]; rw[hI.len]; exact(List.getElem?_eq_some_iff.1 h).1
 refine⟨λk hk=>⟨hk,rfl⟩,λb d' h=>⟨⟨d',cU h⟩,X9 h⟩,λb q7 h => ?_,λb v e xs ho h => ?_⟩
 ·rcases h with h | ⟨v0,e0,mv,h,hv⟩
  ·exact .inl (cU h)
  ·exact .inr ⟨v0,e0,mv,cU h,hv⟩
 ·rcases iP h with h1 | ⟨_,h1⟩
  ·exact⟨h1,X9 h1⟩
  ·cases h1
theorem Iv{κ0 κ:KS}{blk:Nat}{d:D}{z:Value}{t:TypeId}(hI:Inv κ)(hx:Ext κ0 κ)(hb:RX κ blk)(h0:κ0.w.heap.size<=blk)(hz:RD κ d z)(ht:d.wR=false)(Y3:∀ T,d.typed=some T->t=T)(hh:κ.w.heap[blk]? = some (.cells z.cells t (0,0))) :
  Inv (κ.push blk z.cells.size d)/\Ext κ0 (κ.push blk z.cells.size d)/\RD (κ.push blk z.cells.size d) (.ptr κ.st.length 0) (.pointer (some ⟨blk,0,none⟩)):=by
 have hu:=Yt hI blk z.cells.size d
 have qQ:(κ.push blk z.cells.size d).st[κ.st.length]? = some (.var d):=by simp[KS.push]
 have X9:(κ.push blk z.cells.size d).ph[κ.st.length]? = some (some (blk,z.cells.size)):=by simp[KS.push,<- hI.len]
 have Ff:∀ {b k m:Nat},(κ.push blk z.cells.size d).ph[b]? = some (some (k,m))->κ.ph[b]? = some (some (k,m))\/(b=κ.ph.length/\k=blk):=by
  intro b k m h
  rcases iP h with h1 | ⟨h1,h2⟩
  ·grind
  ·grind
 refine⟨⟨by simp[KS.push,hI.len],hI.ux,λb k m h => ?_,λb b' k m m' h h' => ?_,λb y h => ?_,hI.gl⟩,?_,.ptr _ 0 blk _ d qQ X9⟩
 ·rcases Ff h with h1 | ⟨_,rfl⟩
  ·exact hI.apart b k m h1
  ·exact⟨hb.lt,hb.ok⟩
 ·rcases Ff h with h1 | ⟨h1,rfl⟩
  ·rcases Ff h' with h2 | ⟨h2,rfl⟩
   ·exact hI.inj b b' k m m' h1 h2
   ·exact(hb.ph b m h1).elim
  ·rcases Ff h' with h2 | ⟨h2,_⟩
   ·exact(hb.ph b' m' h2).elim
   ·omega
 ·rcases iP h with h1 | ⟨h1,h2⟩
  ·have hp:(κ.push blk z.cells.size d).ph[b]? = κ.ph[b]? := by
    show(κ.ph++[_])[b]? = _
    grind
   have hy:=hI.blk b y h1
   cases y with
   | dead=>trivial
   | var d' =>
    refine xF.elim hy (λhm ⟨k,m,cs,T,g1,g2,g3,g4,g5⟩=>.mk hm ⟨k,m,cs,T,hp.trans g1,g2,g3,⟨g4.1,λi h1 h2=>(g4.2 i h1 h2).up hu⟩,g5⟩) λl e ⟨k,o,g1,g2⟩ => ?_
    subst e
    exact⟨k,o,hp.trans g1,g2⟩
   | arr q7 e xs =>
    obtain⟨g0,g⟩:=hy
    refine⟨g0,bf g (λh=>⟨h.1,hp.trans h.2⟩) ?_⟩
    rintro⟨k,m,cs,T,g1,g2⟩
    exact⟨k,m,cs,T,hp.trans g1,g2⟩
  ·subst h1
   subst h2
   have hf:=vH hz ht
   exact .mk hz.CN ⟨blk,z.cells.size,z.cells,t,X9,hh,rfl,⟨hf.1,λi h1 h2=>(hf.2 i h1 h2).up hu⟩,vI hz,Y3⟩
 ·refine⟨hx.os,hx.tape,hx.output,hx.size,hx.same,hx.fresh,λb k m h => ?_,λb d' h => ?_,λb v0 e xs h => ?_,λb h=>cU (hx.dead b h),Nat.le_trans hx.Uv (by simp[KS.push]),hx.frame⟩
  ·rcases Ff h with h1 | ⟨_,rfl⟩
   ·exact hx.Dg b k m h1
   ·exact .inr h0
  ·obtain⟨⟨d1,h1⟩,h2⟩:=hx.var b d' h
   obtain⟨h3,h4⟩:=hu.var b d1 h1
   exact⟨h3,h4.trans h2⟩
  ·rcases hx.arr b v0 e xs h with h1 | ⟨v1,OD,h1,h2,h3⟩
   ·exact .inl (cU h1)
   ·refine .inr ⟨v1,OD,cU h1,h2,λhe=>⟨?_,(h3 he).2⟩⟩
    have hp:(κ.push blk z.cells.size d).ph[b]? = κ.ph[b]? := by
     show(κ.ph++[_])[b]? = _
     rw[List.getElem?_append_left]; rw[hI.len]; exact(List.getElem?_eq_some_iff.1 h1).1
    exact hp.trans (h3 he).1
theorem Im{κ:KS}(hI:Inv κ)(o:Obj):Inv { κ with w:=κ.w.alloc o }/\Ext κ { κ with w:=κ.w.alloc o }/\RX { κ with w:=κ.w.alloc o } κ.w.heap.size/\(κ.w.alloc o).heap[κ.w.heap.size]? = some o:=by
 have hs:(κ.w.alloc o).heap.size=κ.w.heap.size+1:=by simp
 have hold:∀ k,k<κ.w.heap.size->(κ.w.alloc o).heap[k]? = κ.w.heap[k]? := λk hk=>by
  show(κ.w.heap.push o)[k]? = _
  grind
 have hx:Ext κ { κ with w:=κ.w.alloc o }:=⟨rfl,rfl,rfl,by simp,λk hk=>⟨hk,hold k (hI.ux k hk)⟩,λk hk=>.inl hk,λ_ _ _ h=>.inl h,λb d h=>⟨⟨d,h⟩,rfl⟩,
  λb v0 e xs h=>.inr ⟨v0,xs,h,Nat.le_refl _,λ_=>⟨rfl,rfl⟩⟩,λ_ h=>h,Nat.le_refl _,λk hk _=>hold k hk⟩
 refine⟨⟨hI.len,λk hk => ?_,λb blk n h => ?_,hI.inj,λb y hy=>(hI.blk b y hy).mono hx rfl λblk n h=>hold _ (hI.apart b blk n h).1,hI.gl.mono hx.same⟩,hx,⟨?_,λhk => ?_,λb n h => ?_⟩,?_⟩
 ·have:=hI.ux k hk; show k<(κ.w.alloc o).heap.size; omega
 ·have:=hI.apart b blk n h; exact⟨by grind,this.2⟩
 ·simp
 ·have:=hI.ux _ hk; omega
 ·have:=(hI.apart b _ n h).1; omega
 ·show(κ.w.heap.push o)[κ.w.heap.size]? = some o
  simp
section
variable {c:Ctx} {n:Nat} {ops:Array Oper}
structure Em where
 i:Nat
 d:Nat
 blk:Nat
 t:TypeId
 z:Value
 D:D
structure J0(c:Ctx)(ops:Array Oper)(κ0 κ:KS)(a:Act)(e:Em):Prop where
 op:∃ o,ops[e.i]? = some o/\o.op=.alloc e.t/\o.guard=none/\o.dst=some e.d
 zero:oS c e.t=some e.D
 z:∃ i,c.P.info? e.t=some i/\i.zero=some e.z/\ZD e.t e.D e.z
 val:a.tmps[e.d]? = some (.pointer (some ⟨e.blk,0,none⟩))
 heap:κ.w.heap[e.blk]? = some (.cells e.z.cells e.t (0,0))
 RQ:RX κ e.blk
 new:κ0.w.heap.size<=e.blk
theorem J0.mono{κ0 κ κ':KS}{a a':Act}{e:Em}(h:J0 c ops κ0 κ a e)(x:Ext κ κ')(ha:a'.tmps[e.d]? = a.tmps[e.d]?):J0 c ops κ0 κ' a' e:=by
 obtain⟨h1,h2⟩:=h.RQ.ext x
 exact⟨h.op,h.zero,h.z,ha.trans h.val,h2.trans h.heap,h1,h.new⟩
def j1(es:List Em)(f:F):F:=λs=>if es.any (λe=>Nat.beq e.d s)then none else f s
theorem mH{es:List Em}{f:F}{s:Nat}(h:∀ e∈es,e.d≠s):j1 es f s=f s:=by
 unfold j1
 rw[if_neg]
 intro hh
 obtain⟨e,he,hb⟩:=List.any_eq_true.1 hh
 exact h e he (Nat.eq_of_beq_eq_true hb)
theorem Qe{es:List Em}{f:F}{s:Nat}{d:D}(h:j1 es f s=some d):f s=some d/\∀ e∈es,e.d≠s:=by
 unfold j1 at h
 split at h
 ·cases h
 ·rename_i hh
  refine⟨h,λe he hs=>hh (List.any_eq_true.2 ⟨e,he,?_⟩)⟩
  subst hs; simp
def hH(ops:Array Oper)(i:Nat):Prop:=∃ o,ops[i]? = some o/\rA o=true
theorem BK{o:Oper}(h:rA o=true):∃ t d,o.op=.alloc t/\o.guard=none/\o.dst=some d:=by
 unfold rA at h
 simp only[Bool.and_eq_true]at h
 obtain⟨⟨h1,h2⟩,h3⟩:=h
 split at h1
 ·rename_i t ht
  obtain⟨d,hd⟩:=Option.isSome_iff_exists.1 h3
  exact⟨t,d,ht,Option.isNone_iff_eq_none.1 h2,hd⟩
 ·cases h1
theorem WT{o:Oper}{t d:Nat}(h1:o.op=.alloc t)(h2:o.guard=none)(h3:o.dst=some d):rA o=true:=by
 unfold rA; rw[h1,h2,h3]; rfl
theorem UA{kd:Nat->Nat}:∀ {l:List Nat} {s sf:F×St} {i:Nat},dW c n ops kd l s sf->i∈l->∃ s1 s2,jJ c n ops i s1 s2 (kd i)
 | [],_,_,_,_,h=>by cases h
 | j::l,s,sf,i,⟨s1,h1,h2⟩,h=>by
  rcases List.mem_cons.1 h with rfl | h
  ·grind
  ·exact UA h2 h
theorem sT{kd:Nat->Nat}{i t d:Nat}{o:Oper}(ho:ops[i]? = some o)(h1:o.op=.alloc t)(h2:o.guard=none)(h3:o.dst=some d){s s':F×St}(h:jJ c n ops i s s' (kd i)) :
  ∃ D,oS c t=some D/\d<n/\s'=(uO s.1 (some d) (some (.ptr s.2.length 0)),s.2++[.var D]):=by
 obtain⟨o',FE,hd,h⟩:=h
 rw[ho]at FE
 cases FE
 rw[h3]at hd
 have qc:d<n:=Nat.le_of_ble_eq_true hd
 have hw:qX ops s.1 o=some true:=by unfold qX; rw[h2]
 rcases h with⟨_,_,D,zg,hl,rfl⟩ | ⟨hw',_,_⟩
 ·have he:zV c (zN s.1) o=gE c t:=by
   obtain⟨dst,op,ty,pos,after,guard⟩:=o
   cases h1
   rfl
  rw[he]at hl
  unfold gE at hl
  split at hl
  ·rename_i y hy
   simp only[zk,T.leads]at hl
   grind
  ·exact absurd hl z7
 ·grind
theorem JC{es:List Em}{i k:Nat}{s s':F×St}(h:jJ c n ops i s s' k)(hd:∀ o,ops[i]? = some o->∀ e∈es,e.d ∉ tmpsOf ops o) :
  jJ c n ops i (j1 es s.1,s.2) (j1 es s'.1,s'.2) k:=by
 obtain⟨o,ho,Lk,h⟩:=h
 have Ib:=hd o ho
 have TJ:∀ x:Option D,uO (j1 es s.1) o.dst x=j1 es (uO s.1 o.dst x):=by
  intro x
  cases Nx:o.dst with
  | none=>rfl
  | some t =>
   funext u
   simp only[uO,j1]
   by_cases hu:u=t
   ·subst hu
    rw[if_pos rfl]
    rw[if_neg,if_pos rfl]
    intro hh
    obtain⟨e,he,hb⟩:=List.any_eq_true.1 hh
    exact Ib e he (by rw[Nat.eq_of_beq_eq_true hb]; exact uN Nx)
   ·grind
 have kP:∀ x∈o.op.operands,zN (j1 es s.1) x=zN s.1 x:=by
  intro x hx
  cases x with
  | tmp t=>exact mH λe he ht=>Ib e he (ht▸ff hx)
  | _=>rfl
 have hw:qX ops (j1 es s.1) o=qX ops s.1 o:=by
  unfold qX
  cases hg:o.guard with
  | none=>rfl
  | some jw =>
   obtain⟨j,w⟩:=jw
   simp only
   cases hs:wQ ops j with
   | none=>rfl
   | some t =>
    simp only
    rw[mH λe he ht=>Ib e he (ht▸eK hg hs)]
 refine⟨o,ho,Lk,?_⟩
 rcases h with⟨h1,h2,d,zg,h3,rfl⟩ | ⟨h1,h2,rfl⟩
 ·refine .inl ⟨hw.trans h1,?_,d,zg,?_,?_⟩
  ·rw[show zV c (zN (j1 es s.1)) o=zV c (zN s.1) o from mw o kP]; exact h2
  ·rw[show zV c (zN (j1 es s.1)) o=zV c (zN s.1) o from mw o kP]; exact h3
  ·rw[TJ]
 ·grind
theorem Ba{κ:KS}{a:Act}{i k:Nat}{s s':F×St}(hC:∀ g,WZ c.P g (c.fn g))(hI:Inv κ)(hR:Rel κ n s.1 a)(qQ:κ.st=s.2)(h:jJ c n ops i s s' k){K:Act->World->Prop}{Q:Exit->Act->World->Prop}
  (hK:∀ (a':Act) (κ':KS),κ'.st=s'.2->Inv κ'->Ext κ κ'->Rel κ' n s'.1 a'->bc ops a a'->(∀ u:Nat,(∀ o,ops[i]? = some o->o.dst≠some u)->a'.tmps[u]? = a.tmps[u]?)->K a' κ'.w):wpOp c.P ops Q i K a κ.w:=by
 obtain⟨o,ho,hd,h⟩:=h
 have hu:∀ (v:Value) (u:Nat),(∀ o,ops[i]? = some o->o.dst≠some u)->(a.put o.dst v).tmps[u]? = a.tmps[u]? := by
  intro v u hn
  have:=hn o ho
  cases Nx:o.dst with
  | none=>rfl
  | some t =>
   rw[Nx]at this
   have ui:t≠u:=λe=>this (by rw[e])
   simp[Act.put,Array.getElem?_setIfInBounds_ne ui]
 unfold wpOp
 rw[ho]
 simp only
 rcases h with⟨hw,_,d,zg,hl,rfl⟩ | ⟨hw,_,rfl⟩
 ·rw[if_pos (cR hR hw)]
  refine .inl (Uj hC hI hR (qQ▸hl) λv κ' h1 h2 h3 h4=>hK _ κ' h1 h2 h3 ((hR.mono h3).put hd h4) (iu ho) (hu v))
 ·rw[if_neg (by rw[cR hR hw]; exact Bool.false_ne_true)]
  exact hK _ κ qQ hI (Ext.refl κ) (hR.put hd λd' j9=>by cases j9; exact Cb (v:=undef)) (iu ho) (hu undef)
def RV(kd:Nat->Nat)(o:Oper)(i:Nat):Nat:=bif rA o then 3 else kd i
def N0(ops:Array Oper)(kd:Nat->Nat)(p i:Nat):Prop:=∀ x y,ops[p]? = some x->ops[i]? = some y ->
 (∀ d,x.dst=some d->d ∉ tmpsOf ops y)/\(∀ d,y.dst=some d->d ∉ tmpsOf ops x)/\fP (RV kd x p) (RV kd y i)=false
theorem Fb{k l:Nat}(hk:k<=2)(hl:l<=2)(h:fP k l=false):ve k l=false:=by
 have h1:Nat.beq k 3=false:=dJ (by omega)
 have h2:Nat.beq l 3=false:=dJ (by omega)
 simpa[fP,h1,h2]using h
theorem IQ{k l:Nat}(hl:l<=2)(h:fP 3 l=false):ve k l=false:=by
 have h2:Nat.beq l 3=false:=dJ (by omega)
 have h3:ve 2 l=false:=by simpa[fP,h2]using h
 have h0:l=0:=by
  match l,hl,h3 with
  | 0,_,_=>rfl
  | 1,_,h3=>cases h3
  | 2,_,h3=>cases h3
 subst h0
 simp[ve]
theorem Ld{k l:Nat}(hk:k<=2)(h:fP k 3=false):ve k l=false:=by
 have h2:Nat.beq k 3=false:=dJ (by omega)
 have h3:ve k 2=false:=by simpa[fP,h2]using h
 have h0:k=0:=by
  match k,hk,h3 with
  | 0,_,_=>rfl
  | 1,_,h3=>cases h3
  | 2,_,h3=>cases h3
 subst h0
 simp[ve]
theorem Wf{kd:Nat->Nat}{p i:Nat}(h:N0 ops kd p i)(hp:kd p<=2)(hi:kd i<=2)(hn:¬ (hH ops p/\hH ops i)):Ox ops kd p i:=by
 intro x y hx hy
 obtain⟨h1,h2,h3⟩:=h x y hx hy
 refine⟨h1,h2,?_⟩
 unfold RV at h3
 cases hax:rA x with
 | true =>
  cases hay:rA y with
  | true=>exact(hn ⟨⟨x,hx,hax⟩,y,hy,hay⟩).elim
  | false=>rw[hax,hay]at h3; exact IQ hi h3
 | false =>
  cases hay:rA y with
  | true=>rw[hax,hay]at h3; exact Ld hp h3
  | false=>rw[hax,hay]at h3; exact Fb hp hi h3
theorem least{es:List Em}(h:es≠[]):∃ e∈es,∀ f∈es,e.i<=f.i:=by
 induction es with
 | nil=>grind
 | cons e r ih =>
  by_cases hr:r=[]
  ·subst hr; exact⟨e,List.mem_cons_self,λf hf=>by grind⟩
  ·grind
def I1(e f:Em):Prop:=e.i≠f.i/\e.blk≠f.blk/\e.d≠f.d
theorem I1.symm{e f:Em}(h:I1 e f):I1 f e:=⟨h.1.symm,h.2.1.symm,h.2.2.symm⟩
theorem flush{kd:Nat->Nat}{κ0:KS}(uW:∀ p i,p<i->i<ops.size->ordered (ql ops.toList []) p i=true\/N0 ops kd p i)(yO:∀ i,i<ops.size->kd i<=2)
  {listed:Array Bool} (sd:lR ops listed) (dH:∀ q,q<ops.size->hH ops q->listed.getD q true=true) {a:Act} {sf:F×St} :
  ∀ (m:Nat) (es:List Em) (zZ:Array Bool) (κ:KS) (s:F×St),es.length=m->zZ.size=ops.size->(∀ j,j<ops.size->zZ.getD j true=true->listed.getD j true=true) ->
  (∀ j,j<ops.size->listed.getD j true=true->zZ.getD j true=false->∃ e∈es,e.i=j)->(∀ e∈es,e.i<ops.size/\listed.getD e.i true=true/\zZ.getD e.i true=false)->es.Pairwise I1 ->
  Inv κ->Rel κ n (j1 es s.1) a->κ.st=s.2->Ext κ0 κ->(∀ e∈es,J0 c ops κ0 κ a e)->dW c n ops kd (rest ops zZ) s sf ->
  ∃ (κ':KS) (s':F×St),κ'.w=κ.w/\κ'.st=s'.2/\Inv κ'/\Ext κ0 κ'/\Rel κ' n s'.1 a/\dW c n ops kd (rest ops listed) s' sf:=by
 intro m
 induction m with
 | zero =>
  intro es zZ κ s hl _ h1 h2 _ _ hI hR qQ hx _ xg
  obtain rfl:es=[]:=List.eq_nil_of_length_eq_zero hl
  refine⟨κ,s,rfl,qQ,hI,hx,hR,?_⟩
  have:rest ops zZ=rest ops listed:=by
   unfold rest
   refine List.filter_congr λi hi => ?_
   grind
  grind
 | succ m ih =>
  intro es zZ κ s hl vb h1 h2 h3 Js hI hR qQ hx I0 xg
  obtain⟨e,he,TK⟩:=least (es:=es) (λh=>by rw[h]at hl; cases hl)
  obtain⟨l1,l2,rfl⟩:=List.append_of_mem he
  obtain⟨hei,OH,hea⟩:=h3 e he
  have ZJ:∀ f,f∈l1++l2->f∈l1++e::l2:=λf hf=>by
   grind
  have OB:∀ f,f∈l1++e::l2->f=e\/f∈l1++l2:=λf hf=>by
   rcases List.mem_append.1 hf with hf | hf
   ·exact .inr (List.mem_append_left _ hf)
   ·rcases List.mem_cons.1 hf with rfl | hf
    ·exact .inl rfl
    ·exact .inr (List.mem_append_right _ hf)
  have S1:∀ f∈l1++l2,I1 e f:=by
   intro f hf
   rw[List.pairwise_append]at Js
   obtain⟨_,d2,d3⟩:=Js
   rcases List.mem_append.1 hf with hf | hf
   ·exact(d3 f hf e List.mem_cons_self).symm
   ·exact(List.pairwise_cons.1 d2).1 f hf
  have Ht:(l1++l2).Pairwise I1:=Js.sublist (List.Sublist.append_left (List.sublist_cons_self e l2) l1)
  obtain⟨pre,post,g1,g2,g3⟩:=k9 (p:=λi => !zZ.getD i true) (q:=λj => !(zZ.setIfInBounds e.i true).getD j true) (i:=e.i) (List.range ops.size) List.pairwise_lt_range
   (List.mem_range.2 hei) (by simp[hea]) (λj=>by
    rw[vA (by omega)]
    by_cases h:j=e.i
    ·subst h; simp
    ·simp[h])
  have EH:∀ p∈pre,Ox ops kd p e.i:=by
   intro p hp
   obtain⟨q1,q2,q3⟩:=g3 p hp
   have q2:=List.mem_range.1 q2
   have hpa:zZ.getD p true=false:=by simpa using q1
   have ZG:listed.getD p true=false:=by
    cases hb:listed.getD p true with
    | false=>rfl
    | true =>
     obtain⟨f,hf,Vq⟩:=h2 p q2 hb hpa
     have:=TK f hf
     omega
   have hna:¬ hH ops p:=λh=>by rw[dH p q2 h]at ZG; cases ZG
   rcases uW p e.i q3 hei with h | h
   ·have:=sd e.i hei OH p h q2
    rw[this]at ZG; cases ZG
   ·exact Wf h (yO p q2) (yO e.i hei) λhh=>hna hh.1
  have UG:dW c n ops kd (pre++e.i::post) s sf:=by
   have:rest ops zZ=pre++e.i::post:=g1
   rw[<- this]; exact xg
  obtain⟨s1,k1,k2⟩:=tb EH UG
  have hE:=I0 e he
  obtain⟨o,o1,o2,o3,o4⟩:=hE.op
  obtain⟨D,d1,d2,rfl⟩:=sT o1 o2 o3 o4 k1
  obtain rfl:D=e.D:=Option.some.inj (d1.symm.trans hE.zero)
  obtain⟨iz,z1,z2,z3⟩:=hE.z
  obtain⟨p1,p2,p3⟩:=Iv hI hx hE.RQ hE.new (z3.rd κ) z3.jC z3.ty hE.heap
  have Sj:=Yt hI e.blk e.z.cells.size e.D
  refine ih (l1++l2) (zZ.setIfInBounds e.i true) (κ.push e.blk e.z.cells.size e.D) (uO s.1 (some e.d) (some (.ptr s.2.length 0)),s.2++[.var e.D]) (by simp at hl ⊢; omega) (by simp[vb]) (λj hj ha => ?_) (λj hj hb ha => ?_) (λf hf => ?_) Ht p1 ?_ (by show κ.st++_=s.2++_; rw[qQ]) p2 (λf hf => ?_) ?_
  ·rw[vA (by omega)]at ha
   split at ha
   ·rename_i h; subst h; exact OH
   ·exact h1 j hj ha
  ·rw[vA (by omega)]at ha
   split at ha
   ·cases ha
   ·rename_i ui
    obtain⟨f,hf,Vq⟩:=h2 j hj hb ha
    rcases OB f hf with rfl | hf
    ·exact absurd Vq.symm ui
    ·exact⟨f,hf,Vq⟩
  ·obtain⟨f1,f2,f3⟩:=h3 f (ZJ f hf)
   refine⟨f1,f2,?_⟩
   rw[vA (by omega),if_neg (S1 f hf).1.symm]
   exact f3
  ·refine⟨hR.size,hR.defers,λu d0 hu => ?_⟩
   obtain⟨u1,u2⟩:=Qe hu
   simp only[uO]at u1
   by_cases S5:u=e.d
   ·subst S5
    rw[if_pos rfl]at u1
    cases u1
    rw[<- qQ]
    exact⟨_,hE.val,p3⟩
   ·rw[if_neg S5]at u1
    have:j1 (l1++e::l2) s.1 u=some d0:=by
     rw[mH λf hf hfu => ?_]
     ·exact u1
     ·rcases OB f hf with rfl | hf
      ·exact S5 hfu.symm
      ·exact u2 f hf hfu
    obtain⟨v,v1,v2⟩:=hR.get u d0 this
    exact⟨v,v1,v2.up Sj⟩
  ·have hF:=I0 f (ZJ f hf)
   refine⟨hF.op,hF.zero,hF.z,hF.val,hF.heap,⟨hF.RQ.lt,hF.RQ.ok,λb m hb => ?_⟩,hF.new⟩
   rcases iP hb with hb | ⟨_,hb⟩
   ·exact hF.RQ.ph b m hb
   ·exact(S1 f hf).2.1 (congrArg Prod.fst (Option.some.inj hb)).symm
  ·have:rest ops (zZ.setIfInBounds e.i true)=pre++post:=g2
   rw[this]; exact k2
theorem Eg{listed:Array Bool}{i:Nat}(vb:listed.size=ops.size)(h1:i<ops.size)(h2:listed.getD i true=false):(rest ops listed).length=(rest ops (listed.setIfInBounds i true)).length+1:=by
 obtain⟨pre,post,g1,g2,_⟩:=k9 (p:=λi => !listed.getD i true) (q:=λj => !(listed.setIfInBounds i true).getD j true) (i:=i) (List.range ops.size) List.pairwise_lt_range
  (List.mem_range.2 h1) (by grind) (λj=>by
   rw[vA (by omega)]
   by_cases h:j=i
   ·grind
   ·simp[h])
 have e1:rest ops listed=pre++i::post:=g1
 have e2:rest ops (listed.setIfInBounds i true)=pre++post:=g2
 grind
theorem Km{listed:Array Bool}{i:Nat}(Jy:kc ops.toList 0=true)(vb:listed.size=ops.size)(sd:lR ops listed)(h1:i<ops.size)
  (h3:∀ o,ops[i]? = some o->∀ e∈o.after.toList,Region.binds .any e=true->listed.getD e.on false=true) :
  (∀ p,ordered (ql ops.toList []) p i=true->p<ops.size->listed.getD p true=true)/\lR ops (listed.setIfInBounds i true):=by
 have Fo:∀ p,ordered (ql ops.toList []) p i=true->p<ops.size->listed.getD p true=true:=by
  intro p hp qc
  obtain⟨r,_,_,hb⟩:=db ops.toList []
  obtain⟨e,k1,k2,k3⟩:=hb i ops[i] (by simp) p (by simpa[ordered]using hp)
  have Qb:=dD ops.toList 0 Jy i ops[i] (by simp) e k1 k2
  have Q3:listed.getD e.on true=true:=by
   grind
  rcases k3 with rfl | ⟨_,k3⟩
  ·exact Q3
  ·exact sd e.on (by omega) Q3 p k3 qc
 refine⟨Fo,λq hq Br p hp qc => ?_⟩
 rw[vA (by omega)]at Br ⊢
 split
 ·rfl
 ·split at Br
  ·grind
  ·exact sd q hq Br p hp qc
theorem Wj{κ:KS}{a:Act}{es:List Em}{f:F}{e:Em}{v:Value}(hR:Rel κ n (j1 es f) a):Rel κ n (j1 (e::es) f) (a.put (some e.d) v):=by
 refine⟨by simp[Act.put,hR.size],hR.defers,λu d hu => ?_⟩
 obtain⟨u1,u2⟩:=Qe hu
 have ui:e.d≠u:=u2 e List.mem_cons_self
 have:j1 es f u=some d:=by rw[mH λg hg=>u2 g (List.mem_cons_of_mem _ hg)]; exact u1
 obtain⟨w,w1,w2⟩:=hR.get u d this
 exact⟨w,by simp[Act.put,Array.getElem?_setIfInBounds_ne ui]; exact w1,w2⟩
theorem my{kd:Nat->Nat}{Q:Exit->Act->World->Prop}(hC:∀ g,WZ c.P g (c.fn g))(Jy:kc ops.toList 0=true)
  (uW:∀ p i,p<i->i<ops.size->ordered (ql ops.toList []) p i=true\/N0 ops kd p i) (yO:∀ i,i<ops.size->kd i<=2)
  (dH:∀ p j,p<ops.size->hH ops p->j<ops.size->ordered (ql ops.toList []) p j=true->∀ q,q<ops.size->hH ops q->ordered (ql ops.toList []) q j=true)
  {κ0:KS} {a0:Act} {sf:F×St}:∀ (fuel:Nat) (listed zZ:Array Bool) (es:List Em) {κ:KS} {a:Act} {s:F×St},
  listed.size=ops.size->zZ.size=ops.size->fuel=(rest ops listed).length->lR ops listed->(∀ j,j<ops.size->zZ.getD j true=true->listed.getD j true=true) ->
  (∀ j,j<ops.size->listed.getD j true=true->zZ.getD j true=false->∃ e∈es,e.i=j)->(∀ e∈es,e.i<ops.size/\listed.getD e.i true=true/\zZ.getD e.i true=false)->es.Pairwise I1 ->
  (∃ q,q<ops.size/\hH ops q/\listed.getD q true=false)->Inv κ->Rel κ n (j1 es s.1) a->κ.st=s.2->Ext κ0 κ->(∀ e∈es,J0 c ops κ0 κ a e)->dW c n ops kd (rest ops zZ) s sf->bc ops a0 a ->
  (∀ (a':Act) (κ':KS),κ'.st=sf.2->Inv κ'->Ext κ0 κ'->Rel κ' n sf.1 a'->bc ops a0 a'->Q .normal a' κ'.w)->wpAny c.P .any ops Q fuel listed a κ.w
 | 0,listed,zZ,es,κ,a,s,vb,hszA,hfuel,sd,h1,h2,h3,Js,⟨q,q1,q2,q3⟩,hI,hR,qQ,hx,I0,xg,hkp,hQ=>by
  have IS:rest ops listed=[]:=List.eq_nil_of_length_eq_zero hfuel.symm
  have:q∈rest ops listed:=by simp only[rest,List.mem_filter,List.mem_range,Bool.not_eq_true']; exact⟨q1,q3⟩
  grind
 | fuel+1,listed,zZ,es,κ,a,s,vb,hszA,hfuel,sd,h1,h2,h3,Js,⟨q,q1,q2,q3⟩,hI,hR,qQ,hx,I0,xg,hkp,hQ=>by
  refine⟨λh => ?_,λi hi => ?_⟩
  ·have IS:=Z7 Jy vb h
   grind
  rw[de]at hi
  obtain⟨i1,i2,i3⟩:=hi
  obtain⟨Fo,Hy⟩:=Km Jy vb sd i1 i3
  have JI:fuel=(rest ops (listed.setIfInBounds i true)).length:=by have:=Eg vb i1 i2; omega
  have hia:zZ.getD i true=false:=by
   grind
  have Dw:∀ p,p<ops.size->hH ops p->ordered (ql ops.toList []) p i=true->False:=by
   grind
  have ld:∀ j,(listed.setIfInBounds i true).getD j true=if j=i then true else listed.getD j true:=λj=>vA (by omega)
  by_cases V0:hH ops i
  ·-- a new variable is laid
   obtain⟨o,ho,hao⟩:=V0
   obtain⟨t,d,o1,o2,o3⟩:=BK hao
   have him:i∈rest ops zZ:=by simp only[rest,List.mem_filter,List.mem_range,Bool.not_eq_true']; exact⟨i1,hia⟩
   obtain⟨t1,t2,hos⟩:=UA xg him
   obtain⟨D,d1,d2,_⟩:=sT ho o1 o2 o3 hos
   obtain⟨iz,z,z1,z2,z3⟩:=br d1
   obtain⟨w1,w2,w3,w4⟩:=Im hI (.cells z.cells t)
   let e:Em:=⟨i,d,κ.w.heap.size,t,z,D⟩
   have z0f:(execOp a.eval o).run c.P κ.w=.ok (.value (.pointer (some ⟨κ.w.heap.size,0,none⟩))) (κ.w.alloc (.cells z.cells t)):=by
    obtain⟨dst,op,ty,pos,after,guard⟩:=o
    cases o1
    simp[execOp,Instr.alloc,zeroValue,typeInfo,z1,z2,newVar,newRow]
   have z2d:Region.wanted o (yielded ops a.tmps)=true:=by unfold Region.wanted; rw[o2]
   unfold wpOp
   rw[ho]
   simp only
   rw[if_pos z2d]
   refine .inl ?_
   unfold Oper.wp
   rw[z0f]
   show wpAny c.P Region.Mode.any ops Q fuel (listed.setIfInBounds i true) (a.put o.dst (Value.pointer (some { block:=κ.w.heap.size,off:=0 }))) (κ.w.alloc (Obj.cells z.cells t))
   rw[o3]
   have ui:∀ f∈es,f.d≠d:=by
    intro f hf OE
    obtain⟨f1,f2,f3⟩:=h3 f hf
    obtain⟨fo,Nh,SR,fo3,Ip⟩:=(I0 f hf).op
    have Vq:f.i≠i:=λh=>by rw[h,i2]at f2; cases f2
    rcases Nat.lt_or_gt_of_ne Vq with qc | qc
    ·rcases uW f.i i qc i1 with h | h
     ·exact Dw f.i f1 ⟨fo,Nh,WT SR fo3 Ip⟩ h
     ·exact(h fo o Nh ho).1 f.d Ip (OE▸uN o3)
    ·rcases uW i f.i qc f1 with h | h
     ·have:=sd f.i f1 f2 i h i1; rw[i2]at this; cases this
     ·exact(h o fo ho Nh).1 d o3 (OE▸uN Ip)
   have z6w:J0 c ops κ0 { κ with w:=κ.w.alloc (.cells z.cells t) } (a.put (some d) (.pointer (some ⟨κ.w.heap.size,0,none⟩))) e :=
    ⟨⟨o,ho,o1,o2,o3⟩,d1,⟨iz,z1,z2,z3⟩,by simp[e,Act.put,hR.size,d2],w4,w3,hx.size⟩
   have z0p:∀ f∈e::es,J0 c ops κ0 { κ with w:=κ.w.alloc (.cells z.cells t) } (a.put (some d) (.pointer (some ⟨κ.w.heap.size,0,none⟩))) f:=by
    intro f hf
    rcases List.mem_cons.1 hf with rfl | hf
    ·exact z6w
    ·exact(I0 f hf).mono w2 (by simp[Act.put,Array.getElem?_setIfInBounds_ne (λe'=>ui f hf e'.symm)])
   have Mt:Rel { κ with w:=κ.w.alloc (.cells z.cells t) } n (j1 (e::es) s.1) (a.put (some d) (.pointer (some ⟨κ.w.heap.size,0,none⟩))):=Wj (e:=e) (hR.mono w2)
   have hdE:∀ f∈es,I1 e f:=by
    intro f hf
    unfold I1
    refine⟨λh => ?_,λh => ?_,λh=>ui f hf h.symm⟩
    ·have hf2:=(h3 f hf).2.1
     rw[<- h]at hf2
     have i2':listed.getD e.i true=false:=i2
     rw[i2']at hf2
     cases hf2
    ·have hl:=(I0 f hf).RQ.lt
     rw[<- h]at hl
     exact Nat.lt_irrefl _ hl
   have Ht:(e::es).Pairwise I1:=List.pairwise_cons.2 ⟨hdE,Js⟩
   have z02:bc ops a0 (a.put (some d) (.pointer (some ⟨κ.w.heap.size,0,none⟩))):=hkp.trans (by have:=iu (a:=a) (v:=.pointer (some ⟨κ.w.heap.size,0,none⟩)) ho; rw[o3]at this; exact this)
   have Xq:∀ j,j<ops.size->zZ.getD j true=true->(listed.setIfInBounds i true).getD j true=true:=λj hj ha=>by
    rw[ld]; split
    ·rfl
    ·exact h1 j hj ha
   have Iq:∀ j,j<ops.size->(listed.setIfInBounds i true).getD j true=true->zZ.getD j true=false->∃ f∈e::es,f.i=j:=λj hj hb ha=>by
    rw[ld]at hb
    split at hb
    ·rename_i h; exact⟨e,List.mem_cons_self,h.symm⟩
    ·obtain⟨f,hf,Vq⟩:=h2 j hj hb ha; exact⟨f,List.mem_cons_of_mem _ hf,Vq⟩
   have h3':∀ f∈e::es,f.i<ops.size/\(listed.setIfInBounds i true).getD f.i true=true/\zZ.getD f.i true=false:=λf hf=>by
    rcases List.mem_cons.1 hf with rfl | hf
    ·exact⟨i1,by rw[ld]; exact if_pos rfl,hia⟩
    ·obtain⟨f1,f2,f3⟩:=h3 f hf
     exact⟨f1,by rw[ld]; split<;>first | rfl | exact f2,f3⟩
   by_cases hmore:∃ q,q<ops.size/\hH ops q/\(listed.setIfInBounds i true).getD q true=false
   ·exact my hC Jy uW yO dH fuel (listed.setIfInBounds i true) zZ (e::es) (κ:={ κ with w:=κ.w.alloc (.cells z.cells t) }) (by simp[vb]) hszA JI Hy Xq Iq h3' Ht hmore w1 Mt qQ (hx.trans w2) z0p xg z02 hQ
   ·-- all are laid
    have Oi:∀ q,q<ops.size->hH ops q->(listed.setIfInBounds i true).getD q true=true:=λq q1 q2=>by
     cases hb:(listed.setIfInBounds i true).getD q true with
     | true=>rfl
     | false=>exact(hmore ⟨q,q1,q2,hb⟩).elim
    obtain⟨κ',s',f1,f2,f3,f4,f5,f6⟩:=flush (c:=c) (n:=n) uW yO Hy Oi (e::es).length (e::es) zZ { κ with w:=κ.w.alloc (.cells z.cells t) } s rfl hszA Xq Iq h3' Ht w1 Mt qQ (hx.trans w2) z0p xg
    have hgo:=th (κ:=κ') hC Jy fuel (listed.setIfInBounds i true) (Q:=Q) (λp j hpj hj hp=>(uW p j hpj hj).elim .inl λh=>.inr (Wf h (yO p (by omega)) (yO j hj) λhh=>by
     rw[Oi p (by omega) hh.1]at hp; cases hp)) (by simp[vb]) JI Hy f3 f5 f2 f6 λa' BD e1 e2 e3 e4 e5=>hQ a' BD e1 e2 (f4.trans e3) e4 (z02.trans e5)
    rw[f1]at hgo
    exact hgo
  ·-- another operation
   have Oa:∀ o,ops[i]? = some o->∀ e∈es,e.d ∉ tmpsOf ops o:=by
    intro o ho f hf
    obtain⟨f1,f2,f3⟩:=h3 f hf
    obtain⟨fo,Nh,SR,fo3,Ip⟩:=(I0 f hf).op
    have Vq:f.i≠i:=λh=>by rw[h,i2]at f2; cases f2
    rcases Nat.lt_or_gt_of_ne Vq with qc | qc
    ·rcases uW f.i i qc i1 with h | h
     ·exact(Dw f.i f1 ⟨fo,Nh,WT SR fo3 Ip⟩ h).elim
     ·exact(h fo o Nh ho).1 f.d Ip
    ·rcases uW i f.i qc f1 with h | h
     ·have:=sd f.i f1 f2 i h i1; rw[i2]at this; cases this
     ·exact(h o fo ho Nh).2.1 f.d Ip
   obtain⟨pre,post,g1,g2,g3⟩:=k9 (p:=λi => !zZ.getD i true) (q:=λj => !(zZ.setIfInBounds i true).getD j true) (i:=i) (List.range ops.size) List.pairwise_lt_range
    (List.mem_range.2 i1) (by simp[hia]) (λj=>by
     rw[vA (by omega)]
     by_cases h:j=i
     ·subst h; simp
     ·simp[h])
   have EH:∀ p∈pre,Ox ops kd p i:=by
    intro p hp
    obtain⟨r1,r2,r3⟩:=g3 p hp
    have r2:=List.mem_range.1 r2
    have r1:zZ.getD p true=false:=by simpa using r1
    rcases uW p i r3 i1 with h | h
    ·obtain⟨f,hf,Vq⟩:=h2 p r2 (Fo p h r2) r1
     obtain⟨fo,Nh,SR,fo3,Ip⟩:=(I0 f hf).op
     exact(Dw p r2 ⟨fo,by rw[<- Vq]; exact Nh,WT SR fo3 Ip⟩ h).elim
    ·exact Wf h (yO p r2) (yO i i1) λhh=>V0 hh.2
   have UG:dW c n ops kd (pre++i::post) s sf:=by
    have:rest ops zZ=pre++i::post:=g1
    rw[<- this]; exact xg
   obtain⟨s1,k1,k2⟩:=tb EH UG
   refine Ba (s:=(j1 es s.1,s.2)) (s':=(j1 es s1.1,s1.2)) hC hI hR qQ (JC k1 Oa) λa1 κ1 e1 e2 e3 e4 e5 e6 => ?_
   have Ei:∀ j,(zZ.setIfInBounds i true).getD j true=if j=i then true else zZ.getD j true:=λj=>vA (by omega)
   refine my hC Jy uW yO dH fuel (listed.setIfInBounds i true) (zZ.setIfInBounds i true) es (κ:=κ1) (s:=s1) (by simp[vb]) (by simp[hszA]) JI Hy (λj hj ha => ?_) (λj hj hb ha => ?_) (λf hf => ?_) Js
    ⟨q,q1,q2,?_⟩ e2 e4 e1 (hx.trans e3) (λf hf=>(I0 f hf).mono e3 (e6 f.d λo ho hod=>Oa o ho f hf (uN hod))) ?_ (hkp.trans e5) hQ
   ·rw[Ei]at ha; rw[ld]
    split
    ·rfl
    ·rename_i h; rw[if_neg h]at ha; exact h1 j hj ha
   ·rw[Ei]at ha; rw[ld]at hb
    split at ha
    ·cases ha
    ·rename_i h; rw[if_neg h]at hb; exact h2 j hj hb ha
   ·obtain⟨f1,f2,f3⟩:=h3 f hf
    have Vq:f.i≠i:=λh=>by rw[h,i2]at f2; cases f2
    exact⟨f1,by rw[ld,if_neg Vq]; exact f2,by rw[Ei,if_neg Vq]; exact f3⟩
   ·have hqi:q≠i:=λh=>V0 (by rw[<- h]; exact q2)
    rw[ld,if_neg hqi]; exact q3
   ·have:rest ops (zZ.setIfInBounds i true)=pre++post:=g2
    rw[this]; exact k2
theorem lZ{kd:Nat->Nat}:∀ {l:List Oper} {ks:List Nat} {i j:Nat} {o:Oper},l[i]? = some o->ks[i]? = some (kd j)->(ta l ks)[i]? = some (RV kd o j)
 | [],_,i,_,_,h,_=>by simp at h
 | _::_,[],i,_,_,_,h=>by simp at h
 | x::l,k::ks,0,j,o,h1,h2=>by simp at h1 h2; subst h1; subst h2; rfl
 | x::l,k::ks,i+1,j,o,h1,h2=>by
  have:=lZ (kd:=kd) (l:=l) (ks:=ks) (i:=i) (j:=j) (o:=o) (by grind) (by grind)
  simpa[ta]using this
theorem Qu:∀ {l:List Oper} {k i:Nat} {o:Oper},l[i]? = some o->rA o=true->k+i∈sV l k
 | [],_,_,_,h,_=>by simp at h
 | x::l,k,0,o,h1,h2=>by simp at h1; subst h1; simp[sV,h2]
 | x::l,k,i+1,o,h1,h2=>by
  have:=Qu (l:=l) (k:=k+1) (i:=i) (o:=o) (by grind) h2
  simp only[sV]
  grind
theorem pC{kd:Nat->RK}:∀ (l:List Nat) (s s':F×St) (ks:List RK),GC c n ops l s s' ks->ks=l.map kd->Zd (λi s s'=>yL c n ops i s s' (kd i)) l s s'
 | [],s,s',ks,h,_=>h.1
 | i::l,s,s',ks,⟨s1,k,UQ,e,h1,h2⟩,hk=>by
  subst e
  simp at hk
  obtain⟨rfl,hk⟩:=hk
  exact⟨s1,h1,pC l s1 s' UQ h2 hk⟩
theorem Bs{κ:KS}{a:Act}{id:Nat}{draw:Bool}{fr:Fr}{kn:Kn}{s':gG}(hm:c.P.follows .mixedOrders=true)(hC:∀ g,WZ c.P g (c.fn g))(hI:Inv κ)(hR:Rel κ n fr.get a)(hk:xX kn fr.get)
  (h:(gL c n ops draw fr kn κ.st).leads s') {Q:Exit->Act->World->Prop} (hQ:∀ (a':Act) (κ':KS),κ'.st=s'.st->Inv κ'->Ext κ κ'->Rel κ' n s'.fr.get a'->bc ops a a'->Q .normal a' κ'.w) :
  (Code.region id ops draw).wp c.P Q a κ.w/\xX s'.kn s'.fr.get:=by
 simp only[gL,T.zq]at h
 obtain⟨s1,h1,h2⟩:=h
 obtain⟨ks,g1,g2,g3⟩:=bh ops.toList 0 ⟨fr,kn,κ.st,[],[]⟩ s1 (λj=>.inl (by simp)) hk h1
 simp only[List.append_nil]at g3
 have hl:ops.toList.length=ops.size:=by simp
 rw[hl,<- List.range_eq_range']at g1
 cases hd:(!draw||mn ops s1.ks.reverse s1.bk.reverse)with
 | false=>rw[hd]at h2; exact h2.elim
 | true =>
  rw[hd,cond_true]at h2
  cases h2
  refine⟨?_,g2⟩
  cases draw with
  | false=>exact wp_region (G2 hC _ hI hR rfl g1 hQ)
  | true =>
   simp only[Bool.not_true,Bool.false_or,mn,Bool.or_eq_true]at hd
   obtain⟨R1,r1,r3⟩:=pM (ops:=ops) ops.toList 0 ⟨fr,kn,κ.st,[],[]⟩ _ (λj=>.inl (by simp)) hk h1
   simp only[List.append_nil]at r3
   rw[hl,<- List.range_eq_range']at r1
   let kd:Nat->Nat:=λi=>ks.getD i 0
   have S0:ks.length=ops.size:=by rw[Uy _ _ _ _ g1]; simp
   have hks:ks=(List.range ops.size).map kd:=by
    apply List.ext_getElem?
    intro i
    grind
   have xg:=tR (kd:=kd) _ _ _ _ g1 hks
   refine wp_region_any hm ?_
   let κd:KS:={ κ with w:=κ.w.drew }
   have hx:Ext κ κd:=⟨rfl,rfl,rfl,Nat.le_refl _,λk hk=>⟨hk,rfl⟩,λk hk=>.inl hk,λ_ _ _ h=>.inl h,λb d h=>⟨⟨d,h⟩,rfl⟩,
    λb v0 e xs h=>.inr ⟨v0,xs,h,Nat.le_refl _,λ_=>⟨rfl,rfl⟩⟩,λ_ h=>h,Nat.le_refl _,λk _ _=>rfl⟩
   have hId:Inv κd:=⟨hI.len,hI.ux,hI.apart,hI.inj,λb y hy=>(hI.blk b y hy).mono hx rfl λ_ _ _=>rfl,hI.gl.mono hx.same⟩
   have iB:rest ops (Array.replicate ops.size false)=List.range ops.size:=by
    unfold rest
    rw[List.filter_eq_self]
    intro i hi
    have:=List.mem_range.1 hi
    simp[Array.getD_eq_getD_getElem?,this]
   have XA:∀ j,j<ops.size->(Array.replicate ops.size false).getD j true=false:=λj hj=>by simp[Array.getD_eq_getD_getElem?,hj]
   have IB:lR ops (Array.replicate ops.size false):=λq hq Br=>by rw[XA q hq]at Br; cases Br
   have U4:∀ i,i<ops.size->ks[i]? = some (kd i):=λi hi=>by simp[kd,List.getD,List.getElem?_eq_getElem (show i<ks.length by omega)]
   have pL:∀ i (hi:i<ops.size),ops.toList[i]? = some ops[i]:=λi hi=>by simp
   rcases hd with(hd | hd) | hd
   ·simp only[G1,Bool.and_eq_true]at hd
    obtain⟨d1,d2⟩:=hd
    rw[g3,List.reverse_reverse]at d2
    have uW:∀ p i,p<i->i<ops.size->ordered (ql ops.toList []) p i=true\/Ox ops kd p i:=by
     intro p i UO hi
     have hp:=du ops.toList ks 0 [] d2 i ops[i] (kd i) (pL i hi) (U4 i hi)
     have:=hp.2 p ops[p] (kd p) UO (pL p (by omega)) (U4 p (by omega))
     simp only[Nat.zero_add]at this
     refine bf this (λh=>h) λP1 x y hx hy => ?_
     rw[Array.getElem?_eq_getElem (by omega)]at hx hy
     cases hx
     cases hy
     exact P1
    exact th (κ:=κd) hC d1 ops.size _ (λp i h1 h2 _=>uW p i h1 h2) (by simp) (by rw[iB]; simp) IB hId (hR.mono hx) rfl (by rw[iB]; exact xg) λa' κ' e1 e2 e3 e4 e5=>hQ a' κ' e1 e2 (hx.trans e3) e4 e5
   ·simp only[Y9,Bool.and_eq_true]at hd
    obtain⟨⟨⟨d1,d0⟩,d2⟩,d3⟩:=hd
    rw[g3,List.reverse_reverse]at d0 d2
    have yO:∀ i,i<ops.size->kd i<=2:=λi hi=>Nat.le_of_ble_eq_true (List.all_eq_true.1 d0 _ (List.mem_of_getElem? (U4 i hi)))
    have uW:∀ p i,p<i->i<ops.size->ordered (ql ops.toList []) p i=true\/N0 ops kd p i:=by
     intro p i UO hi
     have hp:=du ops.toList (ta ops.toList ks) 0 [] d2 i ops[i] (RV kd ops[i] i) (pL i hi) (lZ (pL i hi) (U4 i hi))
     have:=hp.2 p ops[p] (RV kd ops[p] p) UO (pL p (by omega)) (lZ (pL p (by omega)) (U4 p (by omega)))
     simp only[Nat.zero_add]at this
     refine bf this (λh=>h) λP1 x y hx hy => ?_
     rw[Array.getElem?_eq_getElem (by omega)]at hx hy
     cases hx
     cases hy
     exact P1
    have dH:∀ p j,p<ops.size->hH ops p->j<ops.size->ordered (ql ops.toList []) p j=true->∀ q,q<ops.size->hH ops q->ordered (ql ops.toList []) q j=true:=by
     intro p j hp P1 hj ho q hq haq
     unfold UJ at d3
     have:=List.all_eq_true.1 d3 j (List.mem_range.2 (by simpa using hj))
     simp only[Bool.or_eq_true,Bool.not_eq_true',List.any_eq_false,List.all_eq_true]at this
     have hm:∀ r,hH ops r->r∈sV ops.toList 0:=λr ⟨o,h1,h2⟩=>by
      have:=Qu (l:=ops.toList) (k:=0) (i:=r) (o:=o) (by rw[Array.getElem?_toList]; exact h1) h2
      rwa [Nat.zero_add]at this
     rcases this with h | h
     ·have:=h p (hm p P1); rw[ho]at this; exact absurd rfl this
     ·exact h q (hm q haq)
    by_cases hex:∃ q,q<ops.size/\hH ops q
    ·obtain⟨q,q1,q2⟩:=hex
     exact my (κ0:=κd) (κ:=κd) (a0:=a) hC d1 uW yO dH ops.size _ (Array.replicate ops.size false) [] (by simp) (by simp) (by rw[iB]; simp) IB (λj hj h=>by rw[XA j hj]at h; cases h)
      (λj hj h _=>by rw[XA j hj]at h; cases h) (λe he=>by cases he) .nil ⟨q,q1,q2,XA q q1⟩ hId (hR.mono hx) rfl (Ext.refl _) (λe he=>by cases he) (by rw[iB]; exact xg) (bc.refl _ _)
      λa' κ' e1 e2 e3 e4 e5=>hQ a' κ' e1 e2 (hx.trans e3) e4 e5
    ·exact th (κ:=κd) hC d1 ops.size _ (λp i h1 h2 _=>(uW p i h1 h2).elim .inl λh=>.inr (Wf h (yO p (by omega)) (yO i h2) λhh=>hex ⟨p,by omega,hh.1⟩)) (by simp) (by rw[iB]; simp) IB hId (hR.mono hx) rfl (by rw[iB]; exact xg) λa' κ' e1 e2 e3 e4 e5=>hQ a' κ' e1 e2 (hx.trans e3) e4 e5
   ·simp only[H0,Bool.and_eq_true]at hd
    obtain⟨d1,d2⟩:=hd
    rw[r3,List.reverse_reverse]at d2
    let kr:Nat->RK:=λi=>R1.getD i (.z 0)
    have hrl:R1.length=ops.size:=by rw[QJ _ _ _ _ r1]; simp
    have z5C:R1=(List.range ops.size).map kr:=by
     apply List.ext_getElem?
     intro i
     by_cases hi:i<ops.size
     ·simp[kr,hi,List.getD,List.getElem?_eq_getElem (show i<R1.length by omega)]
     ·rw[List.getElem?_eq_none (by omega),List.getElem?_eq_none (by simp; omega)]
    have OF:∀ i,i<ops.size->R1[i]? = some (kr i):=λi hi=>by simp[kr,List.getD,List.getElem?_eq_getElem (show i<R1.length by omega)]
    have TB:=pC (kd:=kr) _ _ _ _ r1 z5C
    have uW:∀ p i,p<i->i<ops.size->ordered (ql ops.toList []) p i=true\/OR ops kr p i:=by
     intro p i UO hi
     have hp:=du ops.toList R1 0 [] d2 i ops[i] (kr i) (pL i hi) (OF i hi)
     have:=hp.2 p ops[p] (kr p) UO (pL p (by omega)) (OF p (by omega))
     simp only[Nat.zero_add]at this
     refine bf this (λh=>h) λP1 x y hx hy => ?_
     rw[Array.getElem?_eq_getElem (by omega)]at hx hy
     cases hx
     cases hy
     exact P1
    exact om (κ:=κd) (Stp:=λi s s'=>yL c n ops i s s' (kr i)) (In:=λp i=>OR ops kr p i) (λi s s' h=>h.plain) (λp i hi s s1 s2 h1 h2=>JO hi h1 h2) hC d1 ops.size _ (λp i h1 h2 _=>uW p i h1 h2) (by simp) (by rw[iB]; simp) IB hId (hR.mono hx) rfl (by rw[iB]; exact TB) λa' κ' e1 e2 e3 e4 e5=>hQ a' κ' e1 e2 (hx.trans e3) e4 e5
end
end Go.AM
namespace Go.AM
set_option linter.unusedSectionVars false
variable [we] [X0]
def Va(κ:KS):Ex->Exit->Prop
 | .normal,e=>e=.normal
 | .exit id,e=>e=.exit id
 | .ret,e=>e=.ret
 | .wN d,e=>∃ v,e=.panic [{ v,recovered:=false }]/\RD κ d v
section
variable {c:Ctx} {n:Nat}
def qo:Code->List (Nat×Code)
 | .seq a b=>qo a++qo b
 | .cond _ a b=>qo a++qo b
 | .block id (.loop b)=>[(id,b)]
 | .block _ a=>qo a
 | _=>[]
theorem Bb{ops:Array Oper}{draw:Bool}{fr:Fr}{kn:Kn}{st:St}{s':gG}(hk:xX kn fr.get)(h:(gL c n ops draw fr kn st).leads s'):xX s'.kn s'.fr.get:=by
 simp only[gL,T.zq]at h
 obtain⟨s1,h1,h2⟩:=h
 obtain⟨ks,g1,g2,g3⟩:=bh ops.toList 0 ⟨fr,kn,st,[],[]⟩ s1 (λj=>.inl (by simp)) hk h1
 cases hd:(!draw||mn ops s1.ks.reverse s1.bk.reverse)with
 | false=>rw[hd]at h2; exact h2.elim
 | true=>rw[hd,cond_true]at h2; cases h2; exact g2
theorem yk(f:F):xX [] f:=by nofun
theorem VQ{id:Nat}{b:Code}(hb:∀ b',b≠.loop b'):qo (.block id b)=qo b:=by
 cases b<;>first | rfl | exact absurd rfl (hb _)
end
end Go.AM
namespace Go.AM
set_option linter.unusedSectionVars false
variable [we] [X0]
section
variable {c:Ctx} {n:Nat}
theorem Xw:∀ (ds:List D) (i s:Nat),(xV ds i).get s=if i<=s then ds[s-i]? else none
 | [],i,s=>by simp[xV,Fr.get]
 | d::r,i,s=>by
  simp only[xV,Fr.get]
  by_cases h:i=s
  ·subst h; simp
  ·rw[dJ h,cond_false,Xw r (i+1) s]
   grind
theorem rV{κ:KS}{args:List D}{zp:List Value}(h:zU κ args zp)(hn:args.length<=n) :
  Rel κ n (xV args 0).get { tmps:=zp.toArray++Array.replicate (n-zp.toArray.size) undef,defers:=X0.df }:=by
 have hl:=h.1
 refine⟨by grind,rfl,λs d hd => ?_⟩
 rw[Xw]at hd
 obtain⟨v,h1,h2⟩:=h.get hd
 grind
theorem lW{κ:KS}{fr:Fr}{a:Act}(hI:Inv κ)(hR:Rel κ n fr.get a):∀ (rvs:List ResultVar) (ds:List D),(yp c fr κ.st rvs).leads ds ->
  ∃ vs:List Value,Sem.run c.P (rvs.mapM λr=>match r with | ResultVar.tmp t=>(Pure.pure (a.tmps.getD t undef):Sem Value) | ResultVar.cell p t=>do loadVar t (<- asAddr (a.tmps.getD p undef))) κ.w=Result.ok vs κ.w/\zU κ ds vs
 | [],ds,h=>by cases h; exact⟨[],by simp,.nil⟩
 | .tmp t::r,ds,h=>by
  simp only[yp]at h
  split at h
  ·rename_i d hd
   simp only[T.zq]at h
   obtain⟨l,hl,rfl⟩:=h
   obtain⟨v,h1,h2⟩:=hR.get t d hd
   obtain⟨vs,h3,h4⟩:=lW hI hR r l hl
   refine⟨v::vs,?_,.cons h2 h4⟩
   simp only[List.mapM_cons,Sem.run_bind,Sem.run_pure,Result.andThen_ok,h3]
   simp[h1]
  ·exact h.elim
 | .cell p t::r,ds,h=>by
  simp only[yp]at h
  split at h
  ·rename_i b off hd
   split at h
   ·rename_i d hb
    cases rG:d.tk with
    | true=>rw[rG]at h; exact h.elim
    | false =>
    rw[rG,cond_false]at h
    split at h
    ·rename_i x hx
     simp only[T.zq]at h
     obtain⟨l,hl,rfl⟩:=h
     obtain⟨v,h1,h2⟩:=hR.get p _ hd
     obtain⟨vs,h3,h4⟩:=lW hI hR r l hl
     cases h2 with
     | ptr _ _ blk m d1 hd1 hp =>
      obtain⟨b6,n',cs,T,g1,g2,g3,g4,g5⟩:=(hI.blk b _ hb:xF κ b d).cells rG
      rw[hp]at g1
      cases g1
      obtain⟨u,e1,e2⟩:=Zb (c:=c) (blk:=blk) 0 hx g4 g5.1 (λj v hj=>by rw[l6 g2]; simpa using hj)
      rw[Nat.zero_add]at e1
      refine⟨u::vs,?_,.cons e2 h4⟩
      have hA:(asAddr (a.tmps.getD p undef)).run c.P κ.w=.ok ⟨blk,off,none⟩ κ.w:=by simp[h1,asAddr]
      simp only[List.mapM_cons,Sem.run_bind,hA,Result.andThen_ok,e1,h3,Sem.run_pure]
    ·exact h.elim
   ·exact h.elim
  ·exact h.elim
def Cy:List Value->Value
 | [v]=>v
 | vs=>.tuple vs.toArray
theorem nk{κ:KS}{fr:Fr}{a:Act}{fn:Func}{ds:List D}(hI:Inv κ)(hR:Rel κ n fr.get a)(h:(yp c fr κ.st fn.results.toList).leads ds) :
  ∃ vs:List Value,(results fn a.tmps).run c.P κ.w=.ok (Cy vs) κ.w/\zU κ ds vs:=by
 obtain⟨vs,h1,h2⟩:=lW hI hR _ _ h
 simp only[results,Array.mapM_eq_mapM_toList,Sem.run_bind,Sem.run_map]
 have key:∀ r:Result (List Value),r=.ok vs κ.w->((r.andThen λa w'=>.ok a.toArray w').andThen λa w'=>(Pure.pure (if h:a.size=1 then a[0]else .tuple a):Sem Value).run c.P w')=.ok (Cy vs) κ.w:=by
  rintro _ rfl
  match vs with
  | []=>rfl
  | [v]=>rfl
  | _::_::_=>rfl
 grind
theorem sG{κ:KS}{ds:List D}{vs:List Value}(h:zU κ ds vs):RD κ (jA ds) (Cy vs):=by
 match ds,vs,h with
 | [],vs,h=>rw[h.zG]; exact .jC [] [] rfl (λi h=>absurd h (Nat.not_lt_zero i))
 | [d],vs,h =>
  obtain⟨v,r,rfl,h1,h2⟩:=h.cons_inv
  rw[h2.zG]
  exact h1
 | d::e::r,vs,h =>
  obtain⟨v,us,rfl,h1,h2⟩:=h.cons_inv
  obtain⟨u,ws,rfl,h3,h4⟩:=h2.cons_inv
  exact .jC _ _ h.1 h.2
def KS.cut(κ:KS)(m:Nat):KS:={ κ with ph:=κ.ph.take m,st:=κ.st.take m }
theorem zA{α:Type}{l:List α}{m i:Nat}{a:α}(h:l[i]? = some a)(hi:i<m):(l.take m)[i]? = some a:=by grind
theorem kF{α:Type}{l:List α}{m i:Nat}{a:α}(h:(l.take m)[i]? = some a):l[i]? = some a/\i<m:=by grind
theorem yi{κ:KS}{m:Nat}{d:D}{v:Value}(h:RD κ d v)(hd:xS m d=true):RD (κ.cut m) d v:=by
 cases h with
 | zj τ y cs h=>exact .zj τ y cs h
 | bu e l b v h ht hf=>exact .bu e l b v h ht hf
 | qm e a=>exact .qm e a
 | tight e l ne blk off f ui qI h hc=>exact .tight e l ne blk off f ui qI h hc
 | zW=>exact .zW
 | wJ=>exact .wJ
 | q8=>exact .q8
 | wo=>exact .wo
 | qC=>exact .qC
 | lr v h=>exact .lr v h
 | yA T=>exact .yA T
 | w8 b blk n d hb h=>exact .w8 b blk n d (zA hb (Nat.le_of_ble_eq_true hd)) (zA h (Nat.le_of_ble_eq_true hd))
 | yw b T d hb=>exact .yw b T d (zA hb (Nat.le_of_ble_eq_true hd))
 | yI b T blk n d hb h=>exact .yI b T blk n d (zA hb (Nat.le_of_ble_eq_true hd)) (zA h (Nat.le_of_ble_eq_true hd))
 | ptr b off blk n d hb h=>exact .ptr b off blk n d (zA hb (Nat.le_of_ble_eq_true hd)) (zA h (Nat.le_of_ble_eq_true hd))
 | qf τ y cs blk off qI h hc=>exact .qf τ y cs blk off qI h hc
 | wB b q7 e idx off blk o hb h =>
  have qc:b<m:=Nat.le_of_ble_eq_true hd
  refine .wB b q7 e idx off blk o (bf hb (λh=>zA h qc) ?_) λxs hx hi => ?_
  ·rintro⟨v0,e0,x0,h1,h2⟩; exact⟨v0,e0,x0,zA h1 qc,h2⟩
  ·obtain⟨n,h1,h2⟩:=h xs (kF hx).1 hi
   exact⟨n,zA h1 qc,h2⟩
 | ms b q7 e off len cap a hb qR ha mX h =>
  have qc:b<m:=Nat.le_of_ble_eq_true hd
  refine .ms b q7 e off len cap a (bf hb (λh=>zA h qc) ?_) qR ha mX λxs hx => ?_
  ·rintro⟨v0,e0,x0,h1,h2⟩; exact⟨v0,e0,x0,zA h1 qc,h2⟩
  ·obtain⟨h1,h2⟩:=h xs (kF hx).1
   refine⟨h1,bf h2 ?_ ?_⟩
   ·rintro⟨g1,g2,g3,g4⟩; exact⟨g1,g2,g3,zA g4 qc⟩
   ·rintro⟨blk,n,o,rH,g1,g2⟩; exact⟨blk,n,o,rH,zA g1 qc,g2⟩
 | zK=>cases hd
 | agg=>cases hd
 | jC=>cases hd
 | iface=>cases hd
theorem K9{κ:KS}{m:Nat}{d:D}{v:Value}(h:RD κ d v)(hd:kA m d=true):RD (κ.cut m) d v:=by
 cases d with
 | zK f l =>
  cases h with
  | zK _ _ vs hl hh =>
   simp only[kA,List.all_eq_true]at hd
   exact .zK f l vs hl λi h1 h2=>yi (hh i h1 h2) (hd _ (List.getElem_mem h1))
 | agg l =>
  cases h with
  | agg _ vs hl ho hh =>
   simp only[kA,List.all_eq_true]at hd
   exact .agg l vs hl ho λi h1 h2=>yi (hh i h1 h2) (hd _ (List.getElem_mem h1))
 | jC l=>cases hd
 | iface t d =>
  cases h with
  | iface _ _ v h=>exact .iface t _ v (yi h hd)
 | _=>exact yi h hd
theorem KZ{κ:KS}{m:Nat}{l:List D}{vs:List Value}(h:zU κ l vs)(hd:∀ d∈l,kA m d=true):zU (κ.cut m) l vs:=⟨h.1,λi h1 h2=>K9 (h.2 i h1 h2) (hd _ (List.getElem_mem h1))⟩
theorem Wy{m:Nat}{d:D}(h:kA m d=true):∀ x∈zC d,kA m x=true:=by
 have pO:∀ (τ:Ty) (x:den τ),∀ y∈flat τ x,kA m y=true:=by
  intro τ x y hy
  have:∃ σ z,y=.zj σ z:=by
   induction τ with
   | cons a b ia ib =>
    simp only[flat]at hy
    grind
   | nil=>simp[flat]at hy
   | expr=>simp[flat]at hy; rcases hy with rfl | rfl | rfl | rfl | rfl | rfl<;>exact⟨_,_,rfl⟩
   | _=>simp[flat]at hy; subst hy; exact⟨_,_,rfl⟩
  obtain⟨σ,z,rfl⟩:=this
  rfl
 cases d with
 | zj τ x=>exact pO τ x
 | agg l =>
  intro x hx
  simp only[kA,List.all_eq_true]at h
  have:=h x hx
  cases x<;>first | exact this | cases this
 | jC l=>cases h
 | QZ l=>intro x hx; cases hx
 | _=>intro x hx; simp[zC]at hx; subst hx; exact h
theorem Lm{κ:KS}{m:Nat}(hI:Inv κ)(hc:∀ x∈κ.st.take m,WR m x=true):Inv (κ.cut m):=by
 refine⟨by simp[KS.cut,hI.len],hI.ux,λb blk n h=>hI.apart b blk n (kF h).1,λb b' blk n n' h h'=>hI.inj b b' blk n n' (kF h).1 (kF h').1,λb x h => ?_,hI.gl⟩
 obtain⟨h1,h2⟩:=kF h
 have hb:=hI.blk b x h1
 have hcx:=hc x (List.mem_of_getElem? h)
 cases x with
 | dead=>trivial
 | var d =>
  refine xF.elim hb (λhm ⟨blk,n,cs,t,g1,g2,g3,g4,g5⟩=>.mk hm ⟨blk,n,cs,t,zA g1 h2,g2,g3,KZ g4 (Wy hcx),g5⟩) λl e ⟨blk,o,g1,g2⟩ => ?_
  subst e
  exact⟨blk,o,zA g1 h2,g2⟩
 | arr q7 e xs =>
  obtain⟨h0,hb⟩:=hb
  refine⟨h0,bf hb (λh=>⟨h.1,zA h.2 h2⟩) ?_⟩
  rintro⟨blk,n,cs,t,g1,g2⟩
  exact⟨blk,n,cs,t,zA g1 h2,g2⟩
end
end Go.AM
namespace Go.AM
set_option linter.unusedSectionVars false
variable [we]
section
variable {c:Ctx}
theorem xy{P:Program}{f:Nat}{fn:Func}{args:Array Value}(hf:P.funcs[f]? = some fn) (hn:(fn.name == "runtime.NumGoroutine")=false) (hb:fn.body.isNone=false) (w:World) :
  (callFunc f args).run P w=.ok (.enter f args) w:=by
 simp only[callFunc,Sem.run_bind,run_program,Result.andThen_ok,hf,hn,hb,Bool.false_eq_true,if_false,Sem.run_pure]
theorem HO{κ κe:KS}(hI:Inv κ)(qQ:κ.st=[])(hIe:Inv κe)(hx:Ext κ κe):Inv (κe.bare (C0 κe))/\Ext κ (κe.bare (C0 κe)):=by
 have qc:∀ k,C0 κe k->k<κe.w.heap.size:=by
  rintro k (hk | ⟨b,n,hk⟩)
  ·exact hIe.ux k hk
  ·exact(hIe.apart b k n hk).1
 refine⟨Z5 hIe (λ_ h=>.inl h) qc,hx.os,hx.tape,hx.output,hx.size,λk hk=>⟨.inl (hx.same k hk).1,(hx.same k hk).2⟩,?_,λb blk n h=>by simp[KS.bare]at h,λb d h=>by grind,
  λb v0 e xs h=>by grind,λb h=>by grind,by grind,hx.frame⟩
 rintro k (hk | ⟨b,n,hk⟩)
 ·exact hx.fresh k hk
 ·rcases hx.Dg b k n hk with h | h
  ·grind
  ·grind
end
end Go.AM
namespace Go.AM
set_option linter.unusedSectionVars false
variable [we] [X0]
open Go.RowKit
def Ly(s:Nat)(fr:Fr)(st:St):T (Fr×St):=match fr.get s with
 | some (.ms b q7 e off len)=>match st[b]? with
  | some (.arr uF e' xs)=>match(xu (a:=.sl e') (b:=.sl e) xs:Option (List (den e)))with
   | some ys=>.zb (q7=uF) (.ret ((s,some (.zj (.sl e) ((ys.take (off+len)).drop off)))::fr,st.set b .dead))
   | none=>.fail
  | _=>.fail
 | _=>.ret (fr,st)
def MT(j i:Nat)(fr:Fr)(st:St):T (Fr×St):=match st[j]? with
 | some (.var (.agg ds))=>match ds[i]? with
  | some (.ms b q7 e off len)=>match st[b]? with
   | some (.arr uF e' xs)=>match(xu (a:=.sl e') (b:=.sl e) xs:Option (List (den e)))with
    | some ys=>.zb (q7=uF) (.ret (fr,(st.set b .dead).set j (.var (.agg (ds.set i (.zj (.sl e) ((ys.take (off+len)).drop off)))))))
    | none=>.fail
   | _=>.fail
  | _=>.ret (fr,st)
 | _=>.ret (fr,st)
def II(s:Nat)(fr:Fr)(st:St):T (Fr×St):=bif Nat.ble 1000000 s then MT ((s-1000000) / 1000) ((s-1000000) % 1000) fr st else Ly s fr st
def Ig:List Nat->Fr->St->T (Fr×St)
 | [],fr,st=>.ret (fr,st)
 | s::r,fr,st=>(II s fr st).bind λx=>Ig r x.1 x.2
section
variable {c:Ctx} {κ:KS} {n:Nat}
theorem Ta{b q7 off len:Nat}{e:Ty}{xs:List (den e)}{v:Value}(hI:Inv κ)(h:RD κ (.ms b q7 e off len) v)(hb:κ.st[b]? = some (.arr q7 e xs)){r8:Nat->Prop}(h1:∀ k,κ.ok k->r8 k)(h2:∀ k n,κ.ph[b]? = some (some (k,n))->r8 k) :
  Rc κ.w r8 (.sl e) ((xs.take (off+len)).drop off) [v]:=by
 obtain⟨WB,_⟩:=Jp hI h hb
 obtain⟨a,cap,f,hve,qR,hn,g1,g2⟩:=WB.ex
 have CT:∀ blk o:Nat,v=.slice (some ⟨blk,o,none⟩) ((xs.take (off+len)).drop off).length cap->r8 blk:=by
  intro blk o he
  cases h with
  | ms _ _ _ _ _ rH a' hold z1G ha mX hm =>
   obtain⟨_,hm⟩:=hm xs hb
   grind
 rw[hve]
 cases a with
 | none=>obtain⟨k1,k2⟩:=hn rfl; rw[k1,k2]; exact .kR e none
 | some p =>
  rcases g2 p rfl with⟨k1,k2⟩ | ⟨hp,_,hc⟩
  ·rw[k1,k2]; exact .kR e _
  ·obtain⟨blk,o,sp⟩:=p
   subst hp
   exact .sl e _ blk o cap f (CT blk o hve) qR (λi hi=>(g1 i hi).mono λk hk=>⟨h1 k hk,rfl⟩) hc
theorem Gf{b q7:Nat}{e:Ty}{xs:List (den e)}(hb:κ.st[b]? = some (.arr q7 e xs))(hI:Inv κ):∃ κ':KS,κ'.w=κ.w/\κ'.st=κ.st.set b .dead/\Inv κ'/\Ext κ κ' /\
  ∀ (off len:Nat) (v:Value),RD κ (.ms b q7 e off len) v->RD κ' (.zj (.sl e) ((xs.take (off+len)).drop off)) v:=by
 have qc:b<κ.st.length:=(List.getElem?_eq_some_iff.1 hb).1
 let κ':KS:=⟨κ.w,λk=>κ.ok k\/∃ n,κ.ph[b]? = some (some (k,n)),κ.ph.set b none,κ.st.set b .dead⟩
 have qQ:∀ i,i≠b->κ'.st[i]? = κ.st[i]? := λi hi=>by show(κ.st.set b .dead)[i]? = _; rw[List.getElem?_set_ne (λe=>hi e.symm)]
 have X9:∀ i,i≠b->κ'.ph[i]? = κ.ph[i]? := λi hi=>by show(κ.ph.set b none)[i]? = _; rw[List.getElem?_set_ne (λe=>hi e.symm)]
 have NF:∀ (i blk m:Nat),κ'.ph[i]? = some (some (blk,m))->i≠b/\κ.ph[i]? = some (some (blk,m)):=by
  grind
 have hx:Ext κ κ':=by
  refine⟨rfl,rfl,rfl,Nat.le_refl _,λk hk=>⟨.inl hk,rfl⟩,?_,λi blk m hi=>.inl (NF i blk m hi).2,?_,?_,?_,by show _<=(κ.st.set b .dead).length; simp,λ_ _ _=>rfl⟩
  ·grind
  ·grind
  ·grind
  ·grind
 have MM:Inv κ':=by
  refine⟨by show(κ.ph.set b none).length=(κ.st.set b .dead).length; simp[hI.len],?_,?_,?_,?_,hI.gl.mono hx.same⟩
  ·rintro k (hk | ⟨m,hk⟩)
   ·exact hI.ux k hk
   ·exact(hI.apart b k m hk).1
  ·intro i blk m hi
   obtain⟨SY,BJ⟩:=NF i blk m hi
   obtain⟨g1,g2⟩:=hI.apart i blk m BJ
   refine⟨g1,?_⟩
   rintro(hk | ⟨m',hk⟩)
   ·exact g2 hk
   ·exact SY (hI.inj i b blk m m' BJ hk)
  ·intro i i' blk m m' hi BJ
   exact hI.inj i i' blk m m' (NF i blk m hi).2 (NF i' blk m' BJ).2
  ·intro i B hB
   by_cases SY:i=b
   ·subst SY
    have:(κ.st.set i .dead)[i]? = some B:=hB
    rw[List.getElem?_set_self qc]at this
    cases this
    trivial
   ·rw[qQ i SY]at hB
    exact(hI.blk i B hB).mono hx (X9 i SY) λ_ _ _=>rfl
 exact⟨κ',rfl,rfl,MM,hx,λoff len v hd=>RD.cV rfl (Ta hI hd hb (λk hk=>.inl hk) λk m hk=>.inr ⟨m,hk⟩)⟩
theorem LY{s:Nat}{fr:Fr}{a:Act}{r:Fr×St}(h:(Ly s fr κ.st).leads r)(hI:Inv κ)(hR:Rel κ n fr.get a):∃ κ':KS,κ'.w=κ.w/\κ'.st=r.2/\Inv κ'/\Ext κ κ'/\Rel κ' n r.1.get a:=by
 unfold Ly at h
 split at h
 ·rename_i b q7 e off len hs
  split at h
  ·rename_i uF e' xs hb
   split at h
   ·rename_i ys hy
    obtain⟨he,hx⟩:=zI hy
    obtain⟨rfl,h⟩:=h
    cases h
    obtain⟨v,hv,hd⟩:=hR.get s _ hs
    obtain⟨κ',e1,e2,MM,hx,hk⟩:=Gf hb hI
    refine⟨κ',e1,e2,MM,hx,hR.size,hR.defers,λt d j9 => ?_⟩
    simp only[Fr.get]at j9
    cases ht:Nat.beq s t with
    | true =>
     rw[<- Nat.eq_of_beq_eq_true ht]
     grind
    | false =>
     rw[ht,cond_false]at j9
     obtain⟨u,g1,g2⟩:=hR.get t d j9
     exact⟨u,g1,g2.mono hx⟩
   ·exact h.elim
  ·exact h.elim
 ·cases h; exact⟨κ,rfl,rfl,hI,Ext.refl κ,hR⟩
theorem HF{ds:List D}{i b q7 off len:Nat}{e:Ty}{d':D}(hd:ds[i]? = some (.ms b q7 e off len))(hn:kD [d']=none){T:Nat}(h:kD (ds.set i d')=some T):kD ds=some T:=by
 cases ds with
 | nil=>cases hd
 | cons x r =>
  cases i with
  | zero =>
   have:kD (d'::r)=kD [d']:=by cases d'<;>rfl
   grind
  | succ i =>
   have:∀ r':List D,kD (x::r')=kD [x]:=by intro r'; cases x<;>rfl
   grind
theorem M9{j i:Nat}{fr:Fr}{a:Act}{r:Fr×St}(h:(MT j i fr κ.st).leads r)(hI:Inv κ)(hR:Rel κ n fr.get a):∃ κ':KS,κ'.w=κ.w/\κ'.st=r.2/\Inv κ'/\Ext κ κ'/\Rel κ' n r.1.get a:=by
 unfold MT at h
 split at h
 ·rename_i ds hj
  split at h
  ·rename_i b q7 e off len hi
   split at h
   ·rename_i uF e' xs hb
    split at h
    ·rename_i ys hy
     obtain⟨he,hx⟩:=zI hy
     cases he
     cases hx
     obtain⟨rfl,h⟩:=h
     cases h
     obtain⟨κ1,e1,e2,nT,hx1,hk⟩:=Gf hb hI
     have hjb:j≠b:=λq=>by subst q; rw[hb]at hj; cases hj
     have hj1:κ1.st[j]? = some (.var (.agg ds)):=by rw[e2,List.getElem?_set_ne (λq=>hjb q.symm)]; exact hj
     have BW:j<κ1.st.length:=(List.getElem?_eq_some_iff.1 hj1).1
     let d':D:=.zj (.sl e) ((xs.take (off+len)).drop off)
     let κ2:KS:={ κ1 with st:=κ1.st.set j (.var (.agg (ds.set i d'))) }
     have qQ:∀ k,k≠j->κ2.st[k]? = κ1.st[k]? := λk hk=>by show(κ1.st.set j _)[k]? = _; rw[List.getElem?_set_ne (λq=>hk q.symm)]
     have z7g:κ2.st[j]? = some (.var (.agg (ds.set i d'))):=by show(κ1.st.set j _)[j]? = _; rw[List.getElem?_set_self BW]
     have BC:Ext κ1 κ2:=by
      refine⟨rfl,rfl,rfl,Nat.le_refl _,λk hk=>⟨hk,rfl⟩,λk hk=>.inl hk,λk blk m hk=>.inl hk,?_,?_,?_,by show _<=(κ1.st.set j _).length; simp,λ_ _ _=>rfl⟩
      ·grind
      ·grind
      ·grind
     have hI2:Inv κ2:=by
      refine⟨by show κ1.ph.length=(κ1.st.set j _).length; simp[nT.len],nT.ux,nT.apart,nT.inj,?_,nT.gl⟩
      intro k B hB
      by_cases q:k=j
      ·subst q
       rw[z7g]at hB
       cases hB
       obtain⟨blk,m,cs,t,g1,g2,g3,g4,g5,g6⟩:=hI.blk k _ hj
       obtain⟨b6,m',ye,t',p1,p2,p3,p4,p5,p6⟩:=nT.blk k _ hj1
       have X9:κ1.ph[k]? = κ.ph[k]? := (hx1.var k _ hj).2
       rw[X9,g1]at p1
       cases p1
       rw[e1,g2]at p2
       cases p2
       refine⟨blk,m,cs,t,X9.trans g1,by show κ1.w.heap[blk]? = _; rw[e1]; exact g2,g3,?_,?_,λT hT=>g6 T (HF hi rfl hT)⟩
       ·have p4':zU κ2 ds cs.toList:=zU.mono BC p4
        refine⟨by show(ds.set i d').length=_; rw[List.length_set]; exact p4'.1,λk' h1 h2 => ?_⟩
        have Xq:k'<(ds.set i d').length:=h1
        rw[List.length_set]at Xq
        show RD κ2 ((ds.set i d')[k']) _
        by_cases q:i=k'
        ·subst q
         have hdi:ds[i]'Xq=.ms b q7 e off len:=Option.some.inj ((List.getElem?_eq_getElem Xq).symm.trans hi)
         have:=g4.2 i Xq h2
         have Vq:(zC (D.agg ds))[i]'Xq=.ms b q7 e off len:=hdi
         rw[Vq]at this
         have e3:(ds.set i d')[i]'h1=d':=List.getElem_set_self _
         rw[e3]
         exact(hk _ _ _ this).mono BC
        ·have e3:(ds.set i d')[k']'h1=ds[k']'Xq:=List.getElem_set_ne q _
         rw[e3]
         exact p4'.2 k' Xq h2
       ·intro x hx
        rcases List.mem_or_eq_of_mem_set hx with hx | rfl
        ·exact g5 x hx
        ·rfl
      ·rw[qQ k q]at hB
       exact(nT.blk k B hB).mono BC rfl λ_ _ _=>rfl
     refine⟨κ2,e1,by show κ1.st.set j _=_; rw[e2],hI2,hx1.trans BC,hR.size,hR.defers,λt d j9 => ?_⟩
     obtain⟨u,q1,q2⟩:=hR.get t d j9
     exact⟨u,q1,(q2.mono hx1).mono BC⟩
    ·exact h.elim
   ·exact h.elim
  ·cases h; exact⟨κ,rfl,rfl,hI,Ext.refl κ,hR⟩
 ·cases h; exact⟨κ,rfl,rfl,hI,Ext.refl κ,hR⟩
theorem Le{s:Nat}{fr:Fr}{a:Act}{r:Fr×St}(h:(II s fr κ.st).leads r)(hI:Inv κ)(hR:Rel κ n fr.get a):∃ κ':KS,κ'.w=κ.w/\κ'.st=r.2/\Inv κ'/\Ext κ κ'/\Rel κ' n r.1.get a:=by
 unfold II at h
 cases hb:Nat.ble 1000000 s with
 | true=>rw[hb,cond_true]at h; exact M9 h hI hR
 | false=>rw[hb,cond_false]at h; exact LY h hI hR
theorem CL:∀ (l:List Nat) {fr:Fr} {κ:KS} {a:Act} {r:Fr×St},(Ig l fr κ.st).leads r->Inv κ->Rel κ n fr.get a->∃ κ':KS,κ'.w=κ.w/\κ'.st=r.2/\Inv κ'/\Ext κ κ'/\Rel κ' n r.1.get a
 | [],fr,κ,a,r,h,hI,hR=>by cases h; exact⟨κ,rfl,rfl,hI,Ext.refl κ,hR⟩
 | s::l,fr,κ,a,r,h,hI,hR=>by
  simp only[Ig,T.zq]at h
  obtain⟨x,h1,h2⟩:=h
  obtain⟨κ1,e1,e2,e3,e4,e5⟩:=Le h1 hI hR
  rw[<- e2]at h2
  obtain⟨κ2,g1,g2,g3,g4,g5⟩:=CL l h2 e3 e5
  exact⟨κ2,g1.trans e1,g2,g3,e4.trans g4,g5⟩
end
end Go.AM