/-
  The abstract machine, part C: texts of our own, the same for each claim.
-/
import Derived.Test.YthhgaidlooddpaaGreatDoorAmB
import Derived.Deep.LoopGhost
set_option linter.unusedVariables false
namespace Go.AM
set_option linter.unusedSectionVars false
variable [vQ]
abbrev F:=Nat->Option D
def qi(f:F):Operand->Option D
 | .tmp t=>f t
 | .const v=>XB v
 | .global _=>none
 | .func g=>bif Nat.blt g 1000000 then some (.qW g [])else none
theorem gW(fr:Fr):uB fr=qi fr.get:=by rfl
def kt(f:F)(dst:Option Nat)(d:Option D):F:=match dst with
 | some t=>λs=>if s=t then d else f s
 | none=>f
theorem mq{a b:Nat}(h:a≠b):Nat.beq a b=false:=by
 cases hb:Nat.beq a b with
 | false=>rfl
 | true=>exact absurd (Nat.eq_of_beq_eq_true hb) h
theorem mF(fr:Fr)(dst:Option Nat)(d:Option D):(fr.put dst d).get=kt fr.get dst d:=by
 cases dst with
 | none=>rfl
 | some t =>
  funext s
  simp only[Fr.put,Fr.get,kt]
  by_cases h:s=t
  ·subst h; simp
  ·rw[if_neg h,mq (λe=>h e.symm),cond_false]
section
variable (c:Ctx) (n:Nat) (ops:Array Oper)
def w9(f:F)(o:Oper):Option Bool:=match o.guard with
 | none=>some true
 | some (j,w)=>match uy ops j with
  | none=>none
  | some t=>match f t with
   | some (.zI .bool b)=>some (b==w)
   | some (.yC [])=>some false
   | _=>none
def yO(i:Nat)(s s':F×St)(k:Nat):Prop:=∃ o,ops[i]? = some o/\vN n o.dst=true /\
 ((w9 ops s.1 o=some true/\k=(qE c (qi s.1) o).kind/\∃ d zt,(zH (qE c (qi s.1) o) s.2).leads (d,zt)/\s'=(kt s.1 o.dst d,zt)) \/
  (w9 ops s.1 o=some false/\k=0/\s'=(kt s.1 o.dst (some NH),s.2)))
def NI:List Nat->F×St->F×St->List Nat->Prop
 | [],s,s',ks=>s'=s/\ks=[]
 | i::l,s,s',ks=>∃ s1 k DU,ks=k::DU/\yO c n ops i s s1 k/\NI l s1 s' DU
end
section
variable {c:Ctx} {n:Nat} {ops:Array Oper}
def vC(kn:Kn)(f:F):Prop:=∀ t b,kn.get t=some b->f t=some (.zI .bool b)
theorem UC(t:Nat)(b:Option Bool)(kn:Kn)(s:Nat):Kn.get ((t,b)::kn) s=if s=t then b else kn.get s:=by
 simp only[Kn.get]
 by_cases h:s=t
 ·subst h; simp
 ·rw[if_neg h,mq (λe=>h e.symm),cond_false]
theorem bp{kn:Kn}{f:F}(h:vC kn f){x:Operand}{b:Bool}(hx:cG kn x=some b):qi f x=some (.zI .bool b):=by
 unfold cG at hx
 split at hx
 ·exact h _ _ hx
 ·cases hx; rfl
 ·cases hx
theorem Cg{kn:Kn}{fr:Fr}{o:Oper}(hk:vC kn fr.get){st:St}{r:Option D×St}(h:(zH (nH c kn fr o) st).leads r) :
  (zH (qE c (qi fr.get) o) st).leads r/\(nH c kn fr o).kind=(qE c (qi fr.get) o).kind/\∀ b,Kv kn o.op=some b->r.1=some (.zI .bool b):=by
 obtain⟨dst,op,ty,pos,after,guard⟩:=o
 rw[<- gW]
 cases op with
 | pick x a b =>
  simp only[nH]at h ⊢
  cases hx:cG kn x with
  | none =>
   rw[hx]at h
   refine⟨h,rfl,λb' hb => ?_⟩
   simp[Kv,hx]at hb
  | some bx =>
   rw[hx]at h
   have Kp:=bp hk hx
   rw[<- gW]at Kp
   have zaO:qE c (uB fr) ⟨dst,.pick x a b,ty,pos,after,guard⟩=.val (.ite bx (.ret (uB fr a)) (.ret (uB fr b))):=by
    simp only[qE,FG,Kp,asBool]
   rw[zaO]
   obtain⟨d,zt⟩:=r
   cases bx with
   | true =>
    simp only[wS,T.leads]at h ⊢
    refine⟨⟨.inl ⟨by first | rfl | trivial,h.1⟩,h.2⟩,rfl,λb' hb => ?_⟩
    simp only[Kv,hx]at hb
    have:=bp hk hb
    rw[<- gW]at this
    grind
   | false =>
    simp only[wS,T.leads]at h ⊢
    refine⟨⟨.inr ⟨by first | rfl | trivial,h.1⟩,h.2⟩,rfl,λb' hb => ?_⟩
    simp only[Kv,hx]at hb
    have:=bp hk hb
    rw[<- gW]at this
    grind
 | move x =>
  refine⟨h,rfl,λb hb => ?_⟩
  obtain⟨d,zt⟩:=r
  simp only[nH,qE,wS,T.leads]at h
  have:=bp hk (show cG kn x=some b from hb)
  rw[<- gW]at this
  grind
 | assign x =>
  refine⟨h,rfl,λb hb => ?_⟩
  obtain⟨d,zt⟩:=r
  simp only[nH,qE,wS,T.leads]at h
  have:=bp hk (show cG kn x=some b from hb)
  rw[<- gW]at this
  grind
 | _=>exact⟨h,rfl,λb hb=>by simp[Kv]at hb⟩
theorem Lr{kn:Kn}{f:F}(hk:vC kn f){dst:Option Nat}{d:Option D}{b:Option Bool}(hb:∀ b',b=some b'->d=some (.zI .bool b')):vC (K1 kn dst b) (kt f dst d):=by
 cases dst with
 | none=>exact hk
 | some t =>
  intro s b' h
  simp only[K1,UC]at h
  simp only[kt]
  split at h
  ·grind
  ·rename_i e; rw[if_neg e]; exact hk s b' h
theorem pW{kn:Kn}{f:F}(hk:vC kn f){t:Nat}{b:Bool}(hb:f t=some (.zI .bool b)):vC ((t,some b)::kn) f:=by
 intro s b' h
 rw[UC]at h
 split at h
 ·grind
 ·exact hk s b' h
theorem UK{o:Oper}{s s':cQ}(hk:vC s.kn s.fr.get)(h:(gb c n o s).leads s') :
  vN n o.dst=true/\(∃ d zt,(zH (qE c (qi s.fr.get) o) s.st).leads (d,zt)/\s'.fr.get=kt s.fr.get o.dst d/\s'.st=zt)/\vC s'.kn s'.fr.get/\s'.ks=(qE c (qi s.fr.get) o).kind::s.ks:=by
 unfold gb at h
 cases hd:vN n o.dst with
 | false=>rw[hd]at h; exact h.elim
 | true =>
  rw[hd,cond_true]at h
  simp only[T.zC]at h
  obtain⟨⟨d,zt⟩,h1,rfl⟩:=h
  obtain⟨h2,h3,h4⟩:=Cg hk h1
  refine⟨rfl,⟨d,zt,h2,mF _ _ _,rfl⟩,?_,by grind⟩
  rw[mF]
  exact Lr hk h4
theorem Ma{o:Oper}{s:cQ}(hk:vC s.kn s.fr.get):vC (jg o s).kn (jg o s).fr.get:=by
 show vC (K1 s.kn o.dst none) (s.fr.put o.dst (some NH)).get
 rw[mF]
 exact Lr hk nofun
theorem Y8{i:Nat}{o:Oper}{s s':cQ}(ho:ops[i]? = some o)(hk:vC s.kn s.fr.get)(h:(stepG c n ops o s).leads s') :
  ∃ k,yO c n ops i (s.fr.get,s.st) (s'.fr.get,s'.st) k/\vC s'.kn s'.fr.get/\s'.ks=k::s.ks:=by
 have run:∀ (s0:cQ),s0.fr=s.fr->s0.st=s.st->s0.ks=s.ks->vC s0.kn s0.fr.get->w9 ops s.fr.get o=some true->(gb c n o s0).leads s' ->
   ∃ k,yO c n ops i (s.fr.get,s.st) (s'.fr.get,s'.st) k/\vC s'.kn s'.fr.get/\s'.ks=k::s.ks:=by
  intro s0 e1 e2 e3 H7 hw h
  obtain⟨h1,⟨d,zt,h2,h3,h4⟩,h5,h6⟩:=UK H7 h
  rw[e1]at h2 h3 h6
  rw[e2]at h2
  rw[e3]at h6
  exact⟨_,⟨o,ho,h1,.inl ⟨hw,rfl,d,zt,h2,by rw[h3,h4]⟩⟩,h5,h6⟩
 have skip:∀ (s0:cQ),s0.fr=s.fr->s0.st=s.st->s0.ks=s.ks->vC s0.kn s0.fr.get->w9 ops s.fr.get o=some false->vN n o.dst=true->jg o s0=s' ->
   ∃ k,yO c n ops i (s.fr.get,s.st) (s'.fr.get,s'.st) k/\vC s'.kn s'.fr.get/\s'.ks=k::s.ks:=by
  intro s0 e1 e2 e3 H7 hw hd h
  subst h
  refine⟨0,⟨o,ho,hd,.inr ⟨hw,rfl,?_⟩⟩,Ma H7,by simp[jg,e3]⟩
  simp only[jg,mF,e1,e2]
 unfold stepG at h
 split at h
 ·rename_i hg
  exact run s rfl rfl rfl hk (by simp[w9,hg]) h
 ·rename_i j w hg
  split at h
  ·exact h.elim
  ·rename_i t ht
   split at h
   ·rename_i b hb
    have hf:=hk t b hb
    have hw:w9 ops s.fr.get o=some (b==w):=by simp[w9,hg,ht,hf]
    cases ON:(b==w)with
    | true=>grind
    | false =>
     rw[ON,cond_false]at h
     cases hd:vN n o.dst with
     | false=>rw[hd]at h; exact h.elim
     | true=>rw[hd,cond_true]at h; exact skip s rfl rfl rfl hk (by rw[hw,ON]) hd h
   ·split at h
    ·rename_i x hx
     have hw:w9 ops s.fr.get o=some (x==w):=by simp[w9,hg,ht,hx]
     cases hd:vN n o.dst with
     | false=>rw[hd]at h; exact h.elim
     | true =>
      rw[hd,cond_true]at h
      rcases h with⟨rfl,h⟩ | ⟨rfl,h⟩
      ·have GN:vC (s.b7 t true).kn (s.b7 t true).fr.get:=pW hk hx
       cases w with
       | true=>exact run (s.b7 t true) rfl rfl rfl GN hw h
       | false=>exact skip (s.b7 t true) rfl rfl rfl GN hw hd h
      ·have GN:vC (s.b7 t false).kn (s.b7 t false).fr.get:=pW hk hx
       cases w with
       | true=>exact skip (s.b7 t false) rfl rfl rfl GN hw hd h
       | false=>exact run (s.b7 t false) rfl rfl rfl GN hw h
    ·rename_i hx
     have hw:w9 ops s.fr.get o=some false:=by simp[w9,hg,ht,hx]
     cases hd:vN n o.dst with
     | false=>rw[hd]at h; exact h.elim
     | true=>rw[hd,cond_true]at h; exact skip s rfl rfl rfl hk hw hd h
    ·exact h.elim
theorem dO:∀ (l:List Oper) (k0:Nat) (s s':cQ),(∀ j,l[j]? = ops[k0+j]? \/ l.length<=j)->vC s.kn s.fr.get->(iF c n ops l s).leads s' ->
  ∃ ks,NI c n ops (List.range' k0 l.length) (s.fr.get,s.st) (s'.fr.get,s'.st) ks/\vC s'.kn s'.fr.get/\s'.ks=ks.reverse++s.ks
 | [],k0,s,s',_,hk,h=>by cases h; exact⟨[],⟨rfl,rfl⟩,hk,rfl⟩
 | o::l,k0,s,s',hl,hk,h=>by
  simp only[iF,T.zC]at h
  obtain⟨s1,h1,h2⟩:=h
  have ho:ops[k0]? = some o:=by rcases hl 0 with h | h<;>simp at h; exact h.symm
  obtain⟨k,g1,g2,g3⟩:=Y8 ho hk h1
  obtain⟨ks,g4,g5,g6⟩:=dO l (k0+1) s1 s' (λj=>by have:=hl (j+1); simpa[Nat.add_assoc,Nat.add_comm 1 j]using this) g2 h2
  refine⟨k::ks,?_,g5,by grind⟩
  exact⟨_,k,ks,rfl,g1,g4⟩
end
end Go.AM
namespace Go.AM
set_option linter.unusedSectionVars false
variable [vQ]
section
variable {c:Ctx} {n:Nat} {ops:Array Oper}
theorem o7{α:Type}{ρ ρ':α->Option D}(L:List (Nat×α))(h:∀ p∈L,ρ p.2=ρ' p.2):(L.map λp=>(p.1,ρ p.2))=L.map λp=>(p.1,ρ' p.2) :=
 List.map_congr_left λp hp=>by rw[h p hp]
theorem tv{ρ ρ':Operand->Option D}(o:Oper)(h:∀ x∈o.op.operands,ρ x=ρ' x):qE c ρ o=qE c ρ' o:=by
 obtain⟨dst,op,ty,pos,after,guard⟩:=o
 cases op with
 | move x=>simp only[qE]; rw[h x (by simp[Op.operands])]
 | assign x=>simp only[qE]; rw[h x (by simp[Op.operands])]
 | pick x a b=>simp only[qE]; rw[h x (by simp[Op.operands]),h a (by simp[Op.operands]),h b (by simp[Op.operands])]
 | box t x=>simp only[qE]; rw[h x (by simp[Op.operands])]
 | load t x=>simp only[qE]; rw[h x (by simp[Op.operands])]
 | store t x y=>simp only[qE]; rw[h x (by simp[Op.operands]),h y (by simp[Op.operands])]
 | nilCheck x=>simp only[qE]; rw[h x (by simp[Op.operands])]
 | binOp op t x y _=>simp only[qE]; rw[h x (by simp[Op.operands]),h y (by simp[Op.operands])]
 | typeAssert x xt t ok=>simp only[qE]; rw[h x (by simp[Op.operands])]
 | unOp op t x=>simp only[qE]; rw[h x (by simp[Op.operands])]
 | convert s t x=>simp only[qE]; rw[h x (by simp[Op.operands])]
 | makeInterface t x=>simp only[qE]; rw[h x (by simp[Op.operands])]
 | makeFunc fn first cap =>
  cases fn<;>simp only[qE]
  rw[List.map_congr_left (l:=cap.toList) (λx hx=>h x (by simp[Op.operands,Array.mem_toList_iff.1 hx])),List.map_congr_left (l:=first.toList) (λx hx=>h x (by simp[Op.operands,Array.mem_toList_iff.1 hx]))]
 | makeSlice t x y=>simp only[qE]; rw[h x (by simp[Op.operands]),h y (by simp[Op.operands])]
 | slice t x lo hi mx =>
  simp only[qE]
  have ho:∀ o:Option Operand,(∀ y,o=some y->ρ y=ρ' y)->o.map ρ=o.map ρ':=λo ho=>by
   cases o with
   | none=>rfl
   | some y=>grind
  rw[h x (by simp[Op.operands]),ho lo (λy hy=>h y (by simp[Op.operands,hy])),ho hi (λy hy=>h y (by simp[Op.operands,hy])),ho mx (λy hy=>h y (by simp[Op.operands,hy]))]
 | fieldAddr s x f=>simp only[qE]; rw[h x (by simp[Op.operands])]
 | field s x f=>simp only[qE]; rw[h x (by simp[Op.operands])]
 | indexAddr t x y=>simp only[qE]; rw[h x (by simp[Op.operands]),h y (by simp[Op.operands])]
 | index t x y=>simp only[qE]; rw[h x (by simp[Op.operands]),h y (by simp[Op.operands])]
 | extract x i=>simp only[qE]; rw[h x (by simp[Op.operands])]
 | build t ps=>simp only[qE]; rw[o7 ps.toList λp hp=>h p.2 (by simp[Op.operands]; exact⟨p.1,Array.mem_toList_iff.1 hp⟩)]
 | buildSlice t k ps=>simp only[qE]; rw[o7 ps.toList λp hp=>h p.2 (by simp[Op.operands]; exact⟨p.1,Array.mem_toList_iff.1 hp⟩)]
 | call cl =>
  obtain⟨callee,args,nQ⟩:=cl
  have bf:args.toList.map ρ=args.toList.map ρ':=List.map_congr_left λx hx=>h x (by simp[Op.operands,Call.operands,Array.mem_toList_iff.1 hx])
  cases callee with
  | builtin b=>simp only[qE]; rw[bf]
  | value f=>simp only[qE]; rw[bf,h f (by simp[Op.operands,Call.operands])]
  | invoke r m=>rfl
 | _=>rfl
theorem KB{f:F}{dst:Option Nat}{d:Option D}{x:Operand}(h:∀ t,dst=some t->x≠.tmp t):qi (kt f dst d) x=qi f x:=by
 cases dst with
 | none=>rfl
 | some t=>cases x with
  | tmp s=>simp only[qi,kt]; rw[if_neg (λe=>h t rfl (by rw[e]))]
  | _=>rfl
theorem yK(f:F){a b:Option Nat}(d e:Option D)(h:∀ t,a=some t->b≠some t):kt (kt f a d) b e=kt (kt f b e) a d:=by
 cases a with
 | none=>rfl
 | some s=>cases b with
  | none=>rfl
  | some t =>
   simp only[kt]
   grind
def Ind(ops:Array Oper)(kd:Nat->Nat)(p i:Nat):Prop:=∀ x y,ops[p]? = some x->ops[i]? = some y ->
 (∀ d,x.dst=some d->d ∉ tmpsOf ops y)/\(∀ d,y.dst=some d->d ∉ tmpsOf ops x)/\uo (kd p) (kd i)=false
theorem kg{o:Oper}{d:Nat}(h:o.dst=some d):d∈tmpsOf ops o:=by simp[tmpsOf,h]
theorem pJ{o:Oper}{d:Nat}(h:Operand.tmp d∈o.op.operands):d∈tmpsOf ops o:=by
 simp only[tmpsOf,List.mem_append,List.mem_filterMap]
 exact .inr ⟨.tmp d,by grind,rfl⟩
theorem ot{o:Oper}{j:Nat}{w:Bool}{d:Nat}(h:o.guard=some (j,w))(hg:uy ops j=some d):d∈tmpsOf ops o:=by
 simp[tmpsOf,h,hg]
theorem xZ{f:F}{o:Oper}{dst:Option Nat}{d:Option D}(h:∀ t,dst=some t->t ∉ tmpsOf ops o):w9 ops (kt f dst d) o=w9 ops f o:=by
 unfold w9
 cases hg:o.guard with
 | none=>rfl
 | some jw =>
  obtain⟨j,w⟩:=jw
  simp only
  cases hs:uy ops j with
  | none=>rfl
  | some t =>
   simp only
   have:kt f dst d t=f t:=by
    cases dst with
    | none=>rfl
    | some s=>simp only[kt]; rw[if_neg]; intro e; exact h s rfl (e▸ot hg hs)
   rw[this]
theorem jX{f:F}{o:Oper}{dst:Option Nat}{d:Option D}(h:∀ t,dst=some t->t ∉ tmpsOf ops o):qE c (qi (kt f dst d)) o=qE c (qi f) o :=
 tv o λx hx=>KB λt ht e=>h t ht (pJ (ops:=ops) (e▸hx))
theorem ft{cl:bm}(h:cl.kind=0){st zt:St}{d:Option D}(hl:(zH cl st).leads (d,zt)):zt=st/\∀ jo,(zH cl jo).leads (d,jo):=by
 cases cl with
 | val t=>rw[wS]at hl; exact⟨hl.2,λjo=>by rw[wS]; exact⟨hl.1,rfl⟩⟩
 | rd k=>cases h
 | wr k=>cases h
theorem cg{cl:bm}(h:cl.kind<=1){st zt:St}{d:Option D}(hl:(zH cl st).leads (d,zt)):zt=st:=by
 cases cl with
 | val t=>rw[wS]at hl; exact hl.2
 | rd k=>rw[lB]at hl; exact hl.2
 | wr k=>simp[bm.kind]at h
theorem tT(cl:bm):cl.kind<=2:=by cases cl<;>simp[bm.kind]
theorem Yn{kd:Nat->Nat}{p i:Nat}(hi:Ind ops kd p i){s s1 s2:F×St}(h1:yO c n ops p s s1 (kd p))(h2:yO c n ops i s1 s2 (kd i)) :
  ∃ s',yO c n ops i s s' (kd i)/\yO c n ops p s' s2 (kd p):=by
 obtain⟨x,hx,hdx,GV⟩:=h1
 obtain⟨y,hy,hdy,hy'⟩:=h2
 obtain⟨a1,a2,a3⟩:=hi x y hx hy
 have Io:∀ t,x.dst=some t->y.dst≠some t:=λt ht e=>a1 t ht (kg e)
 obtain⟨f,st⟩:=s
 rcases GV with⟨hw,hk,d,gV,hl,rfl⟩ | ⟨hw,hk,rfl⟩
 ·rcases hy' with⟨Qq,cx,e,jo,fj,rfl⟩ | ⟨Qq,cx,rfl⟩
  ·simp only[xZ a1,jX (c:=c) a1]at Qq cx fj
   simp only at hw hk hl
   -- the two meet nowhere in the store
   have key:(zH (qE c (qi f) y) st).leads (e,(if(qE c (qi f) y).kind=2 then jo else st))/\(zH (qE c (qi f) x) (if(qE c (qi f) y).kind=2 then jo else st)).leads (d,jo):=by
    rw[hk,cx]at a3
    rcases Nat.lt_or_ge (qE c (qi f) y).kind 2 with E2 | E2
    ·rw[if_neg (by omega)]
     have e2:=cg (by omega) fj
     subst e2
     rcases Nat.lt_or_ge (qE c (qi f) x).kind 2 with Ff | Ff
     ·have e1:=cg (by omega) hl
      grind
     ·have hx3:(qE c (qi f) x).kind=2:=Nat.le_antisymm (tT _) Ff
      have hy0:(qE c (qi f) y).kind=0:=by
       rw[hx3]at a3
       cases hy0:(qE c (qi f) y).kind with
       | zero=>rfl
       | succ m=>rw[hy0]at a3; simp[uo]at a3
      exact⟨(ft hy0 fj).2 st,hl⟩
    ·have hy3:(qE c (qi f) y).kind=2:=Nat.le_antisymm (tT _) E2
     rw[if_pos hy3]
     have Vb:(qE c (qi f) x).kind=0:=by
      rw[hy3]at a3
      cases Vb:(qE c (qi f) x).kind with
      | zero=>rfl
      | succ m=>rw[Vb]at a3; simp[uo]at a3
     obtain⟨e1,h3⟩:=ft Vb hl
     grind
   refine⟨_,⟨y,hy,hdy,.inl ⟨Qq,cx,e,_,key.1,rfl⟩⟩,x,hx,hdx,.inl ⟨?_,?_,d,jo,?_,?_⟩⟩
   ·rw[xZ a2]; exact hw
   ·rw[jX (c:=c) a2]; exact hk
   ·rw[jX (c:=c) a2]; exact key.2
   ·simp only[yK f d e Io]
  ·simp only[xZ a1]at Qq
   refine⟨_,⟨y,hy,hdy,.inr ⟨Qq,cx,rfl⟩⟩,x,hx,hdx,.inl ⟨?_,?_,d,gV,?_,?_⟩⟩
   ·rw[xZ a2]; exact hw
   ·rw[jX (c:=c) a2]; exact hk
   ·rw[jX (c:=c) a2]; exact hl
   ·simp only[yK f d (some NH) Io]
 ·rcases hy' with⟨Qq,cx,e,jo,fj,rfl⟩ | ⟨Qq,cx,rfl⟩
  ·simp only[xZ a1,jX (c:=c) a1]at Qq cx fj
   refine⟨_,⟨y,hy,hdy,.inl ⟨Qq,cx,e,jo,fj,rfl⟩⟩,x,hx,hdx,.inr ⟨?_,hk,?_⟩⟩
   ·rw[xZ a2]; exact hw
   ·simp only[yK f (some NH) e Io]
  ·simp only[xZ a1]at Qq
   refine⟨_,⟨y,hy,hdy,.inr ⟨Qq,cx,rfl⟩⟩,x,hx,hdx,.inr ⟨?_,hk,?_⟩⟩
   ·rw[xZ a2]; exact hw
   ·simp only[yK f (some NH) (some NH) Io]
def nu(c:Ctx)(n:Nat)(ops:Array Oper)(kd:Nat->Nat):List Nat->F×St->F×St->Prop
 | [],s,s'=>s'=s
 | i::l,s,s'=>∃ s1,yO c n ops i s s1 (kd i)/\nu c n ops kd l s1 s'
theorem VJ{kd:Nat->Nat}{i:Nat}{post:List Nat}{s':F×St}:∀ {pre:List Nat} {s:F×St},(∀ p∈pre,Ind ops kd p i)->nu c n ops kd (pre++i::post) s s' ->
  ∃ s1,yO c n ops i s s1 (kd i)/\nu c n ops kd (pre++post) s1 s'
 | [],s,_,h=>h
 | p::pre,s,hp,⟨sp,h1,h2⟩=>by
  obtain⟨s1,h3,h4⟩:=VJ (λq hq=>hp q (List.mem_cons_of_mem _ hq)) h2
  obtain⟨s2,h5,h6⟩:=Yn (hp p List.mem_cons_self) h1 h3
  exact⟨s2,h5,s1,h6,h4⟩
end
end Go.AM
namespace Go.AM
set_option linter.unusedSectionVars false
variable [vQ]
section
variable (c:Ctx) (n:Nat) (ops:Array Oper)
def cH(i:Nat)(s s':F×St)(k:RK):Prop:=∃ o,ops[i]? = some o/\vN n o.dst=true /\
 ((w9 ops s.1 o=some true/\k=w6 c (qi s.1) s.2 o/\∃ d zt,(zH (qE c (qi s.1) o) s.2).leads (d,zt)/\s'=(kt s.1 o.dst d,zt)) \/
  (w9 ops s.1 o=some false/\k=.z 0/\s'=(kt s.1 o.dst (some NH),s.2)))
def Lk:List Nat->F×St->F×St->List RK->Prop
 | [],s,s',ks=>s'=s/\ks=[]
 | i::l,s,s',ks=>∃ s1 k DU,ks=k::DU/\cH c n ops i s s1 k/\Lk l s1 s' DU
end
section
variable {c:Ctx} {n:Nat} {ops:Array Oper}
theorem cH.plain{i:Nat}{s s':F×St}{k:RK}(h:cH c n ops i s s' k):∃ k',yO c n ops i s s' k':=by
 obtain⟨o,h1,h2,h3⟩:=h
 rcases h3 with⟨g1,_,g3⟩ | ⟨g1,_,g3⟩
 ·exact⟨_,o,h1,h2,.inl ⟨g1,rfl,g3⟩⟩
 ·exact⟨_,o,h1,h2,.inr ⟨g1,rfl,g3⟩⟩
theorem FM{i:Nat}{o:Oper}{s s':cQ}(ho:ops[i]? = some o)(hk:vC s.kn s.fr.get)(h:(stepG c n ops o s).leads s') :
  ∃ k,cH c n ops i (s.fr.get,s.st) (s'.fr.get,s'.st) k/\vC s'.kn s'.fr.get/\s'.bk=k::s.bk:=by
 have bkS:∀ {s0:cQ},(gb c n o s0).leads s'->s'.bk=w6 c (uB s0.fr) s0.st o::s0.bk:=by
  intro s0 h
  unfold gb at h
  cases hd:vN n o.dst with
  | false=>rw[hd]at h; exact h.elim
  | true =>
   rw[hd,cond_true]at h
   simp only[T.zC]at h
   obtain⟨⟨d,zt⟩,h1,rfl⟩:=h
   rfl
 have run:∀ (s0:cQ),s0.fr=s.fr->s0.st=s.st->s0.bk=s.bk->vC s0.kn s0.fr.get->w9 ops s.fr.get o=some true->(gb c n o s0).leads s' ->
   ∃ k,cH c n ops i (s.fr.get,s.st) (s'.fr.get,s'.st) k/\vC s'.kn s'.fr.get/\s'.bk=k::s.bk:=by
  intro s0 e1 e2 e3 H7 hw h
  obtain⟨h1,⟨d,zt,h2,h3,h4⟩,h5,h6⟩:=UK H7 h
  have hb:=bkS h
  rw[e1]at h2 h3 hb
  rw[e2]at h2 hb
  rw[e3]at hb
  rw[gW]at hb
  exact⟨_,⟨o,ho,h1,.inl ⟨hw,rfl,d,zt,h2,by rw[h3,h4]⟩⟩,h5,hb⟩
 have skip:∀ (s0:cQ),s0.fr=s.fr->s0.st=s.st->s0.bk=s.bk->vC s0.kn s0.fr.get->w9 ops s.fr.get o=some false->vN n o.dst=true->jg o s0=s' ->
   ∃ k,cH c n ops i (s.fr.get,s.st) (s'.fr.get,s'.st) k/\vC s'.kn s'.fr.get/\s'.bk=k::s.bk:=by
  intro s0 e1 e2 e3 H7 hw hd h
  subst h
  refine⟨.z 0,⟨o,ho,hd,.inr ⟨hw,rfl,?_⟩⟩,Ma H7,by simp[jg,e3]⟩
  simp only[jg,mF,e1,e2]
 unfold stepG at h
 split at h
 ·rename_i hg
  exact run s rfl rfl rfl hk (by simp[w9,hg]) h
 ·rename_i j w hg
  split at h
  ·exact h.elim
  ·rename_i t ht
   split at h
   ·rename_i b hb
    have hf:=hk t b hb
    have hw:w9 ops s.fr.get o=some (b==w):=by simp[w9,hg,ht,hf]
    cases ON:(b==w)with
    | true=>grind
    | false =>
     rw[ON,cond_false]at h
     cases hd:vN n o.dst with
     | false=>rw[hd]at h; exact h.elim
     | true=>rw[hd,cond_true]at h; exact skip s rfl rfl rfl hk (by rw[hw,ON]) hd h
   ·split at h
    ·rename_i x hx
     have hw:w9 ops s.fr.get o=some (x==w):=by simp[w9,hg,ht,hx]
     cases hd:vN n o.dst with
     | false=>rw[hd]at h; exact h.elim
     | true =>
      rw[hd,cond_true]at h
      rcases h with⟨rfl,h⟩ | ⟨rfl,h⟩
      ·have GN:vC (s.b7 t true).kn (s.b7 t true).fr.get:=pW hk hx
       cases w with
       | true=>exact run (s.b7 t true) rfl rfl rfl GN hw h
       | false=>exact skip (s.b7 t true) rfl rfl rfl GN hw hd h
      ·have GN:vC (s.b7 t false).kn (s.b7 t false).fr.get:=pW hk hx
       cases w with
       | true=>exact skip (s.b7 t false) rfl rfl rfl GN hw hd h
       | false=>exact run (s.b7 t false) rfl rfl rfl GN hw h
    ·rename_i hx
     have hw:w9 ops s.fr.get o=some false:=by simp[w9,hg,ht,hx]
     cases hd:vN n o.dst with
     | false=>rw[hd]at h; exact h.elim
     | true=>rw[hd,cond_true]at h; exact skip s rfl rfl rfl hk hw hd h
    ·exact h.elim
theorem Wd:∀ (l:List Oper) (k0:Nat) (s s':cQ),(∀ j,l[j]? = ops[k0+j]? \/ l.length<=j)->vC s.kn s.fr.get->(iF c n ops l s).leads s' ->
  ∃ ks,Lk c n ops (List.range' k0 l.length) (s.fr.get,s.st) (s'.fr.get,s'.st) ks/\s'.bk=ks.reverse++s.bk
 | [],k0,s,s',_,hk,h=>by cases h; exact⟨[],⟨rfl,rfl⟩,rfl⟩
 | o::l,k0,s,s',hl,hk,h=>by
  simp only[iF,T.zC]at h
  obtain⟨s1,h1,h2⟩:=h
  have ho:ops[k0]? = some o:=by rcases hl 0 with h | h<;>simp at h; exact h.symm
  obtain⟨k,g1,g2,g3⟩:=FM ho hk h1
  obtain⟨ks,g4,g6⟩:=Wd l (k0+1) s1 s' (λj=>by have:=hl (j+1); simpa[Nat.add_assoc,Nat.add_comm 1 j]using this) g2 h2
  refine⟨k::ks,?_,by grind⟩
  exact⟨_,k,ks,rfl,g1,g4⟩
theorem FJ{m b:Nat}{l:List Nat}:b∈others m l↔b<m/\∀ x∈l,b≠x:=by
 simp only[others]
 simp
theorem LZ{d:Option D}{b:Nat}(h:z6n d=some b):(∃ off,d=some (.ptr b off))\/∃ v e i off,d=some (.ui b v e i off):=by
 cases d with
 | none=>cases h
 | some d=>cases d<;>first | (cases h; exact .inl ⟨_,rfl⟩) | (cases h; exact .inr ⟨_,_,_,_,rfl⟩) | cases h
theorem Q2{bi:Builtin}{l:List (Option D)}:Ip bi l=.z 2\/∃ b v e off len x,bi=.append/\l=[some (.ms b v e off len),some x]/\YD x=false/\Ip bi l=.up b:=by
 unfold Ip
 grind
theorem JG(ρ:Operand->Option D)(st:St)(o:Oper):(w6 c ρ st o).base=(qE c ρ o).kind:=by
 unfold w6
 split
 ·rename_i h
  rw[h]
  cases o.op with
  | load t a=>simp only; split<;>rfl
  | _=>rfl
 ·rename_i h
  rw[h]
  cases o.op with
  | call cl =>
   cases hc:cl.callee with
   | builtin bi =>
    simp only[hc]
    rcases Q2 (bi:=bi) (l:=cl.args.toList.map ρ)with e | ⟨b,v,e,off,len,x,_,_,_,e⟩<;>rw[e]<;>rfl
   | value f=>simp only[hc]; split<;>rfl
   | _=>simp only[hc]; rfl
  | store t a v=>simp only; split<;>rfl
  | _=>rfl
 ·rfl
theorem XX{ρ:Operand->Option D}{o:Oper}(h:(qE c ρ o).kind<=1)(st zt:St):w6 c ρ st o=w6 c ρ zt o:=by
 unfold w6
 grind
theorem Qu{ρ:Operand->Option D}{st:St}{o:Oper}{b:Nat}(h:w6 c ρ st o=.rd b){gV jo CP:St}{d:Option D}(hl:(zH (qE c ρ o) gV).leads (d,CP))(hb:jo[b]? = gV[b]?):(zH (qE c ρ o) jo).leads (d,jo):=by
 obtain⟨dst,op,ty,pos,after,guard⟩:=o
 cases op with
 | load t a =>
  have h':(∃ off,ρ a=some (.ptr b off))\/∃ v e i off,ρ a=some (.ui b v e i off):=by
   unfold w6 at h
   simp only at h
   split at h
   ·split at h
    ·rename_i b' ha; cases h; exact LZ ha
    ·cases h
   ·cases h
   ·cases h
  have he:qE c ρ ⟨dst,.load t a,ty,pos,after,guard⟩=J6 c t (ρ a):=rfl
  rcases h' with⟨off,ha⟩ | ⟨v,e,i,off,ha⟩
  all_goals
   rw[he,ha]at hl ⊢
   simp only[J6]at hl ⊢
   rw[lB]at hl ⊢
   grind
 | call cl =>
  obtain⟨callee,args,nQ⟩:=cl
  unfold w6 at h
  split at h
  ·cases h
  ·cases callee with
   | builtin bi =>
    simp only at h
    rcases Q2 (bi:=bi) (l:=args.toList.map ρ)with e | ⟨b,v,e,off,len,x,_,_,_,e⟩<;>rw[e]at h<;>cases h
   | value f=>grind
   | _=>cases h
  ·cases h
 | _ =>
  unfold w6 at h
  grind
theorem Dt{ρ:Operand->Option D}{st:St}{o:Oper}{A:List Nat}(h:w6 c ρ st o=.wr A){zt:St}{d:Option D}(hl:(zH (qE c ρ o) st).leads (d,zt)):∀ b∈A,zt[b]? = st[b]? := by
 obtain⟨dst,op,ty,pos,after,guard⟩:=o
 cases op with
 | alloc t =>
  have h':A=others st.length []:=by
   unfold w6 at h
   grind
  subst h'
  intro b hb
  obtain⟨hb,_⟩:=FJ.1 hb
  have hl:(zH (lU c t) st).leads (d,zt):=hl
  unfold lU at hl
  split at hl
  ·rename_i z hz
   have hl:(some (D.ptr st.length 0),st++[kG.var z])=(d,zt):=hl
   grind
  ·exact absurd hl zf
 | store t a v =>
  exfalso
  unfold w6 at h
  grind
 | call cl =>
  obtain⟨callee,args,nQ⟩:=cl
  cases callee with
  | value f =>
   have h':(qE c ρ ⟨dst,.call ⟨.value f,args,nQ⟩,ty,pos,after,guard⟩).kind=2/\∃ g caps l,ρ f=some (.qW g caps)/\uu (args.toList.map ρ)=some l/\A=c.free (yn g) (ji g l caps) st:=by
    unfold w6 at h
    grind
   obtain⟨hk,g,caps,l,hg,hl',rfl⟩:=h'
   intro b hb
   have he:qE c ρ ⟨dst,.call ⟨.value f,args,nQ⟩,ty,pos,after,guard⟩=cz c (ρ f) (args.toList.map ρ):=rfl
   rw[he,hg]at hl hk
   simp only[cz,hl']at hl hk
   split at hl
   ·rename_i s hs
    rw[hs]at hk
    simp only[gZ]at hk
    cases hn:(!(ji g l caps).any Jb)<;>rw[hn]at hk<;>simp[bm.kind]at hk
   ·simp only[pX,zH,T.zC]at hl
    obtain⟨⟨rs,gV⟩,h1,h2⟩:=hl
    cases rs with
    | ret ds=>cases h2; exact c.OT _ _ _ _ _ b h1 hb
    | kz p=>exact h2.elim
  | builtin bi =>
   exfalso
   unfold w6 at h
   simp only at h
   split at h
   ·cases h
   ·rcases Q2 (bi:=bi) (l:=args.toList.map ρ)with e | ⟨b,v,e,off,len,x,_,_,_,e⟩<;>rw[e]at h<;>cases h
   ·cases h
  | invoke r m =>
   exfalso
   unfold w6 at h
   simp only at h
   split at h<;>cases h
 | _ =>
  exfalso
  unfold w6 at h
  simp only at h
  split at h
  ·first
    | cases h
    | (split at h<;>cases h)
  ·cases h
  ·cases h
theorem ZB{ρ:Operand->Option D}{st:St}{o:Oper}{b:Nat}(h:w6 c ρ st o=.up b){gV CP:St}{d:Option D}(hl:(zH (qE c ρ o) gV).leads (d,CP)) :
  ∃ y,CP=gV.set b y/\∀ jo:St,jo[b]? = gV[b]? -> (zH (qE c ρ o) jo).leads (d,jo.set b y):=by
 obtain⟨dst,op,ty,pos,after,guard⟩:=o
 cases op with
 | store t a v =>
  have h':(∃ off,ρ a=some (.ptr b off))\/∃ v e i off,ρ a=some (.ui b v e i off):=by
   unfold w6 at h
   simp only at h
   split at h
   ·cases h
   ·split at h
    ·rename_i b ha; cases h; exact LZ ha
    ·cases h
   ·cases h
  have he:qE c ρ ⟨dst,.store t a v,ty,pos,after,guard⟩=WN c t (ρ a) (ρ v):=rfl
  rw[he]at hl ⊢
  cases hv:ρ v with
  | none =>
   rw[hv]at hl
   rcases h' with⟨off,ha⟩ | ⟨w,e,i,off,ha⟩<;>(rw[ha]at hl; exact absurd hl zf)
  | some x =>
   rw[hv]at hl
   rcases h' with⟨off,ha⟩ | ⟨w,e,i,off,ha⟩
   ·rw[ha]at hl ⊢
    have hl:(match gV[b]? with
     | some (.var d)=>match Cc c t d off x with | some r=>bif me d r then T.ret ((none:Option D),gV.set b (.var r))else .fail | none=>.fail
     | _=>.fail:T (Option D×St)).leads (d,CP):=hl
    split at hl
    ·rename_i d0 hb
     split at hl
     ·rename_i r hr
      cases ho:me d0 r with
      | false=>rw[ho]at hl; exact hl.elim
      | true =>
       rw[ho]at hl
       cases hl
       refine⟨.var r,rfl,λjo h2 => ?_⟩
       show(match jo[b]? with
        | some (.var d)=>match Cc c t d off x with | some r=>bif me d r then T.ret ((none:Option D),jo.set b (.var r))else .fail | none=>.fail
        | _=>.fail:T (Option D×St)).leads _
       rw[h2,hb]
       simp only[hr,ho,cond_true]
       rfl
     ·exact hl.elim
    ·exact hl.elim
   ·rw[ha]at hl ⊢
    have hl:(match gV[b]? with
     | some (.arr jL e' xs)=>bif decide (e'=e)then
       .zL (w=jL/\i<xs.length) (match Cc c t (.zI e' (xs.getD i (zk e'))) off x with
        | some r=>match dC e' r with | some y=>T.ret ((none:Option D),gV.set b (.arr jL e' (xs.set i y))) | none=>.fail
        | none=>.fail)
      else .fail
     | _=>.fail:T (Option D×St)).leads (d,CP):=hl
    split at hl
    ·rename_i jL e' xs hb
     cases hd:decide (e'=e)with
     | false=>rw[hd]at hl; exact hl.elim
     | true =>
      rw[hd,cond_true]at hl
      obtain⟨ho,hl⟩:=hl
      split at hl
      ·rename_i r hr
       split at hl
       ·rename_i y hy
        cases hl
        refine⟨.arr jL e' (xs.set i y),rfl,λjo h2 => ?_⟩
        show(match jo[b]? with
         | some (.arr jL e' xs)=>bif decide (e'=e)then
           .zL (w=jL/\i<xs.length) (match Cc c t (.zI e' (xs.getD i (zk e'))) off x with
            | some r=>match dC e' r with | some y=>T.ret ((none:Option D),jo.set b (.arr jL e' (xs.set i y))) | none=>.fail
            | none=>.fail)
          else .fail
         | _=>.fail:T (Option D×St)).leads _
        rw[h2,hb]
        simp only[hd,cond_true,hr,hy]
        exact⟨ho,rfl⟩
       ·exact hl.elim
      ·exact hl.elim
    ·exact hl.elim
 | call cl =>
  obtain⟨callee,args,nQ⟩:=cl
  cases callee with
  | builtin bi =>
   have h':bi=.append/\∃ v e off len x,args.toList.map ρ=[some (.ms b v e off len),some x]/\YD x=false:=by
    unfold w6 at h
    simp only at h
    split at h
    ·cases h
    ·rcases Q2 (bi:=bi) (l:=args.toList.map ρ)with e | ⟨b',v,e,off,len,x,h1,h2,h3,e'⟩
     ·grind
     ·rw[e']at h; cases h; exact⟨h1,v,e,off,len,x,h2,h3⟩
    ·cases h
   obtain⟨rfl,v,e,off,len,x,hx,hm⟩:=h'
   have he:qE c ρ ⟨dst,.call ⟨.builtin .append,args,nQ⟩,ty,pos,after,guard⟩=lq c .append nQ.toList (args.toList.map ρ):=rfl
   rw[he,hx]at hl ⊢
   -- what the row gets
   have one:∀ {e':Ty} {ys:List (den e')} {ne:Bool} {nO:Nat},(jB e' (.ms b v e off len) ys ne nO gV).leads (d,CP)->∃ y,CP=gV.set b y/\∀ jo:St,jo[b]? = gV[b]? -> (jB e' (.ms b v e off len) ys ne nO jo).leads (d,jo.set b y):=by
    intro e' ys ne nO hl
    simp only[jB]at hl
    split at hl
    ·rename_i jL e'' xs hb
     split at hl
     ·rename_i zs hz
      cases hd:decide (e=e')with
      | false=>rw[hd]at hl; exact hl.elim
      | true =>
       rw[hd,cond_true]at hl
       obtain⟨ho,hl⟩:=hl
       cases hl
       refine⟨_,rfl,λjo h2 => ?_⟩
       simp only[jB]
       rw[h2,hb]
       simp only[hz,hd,cond_true]
       exact⟨ho,rfl⟩
     ·exact hl.elim
    ·exact hl.elim
   have snp:∀ jo,nJ jo x=.ret x:=λjo=>by cases x<;>first | rfl | cases hm
   generalize nQ.toList=tl at hl ⊢
   rcases tl with _ | ⟨t,_ | ⟨t',_ | ⟨t'',tl⟩⟩⟩
   ·exact absurd hl zf
   ·exact absurd hl zf
   rotate_left
   ·exact absurd hl zf
   ·
    simp only[lq]at hl ⊢
    cases ht:Nat.beq t t' with
    | true =>
     rw[ht,cond_true]at hl
     simp only[cond_true]
     unfold Zd at hl ⊢
     cases het:fy c t with
     | none=>rw[het]at hl; exact absurd hl zf
     | some et =>
      rw[het]at hl
      simp only at hl ⊢
      cases h1:Hm c 20 et with
      | none=>rw[h1]at hl; exact absurd hl zf
      | some ee =>
       rw[h1]at hl
       try simp only at hl ⊢
       cases h2:mw c et with
       | none=>rw[h2]at hl; exact absurd hl zf
       | some bytes =>
        rw[h2]at hl
        simp only at hl ⊢
        cases hc:ke c et ee&&Nat.blt 0 ee.size&&Nat.blt 0 bytes&&(zeroOf c et ee).isSome with
        | false=>rw[hc]at hl; exact absurd hl zf
        | true =>
         rw[hc,cond_true]at hl
         simp only[cond_true,zH,snp,T.bind]at hl ⊢
         cases x<;>simp only at hl ⊢ <;> first | exact hl.elim | exact one hl | skip
         ·split at hl
          ·exact one hl
          ·exact hl.elim
         ·split at hl
          ·exact one hl
          ·exact hl.elim
    | false =>
     rw[ht,cond_false]at hl
     simp only[cond_false]
     unfold r7 at hl ⊢
     cases het:fy c t with
     | none=>rw[het]at hl; exact absurd hl zf
     | some et =>
      rw[het]at hl
      simp only at hl ⊢
      split at hl
      ·rename_i bytes h1 h2 h3
       cases hc:ke c et (.int .u8)&&Nat.blt 0 bytes&&(zeroOf c et (.int .u8)).isSome with
       | false=>rw[hc]at hl; exact absurd hl zf
       | true =>
        rw[hc,cond_true]at hl
        simp only[cond_true]
        split at hl
        ·rename_i s l e1 e2
         cases e1
         cases e2
         simp only[zH]at hl ⊢
         exact one hl
        ·exact absurd hl zf
      ·exact absurd hl zf
  | _ =>
   exfalso
   unfold w6 at h
   simp only at h
   split at h
   ·cases h
   ·first | cases h | (split at h<;>cases h)
   ·cases h
 | _ =>
  exfalso
  unfold w6 at h
  simp only at h
  split at h
  ·first
    | cases h
    | (split at h<;>cases h)
  ·cases h
  ·cases h
theorem KP:∀ (l:List Nat) (s s':F×St) (ks:List RK),Lk c n ops l s s' ks->ks.length=l.length
 | [],_,_,_,h=>by rw[h.2]; rfl
 | i::l,s,s',ks,⟨s1,k,DU,e,h1,h2⟩=>by subst e; simp[KP l s1 s' DU h2]
theorem nX{ρ:Operand->Option D}{st:St}{o:Oper}{b:Nat}(h:w6 c ρ st o=.up b)(zt:St):w6 c ρ zt o=.up b:=by
 obtain⟨dst,op,ty,pos,after,guard⟩:=o
 cases op with
 | alloc t =>
  unfold w6 at h
  grind
 | call cl =>
  obtain⟨callee,args,nQ⟩:=cl
  cases callee with
  | value f =>
   unfold w6 at h
   grind
  | builtin bi=>cases bi<;>exact h
  | _=>exact h
 | _=>exact h
def z6H(ops:Array Oper)(kd:Nat->RK)(p i:Nat):Prop:=∀ x y,ops[p]? = some x->ops[i]? = some y ->
 (∀ d,x.dst=some d->d ∉ tmpsOf ops y)/\(∀ d,y.dst=some d->d ∉ tmpsOf ops x)/\uh (kd p) (kd i)=false
theorem rM{f:F}{o:Oper}{dst:Option Nat}{d:Option D}{st:St}(h:∀ t,dst=some t->t ∉ tmpsOf ops o):w6 c (qi (kt f dst d)) st o=w6 c (qi f) st o:=by
 have e1:qE c (qi (kt f dst d)) o=qE c (qi f) o:=jX h
 have e2:∀ x∈o.op.operands,qi (kt f dst d) x=qi f x:=λx hx=>KB λt ht e=>h t ht (pJ (ops:=ops) (e▸hx))
 obtain⟨dd,op,ty,pos,after,guard⟩:=o
 unfold w6
 rw[e1]
 cases op with
 | load t a=>simp only[e2 a (by simp[Op.operands])]
 | store t a v=>simp only[e2 a (by simp[Op.operands])]
 | call cl =>
  obtain⟨callee,args,nQ⟩:=cl
  cases callee with
  | value g =>
   have bf:args.toList.map (qi (kt f dst d))=args.toList.map (qi f):=List.map_congr_left λx hx=>e2 x (by simp[Op.operands,Call.operands,Array.mem_toList_iff.1 hx])
   simp only[bf,e2 g (by simp[Op.operands,Call.operands])]
  | builtin bi =>
   have bf:args.toList.map (qi (kt f dst d))=args.toList.map (qi f):=List.map_congr_left λx hx=>e2 x (by simp[Op.operands,Call.operands,Array.mem_toList_iff.1 hx])
   grind
  | _=>rfl
 | _=>rfl
theorem Ev{kd:Nat->RK}{p i:Nat}(hi:z6H ops kd p i){s s1 s2:F×St}(h1:cH c n ops p s s1 (kd p))(h2:cH c n ops i s1 s2 (kd i)) :
  ∃ s',cH c n ops i s s' (kd i)/\cH c n ops p s' s2 (kd p):=by
 obtain⟨x,hx,hdx,GV⟩:=h1
 obtain⟨y,hy,hdy,hy'⟩:=h2
 obtain⟨a1,a2,a3⟩:=hi x y hx hy
 have Io:∀ t,x.dst=some t->y.dst≠some t:=λt ht e=>a1 t ht (kg e)
 obtain⟨f,st⟩:=s
 rcases GV with⟨hw,hk,d,gV,hl,rfl⟩ | ⟨hw,hk,rfl⟩
 ·rcases hy' with⟨Qq,cx,e,jo,fj,rfl⟩ | ⟨Qq,cx,rfl⟩
  ·simp only[xZ a1,jX (c:=c) a1,rM (c:=c) a1]at Qq cx fj
   simp only at hw hk hl
   -- the two meet nowhere in the store
   have key:∃ zt,(zH (qE c (qi f) y) st).leads (e,zt)/\(zH (qE c (qi f) x) zt).leads (d,jo)/\w6 c (qi f) st y=kd i/\w6 c (qi f) zt x=kd p:=by
    have bx:=JG (c:=c) (qi f) st x
    have nO:=JG (c:=c) (qi f) gV y
    rw[<- hk]at bx
    rw[<- cx]at nO
    rcases Nat.lt_or_ge (qE c (qi f) x).kind 2 with Ff | Ff
    ·-- x writes nothing
     have e1:=cg (by omega) hl
     subst e1
     refine⟨jo,fj,?_,cx.symm,(XX (by omega) jo gV).trans hk.symm⟩
     rcases Nat.lt_or_ge (qE c (qi f) y).kind 2 with E2 | E2
     ·have e2:=cg (by omega) fj
      grind
     ·have hy3:(qE c (qi f) y).kind=2:=Nat.le_antisymm (tT _) E2
      cases hp:kd p with
      | rd b =>
       cases hq:kd i with
       | wr A =>
        rw[hp,hq]at a3
        simp only[uh,Bool.not_eq_false',List.any_eq_true]at a3
        obtain⟨b',Hs,hbb⟩:=a3
        have:=Nat.eq_of_beq_eq_true hbb
        subst this
        exact Qu (by rw[<- hk]; exact hp) hl (Dt (by rw[<- cx]; exact hq) fj b Hs)
       | rd b'=>rw[hq]at nO; simp[RK.base]at nO; omega
       | z k=>rw[hp,hq]at a3; rw[hq,hy3]at nO; simp only[RK.base]at nO; subst nO; simp[uh,uo,RK.base]at a3
       | up a =>
        rw[hp,hq]at a3
        have Wt:a≠b:=λe=>by subst e; simp[uh]at a3
        obtain⟨z,e1,_⟩:=ZB (by rw[<- cx]; exact hq) fj
        subst e1
        exact Qu (by rw[<- hk]; exact hp) hl (by rw[List.getElem?_set_ne Wt])
      | wr A=>rw[hp]at bx; simp[RK.base]at bx; omega
      | up A=>rw[hp]at bx; simp[RK.base]at bx; omega
      | z k =>
       rw[hp]at bx
       simp only[RK.base]at bx
       have H7:k=0:=by
        cases hq:kd i with
        | wr A =>
         rw[hp,hq]at a3
         simp only[uh,RK.base,uo]at a3
         cases k with
         | zero=>rfl
         | succ m=>simp at a3
        | rd b'=>rw[hq]at nO; simp[RK.base]at nO; omega
        | z k' =>
         rw[hq,hy3]at nO
         simp only[RK.base]at nO
         subst nO
         rw[hp,hq]at a3
         simp only[uh,RK.base,uo]at a3
         cases k with
         | zero=>rfl
         | succ m=>simp at a3
        | up A =>
         rw[hp,hq]at a3
         simp only[uh,RK.base,uo]at a3
         cases k with
         | zero=>rfl
         | succ m=>simp at a3
       subst H7
       exact(ft bx.symm hl).2 jo
    ·have hx3:(qE c (qi f) x).kind=2:=Nat.le_antisymm (tT _) Ff
     -- x writes
     rcases Nat.lt_or_ge (qE c (qi f) y).kind 2 with E2 | E2
     ·have e2:=cg (by omega) fj
      subst e2
      refine⟨st,?_,hl,(XX (by omega) st jo).trans cx.symm,hk.symm⟩
      cases hq:kd i with
      | wr A=>rw[hq]at nO; simp[RK.base]at nO; omega
      | up A=>rw[hq]at nO; simp[RK.base]at nO; omega
      | rd b =>
       cases hp:kd p with
       | wr A =>
        rw[hp,hq]at a3
        simp only[uh,Bool.not_eq_false',List.any_eq_true]at a3
        obtain⟨b',Hs,hbb⟩:=a3
        have:=Nat.eq_of_beq_eq_true hbb
        subst this
        exact Qu (st:=jo) (by rw[<- cx]; exact hq) fj (Dt (by rw[<- hk]; exact hp) hl b Hs).symm
       | up a =>
        rw[hp,hq]at a3
        have Wt:a≠b:=λe=>by subst e; simp[uh]at a3
        obtain⟨z,e1,_⟩:=ZB (by rw[<- hk]; exact hp) hl
        subst e1
        exact Qu (st:=st.set a z) (by rw[<- cx]; exact hq) fj (by rw[List.getElem?_set_ne Wt])
       | rd b'=>rw[hp]at bx; simp[RK.base]at bx; omega
       | z k=>rw[hp]at bx; simp only[RK.base]at bx; rw[hx3]at bx; subst bx; rw[hp,hq]at a3; simp[uh,RK.base,uo]at a3
      | z k =>
       rw[hq]at nO
       simp only[RK.base]at nO
       have H7:k=0:=by
        have a4:uh (kd p) (.z k)=false:=by rw[hq]at a3; exact a3
        have a5:uo 2 k=false:=by
         cases hp:kd p with
         | wr A=>rw[hp]at a4; exact a4
         | up A=>rw[hp]at a4; exact a4
         | rd b'=>rw[hp]at bx; simp[RK.base]at bx; omega
         | z k'=>rw[hp]at bx a4; simp only[RK.base]at bx; rw[hx3]at bx; subst bx; exact a4
        cases k with
        | zero=>rfl
        | succ m=>simp[uo]at a5
       subst H7
       exact(ft nO.symm fj).2 st
     ·have hy3:(qE c (qi f) y).kind=2:=Nat.le_antisymm (tT _) E2
      -- both write: one block each
      have hup:∃ a b,kd p=.up a/\kd i=.up b/\a≠b:=by
       cases hp:kd p with
       | rd b'=>rw[hp]at bx; simp[RK.base]at bx; omega
       | up a =>
        cases hq:kd i with
        | up b=>rw[hp,hq]at a3; exact⟨a,b,rfl,rfl,λe=>by subst e; simp[uh]at a3⟩
        | rd b'=>rw[hq]at nO; simp[RK.base]at nO; omega
        | wr A=>rw[hp,hq]at a3; simp[uh,RK.base,uo]at a3
        | z k=>rw[hq,hy3]at nO; simp only[RK.base]at nO; subst nO; rw[hp,hq]at a3; simp[uh,RK.base,uo]at a3
       | wr A =>
        cases hq:kd i with
        | up b=>rw[hp,hq]at a3; simp[uh,RK.base,uo]at a3
        | rd b'=>rw[hq]at nO; simp[RK.base]at nO; omega
        | wr B=>rw[hp,hq]at a3; simp[uh,RK.base,uo]at a3
        | z k=>rw[hq,hy3]at nO; simp only[RK.base]at nO; subst nO; rw[hp,hq]at a3; simp[uh,RK.base,uo]at a3
       | z k' =>
        rw[hp,hx3]at bx
        simp only[RK.base]at bx
        subst bx
        cases hq:kd i with
        | up b=>rw[hp,hq]at a3; simp[uh,RK.base,uo]at a3
        | rd b'=>rw[hq]at nO; simp[RK.base]at nO; omega
        | wr B=>rw[hp,hq]at a3; simp[uh,RK.base,uo]at a3
        | z k=>rw[hq,hy3]at nO; simp only[RK.base]at nO; subst nO; rw[hp,hq]at a3; simp[uh,RK.base,uo]at a3
      obtain⟨a,b,hp,hq,Wt⟩:=hup
      obtain⟨z1,e1,w1⟩:=ZB (by rw[<- hk]; exact hp) hl
      subst e1
      obtain⟨z2,e2,w2⟩:=ZB (by rw[<- cx]; exact hq) fj
      subst e2
      refine⟨st.set b z2,w2 st (by rw[List.getElem?_set_ne Wt]),?_,(nX (by rw[<- cx]; exact hq) st).trans hq.symm,(nX (by rw[<- hk]; exact hp) _).trans hp.symm⟩
      rw[List.set_comm _ _ Wt]
      exact w1 (st.set b z2) (by rw[List.getElem?_set_ne (λe=>Wt e.symm)])
   obtain⟨zt,k1,k2,k3,k4⟩:=key
   refine⟨_,⟨y,hy,hdy,.inl ⟨Qq,k3.symm,e,_,k1,rfl⟩⟩,x,hx,hdx,.inl ⟨?_,?_,d,jo,?_,?_⟩⟩
   ·rw[xZ a2]; exact hw
   ·rw[rM (c:=c) a2]; exact k4.symm
   ·rw[jX (c:=c) a2]; exact k2
   ·simp only[yK f d e Io]
  ·simp only[xZ a1]at Qq
   refine⟨_,⟨y,hy,hdy,.inr ⟨Qq,cx,rfl⟩⟩,x,hx,hdx,.inl ⟨?_,?_,d,gV,?_,?_⟩⟩
   ·rw[xZ a2]; exact hw
   ·rw[rM (c:=c) a2]; exact hk
   ·rw[jX (c:=c) a2]; exact hl
   ·simp only[yK f d (some NH) Io]
 ·rcases hy' with⟨Qq,cx,e,jo,fj,rfl⟩ | ⟨Qq,cx,rfl⟩
  ·simp only[xZ a1,jX (c:=c) a1,rM (c:=c) a1]at Qq cx fj
   refine⟨_,⟨y,hy,hdy,.inl ⟨Qq,cx,e,jo,fj,rfl⟩⟩,x,hx,hdx,.inr ⟨?_,hk,?_⟩⟩
   ·rw[xZ a2]; exact hw
   ·simp only[yK f (some NH) e Io]
  ·simp only[xZ a1]at Qq
   refine⟨_,⟨y,hy,hdy,.inr ⟨Qq,cx,rfl⟩⟩,x,hx,hdx,.inr ⟨?_,hk,?_⟩⟩
   ·rw[xZ a2]; exact hw
   ·simp only[yK f (some NH) (some NH) Io]
end
end Go.AM
namespace Go.AM
set_option linter.unusedSectionVars false
variable [vQ]
class Kl where
 df:List Deferred
instance Uy:Kl:=⟨[]⟩
variable [Kl]
structure Rel(κ:KS)(n:Nat)(f:F)(a:Act):Prop where
 size:a.tmps.size=n
 defers:a.defers=Kl.df
 get:∀ (s:Nat) (d:D),f s=some d->∃ v,a.tmps[s]? = some v/\RD κ d v
section
variable {c:Ctx} {κ:KS} {n:Nat} {f:F} {a:Act}
theorem Rel.eval(h:Rel κ n f a){x:Operand}{d:D}(hx:qi f x=some d):RD κ d (a.eval x):=by
 cases x with
 | tmp t =>
  obtain⟨v,h1,h2⟩:=h.get t d hx
  simp only[Act.eval,Array.getD_eq_getD_getElem?,h1]
  exact h2
 | const v=>exact(U1 hx).1
 | global g=>cases hx
 | func g =>
  have hx:(bif Nat.blt g 1000000 then some (D.qW g [])else none)=some d:=hx
  cases hb:Nat.blt g 1000000 with
  | false=>grind
  | true =>
   rw[hb]at hx
   cases hx
   have:=RD.qW (κ:=κ) g [] [] rfl (λi h=>absurd h (Nat.not_lt_zero i))
   rwa [GR hb]at this
theorem Rel.mono{κ':KS}(x:Ext κ κ')(h:Rel κ n f a):Rel κ' n f a:=⟨h.size,h.defers,λs d hd=>by obtain⟨v,h1,h2⟩:=h.get s d hd; exact⟨v,h1,h2.mono x⟩⟩
theorem Rel.put{dst:Option Nat}{d:Option D}{v:Value}(h:Rel κ n f a)(hd:vN n dst=true)(hv:∀ d',d=some d'->RD κ d' v):Rel κ n (kt f dst d) (a.put dst v):=by
 cases dst with
 | none=>exact h
 | some t =>
  have qs:t<n:=Nat.le_of_ble_eq_true hd
  refine⟨by simp[Act.put,h.size],h.defers,λs d' hs => ?_⟩
  simp only[kt]at hs
  simp only[Act.put]
  by_cases e:s=t
  ·subst e
   rw[if_pos rfl]at hs
   exact⟨v,by simp[h.size,qs],hv d' hs⟩
  ·rw[if_neg e]at hs
   obtain⟨u,h1,h2⟩:=h.get s d' hs
   grind
theorem z09{v:Value}:RD κ NH undef:=.yC [] [] rfl (λi h=>absurd h (Nat.not_lt_zero i))
theorem z2Z{o:Oper}{d:Option D}{zt:St}(h:qw c.P (execOp a.eval o) κ d zt){K:Act->World->Prop}{Q:Exit->Act->World->Prop}
  (hK:∀ (v:Value) (κ':KS),κ'.st=zt->Inv κ'->Ext κ κ'->(∀ d',d=some d'->RD κ' d' v)->K (a.put o.dst v) κ'.w):o.wp c.P a κ.w K Q:=by
 obtain⟨κ',nx,v,h1,h2,h3,h4,h5,h6⟩:=h
 unfold Oper.wp
 rw[h1]
 rcases h2 with rfl | ⟨rfl,rfl⟩
 ·exact hK v κ' h3 h4 h5 h6
 ·exact hK undef κ' h3 h4 h5 h6
theorem ES(h:Rel κ n f a)(x:Option Operand):XK κ (x.map (qi f)) (x.map a.eval):=by
 cases x with
 | none=>trivial
 | some x=>exact λy hy=>h.eval hy
theorem HL(hI:Inv κ)(hR:Rel κ n f a){b:Builtin}{args:Array Operand}{nQ:Array TypeId}{o:Oper}(ho:o.op=.call ⟨.builtin b,args,nQ⟩){d:Option D}{zt:St}
  (h:(zH (lq c b nQ.toList (args.toList.map (qi f))) κ.st).leads (d,zt)):qw c.P (execOp a.eval o) κ d zt:=by
 have two:∀ {g:Value->Value->Sem Value} {m:Int->Int->Int},(∀ k k' a b,(g (.int k a) (.int k' b)).run c.P κ.w=.ok (.int k (m a b)) κ.w)->(zH (Uw m (args.toList.map (qi f))) κ.st).leads (d,zt) ->
   (∀ p q,args = #[p,q]->execOp a.eval o=(do Pure.pure (.value (<- g (a.eval p) (a.eval q))):Sem Next))->qw c.P (execOp a.eval o) κ d zt:=by
  intro g m hg h he
  match hl:args.toList,h with
  | [p,q],h =>
   have hpq:args = #[p,q]:=by rw[<- Array.toArray_toList (xs:=args),hl]
   rw[he p q hpq]
   obtain⟨r,h1,rfl,h3⟩:=Ef hg hI (λz hz=>hR.eval (x:=p) hz) (λz hz=>hR.eval (x:=q) hz) h
   exact⟨κ,.value r,r,by simp[h1],.inl rfl,rfl,hI,Ext.refl κ,h3⟩
  | [],h=>exact absurd h zf
  | [_],h=>exact absurd h zf
  | _::_::_::_,h=>exact absurd h zf
 unfold lq at h
 split at h
 ·rename_i t ts x xs h1 h2
  have ht:nQ[0]? = some t:=by rw[<- Array.getElem?_toList,h1]; rfl
  obtain⟨y,hy,rfl⟩:∃ y,args[0]? = some y/\x=qi f y:=by
   cases hl:args.toList with
   | nil=>grind
   | cons y ys=>rw[hl]at h2; simp at h2; exact⟨y,by rw[<- Array.getElem?_toList,hl]; rfl,h2.1.symm⟩
  have:=z1E (c:=c) (ty:=o.type) (ts:=nQ) (vs:=args.map a.eval) hI (λz hz=>hR.eval (x:=y) hz) ht (by simp[hy]) h
  simp only[execOp,ho,resolve,invoke,builtin,pure_bind]
  exact this
 ·rename_i t t' s x h1 h2
  obtain⟨p,q,rfl,rfl,hpq⟩:∃ p q,s=qi f p/\x=qi f q/\args = #[p,q]:=by
   cases hl:args.toList with
   | nil=>grind
   | cons p r=>rw[hl]at h2; cases r with
    | nil=>simp at h2
    | cons q r=>cases r with
     | nil=>grind
     | cons _ _=>simp at h2
  subst hpq
  cases hb:Nat.beq t t' with
  | false =>
   rw[hb,cond_false]at h
   have PZ:nQ = #[t,t']:=by rw[<- Array.toArray_toList (xs:=nQ),h1]
   subst PZ
   have:=UE (c:=c) (ty:=o.type) hI (λz hz=>hR.eval (x:=p) hz) (λz hz=>hR.eval (x:=q) hz) h
   have e2:(#[p,q]:Array Operand).map a.eval = #[a.eval p,a.eval q]:=by simp
   simp only[execOp,ho,resolve,invoke,builtin,pure_bind,e2]
   exact this
  | true =>
   rw[hb,cond_true]at h
   have e:=Nat.eq_of_beq_eq_true hb
   subst e
   have PZ:nQ = #[t,t]:=by rw[<- Array.toArray_toList (xs:=nQ),h1]
   subst PZ
   have:=Bb (c:=c) (ty:=o.type) hI (λz hz=>hR.eval (x:=p) hz) (λz hz=>hR.eval (x:=q) hz) h
   have e2:(#[p,q]:Array Operand).map a.eval = #[a.eval p,a.eval q]:=by simp
   simp only[execOp,ho,resolve,invoke,builtin,pure_bind,e2]
   exact this
 ·rename_i t t' s x h1 h2
  obtain⟨p,q,rfl,rfl,hpq⟩:∃ p q,s=qi f p/\x=qi f q/\args = #[p,q]:=by
   cases hl:args.toList with
   | nil=>grind
   | cons p r=>rw[hl]at h2; cases r with
    | nil=>simp at h2
    | cons q r=>cases r with
     | nil=>simp at h2; exact⟨p,q,h2.1.symm,h2.2.symm,by rw[<- Array.toArray_toList (xs:=args),hl]⟩
     | cons _ _=>simp at h2
  subst hpq
  have PZ:nQ = #[t,t']:=by rw[<- Array.toArray_toList (xs:=nQ),h1]
  subst PZ
  have:=Nc (c:=c) (ty:=o.type) (t':=t') hI (λz hz=>hR.eval (x:=p) hz) (λz hz=>hR.eval (x:=q) hz) h
  have e2:(#[p,q]:Array Operand).map a.eval = #[a.eval p,a.eval q]:=by simp
  simp only[execOp,ho,resolve,invoke,builtin,pure_bind,e2]
  exact this
 ·rename_i h2
  exact two (g:=Builtin.min2) (λk k' a b=>by simp[Builtin.min2,HM]) h λp q hpq=>by
   subst hpq
   have e2:(#[p,q]:Array Operand).map a.eval = #[a.eval p,a.eval q]:=by simp
   simp only[execOp,ho,resolve,invoke,builtin,pure_bind,e2]
   simp[Builtin.min_]
 ·rename_i h2
  exact two (g:=Builtin.max2) (λk k' a b=>by simp[Builtin.max2,mj]) h λp q hpq=>by
   subst hpq
   have e2:(#[p,q]:Array Operand).map a.eval = #[a.eval p,a.eval q]:=by simp
   simp only[execOp,ho,resolve,invoke,builtin,pure_bind,e2]
   simp[Builtin.max_]
 ·exact absurd h zf
theorem z43{o:Oper}{g:Nat}{caps:Array Value}{args:Array Value}{R:Ending->World->Prop}(vx:(execOp a.eval o).run c.P κ.w=(callFunc g args).run c.P κ.w)
  (h:ux c.P g args κ.w R) {K:Act->World->Prop} {Q:Exit->Act->World->Prop} (hR:∀ e w',R e w'->∃ v,e=.returned v/\K (a.put o.dst v) w'):o.wp c.P a κ.w K Q:=by
 unfold Oper.wp
 rw[vx]
 rcases h with⟨h1,h2⟩ | ⟨v,w',h1,h2⟩
 ·rw[h1]
  refine h2.mono λe w' he => ?_
  grind
 ·rw[h1]
  obtain⟨u,hu,hk⟩:=hR _ _ h2
  cases hu
  exact hk
theorem J7(g:Nat){l caps:List D}{vs us:List Value}(h1:qD κ l vs)(h2:qD κ caps us):qD κ (ji g l caps) (ji g vs us):=by
 unfold ji
 cases Nat.ble 1000000 g with
 | true=>exact h2.append h1
 | false=>exact h1.append h2
theorem BN{dst:Option Nat}{p:Operand}{args:Array Operand}{nQ:Array TypeId}{ty:TypeId}{pos:String}{after:Array Edge}{guard:Option (Nat×Bool)}{g:Nat}{us:List Value}{P:Program}{w:World}(BL:a.eval p=nT g us) :
  (execOp a.eval ⟨dst,.call ⟨.value p,args,nQ⟩,ty,pos,after,guard⟩).run P w=(callFunc (yn g) (ji g (args.toList.map a.eval) us).toArray).run P w:=by
 unfold nT at BL
 unfold yn ji
 cases hb:Nat.ble 1000000 g with
 | true =>
  rw[hb]at BL
  simp at BL ⊢
  have e:us.toArray++args.map a.eval=(us++args.toList.map a.eval).toArray:=by apply Array.ext'; simp
  simp only[execOp,resolve,BL,Deferred.ofValue,pure_bind,invoke,Array.append_empty,e]
 | false =>
  rw[hb]at BL
  simp at BL ⊢
  have e:args.map a.eval++us.toArray=(args.toList.map a.eval++us).toArray:=by apply Array.ext'; simp
  simp only[execOp,resolve,BL,Deferred.ofValue,pure_bind,invoke,Array.empty_append,e]
theorem Ct{o:Oper}{d:Option D}{zt:St}(hC:∀ g,HT c.P g (c.fn g))(hI:Inv κ)(hR:Rel κ n f a)(h:(zH (qE c (qi f) o) κ.st).leads (d,zt)){K:Act->World->Prop}{Q:Exit->Act->World->Prop}
  (hK:∀ (v:Value) (κ':KS),κ'.st=zt->Inv κ'->Ext κ κ'->(∀ d',d=some d'->RD κ' d' v)->K (a.put o.dst v) κ'.w):o.wp c.P a κ.w K Q:=by
 have fe:∀ (x:Operand) (z:D),qi f x=some z->RD κ z (a.eval x):=λx z hz=>hR.eval hz
 obtain⟨dst,op,ty,pos,after,guard⟩:=o
 have fin:qw c.P (execOp a.eval ⟨dst,op,ty,pos,after,guard⟩) κ d zt->Oper.wp c.P ⟨dst,op,ty,pos,after,guard⟩ a κ.w K Q:=λhd=>z2Z hd hK
 cases op with
 | move x =>
  simp only[qE,wS,T.leads]at h
  obtain⟨h,rfl⟩:=h
  exact fin (qw.val hI λd' kL=>fe x d' (h.trans kL))
 | assign x =>
  simp only[qE,wS,T.leads]at h
  obtain⟨h,rfl⟩:=h
  exact fin (qw.val hI λd' kL=>fe x d' (h.trans kL))
 | pick x p q =>
  simp only[qE,FG]at h
  split at h
  ·rename_i b hb
   have hv:=rF hb (fe x)
   rw[wS]at h
   obtain⟨h,rfl⟩:=h
   refine fin ⟨κ,.value (if b then a.eval p else a.eval q),if b then a.eval p else a.eval q,?_,.inl rfl,rfl,hI,Ext.refl κ,λd' kL => ?_⟩
   ·simp[execOp,hv,Go.asBool]
   ·rcases h with⟨rfl,h⟩ | ⟨rfl,h⟩
    ·exact fe p d' (h.trans kL)
    ·exact fe q d' (h.trans kL)
  ·exact absurd h zf
 | alloc t=>exact fin (EV hI h)
 | box t x=>exact fin (Eb hI (fe x) h)
 | load t x=>exact fin (MH hI (fe x) h)
 | store t x y=>exact fin (FF hI (fe x) (fe y) h)
 | nilCheck x=>exact fin (JV rfl hI (fe x) h)
 | binOp op t x y ty' =>
  have h:(zH (FV c op t y (qi f x) (qi f y)) κ.st).leads (d,zt):=h
  unfold FV at h
  split at h
  ·exact fin (Fg hI (fe x) h)
  ·exact fin (z01 hI (fe x) (fe y) h)
 | typeAssert x xt t ok=>exact fin (Wg hI (fe x) h)
 | unOp op t x=>exact fin (z3E hI (fe x) h)
 | convert s t x=>exact fin (Hg hI (fe x) h)
 | makeInterface t x=>exact fin (VL hI (fe x) h)
 | makeFunc fn first cap =>
  cases fn with
  | func g =>
   simp only[qE]at h
   cases hb:Nat.beq first.size 0&&Nat.blt g 1000000 with
   | false =>
    rw[hb,cond_false]at h
    cases BU:Nat.beq cap.size 0&&Nat.blt g 1000000 with
    | false=>rw[BU]at h; exact absurd h zf
    | true =>
     rw[BU,cond_true]at h
     simp only[Bool.and_eq_true]at BU
     have hf:cap = #[]:=Array.eq_empty_of_size_eq_zero (Nat.eq_of_beq_eq_true BU.1)
     subst hf
     split at h
     ·rename_i l hl
      rw[jz]at h
      obtain⟨rfl,rfl⟩:=h
      have hr:=yQ (κ:=κ) (vs:=first.toList.map a.eval) hl (by simp) (λi d v hd hv=>by
       simp only[List.getElem?_map]at hd hv
       cases hi:first.toList[i]? with
       | none=>grind
       | some x=>rw[hi]at hd hv; simp at hd hv; subst hv; exact fe x d hd)
      refine fin (qw.pure hI ?_ (.qW (g+1000000) l _ hr.1 hr.2))
      have e:(first.toList.map a.eval).toArray=first.map a.eval:=by apply Array.ext'; simp
      rw[FE BU.2,e]
      simp[Instr.makeFunc]
     ·exact absurd h zf
   | true =>
    rw[hb,cond_true]at h
    simp only[Bool.and_eq_true]at hb
    have hf:first = #[]:=Array.eq_empty_of_size_eq_zero (Nat.eq_of_beq_eq_true hb.1)
    subst hf
    split at h
    ·rename_i l hl
     rw[jz]at h
     obtain⟨rfl,rfl⟩:=h
     have hr:=yQ (κ:=κ) (vs:=cap.toList.map a.eval) hl (by simp) (λi d v hd hv=>by
      simp only[List.getElem?_map]at hd hv
      cases hi:cap.toList[i]? with
      | none=>grind
      | some x=>rw[hi]at hd hv; simp at hd hv; subst hv; exact fe x d hd)
     refine fin (qw.pure hI ?_ (.qW g l _ hr.1 hr.2))
     have e:(cap.toList.map a.eval).toArray=cap.map a.eval:=by apply Array.ext'; simp
     rw[GR hb.2,e]
     simp[Instr.makeFunc]
    ·exact absurd h zf
  | _=>exact absurd h zf
 | makeSlice t x y=>exact fin (Ox hI (fe x) (fe y) h)
 | slice t x lo hi mx=>exact fin (EE hI (fe x) (ES hR lo) (ES hR hi) (ES hR mx) h)
 | fieldAddr s x fl=>exact fin (Vo hI (fe x) h)
 | field s x fl=>exact fin (FO hI (fe x) h)
 | indexAddr t x i=>exact fin (VT hI (fe x) (fe i) h)
 | index t x i=>exact fin (FU hI (fe x) (fe i) h)
 | extract x i=>exact fin (Hk hI (fe x) h)
 | build t ps =>
  have:=EW (L:=ps.toList) (G:=a.eval) hI fe h
  refine fin ?_
  have e:(ps.toList.map λp=>(p.1,a.eval p.2)).toArray=ps.map λp=>(p.1,a.eval p.2):=by apply Array.ext'; simp
  rw[e]at this
  exact this
 | buildSlice t k ps =>
  have:=Wn (L:=ps.toList) (G:=a.eval) hI fe h
  refine fin ?_
  have e:(ps.toList.map λp=>(p.1,a.eval p.2)).toArray=ps.map λp=>(p.1,a.eval p.2):=by apply Array.ext'; simp
  rw[e]at this
  exact this
 | call cl =>
  obtain⟨callee,args,nQ⟩:=cl
  cases callee with
  | builtin b=>exact fin (HL hI hR rfl h)
  | invoke r m=>exact absurd h zf
  | value p =>
   simp only[qE,cz]at h
   split at h
   ·rename_i g caps l hp hl
    have hpv:=fe p _ hp
    have hr:=yQ (κ:=κ) (vs:=args.toList.map a.eval) hl (by simp) (λi d v hd hv=>by
      simp only[List.getElem?_map]at hd hv
      cases hi:args.toList[i]? with
      | none=>rw[hi]at hd; cases hd
      | some x=>rw[hi]at hd hv; simp at hd hv; subst hv; exact fe x d hd)
    generalize BL:a.eval p=pv at hpv
    cases hpv with
    | qW _ _ us fj hh2 =>
     have nL:=J7 g hr (⟨fj,hh2⟩:qD κ caps us)
     refine z43 (c:=c) (κ:=κ) (g:=yn g) (caps := #[]) (args:=(ji g (args.toList.map a.eval) us).toArray) ?_ (NB (hC (yn g)) hI nL h) ?_
     ·exact BN BL
     ·rintro e w' ⟨κ',v,rfl,h1,h2,h3,rfl,h4⟩
      exact⟨v,rfl,hK v κ' h1 h2 h3 h4⟩
   ·exact absurd h zf
 | _=>exact absurd h zf
end
end Go.AM
namespace Go.AM
set_option linter.unusedSectionVars false
variable [vQ] [Kl]
section
variable {c:Ctx} {n:Nat} {ops:Array Oper}
theorem Hc(j:Nat):uy ops j=(ops[j]?).bind (·.dst):=by
 unfold uy; cases ops[j]? <;> rfl
theorem iP{κ:KS}{f:F}{a:Act}{o:Oper}{b:Bool}(hR:Rel κ n f a)(h:w9 ops f o=some b):Region.wanted o (yielded ops a.tmps)=b:=by
 unfold w9 at h
 unfold Region.wanted
 split at h
 ·grind
 ·rename_i j w hg
  rw[hg]
  split at h
  ·cases h
  ·rename_i t ht
   rw[Hc]at ht
   simp only[yielded,ht,Option.bind_some]
   split at h
   ·rename_i x hx
    obtain⟨v,h1,h2⟩:=hR.get t _ hx
    have:=h2.jW
    cases h
    grind
   ·rename_i hx
    obtain⟨v,h1,h2⟩:=hR.get t _ hx
    cases h
    rw[h1]
    cases h2 with
    | yC _ vs hl hh=>rfl
   ·cases h
def dR(ops:Array Oper)(a a':Act):Prop:=∀ s:Nat,(∀ o∈ops.toList,o.dst≠some s)->a'.tmps[s]? = a.tmps[s]?
theorem dR.refl(ops:Array Oper)(a:Act):dR ops a a:=λ_ _=>rfl
theorem dR.trans{ops:Array Oper}{a b d:Act}(h:dR ops a b)(k:dR ops b d):dR ops a d:=λs hs=>(k s hs).trans (h s hs)
theorem p9{ops:Array Oper}{i:Nat}{o:Oper}{a:Act}{v:Value}(ho:ops[i]? = some o):dR ops a (a.put o.dst v):=by
 intro s hs
 have hm:o∈ops.toList:=by have:=Array.mem_of_getElem? ho; simpa using this
 have:=hs o hm
 cases hd:o.dst with
 | none=>rfl
 | some t =>
  rw[hd]at this
  have vJ:t≠s:=λe=>this (by rw[e])
  simp[Act.put,Array.getElem?_setIfInBounds_ne vJ]
theorem Ue{κ:KS}{a:Act}{i k:Nat}{s s':F×St}(hC:∀ g,HT c.P g (c.fn g))(hI:Inv κ)(hR:Rel κ n s.1 a)(xJ:κ.st=s.2)(h:yO c n ops i s s' k){K:Act->World->Prop}{Q:Exit->Act->World->Prop}
  (hK:∀ (a':Act) (κ':KS),κ'.st=s'.2->Inv κ'->Ext κ κ'->Rel κ' n s'.1 a'->dR ops a a'->K a' κ'.w):wpOp c.P ops Q i K a κ.w:=by
 obtain⟨o,ho,hd,h⟩:=h
 unfold wpOp
 rw[ho]
 simp only
 rcases h with⟨hw,_,d,zt,hl,rfl⟩ | ⟨hw,_,rfl⟩
 ·rw[if_pos (iP hR hw)]
  refine .inl (Ct hC hI hR (xJ▸hl) λv κ' h1 h2 h3 h4=>hK _ κ' h1 h2 h3 ((hR.mono h3).put hd h4) (p9 ho))
 ·rw[if_neg (by rw[iP hR hw]; exact Bool.false_ne_true)]
  exact hK _ κ xJ hI (Ext.refl κ) (hR.put hd λd' kL=>by cases kL; exact z09 (v:=undef)) (p9 ho)
theorem LW{Q:Exit->Act->World->Prop}(hC:∀ g,HT c.P g (c.fn g)):∀ (l:List Nat) {κ:KS} {a:Act} {s s':F×St} {ks:List Nat},Inv κ->Rel κ n s.1 a->κ.st=s.2->NI c n ops l s s' ks ->
  (∀ (a':Act) (κ':KS),κ'.st=s'.2->Inv κ'->Ext κ κ'->Rel κ' n s'.1 a'->dR ops a a'->Q .normal a' κ'.w)->wpOps c.P ops Q l a κ.w
 | [],κ,a,s,s',ks,hI,hR,xJ,h,hQ=>by
  obtain⟨rfl,_⟩:=h
  exact hQ a κ xJ hI (Ext.refl κ) hR (dR.refl _ _)
 | i::l,κ,a,s,s',ks,hI,hR,xJ,h,hQ=>by
  obtain⟨s1,k,DU,_,h1,h2⟩:=h
  refine Ue hC hI hR xJ h1 λa1 κ1 g1 g2 g3 g4 g5 => ?_
  exact LW hC l g2 g4 g1 h2 λa' κ' e1 e2 e3 e4 e5=>hQ a' κ' e1 e2 (g3.trans e3) e4 (g5.trans e5)
theorem X0{Q:Exit->Act->World->Prop}(hC:∀ g,HT c.P g (c.fn g)):∀ (l m:List Nat) {κ:KS} {a:Act} {s s':F×St} {ks:List Nat},Inv κ->Rel κ n s.1 a->κ.st=s.2->NI c n ops l s s' ks ->
  (∀ (a':Act) (κ':KS),κ'.st=s'.2->Inv κ'->Ext κ κ'->Rel κ' n s'.1 a'->dR ops a a'->wpOps c.P ops Q m a' κ'.w)->wpOps c.P ops Q (l++m) a κ.w
 | [],m,κ,a,s,s',ks,hI,hR,xJ,h,hQ=>by
  obtain⟨rfl,_⟩:=h
  exact hQ a κ xJ hI (Ext.refl κ) hR (dR.refl _ _)
 | i::l,m,κ,a,s,s',ks,hI,hR,xJ,h,hQ=>by
  obtain⟨s1,k,DU,_,h1,h2⟩:=h
  refine Ue hC hI hR xJ h1 λa1 κ1 g1 g2 g3 g4 g5 => ?_
  exact X0 hC l m g2 g4 g1 h2 λa' κ' e1 e2 e3 e4 e5=>hQ a' κ' e1 e2 (g3.trans e3) e4 (g5.trans e5)
theorem J3{kd:Nat->Nat}:∀ (l:List Nat) (s s':F×St) (ks:List Nat),NI c n ops l s s' ks->ks=l.map kd->nu c n ops kd l s s'
 | [],s,s',ks,h,_=>h.1
 | i::l,s,s',ks,⟨s1,k,DU,e,h1,h2⟩,hk=>by
  subst e
  simp at hk
  obtain⟨rfl,hk⟩:=hk
  exact⟨s1,h1,J3 l s1 s' DU h2 hk⟩
theorem Df:∀ (l:List Nat) (s s':F×St) (ks:List Nat),NI c n ops l s s' ks->ks.length=l.length
 | [],_,_,_,h=>by rw[h.2]
 | i::l,s,s',ks,⟨s1,k,DU,e,h1,h2⟩=>by subst e; simp[Df l s1 s' DU h2]
theorem Bh(acc:List Nat):∀ (es:List Edge) (s0 p:Nat),Nat.testBit (es.foldl (λs e=>bif Region.binds .any e then s ||| 2 ^ e.on ||| acc.getD e.on 0 else s) s0) p=true ->
  Nat.testBit s0 p=true\/∃ e∈es,Region.binds .any e=true/\(p=e.on\/Nat.testBit (acc.getD e.on 0) p=true)
 | [],s0,p,h=>.inl h
 | e::es,s0,p,h=>by
  rcases Bh acc es _ p h with h1 | ⟨e',h1,h2⟩
  ·grind
  ·grind
theorem n9:∀ (l:List Oper) (acc:List Nat),∃ r,xh l acc=acc++r/\r.length=l.length /\
  ∀ j o,l[j]? = some o->∀ p,Nat.testBit ((xh l acc).getD (acc.length+j) 0) p=true ->
   ∃ e∈o.after.toList,Region.binds .any e=true/\(p=e.on\/(e.on<acc.length+j/\Nat.testBit ((xh l acc).getD e.on 0) p=true))
 | [],acc=>⟨[],by simp[xh],rfl,λj o h=>by simp at h⟩
 | o::l,acc=>by
  let b:=o.after.toList.foldl (λs e=>bif Region.binds .any e then s ||| 2 ^ e.on ||| acc.getD e.on 0 else s) 0
  obtain⟨r,h1,h2,h3⟩:=n9 l (acc++[b])
  have hb:xh (o::l) acc=xh l (acc++[b]):=rfl
  have MX:∀ i,i<acc.length->(xh l (acc++[b])).getD i 0=acc.getD i 0:=λi hi=>by
   grind
  refine⟨b::r,by rw[hb,h1]; simp,by simp[h2],?_⟩
  rw[hb]
  intro j o' ho p hp
  cases j with
  | zero =>
   simp at ho
   subst ho
   have he:(xh l (acc++[b])).getD (acc.length+0) 0=b:=by rw[h1]; simp[List.getD]
   rw[he]at hp
   rcases Bh acc _ 0 p hp with h | ⟨e,k1,k2,k3⟩
   ·simp at h
   ·grind
  | succ j =>
   have:=h3 j o' (by simpa using ho) p (by rw[show(acc++[b]).length+j=acc.length+(j+1) by simp; omega]; exact hp)
   grind
theorem mK:∀ (l:List Oper) (k:Nat),gq l k=true->∀ j o,l[j]? = some o->∀ e∈o.after.toList,Region.binds .any e=true->e.on<k+j
 | [],_,_,j,o,h,_,_,_=>by simp at h
 | o::l,k,h,j,o',ho,e,he,hb=>by
  simp only[gq,Bool.and_eq_true,List.all_eq_true]at h
  cases j with
  | zero =>
   simp at ho
   subst ho
   have:=h.1 e he
   rw[hb]at this
   exact Nat.le_of_ble_eq_true this
  | succ j =>
   have:=mK l (k+1) h.2 j o' (by grind) e he hb
   omega
def SM{K:Type}(cl:K->K->Bool)(ops:Array Oper)(x:Oper)(kx:K)(y:Oper)(ky:K):Prop:=(∀ d,x.dst=some d->d ∉ tmpsOf ops y)/\(∀ d,y.dst=some d->d ∉ tmpsOf ops x)/\cl kx ky=false
theorem BX{K:Type}{cl:K->K->Bool}{bs:List Nat}{xs:List (Nat×Option Nat×List Nat×K)}{j:Nat}{ky:K}{y:Oper}(h:EN cl bs xs j y.dst (tmpsOf ops y) ky=true){i:Nat}{kx:K}{x:Oper}(hx:(i,x.dst,tmpsOf ops x,kx)∈xs) :
  ordered bs i j=true\/SM cl ops x kx y ky:=by
 simp only[EN,List.all_eq_true]at h
 have:=h _ hx
 simp at this
 rcases this with h1 | ⟨⟨h1,h2⟩,h3⟩
 ·grind
 ·refine .inr ⟨λd hd hm => ?_,λd hd hm => ?_,h3⟩
  ·grind
  ·grind
theorem mr{K:Type}{cl:K->K->Bool}{bs:List Nat}:∀ (l:List Oper) (ks:List K) (k0:Nat) (xs:List (Nat×Option Nat×List Nat×K)),mT cl ops bs l ks k0 xs=true ->
  (∀ j y ky,l[j]? = some y->ks[j]? = some ky->(∀ i x kx,(i,x.dst,tmpsOf ops x,kx)∈xs->ordered bs i (k0+j)=true\/SM cl ops x kx y ky) /\
   (∀ i x kx,i<j->l[i]? = some x->ks[i]? = some kx->ordered bs (k0+i) (k0+j)=true\/SM cl ops x kx y ky))
 | [],_,_,_,_,j,y,ky,hy,_=>by simp at hy
 | o::l,[],_,_,h,_,_,_,_,_=>by simp[mT]at h
 | o::l,k::ks,k0,xs,h,j,y,ky,hy,hk=>by
  simp only[mT,Bool.and_eq_true]at h
  obtain⟨h1,h2⟩:=h
  have ih:=mr l ks (k0+1) _ h2
  cases j with
  | zero =>
   simp at hy hk
   subst hy hk
   exact⟨λi x kx hx=>by simpa using BX h1 hx,λi x kx hi=>absurd hi (Nat.not_lt_zero i)⟩
  | succ j =>
   obtain⟨g1,g2⟩:=ih j y ky (by simpa using hy) (by simpa using hk)
   have e:k0+1+j=k0+(j+1):=by omega
   rw[e]at g1 g2
   refine⟨λi x kx hx=>g1 i x kx (List.mem_cons_of_mem _ hx),λi x kx hi hx hkx => ?_⟩
   cases i with
   | zero =>
    grind
   | succ i =>
    grind
def rest(ops:Array Oper)(listed:Array Bool):List Nat:=(List.range ops.size).filter λi => !listed.getD i true
def tp(ops:Array Oper)(listed:Array Bool):Prop:=∀ q,q<ops.size->listed.getD q true=true->∀ p,ordered (xh ops.toList []) p q=true->p<ops.size->listed.getD p true=true
theorem uQ{listed:Array Bool}{i j:Nat}(hi:i<listed.size):(listed.setIfInBounds i true).getD j true=if j=i then true else listed.getD j true:=by
 simp
 grind
theorem gG{p q:Nat->Bool}{i:Nat}:∀ (l:List Nat),l.Pairwise (· < ·)->i∈l->p i=true->(∀ j,q j=(p j && !(j==i))) ->
  ∃ pre post,l.filter p=pre++i::post/\l.filter q=pre++post/\∀ x∈pre,p x=true/\x∈l/\x<i
 | [],_,hi,_,_=>by simp at hi
 | a::l,hn,hi,hp,hq=>by
  have hn':=List.pairwise_cons.1 hn
  by_cases ha:a=i
  ·subst ha
   refine⟨[],l.filter p,by grind,?_,by simp⟩
   have hqa:q a=false:=by rw[hq]; simp
   simp only[List.filter_cons,hqa]
   refine List.filter_congr λx hx => ?_
   rw[hq]
   have:(x==a)=false:=by simp; exact λe=>absurd (hn'.1 x hx) (by omega)
   simp[this]
  ·have JN:i∈l:=by rcases List.mem_cons.1 hi with h | h; exact absurd h.symm ha; exact h
   obtain⟨pre,post,h1,h2,h3⟩:=gG l hn'.2 JN hp hq
   grind
theorem mJ{listed:Array Bool}{i:Nat}:i∈Region.ready .any ops listed↔i<ops.size/\listed.getD i true=false/\∀ o,ops[i]? = some o->∀ e∈o.after.toList,Region.binds .any e=true->listed.getD e.on false=true:=by
 unfold Region.ready
 simp only[List.mem_filter,List.mem_range,Bool.and_eq_true,Bool.not_eq_true']
 constructor
 ·rintro⟨h1,h2,h3⟩
  refine⟨h1,h2,λo ho e he hb => ?_⟩
  rw[ho]at h3
  simp only[Option.map_some,Option.getD_some,Array.all_eq_true_iff_forall_mem]at h3
  grind
 ·grind
theorem Jq(FA:gq ops.toList 0=true){listed:Array Bool}(uP:listed.size=ops.size):Region.ready .any ops listed=[]->rest ops listed=[]:=by
 intro hr
 cases hre:rest ops listed with
 | nil=>rfl
 | cons i l =>
  have hi:i∈rest ops listed:=by rw[hre]; exact List.mem_cons_self
  simp only[rest,List.mem_filter,List.mem_range,Bool.not_eq_true']at hi
  have z6R:∀ j,j<i->listed.getD j true=true:=by
   intro j hj
   cases hl:listed.getD j true with
   | true=>rfl
   | false =>
    have hpw:(rest ops listed).Pairwise (· < ·):=List.Pairwise.filter _ List.pairwise_lt_range
    have hjm:j∈rest ops listed:=by simp only[rest,List.mem_filter,List.mem_range,Bool.not_eq_true']; exact⟨by omega,hl⟩
    rw[hre]at hpw hjm
    rcases List.mem_cons.1 hjm with rfl | hjm
    ·grind
    ·have:=(List.pairwise_cons.1 hpw).1 j hjm; omega
  have:i∈Region.ready .any ops listed:=by
   rw[mJ]
   refine⟨hi.1,hi.2,λo ho e he hb => ?_⟩
   have qs:=mK ops.toList 0 FA i o (by grind) e he hb
   grind
  grind
def US(Stp:Nat->F×St->F×St->Prop):List Nat->F×St->F×St->Prop
 | [],s,s'=>s'=s
 | i::l,s,s'=>∃ s1,Stp i s s1/\US Stp l s1 s'
theorem Y5{Stp:Nat->F×St->F×St->Prop}{In:Nat->Nat->Prop}(Cq:∀ p i,In p i->∀ s s1 s2,Stp p s s1->Stp i s1 s2->∃ s',Stp i s s'/\Stp p s' s2){i:Nat}{post:List Nat}{s':F×St}:∀ {pre:List Nat} {s:F×St},(∀ p∈pre,In p i)->US Stp (pre++i::post) s s' ->
  ∃ s1,Stp i s s1/\US Stp (pre++post) s1 s'
 | [],s,_,h=>h
 | p::pre,s,hp,⟨sp,h1,h2⟩=>by
  obtain⟨s1,h3,h4⟩:=Y5 Cq (λq hq=>hp q (List.mem_cons_of_mem _ hq)) h2
  obtain⟨s2,h5,h6⟩:=Cq _ _ (hp p List.mem_cons_self) _ _ _ h1 h3
  exact⟨s2,h5,s1,h6,h4⟩
theorem QG{Stp:Nat->F×St->F×St->Prop}{In:Nat->Nat->Prop}(SH:∀ i s s',Stp i s s'->∃ k,yO c n ops i s s' k)(Cq:∀ p i,In p i->∀ s s1 s2,Stp p s s1->Stp i s1 s2->∃ s',Stp i s s'/\Stp p s' s2){Q:Exit->Act->World->Prop}(hC:∀ g,HT c.P g (c.fn g))(FA:gq ops.toList 0=true)
  {sf:F×St}:∀ (fuel:Nat) (listed:Array Bool) {κ:KS} {a:Act} {s:F×St},(∀ p i,p<i->i<ops.size->listed.getD p true=false->ordered (xh ops.toList []) p i=true\/In p i) ->
  listed.size=ops.size->fuel=(rest ops listed).length->tp ops listed->Inv κ->Rel κ n s.1 a->κ.st=s.2->US Stp (rest ops listed) s sf ->
  (∀ (a':Act) (κ':KS),κ'.st=sf.2->Inv κ'->Ext κ κ'->Rel κ' n sf.1 a'->dR ops a a'->Q .normal a' κ'.w)->wpAny c.P .any ops Q fuel listed a κ.w
 | fuel,listed,κ,a,s,kC,uP,hfuel,Va,hI,hR,xJ,vx,hQ=>by
  have z7c:=Jq FA (listed:=listed) uP
  have Tf:rest ops listed=[]->Q .normal a κ.w:=by
   intro h
   rw[h]at vx
   cases vx
   exact hQ a κ xJ hI (Ext.refl κ) hR (dR.refl _ _)
  cases fuel with
  | zero =>
   have hre:rest ops listed=[]:=List.eq_nil_of_length_eq_zero hfuel.symm
   refine⟨?_,Tf hre⟩
   apply List.eq_nil_iff_forall_not_mem.2
   intro i hi
   rw[mJ]at hi
   have:i∈rest ops listed:=by simp only[rest,List.mem_filter,List.mem_range,Bool.not_eq_true']; exact⟨hi.1,hi.2.1⟩
   grind
  | succ fuel =>
   refine⟨λh=>Tf (z7c h),λi hi => ?_⟩
   rw[mJ]at hi
   obtain⟨h1,h2,h3⟩:=hi
   have ho:ops[i]? = some ops[i]:=Array.getElem?_eq_getElem h1
   obtain⟨pre,post,g1,g2,g3⟩:=gG (p:=λi => !listed.getD i true) (q:=λj => !(listed.setIfInBounds i true).getD j true) (i:=i) (List.range ops.size) List.pairwise_lt_range
    (List.mem_range.2 h1) (by simp[h2]) (λj=>by
     rw[uQ (by omega)]
     by_cases h:j=i
     ·grind
     ·simp[h])
   have PQ:∀ p,ordered (xh ops.toList []) p i=true->p<ops.size->listed.getD p true=true:=by
    intro p hp qs
    obtain⟨r,_,_,hb⟩:=n9 ops.toList []
    obtain⟨e,k1,k2,k3⟩:=hb i ops[i] (by simp) p (by simpa[ordered]using hp)
    have hle:=h3 _ ho e k1 k2
    have Kd:=mK ops.toList 0 FA i ops[i] (by simp) e k1 k2
    have K8:listed.getD e.on true=true:=by
     grind
    rcases k3 with rfl | ⟨_,k3⟩
    ·exact K8
    ·exact Va e.on (by omega) K8 p k3 qs
   have TH:∀ p∈pre,In p i:=by
    grind
   have Cf:US Stp (pre++i::post) s sf:=by
    have:rest ops listed=pre++i::post:=g1
    grind
   obtain⟨s1,k1,k2⟩:=Y5 Cq TH Cf
   have pI:rest ops (listed.setIfInBounds i true)=pre++post:=g2
   obtain⟨kk,k1⟩:=SH _ _ _ k1
   refine Ue hC hI hR xJ k1 λa1 κ1 e1 e2 e3 e4 e5 => ?_
   refine QG SH Cq hC FA fuel (listed.setIfInBounds i true) (λp j hpj hj hp=>kC p j hpj hj (by
    rw[uQ (by omega)]at hp
    split at hp
    ·cases hp
    ·exact hp)) (by simp[uP]) ?_ ?_ e2 e4 e1 (by rw[pI]; exact k2) λa' κ' d1 d2 d3 d4 d5=>hQ a' κ' d1 d2 (e3.trans d3) d4 (e5.trans d5)
   ·have:rest ops listed=pre++i::post:=g1
    rw[this]at hfuel
    rw[pI]
    simp only[List.length_append,List.length_cons]at hfuel ⊢
    omega
   ·intro q hq Ob p hp qs
    rw[uQ (by omega)]at Ob ⊢
    split
    ·rfl
    ·split at Ob
     ·rename_i e; subst e; exact PQ p hp qs
     ·exact Va q hq Ob p hp qs
theorem C7{kd:Nat->Nat}:∀ (l:List Nat) (s s':F×St),nu c n ops kd l s s'->US (λi s s'=>yO c n ops i s s' (kd i)) l s s'
 | [],_,_,h=>h
 | i::l,s,s',⟨s1,h1,h2⟩=>⟨s1,h1,C7 l s1 s' h2⟩
theorem UI{kd:Nat->Nat}{Q:Exit->Act->World->Prop}(hC:∀ g,HT c.P g (c.fn g))(FA:gq ops.toList 0=true)
  {sf:F×St}:∀ (fuel:Nat) (listed:Array Bool) {κ:KS} {a:Act} {s:F×St},(∀ p i,p<i->i<ops.size->listed.getD p true=false->ordered (xh ops.toList []) p i=true\/Ind ops kd p i) ->
  listed.size=ops.size->fuel=(rest ops listed).length->tp ops listed->Inv κ->Rel κ n s.1 a->κ.st=s.2->nu c n ops kd (rest ops listed) s sf ->
  (∀ (a':Act) (κ':KS),κ'.st=sf.2->Inv κ'->Ext κ κ'->Rel κ' n sf.1 a'->dR ops a a'->Q .normal a' κ'.w)->wpAny c.P .any ops Q fuel listed a κ.w
 | fuel,listed,κ,a,s,kC,uP,hfuel,Va,hI,hR,xJ,vx,hQ =>
  QG (Stp:=λi s s'=>yO c n ops i s s' (kd i)) (In:=λp i=>Ind ops kd p i) (λi s s' h=>⟨_,h⟩) (λp i hi s s1 s2 h1 h2=>Yn hi h1 h2) hC FA fuel listed kC uP hfuel Va hI hR xJ (C7 _ _ _ vx) hQ
end
end Go.AM
namespace Go.AM
set_option linter.unusedSectionVars false
variable [vQ] [Kl]
open Go.RowKit
structure Up(κ κ':KS):Prop where
 same:FX κ.w κ'.w κ.ok κ'.ok
 var:∀ (b:Nat) (d:D),κ.st[b]? = some (.var d)->(∃ d',κ'.st[b]? = some (.var d'))/\κ'.ph[b]? = κ.ph[b]?
 old:∀ (b qy:Nat),Old κ.st b qy->Old κ'.st b qy
 row:∀ (b v:Nat) (e:Ty) (xs:List (den e)),Old κ.st b v->κ'.st[b]? = some (.arr v e xs)->κ.st[b]? = some (.arr v e xs)/\κ'.ph[b]? = κ.ph[b]?
theorem RD.up{κ κ':KS}(x:Up κ κ'){d:D}{v:Value}(h:RD κ d v):RD κ' d v:=by
 induction h with
 | zI τ y cs h=>exact .zI τ y cs (h.mono x.same)
 | xb e a=>exact .xb e a
 | tight e l ne blk off f vJ wg h hc=>exact .tight e l ne blk off f vJ (x.same _ wg).1 (λi hi=>(h i hi).mono x.same) λi hi j v hv=>by rw[bh (x.same _ wg).2]; exact hc i hi j v hv
 | xp=>exact .xp
 | kP=>exact .kP
 | qT=>exact .qT
 | vR=>exact .vR
 | vP=>exact .vP
 | sG v h=>exact .sG v h
 | c6 T=>exact .c6 T
 | c8 b T d hd =>
  obtain⟨⟨d',kL⟩,hp⟩:=x.var b d hd
  exact .c8 b T d' kL
 | bU b T blk n d hd h =>
  obtain⟨⟨d',kL⟩,hp⟩:=x.var b d hd
  exact .bU b T blk n d' kL (hp.trans h)
 | ptr b off blk n d hd h =>
  obtain⟨⟨d',kL⟩,hp⟩:=x.var b d hd
  exact .ptr b off blk n d' kL (hp.trans h)
 | qR τ y cs blk off wg h hc=>exact .qR τ y cs blk off (x.same _ wg).1 (h.mono x.same) λj v hv=>by rw[bh (x.same _ wg).2]; exact hc j v hv
 | ui b qy e idx off blk o hb h =>
  refine .ui b qy e idx off blk o (x.old b qy hb) λxs hx hi => ?_
  obtain⟨h1,h2⟩:=x.row b qy e xs hb hx
  grind
 | ms b qy e off len cap a hb wY ha pC h =>
  refine .ms b qy e off len cap a (x.old b qy hb) wY ha pC λxs hx => ?_
  obtain⟨h1,h2⟩:=x.row b qy e xs hb hx
  have:=h xs h1
  unfold Ig at this ⊢
  grind
 | qW f l vs hl h ih=>exact .qW f l vs hl ih
 | agg l vs hl ho h ih=>exact .agg l vs hl ho ih
 | yC l vs hl h ih=>exact .yC l vs hl ih
 | iface t d v h ih=>exact .iface t d v ih
structure Nob(κ:KS)(blk:Nat):Prop where
 lt:blk<κ.w.heap.size
 ok:¬ κ.ok blk
 ph:∀ (b n:Nat),κ.ph[b]? ≠ some (some (blk,n))
theorem Nob.ext{κ κ':KS}(x:Ext κ κ'){blk:Nat}(h:Nob κ blk):Nob κ' blk/\κ'.w.heap[blk]? = κ.w.heap[blk]? := by
 refine⟨⟨Nat.lt_of_lt_of_le h.lt x.size,λhk => ?_,λb n hb => ?_⟩,x.frame blk h.lt h.ph⟩
 ·rcases x.fresh blk hk with h1 | h1 | ⟨b,n,h1⟩
  ·exact h.ok h1
  ·have:=h.lt; omega
  ·exact h.ph b n h1
 ·rcases x.phs b blk n hb with h1 | h1
  ·exact h.ph b n h1
  ·have:=h.lt; omega
def KS.push(κ:KS)(blk n:Nat)(d:D):KS:={ κ with ph:=κ.ph++[some (blk,n)],st:=κ.st++[.var d] }
theorem lD{α:Type}{l:List α}{x y:α}{b:Nat}(h:l[b]? = some y):(l++[x])[b]? = some y:=by grind
theorem rU{α:Type}{l:List α}{x y:α}{b:Nat}(h:(l++[x])[b]? = some y):l[b]? = some y\/(b=l.length/\y=x):=by grind
theorem IW{κ:KS}(hI:Inv κ)(blk n:Nat)(d:D):Up κ (κ.push blk n d):=by
 have YJ:∀ {b:Nat} {y:kG},κ.st[b]? = some y->(κ.ph++[some (blk,n)])[b]? = κ.ph[b]? := λh=>by
  rw[List.getElem?_append_left]; rw[hI.len]; exact(List.getElem?_eq_some_iff.1 h).1
 refine⟨λk hk=>⟨hk,rfl⟩,λb d' h=>⟨⟨d',lD h⟩,YJ h⟩,λb qy h => ?_,λb v e xs ho h => ?_⟩
 ·rcases h with h | ⟨v0,e0,tH,h,hv⟩
  ·exact .inl (lD h)
  ·exact .inr ⟨v0,e0,tH,lD h,hv⟩
 ·rcases rU h with h1 | ⟨_,h1⟩
  ·exact⟨h1,YJ h1⟩
  ·cases h1
theorem z2L{κ0 κ:KS}{blk:Nat}{d:D}{z:Value}{t:TypeId}(hI:Inv κ)(hx:Ext κ0 κ)(hb:Nob κ blk)(h0:κ0.w.heap.size<=blk)(hz:RD κ d z)(ht:d.uE=false)(Ih:∀ T,d.typed=some T->t=T)(hh:κ.w.heap[blk]? = some (.cells z.cells t (0,0))) :
  Inv (κ.push blk z.cells.size d)/\Ext κ0 (κ.push blk z.cells.size d)/\RD (κ.push blk z.cells.size d) (.ptr κ.st.length 0) (.pointer (some ⟨blk,0,none⟩)):=by
 have hu:=IW hI blk z.cells.size d
 have xJ:(κ.push blk z.cells.size d).st[κ.st.length]? = some (.var d):=by simp[KS.push]
 have YJ:(κ.push blk z.cells.size d).ph[κ.st.length]? = some (some (blk,z.cells.size)):=by simp[KS.push,<- hI.len]
 have Tt:∀ {b k m:Nat},(κ.push blk z.cells.size d).ph[b]? = some (some (k,m))->κ.ph[b]? = some (some (k,m))\/(b=κ.ph.length/\k=blk):=by
  intro b k m h
  rcases rU h with h1 | ⟨h1,h2⟩
  ·grind
  ·grind
 refine⟨⟨by simp[KS.push,hI.len],hI.yw,λb k m h => ?_,λb b' k m m' h h' => ?_,λb y h => ?_,hI.gl⟩,?_,.ptr _ 0 blk _ d xJ YJ⟩
 ·rcases Tt h with h1 | ⟨_,rfl⟩
  ·exact hI.apart b k m h1
  ·exact⟨hb.lt,hb.ok⟩
 ·rcases Tt h with h1 | ⟨h1,rfl⟩
  ·rcases Tt h' with h2 | ⟨h2,rfl⟩
   ·exact hI.inj b b' k m m' h1 h2
   ·exact(hb.ph b m h1).elim
  ·rcases Tt h' with h2 | ⟨h2,_⟩
   ·exact(hb.ph b' m' h2).elim
   ·omega
 ·rcases rU h with h1 | ⟨h1,h2⟩
  ·have hp:(κ.push blk z.cells.size d).ph[b]? = κ.ph[b]? := by
    show(κ.ph++[_])[b]? = _
    grind
   have hy:=hI.blk b y h1
   cases y with
   | dead=>trivial
   | var d' =>
    obtain⟨k,m,cs,T,g1,g2,g3,g4,g5⟩:=hy
    exact⟨k,m,cs,T,hp.trans g1,g2,g3,⟨g4.1,λi h1 h2=>(g4.2 i h1 h2).up hu⟩,g5⟩
   | arr qy e xs =>
    obtain⟨g0,g⟩:=hy
    refine⟨g0,dE g (λh=>⟨h.1,hp.trans h.2⟩) ?_⟩
    rintro⟨k,m,cs,T,g1,g2⟩
    exact⟨k,m,cs,T,hp.trans g1,g2⟩
  ·subst h1
   subst h2
   have hf:=jb hz ht
   exact⟨blk,z.cells.size,z.cells,t,YJ,hh,rfl,⟨hf.1,λi h1 h2=>(hf.2 i h1 h2).up hu⟩,ja hz,Ih⟩
 ·refine⟨hx.os,hx.tape,hx.output,hx.size,hx.same,hx.fresh,λb k m h => ?_,λb d' h => ?_,λb v0 e xs h => ?_,λb h=>lD (hx.dead b h),Nat.le_trans hx.Dy (by simp[KS.push]),hx.frame⟩
  ·rcases Tt h with h1 | ⟨_,rfl⟩
   ·exact hx.phs b k m h1
   ·exact .inr h0
  ·obtain⟨⟨d1,h1⟩,h2⟩:=hx.var b d' h
   obtain⟨h3,h4⟩:=hu.var b d1 h1
   exact⟨h3,h4.trans h2⟩
  ·rcases hx.arr b v0 e xs h with h1 | ⟨v1,hZ,h1,h2,h3⟩
   ·exact .inl (lD h1)
   ·refine .inr ⟨v1,hZ,lD h1,h2,λhe=>⟨?_,(h3 he).2⟩⟩
    have hp:(κ.push blk z.cells.size d).ph[b]? = κ.ph[b]? := by
     show(κ.ph++[_])[b]? = _
     rw[List.getElem?_append_left]; rw[hI.len]; exact(List.getElem?_eq_some_iff.1 h1).1
    exact hp.trans (h3 he).1
theorem z3z{κ:KS}(hI:Inv κ)(o:Obj):Inv { κ with w:=κ.w.alloc o }/\Ext κ { κ with w:=κ.w.alloc o }/\Nob { κ with w:=κ.w.alloc o } κ.w.heap.size/\(κ.w.alloc o).heap[κ.w.heap.size]? = some o:=by
 have hs:(κ.w.alloc o).heap.size=κ.w.heap.size+1:=by simp
 have hold:∀ k,k<κ.w.heap.size->(κ.w.alloc o).heap[k]? = κ.w.heap[k]? := λk hk=>by
  show(κ.w.heap.push o)[k]? = _
  grind
 have hx:Ext κ { κ with w:=κ.w.alloc o }:=⟨rfl,rfl,rfl,by simp,λk hk=>⟨hk,hold k (hI.yw k hk)⟩,λk hk=>.inl hk,λ_ _ _ h=>.inl h,λb d h=>⟨⟨d,h⟩,rfl⟩,
  λb v0 e xs h=>.inr ⟨v0,xs,h,Nat.le_refl _,λ_=>⟨rfl,rfl⟩⟩,λ_ h=>h,Nat.le_refl _,λk hk _=>hold k hk⟩
 refine⟨⟨hI.len,λk hk => ?_,λb blk n h => ?_,hI.inj,λb y hy=>(hI.blk b y hy).mono hx rfl λblk n h=>hold _ (hI.apart b blk n h).1,hI.gl.mono hx.same⟩,hx,⟨?_,λhk => ?_,λb n h => ?_⟩,?_⟩
 ·have:=hI.yw k hk; show k<(κ.w.alloc o).heap.size; omega
 ·have:=hI.apart b blk n h; exact⟨by grind,this.2⟩
 ·simp
 ·have:=hI.yw _ hk; omega
 ·have:=(hI.apart b _ n h).1; omega
 ·show(κ.w.heap.push o)[κ.w.heap.size]? = some o
  simp
section
variable {c:Ctx} {n:Nat} {ops:Array Oper}
structure Em where
 i:Nat
 d:Nat
 blk:Nat
 t:TypeId
 z:Value
 D:D
structure EY(c:Ctx)(ops:Array Oper)(κ0 κ:KS)(a:Act)(e:Em):Prop where
 op:∃ o,ops[e.i]? = some o/\o.op=.alloc e.t/\o.guard=none/\o.dst=some e.d
 zero:Xs c e.t=some e.D
 z:∃ i,c.P.info? e.t=some i/\i.zero=some e.z/\ZD e.t e.D e.z
 val:a.tmps[e.d]? = some (.pointer (some ⟨e.blk,0,none⟩))
 heap:κ.w.heap[e.blk]? = some (.cells e.z.cells e.t (0,0))
 nob:Nob κ e.blk
 new:κ0.w.heap.size<=e.blk
theorem EY.mono{κ0 κ κ':KS}{a a':Act}{e:Em}(h:EY c ops κ0 κ a e)(x:Ext κ κ')(ha:a'.tmps[e.d]? = a.tmps[e.d]?):EY c ops κ0 κ' a' e:=by
 obtain⟨h1,h2⟩:=h.nob.ext x
 exact⟨h.op,h.zero,h.z,ha.trans h.val,h2.trans h.heap,h1,h.new⟩
def kA(es:List Em)(f:F):F:=λs=>if es.any (λe=>Nat.beq e.d s)then none else f s
theorem ZZ{es:List Em}{f:F}{s:Nat}(h:∀ e∈es,e.d≠s):kA es f s=f s:=by
 unfold kA
 rw[if_neg]
 intro hh
 obtain⟨e,he,hb⟩:=List.any_eq_true.1 hh
 exact h e he (Nat.eq_of_beq_eq_true hb)
theorem YA{es:List Em}{f:F}{s:Nat}{d:D}(h:kA es f s=some d):f s=some d/\∀ e∈es,e.d≠s:=by
 unfold kA at h
 split at h
 ·cases h
 ·rename_i hh
  refine⟨h,λe he hs=>hh (List.any_eq_true.2 ⟨e,he,?_⟩)⟩
  subst hs; simp
def dG(ops:Array Oper)(i:Nat):Prop:=∃ o,ops[i]? = some o/\Wi o=true
theorem Ov{o:Oper}(h:Wi o=true):∃ t d,o.op=.alloc t/\o.guard=none/\o.dst=some d:=by
 unfold Wi at h
 simp only[Bool.and_eq_true]at h
 obtain⟨⟨h1,h2⟩,h3⟩:=h
 split at h1
 ·rename_i t ht
  obtain⟨d,hd⟩:=Option.isSome_iff_exists.1 h3
  exact⟨t,d,ht,Option.isNone_iff_eq_none.1 h2,hd⟩
 ·cases h1
theorem HD{o:Oper}{t d:Nat}(h1:o.op=.alloc t)(h2:o.guard=none)(h3:o.dst=some d):Wi o=true:=by
 unfold Wi; rw[h1,h2,h3]; rfl
theorem Bw{kd:Nat->Nat}:∀ {l:List Nat} {s sf:F×St} {i:Nat},nu c n ops kd l s sf->i∈l->∃ s1 s2,yO c n ops i s1 s2 (kd i)
 | [],_,_,_,_,h=>by cases h
 | j::l,s,sf,i,⟨s1,h1,h2⟩,h=>by
  rcases List.mem_cons.1 h with rfl | h
  ·grind
  ·exact Bw h2 h
theorem Vs{kd:Nat->Nat}{i t d:Nat}{o:Oper}(ho:ops[i]? = some o)(h1:o.op=.alloc t)(h2:o.guard=none)(h3:o.dst=some d){s s':F×St}(h:yO c n ops i s s' (kd i)) :
  ∃ D,Xs c t=some D/\d<n/\s'=(kt s.1 (some d) (some (.ptr s.2.length 0)),s.2++[.var D]):=by
 obtain⟨o',OG,hd,h⟩:=h
 rw[ho]at OG
 cases OG
 rw[h3]at hd
 have qs:d<n:=Nat.le_of_ble_eq_true hd
 have hw:w9 ops s.1 o=some true:=by unfold w9; rw[h2]
 rcases h with⟨_,_,D,zt,hl,rfl⟩ | ⟨hw',_,_⟩
 ·have he:qE c (qi s.1) o=lU c t:=by
   obtain⟨dst,op,ty,pos,after,guard⟩:=o
   cases h1
   rfl
  rw[he]at hl
  unfold lU at hl
  split at hl
  ·rename_i y hy
   simp only[zH,T.leads]at hl
   grind
  ·exact absurd hl zf
 ·grind
theorem Fo{es:List Em}{i k:Nat}{s s':F×St}(h:yO c n ops i s s' k)(hd:∀ o,ops[i]? = some o->∀ e∈es,e.d ∉ tmpsOf ops o) :
  yO c n ops i (kA es s.1,s.2) (kA es s'.1,s'.2) k:=by
 obtain⟨o,ho,z3F,h⟩:=h
 have kK:=hd o ho
 have zcy:∀ x:Option D,kt (kA es s.1) o.dst x=kA es (kt s.1 o.dst x):=by
  intro x
  cases hds:o.dst with
  | none=>rfl
  | some t =>
   funext u
   simp only[kt,kA]
   by_cases hu:u=t
   ·subst hu
    rw[if_pos rfl]
    rw[if_neg,if_pos rfl]
    intro hh
    obtain⟨e,he,hb⟩:=List.any_eq_true.1 hh
    exact kK e he (by rw[Nat.eq_of_beq_eq_true hb]; exact kg hds)
   ·grind
 have fe:∀ x∈o.op.operands,qi (kA es s.1) x=qi s.1 x:=by
  intro x hx
  cases x with
  | tmp t=>exact ZZ λe he ht=>kK e he (ht▸pJ hx)
  | _=>rfl
 have hw:w9 ops (kA es s.1) o=w9 ops s.1 o:=by
  unfold w9
  cases hg:o.guard with
  | none=>rfl
  | some jw =>
   obtain⟨j,w⟩:=jw
   simp only
   cases hs:uy ops j with
   | none=>rfl
   | some t =>
    simp only
    rw[ZZ λe he ht=>kK e he (ht▸ot hg hs)]
 refine⟨o,ho,z3F,?_⟩
 rcases h with⟨h1,h2,d,zt,h3,rfl⟩ | ⟨h1,h2,rfl⟩
 ·refine .inl ⟨hw.trans h1,?_,d,zt,?_,?_⟩
  ·rw[show qE c (qi (kA es s.1)) o=qE c (qi s.1) o from tv o fe]; exact h2
  ·rw[show qE c (qi (kA es s.1)) o=qE c (qi s.1) o from tv o fe]; exact h3
  ·rw[zcy]
 ·grind
theorem Oj{κ:KS}{a:Act}{i k:Nat}{s s':F×St}(hC:∀ g,HT c.P g (c.fn g))(hI:Inv κ)(hR:Rel κ n s.1 a)(xJ:κ.st=s.2)(h:yO c n ops i s s' k){K:Act->World->Prop}{Q:Exit->Act->World->Prop}
  (hK:∀ (a':Act) (κ':KS),κ'.st=s'.2->Inv κ'->Ext κ κ'->Rel κ' n s'.1 a'->dR ops a a'->(∀ u:Nat,(∀ o,ops[i]? = some o->o.dst≠some u)->a'.tmps[u]? = a.tmps[u]?)->K a' κ'.w):wpOp c.P ops Q i K a κ.w:=by
 obtain⟨o,ho,hd,h⟩:=h
 have hu:∀ (v:Value) (u:Nat),(∀ o,ops[i]? = some o->o.dst≠some u)->(a.put o.dst v).tmps[u]? = a.tmps[u]? := by
  intro v u hn
  have:=hn o ho
  cases hds:o.dst with
  | none=>rfl
  | some t =>
   rw[hds]at this
   have vJ:t≠u:=λe=>this (by rw[e])
   simp[Act.put,Array.getElem?_setIfInBounds_ne vJ]
 unfold wpOp
 rw[ho]
 simp only
 rcases h with⟨hw,_,d,zt,hl,rfl⟩ | ⟨hw,_,rfl⟩
 ·rw[if_pos (iP hR hw)]
  refine .inl (Ct hC hI hR (xJ▸hl) λv κ' h1 h2 h3 h4=>hK _ κ' h1 h2 h3 ((hR.mono h3).put hd h4) (p9 ho) (hu v))
 ·rw[if_neg (by rw[iP hR hw]; exact Bool.false_ne_true)]
  exact hK _ κ xJ hI (Ext.refl κ) (hR.put hd λd' kL=>by cases kL; exact z09 (v:=undef)) (p9 ho) (hu undef)
def kd3(kd:Nat->Nat)(o:Oper)(i:Nat):Nat:=bif Wi o then 3 else kd i
def z13(ops:Array Oper)(kd:Nat->Nat)(p i:Nat):Prop:=∀ x y,ops[p]? = some x->ops[i]? = some y ->
 (∀ d,x.dst=some d->d ∉ tmpsOf ops y)/\(∀ d,y.dst=some d->d ∉ tmpsOf ops x)/\oc (kd3 kd x p) (kd3 kd y i)=false
theorem P8{k l:Nat}(hk:k<=2)(hl:l<=2)(h:oc k l=false):uo k l=false:=by
 have h1:Nat.beq k 3=false:=mq (by omega)
 have h2:Nat.beq l 3=false:=mq (by omega)
 simpa[oc,h1,h2]using h
theorem z3N{k l:Nat}(hl:l<=2)(h:oc 3 l=false):uo k l=false:=by
 have h2:Nat.beq l 3=false:=mq (by omega)
 have h3:uo 2 l=false:=by simpa[oc,h2]using h
 have h0:l=0:=by
  match l,hl,h3 with
  | 0,_,_=>rfl
  | 1,_,h3=>cases h3
  | 2,_,h3=>cases h3
 subst h0
 simp[uo]
theorem z1b{k l:Nat}(hk:k<=2)(h:oc k 3=false):uo k l=false:=by
 have h2:Nat.beq k 3=false:=mq (by omega)
 have h3:uo k 2=false:=by simpa[oc,h2]using h
 have h0:k=0:=by
  match k,hk,h3 with
  | 0,_,_=>rfl
  | 1,_,h3=>cases h3
  | 2,_,h3=>cases h3
 subst h0
 simp[uo]
theorem Gw{kd:Nat->Nat}{p i:Nat}(h:z13 ops kd p i)(hp:kd p<=2)(hi:kd i<=2)(hn:¬ (dG ops p/\dG ops i)):Ind ops kd p i:=by
 intro x y hx hy
 obtain⟨h1,h2,h3⟩:=h x y hx hy
 refine⟨h1,h2,?_⟩
 unfold kd3 at h3
 cases hax:Wi x with
 | true =>
  cases hay:Wi y with
  | true=>exact(hn ⟨⟨x,hx,hax⟩,y,hy,hay⟩).elim
  | false=>rw[hax,hay]at h3; exact z3N hi h3
 | false =>
  cases hay:Wi y with
  | true=>rw[hax,hay]at h3; exact z1b hp h3
  | false=>rw[hax,hay]at h3; exact P8 hp hi h3
theorem least{es:List Em}(h:es≠[]):∃ e∈es,∀ f∈es,e.i<=f.i:=by
 induction es with
 | nil=>grind
 | cons e r ih =>
  by_cases hr:r=[]
  ·subst hr; exact⟨e,List.mem_cons_self,λf hf=>by grind⟩
  ·grind
def Dis(e f:Em):Prop:=e.i≠f.i/\e.blk≠f.blk/\e.d≠f.d
theorem Dis.symm{e f:Em}(h:Dis e f):Dis f e:=⟨h.1.symm,h.2.1.symm,h.2.2.symm⟩
theorem flush{kd:Nat->Nat}{κ0:KS}(kC:∀ p i,p<i->i<ops.size->ordered (xh ops.toList []) p i=true\/z13 ops kd p i)(cx:∀ i,i<ops.size->kd i<=2)
  {listed:Array Bool} (Va:tp ops listed) (nL:∀ q,q<ops.size->dG ops q->listed.getD q true=true) {a:Act} {sf:F×St} :
  ∀ (m:Nat) (es:List Em) (qq:Array Bool) (κ:KS) (s:F×St),es.length=m->qq.size=ops.size->(∀ j,j<ops.size->qq.getD j true=true->listed.getD j true=true) ->
  (∀ j,j<ops.size->listed.getD j true=true->qq.getD j true=false->∃ e∈es,e.i=j)->(∀ e∈es,e.i<ops.size/\listed.getD e.i true=true/\qq.getD e.i true=false)->es.Pairwise Dis ->
  Inv κ->Rel κ n (kA es s.1) a->κ.st=s.2->Ext κ0 κ->(∀ e∈es,EY c ops κ0 κ a e)->nu c n ops kd (rest ops qq) s sf ->
  ∃ (κ':KS) (s':F×St),κ'.w=κ.w/\κ'.st=s'.2/\Inv κ'/\Ext κ0 κ'/\Rel κ' n s'.1 a/\nu c n ops kd (rest ops listed) s' sf:=by
 intro m
 induction m with
 | zero =>
  intro es qq κ s hl _ h1 h2 _ _ hI hR xJ hx _ vx
  obtain rfl:es=[]:=List.eq_nil_of_length_eq_zero hl
  refine⟨κ,s,rfl,xJ,hI,hx,hR,?_⟩
  have:rest ops qq=rest ops listed:=by
   unfold rest
   refine List.filter_congr λi hi => ?_
   grind
  grind
 | succ m ih =>
  intro es qq κ s hl uP h1 h2 h3 Fw hI hR xJ hx hem vx
  obtain⟨e,he,z6R⟩:=least (es:=es) (λh=>by rw[h]at hl; cases hl)
  obtain⟨l1,l2,rfl⟩:=List.append_of_mem he
  obtain⟨hei,hel,hea⟩:=h3 e he
  have Q9:∀ f,f∈l1++l2->f∈l1++e::l2:=λf hf=>by
   grind
  have z57:∀ f,f∈l1++e::l2->f=e\/f∈l1++l2:=λf hf=>by
   rcases List.mem_append.1 hf with hf | hf
   ·exact .inr (List.mem_append_left _ hf)
   ·rcases List.mem_cons.1 hf with rfl | hf
    ·exact .inl rfl
    ·exact .inr (List.mem_append_right _ hf)
  have hde:∀ f∈l1++l2,Dis e f:=by
   intro f hf
   rw[List.pairwise_append]at Fw
   obtain⟨_,d2,d3⟩:=Fw
   rcases List.mem_append.1 hf with hf | hf
   ·exact(d3 f hf e List.mem_cons_self).symm
   ·exact(List.pairwise_cons.1 d2).1 f hf
  have IA:(l1++l2).Pairwise Dis:=Fw.sublist (List.Sublist.append_left (List.sublist_cons_self e l2) l1)
  obtain⟨pre,post,g1,g2,g3⟩:=gG (p:=λi => !qq.getD i true) (q:=λj => !(qq.setIfInBounds e.i true).getD j true) (i:=e.i) (List.range ops.size) List.pairwise_lt_range
   (List.mem_range.2 hei) (by simp[hea]) (λj=>by
    rw[uQ (by omega)]
    by_cases h:j=e.i
    ·subst h; simp
    ·simp[h])
  have TH:∀ p∈pre,Ind ops kd p e.i:=by
   intro p hp
   obtain⟨q1,q2,q3⟩:=g3 p hp
   have q2:=List.mem_range.1 q2
   have hpa:qq.getD p true=false:=by simpa using q1
   have Xk:listed.getD p true=false:=by
    cases hb:listed.getD p true with
    | false=>rfl
    | true =>
     obtain⟨f,hf,Dw⟩:=h2 p q2 hb hpa
     have:=z6R f hf
     omega
   have hna:¬ dG ops p:=λh=>by rw[nL p q2 h]at Xk; cases Xk
   rcases kC p e.i q3 hei with h | h
   ·have:=Va e.i hei hel p h q2
    rw[this]at Xk; cases Xk
   ·exact Gw h (cx p q2) (cx e.i hei) λhh=>hna hh.1
  have Cf:nu c n ops kd (pre++e.i::post) s sf:=by
   have:rest ops qq=pre++e.i::post:=g1
   rw[<- this]; exact vx
  obtain⟨s1,k1,k2⟩:=VJ TH Cf
  have hE:=hem e he
  obtain⟨o,o1,o2,o3,o4⟩:=hE.op
  obtain⟨D,d1,d2,rfl⟩:=Vs o1 o2 o3 o4 k1
  obtain rfl:D=e.D:=Option.some.inj (d1.symm.trans hE.zero)
  obtain⟨iz,z1,z2,z3⟩:=hE.z
  obtain⟨p1,p2,p3⟩:=z2L hI hx hE.nob hE.new (z3.rd κ) z3.yC z3.ty hE.heap
  have hup:=IW hI e.blk e.z.cells.size e.D
  refine ih (l1++l2) (qq.setIfInBounds e.i true) (κ.push e.blk e.z.cells.size e.D) (kt s.1 (some e.d) (some (.ptr s.2.length 0)),s.2++[.var e.D]) (by simp at hl ⊢; omega) (by simp[uP]) (λj hj ha => ?_) (λj hj hb ha => ?_) (λf hf => ?_) IA p1 ?_ (by show κ.st++_=s.2++_; rw[xJ]) p2 (λf hf => ?_) ?_
  ·rw[uQ (by omega)]at ha
   split at ha
   ·rename_i h; subst h; exact hel
   ·exact h1 j hj ha
  ·rw[uQ (by omega)]at ha
   split at ha
   ·cases ha
   ·rename_i vJ
    obtain⟨f,hf,Dw⟩:=h2 j hj hb ha
    rcases z57 f hf with rfl | hf
    ·exact absurd Dw.symm vJ
    ·exact⟨f,hf,Dw⟩
  ·obtain⟨f1,f2,f3⟩:=h3 f (Q9 f hf)
   refine⟨f1,f2,?_⟩
   rw[uQ (by omega),if_neg (hde f hf).1.symm]
   exact f3
  ·refine⟨hR.size,hR.defers,λu d0 hu => ?_⟩
   obtain⟨u1,u2⟩:=YA hu
   simp only[kt]at u1
   by_cases hue:u=e.d
   ·subst hue
    rw[if_pos rfl]at u1
    cases u1
    rw[<- xJ]
    exact⟨_,hE.val,p3⟩
   ·rw[if_neg hue]at u1
    have:kA (l1++e::l2) s.1 u=some d0:=by
     rw[ZZ λf hf hfu => ?_]
     ·exact u1
     ·rcases z57 f hf with rfl | hf
      ·exact hue hfu.symm
      ·exact u2 f hf hfu
    obtain⟨v,v1,v2⟩:=hR.get u d0 this
    exact⟨v,v1,v2.up hup⟩
  ·have hF:=hem f (Q9 f hf)
   refine⟨hF.op,hF.zero,hF.z,hF.val,hF.heap,⟨hF.nob.lt,hF.nob.ok,λb m hb => ?_⟩,hF.new⟩
   rcases rU hb with hb | ⟨_,hb⟩
   ·exact hF.nob.ph b m hb
   ·exact(hde f hf).2.1 (congrArg Prod.fst (Option.some.inj hb)).symm
  ·have:rest ops (qq.setIfInBounds e.i true)=pre++post:=g2
   rw[this]; exact k2
theorem Sz{listed:Array Bool}{i:Nat}(uP:listed.size=ops.size)(h1:i<ops.size)(h2:listed.getD i true=false):(rest ops listed).length=(rest ops (listed.setIfInBounds i true)).length+1:=by
 obtain⟨pre,post,g1,g2,_⟩:=gG (p:=λi => !listed.getD i true) (q:=λj => !(listed.setIfInBounds i true).getD j true) (i:=i) (List.range ops.size) List.pairwise_lt_range
  (List.mem_range.2 h1) (by grind) (λj=>by
   rw[uQ (by omega)]
   by_cases h:j=i
   ·grind
   ·simp[h])
 have e1:rest ops listed=pre++i::post:=g1
 have e2:rest ops (listed.setIfInBounds i true)=pre++post:=g2
 grind
theorem En{listed:Array Bool}{i:Nat}(FA:gq ops.toList 0=true)(uP:listed.size=ops.size)(Va:tp ops listed)(h1:i<ops.size)
  (h3:∀ o,ops[i]? = some o->∀ e∈o.after.toList,Region.binds .any e=true->listed.getD e.on false=true) :
  (∀ p,ordered (xh ops.toList []) p i=true->p<ops.size->listed.getD p true=true)/\tp ops (listed.setIfInBounds i true):=by
 have PQ:∀ p,ordered (xh ops.toList []) p i=true->p<ops.size->listed.getD p true=true:=by
  intro p hp qs
  obtain⟨r,_,_,hb⟩:=n9 ops.toList []
  obtain⟨e,k1,k2,k3⟩:=hb i ops[i] (by simp) p (by simpa[ordered]using hp)
  have Kd:=mK ops.toList 0 FA i ops[i] (by simp) e k1 k2
  have K8:listed.getD e.on true=true:=by
   grind
  rcases k3 with rfl | ⟨_,k3⟩
  ·exact K8
  ·exact Va e.on (by omega) K8 p k3 qs
 refine⟨PQ,λq hq Ob p hp qs => ?_⟩
 rw[uQ (by omega)]at Ob ⊢
 split
 ·rfl
 ·split at Ob
  ·grind
  ·exact Va q hq Ob p hp qs
theorem GP{κ:KS}{a:Act}{es:List Em}{f:F}{e:Em}{v:Value}(hR:Rel κ n (kA es f) a):Rel κ n (kA (e::es) f) (a.put (some e.d) v):=by
 refine⟨by simp[Act.put,hR.size],hR.defers,λu d hu => ?_⟩
 obtain⟨u1,u2⟩:=YA hu
 have vJ:e.d≠u:=u2 e List.mem_cons_self
 have:kA es f u=some d:=by rw[ZZ λg hg=>u2 g (List.mem_cons_of_mem _ hg)]; exact u1
 obtain⟨w,w1,w2⟩:=hR.get u d this
 exact⟨w,by simp[Act.put,Array.getElem?_setIfInBounds_ne vJ]; exact w1,w2⟩
theorem tO{kd:Nat->Nat}{Q:Exit->Act->World->Prop}(hC:∀ g,HT c.P g (c.fn g))(FA:gq ops.toList 0=true)
  (kC:∀ p i,p<i->i<ops.size->ordered (xh ops.toList []) p i=true\/z13 ops kd p i) (cx:∀ i,i<ops.size->kd i<=2)
  (nL:∀ p j,p<ops.size->dG ops p->j<ops.size->ordered (xh ops.toList []) p j=true->∀ q,q<ops.size->dG ops q->ordered (xh ops.toList []) q j=true)
  {κ0:KS} {a0:Act} {sf:F×St}:∀ (fuel:Nat) (listed qq:Array Bool) (es:List Em) {κ:KS} {a:Act} {s:F×St},
  listed.size=ops.size->qq.size=ops.size->fuel=(rest ops listed).length->tp ops listed->(∀ j,j<ops.size->qq.getD j true=true->listed.getD j true=true) ->
  (∀ j,j<ops.size->listed.getD j true=true->qq.getD j true=false->∃ e∈es,e.i=j)->(∀ e∈es,e.i<ops.size/\listed.getD e.i true=true/\qq.getD e.i true=false)->es.Pairwise Dis ->
  (∃ q,q<ops.size/\dG ops q/\listed.getD q true=false)->Inv κ->Rel κ n (kA es s.1) a->κ.st=s.2->Ext κ0 κ->(∀ e∈es,EY c ops κ0 κ a e)->nu c n ops kd (rest ops qq) s sf->dR ops a0 a ->
  (∀ (a':Act) (κ':KS),κ'.st=sf.2->Inv κ'->Ext κ0 κ'->Rel κ' n sf.1 a'->dR ops a0 a'->Q .normal a' κ'.w)->wpAny c.P .any ops Q fuel listed a κ.w
 | 0,listed,qq,es,κ,a,s,uP,hszA,hfuel,Va,h1,h2,h3,Fw,⟨q,q1,q2,q3⟩,hI,hR,xJ,hx,hem,vx,hkp,hQ=>by
  have hre:rest ops listed=[]:=List.eq_nil_of_length_eq_zero hfuel.symm
  have:q∈rest ops listed:=by simp only[rest,List.mem_filter,List.mem_range,Bool.not_eq_true']; exact⟨q1,q3⟩
  grind
 | fuel+1,listed,qq,es,κ,a,s,uP,hszA,hfuel,Va,h1,h2,h3,Fw,⟨q,q1,q2,q3⟩,hI,hR,xJ,hx,hem,vx,hkp,hQ=>by
  refine⟨λh => ?_,λi hi => ?_⟩
  ·have hre:=Jq FA uP h
   grind
  rw[mJ]at hi
  obtain⟨i1,i2,i3⟩:=hi
  obtain⟨PQ,MY⟩:=En FA uP Va i1 i3
  have Ec:fuel=(rest ops (listed.setIfInBounds i true)).length:=by have:=Sz uP i1 i2; omega
  have hia:qq.getD i true=false:=by
   grind
  have Pp:∀ p,p<ops.size->dG ops p->ordered (xh ops.toList []) p i=true->False:=by
   grind
  have b8:∀ j,(listed.setIfInBounds i true).getD j true=if j=i then true else listed.getD j true:=λj=>uQ (by omega)
  by_cases iI:dG ops i
  ·-- a new variable is laid
   obtain⟨o,ho,hao⟩:=iI
   obtain⟨t,d,o1,o2,o3⟩:=Ov hao
   have him:i∈rest ops qq:=by simp only[rest,List.mem_filter,List.mem_range,Bool.not_eq_true']; exact⟨i1,hia⟩
   obtain⟨t1,t2,hos⟩:=Bw vx him
   obtain⟨D,d1,d2,_⟩:=Vs ho o1 o2 o3 hos
   obtain⟨iz,z,z1,z2,z3⟩:=eW d1
   obtain⟨w1,w2,w3,w4⟩:=z3z hI (.cells z.cells t)
   let e:Em:=⟨i,d,κ.w.heap.size,t,z,D⟩
   have zaB:(execOp a.eval o).run c.P κ.w=.ok (.value (.pointer (some ⟨κ.w.heap.size,0,none⟩))) (κ.w.alloc (.cells z.cells t)):=by
    obtain⟨dst,op,ty,pos,after,guard⟩:=o
    cases o1
    simp[execOp,Instr.alloc,zeroValue,typeInfo,z1,z2,newVar,newRow]
   have z9Y:Region.wanted o (yielded ops a.tmps)=true:=by unfold Region.wanted; rw[o2]
   unfold wpOp
   rw[ho]
   simp only
   rw[if_pos z9Y]
   refine .inl ?_
   unfold Oper.wp
   rw[zaB]
   show wpAny c.P Region.Mode.any ops Q fuel (listed.setIfInBounds i true) (a.put o.dst (Value.pointer (some { block:=κ.w.heap.size,off:=0 }))) (κ.w.alloc (Obj.cells z.cells t))
   rw[o3]
   have vJ:∀ f∈es,f.d≠d:=by
    intro f hf hfd
    obtain⟨f1,f2,f3⟩:=h3 f hf
    obtain⟨fo,fo1,fo2,fo3,fo4⟩:=(hem f hf).op
    have Dw:f.i≠i:=λh=>by rw[h,i2]at f2; cases f2
    rcases Nat.lt_or_gt_of_ne Dw with qs | qs
    ·rcases kC f.i i qs i1 with h | h
     ·exact Pp f.i f1 ⟨fo,fo1,HD fo2 fo3 fo4⟩ h
     ·exact(h fo o fo1 ho).1 f.d fo4 (hfd▸kg o3)
    ·rcases kC i f.i qs f1 with h | h
     ·have:=Va f.i f1 f2 i h i1; rw[i2]at this; cases this
     ·exact(h o fo ho fo1).1 d o3 (hfd▸kg fo4)
   have zgl:EY c ops κ0 { κ with w:=κ.w.alloc (.cells z.cells t) } (a.put (some d) (.pointer (some ⟨κ.w.heap.size,0,none⟩))) e :=
    ⟨⟨o,ho,o1,o2,o3⟩,d1,⟨iz,z1,z2,z3⟩,by simp[e,Act.put,hR.size,d2],w4,w3,hx.size⟩
   have zcd:∀ f∈e::es,EY c ops κ0 { κ with w:=κ.w.alloc (.cells z.cells t) } (a.put (some d) (.pointer (some ⟨κ.w.heap.size,0,none⟩))) f:=by
    intro f hf
    rcases List.mem_cons.1 hf with rfl | hf
    ·exact zgl
    ·exact(hem f hf).mono w2 (by simp[Act.put,Array.getElem?_setIfInBounds_ne (λe'=>vJ f hf e'.symm)])
   have hR':Rel { κ with w:=κ.w.alloc (.cells z.cells t) } n (kA (e::es) s.1) (a.put (some d) (.pointer (some ⟨κ.w.heap.size,0,none⟩))):=GP (e:=e) (hR.mono w2)
   have hdE:∀ f∈es,Dis e f:=by
    intro f hf
    unfold Dis
    refine⟨λh => ?_,λh => ?_,λh=>vJ f hf h.symm⟩
    ·have hf2:=(h3 f hf).2.1
     rw[<- h]at hf2
     have i2':listed.getD e.i true=false:=i2
     rw[i2']at hf2
     cases hf2
    ·have hl:=(hem f hf).nob.lt
     rw[<- h]at hl
     exact Nat.lt_irrefl _ hl
   have IA:(e::es).Pairwise Dis:=List.pairwise_cons.2 ⟨hdE,Fw⟩
   have zd3:dR ops a0 (a.put (some d) (.pointer (some ⟨κ.w.heap.size,0,none⟩))):=hkp.trans (by have:=p9 (a:=a) (v:=.pointer (some ⟨κ.w.heap.size,0,none⟩)) ho; rw[o3]at this; exact this)
   have Wp:∀ j,j<ops.size->qq.getD j true=true->(listed.setIfInBounds i true).getD j true=true:=λj hj ha=>by
    rw[b8]; split
    ·rfl
    ·exact h1 j hj ha
   have h2':∀ j,j<ops.size->(listed.setIfInBounds i true).getD j true=true->qq.getD j true=false->∃ f∈e::es,f.i=j:=λj hj hb ha=>by
    rw[b8]at hb
    split at hb
    ·rename_i h; exact⟨e,List.mem_cons_self,h.symm⟩
    ·obtain⟨f,hf,Dw⟩:=h2 j hj hb ha; exact⟨f,List.mem_cons_of_mem _ hf,Dw⟩
   have h3':∀ f∈e::es,f.i<ops.size/\(listed.setIfInBounds i true).getD f.i true=true/\qq.getD f.i true=false:=λf hf=>by
    rcases List.mem_cons.1 hf with rfl | hf
    ·exact⟨i1,by rw[b8]; exact if_pos rfl,hia⟩
    ·obtain⟨f1,f2,f3⟩:=h3 f hf
     exact⟨f1,by rw[b8]; split<;>first | rfl | exact f2,f3⟩
   by_cases hmore:∃ q,q<ops.size/\dG ops q/\(listed.setIfInBounds i true).getD q true=false
   ·exact tO hC FA kC cx nL fuel (listed.setIfInBounds i true) qq (e::es) (κ:={ κ with w:=κ.w.alloc (.cells z.cells t) }) (by simp[uP]) hszA Ec MY Wp h2' h3' IA hmore w1 hR' xJ (hx.trans w2) zcd vx zd3 hQ
   ·-- all are laid
    have z4u:∀ q,q<ops.size->dG ops q->(listed.setIfInBounds i true).getD q true=true:=λq q1 q2=>by
     cases hb:(listed.setIfInBounds i true).getD q true with
     | true=>rfl
     | false=>exact(hmore ⟨q,q1,q2,hb⟩).elim
    obtain⟨κ',s',f1,f2,f3,f4,f5,f6⟩:=flush (c:=c) (n:=n) kC cx MY z4u (e::es).length (e::es) qq { κ with w:=κ.w.alloc (.cells z.cells t) } s rfl hszA Wp h2' h3' IA w1 hR' xJ (hx.trans w2) zcd vx
    have hgo:=UI (κ:=κ') hC FA fuel (listed.setIfInBounds i true) (Q:=Q) (λp j hpj hj hp=>(kC p j hpj hj).elim .inl λh=>.inr (Gw h (cx p (by omega)) (cx j hj) λhh=>by
     rw[z4u p (by omega) hh.1]at hp; cases hp)) (by simp[uP]) Ec MY f3 f5 f2 f6 λa' Oo e1 e2 e3 e4 e5=>hQ a' Oo e1 e2 (f4.trans e3) e4 (zd3.trans e5)
    rw[f1]at hgo
    exact hgo
  ·-- another operation
   have z4K:∀ o,ops[i]? = some o->∀ e∈es,e.d ∉ tmpsOf ops o:=by
    intro o ho f hf
    obtain⟨f1,f2,f3⟩:=h3 f hf
    obtain⟨fo,fo1,fo2,fo3,fo4⟩:=(hem f hf).op
    have Dw:f.i≠i:=λh=>by rw[h,i2]at f2; cases f2
    rcases Nat.lt_or_gt_of_ne Dw with qs | qs
    ·rcases kC f.i i qs i1 with h | h
     ·exact(Pp f.i f1 ⟨fo,fo1,HD fo2 fo3 fo4⟩ h).elim
     ·exact(h fo o fo1 ho).1 f.d fo4
    ·rcases kC i f.i qs f1 with h | h
     ·have:=Va f.i f1 f2 i h i1; rw[i2]at this; cases this
     ·exact(h o fo ho fo1).2.1 f.d fo4
   obtain⟨pre,post,g1,g2,g3⟩:=gG (p:=λi => !qq.getD i true) (q:=λj => !(qq.setIfInBounds i true).getD j true) (i:=i) (List.range ops.size) List.pairwise_lt_range
    (List.mem_range.2 i1) (by simp[hia]) (λj=>by
     rw[uQ (by omega)]
     by_cases h:j=i
     ·subst h; simp
     ·simp[h])
   have TH:∀ p∈pre,Ind ops kd p i:=by
    intro p hp
    obtain⟨r1,r2,r3⟩:=g3 p hp
    have r2:=List.mem_range.1 r2
    have r1:qq.getD p true=false:=by simpa using r1
    rcases kC p i r3 i1 with h | h
    ·obtain⟨f,hf,Dw⟩:=h2 p r2 (PQ p h r2) r1
     obtain⟨fo,fo1,fo2,fo3,fo4⟩:=(hem f hf).op
     exact(Pp p r2 ⟨fo,by rw[<- Dw]; exact fo1,HD fo2 fo3 fo4⟩ h).elim
    ·exact Gw h (cx p r2) (cx i i1) λhh=>iI hh.2
   have Cf:nu c n ops kd (pre++i::post) s sf:=by
    have:rest ops qq=pre++i::post:=g1
    rw[<- this]; exact vx
   obtain⟨s1,k1,k2⟩:=VJ TH Cf
   refine Oj (s:=(kA es s.1,s.2)) (s':=(kA es s1.1,s1.2)) hC hI hR xJ (Fo k1 z4K) λa1 κ1 e1 e2 e3 e4 e5 e6 => ?_
   have z0d:∀ j,(qq.setIfInBounds i true).getD j true=if j=i then true else qq.getD j true:=λj=>uQ (by omega)
   refine tO hC FA kC cx nL fuel (listed.setIfInBounds i true) (qq.setIfInBounds i true) es (κ:=κ1) (s:=s1) (by simp[uP]) (by simp[hszA]) Ec MY (λj hj ha => ?_) (λj hj hb ha => ?_) (λf hf => ?_) Fw
    ⟨q,q1,q2,?_⟩ e2 e4 e1 (hx.trans e3) (λf hf=>(hem f hf).mono e3 (e6 f.d λo ho hod=>z4K o ho f hf (kg hod))) ?_ (hkp.trans e5) hQ
   ·rw[z0d]at ha; rw[b8]
    split
    ·rfl
    ·rename_i h; rw[if_neg h]at ha; exact h1 j hj ha
   ·rw[z0d]at ha; rw[b8]at hb
    split at ha
    ·cases ha
    ·rename_i h; rw[if_neg h]at hb; exact h2 j hj hb ha
   ·obtain⟨f1,f2,f3⟩:=h3 f hf
    have Dw:f.i≠i:=λh=>by rw[h,i2]at f2; cases f2
    exact⟨f1,by rw[b8,if_neg Dw]; exact f2,by rw[z0d,if_neg Dw]; exact f3⟩
   ·have hqi:q≠i:=λh=>iI (by rw[<- h]; exact q2)
    rw[b8,if_neg hqi]; exact q3
   ·have:rest ops (qq.setIfInBounds i true)=pre++post:=g2
    rw[this]; exact k2
theorem sX{kd:Nat->Nat}:∀ {l:List Oper} {ks:List Nat} {i j:Nat} {o:Oper},l[i]? = some o->ks[i]? = some (kd j)->(Jw l ks)[i]? = some (kd3 kd o j)
 | [],_,i,_,_,h,_=>by simp at h
 | _::_,[],i,_,_,_,h=>by simp at h
 | x::l,k::ks,0,j,o,h1,h2=>by simp at h1 h2; subst h1; subst h2; rfl
 | x::l,k::ks,i+1,j,o,h1,h2=>by
  have:=sX (kd:=kd) (l:=l) (ks:=ks) (i:=i) (j:=j) (o:=o) (by grind) (by grind)
  simpa[Jw]using this
theorem KX:∀ {l:List Oper} {k i:Nat} {o:Oper},l[i]? = some o->Wi o=true->k+i∈Jy l k
 | [],_,_,_,h,_=>by simp at h
 | x::l,k,0,o,h1,h2=>by simp at h1; subst h1; simp[Jy,h2]
 | x::l,k,i+1,o,h1,h2=>by
  have:=KX (l:=l) (k:=k+1) (i:=i) (o:=o) (by grind) h2
  simp only[Jy]
  grind
theorem XP{kd:Nat->RK}:∀ (l:List Nat) (s s':F×St) (ks:List RK),Lk c n ops l s s' ks->ks=l.map kd->US (λi s s'=>cH c n ops i s s' (kd i)) l s s'
 | [],s,s',ks,h,_=>h.1
 | i::l,s,s',ks,⟨s1,k,DU,e,h1,h2⟩,hk=>by
  subst e
  simp at hk
  obtain⟨rfl,hk⟩:=hk
  exact⟨s1,h1,XP l s1 s' DU h2 hk⟩
theorem Nq{κ:KS}{a:Act}{id:Nat}{draw:Bool}{fr:Fr}{kn:Kn}{s':cQ}(hm:c.P.follows .mixedOrders=true)(hC:∀ g,HT c.P g (c.fn g))(hI:Inv κ)(hR:Rel κ n fr.get a)(hk:vC kn fr.get)
  (h:(bA c n ops draw fr kn κ.st).leads s') {Q:Exit->Act->World->Prop} (hQ:∀ (a':Act) (κ':KS),κ'.st=s'.st->Inv κ'->Ext κ κ'->Rel κ' n s'.fr.get a'->dR ops a a'->Q .normal a' κ'.w) :
  (Code.region id ops draw).wp c.P Q a κ.w/\vC s'.kn s'.fr.get:=by
 simp only[bA,T.zC]at h
 obtain⟨s1,h1,h2⟩:=h
 obtain⟨ks,g1,g2,g3⟩:=dO ops.toList 0 ⟨fr,kn,κ.st,[],[]⟩ s1 (λj=>.inl (by simp)) hk h1
 simp only[List.append_nil]at g3
 have hl:ops.toList.length=ops.size:=by simp
 rw[hl,<- List.range_eq_range']at g1
 cases hd:(!draw||tz ops s1.ks.reverse s1.bk.reverse)with
 | false=>rw[hd]at h2; exact h2.elim
 | true =>
  rw[hd,cond_true]at h2
  cases h2
  refine⟨?_,g2⟩
  cases draw with
  | false=>exact wp_region (LW hC _ hI hR rfl g1 hQ)
  | true =>
   simp only[Bool.not_true,Bool.false_or,tz,Bool.or_eq_true]at hd
   obtain⟨rks,r1,r3⟩:=Wd (ops:=ops) ops.toList 0 ⟨fr,kn,κ.st,[],[]⟩ _ (λj=>.inl (by simp)) hk h1
   simp only[List.append_nil]at r3
   rw[hl,<- List.range_eq_range']at r1
   let kd:Nat->Nat:=λi=>ks.getD i 0
   have hkl:ks.length=ops.size:=by rw[Df _ _ _ _ g1]; simp
   have hks:ks=(List.range ops.size).map kd:=by
    apply List.ext_getElem?
    intro i
    grind
   have vx:=J3 (kd:=kd) _ _ _ _ g1 hks
   refine wp_region_any hm ?_
   let κd:KS:={ κ with w:=κ.w.drew }
   have hx:Ext κ κd:=⟨rfl,rfl,rfl,Nat.le_refl _,λk hk=>⟨hk,rfl⟩,λk hk=>.inl hk,λ_ _ _ h=>.inl h,λb d h=>⟨⟨d,h⟩,rfl⟩,
    λb v0 e xs h=>.inr ⟨v0,xs,h,Nat.le_refl _,λ_=>⟨rfl,rfl⟩⟩,λ_ h=>h,Nat.le_refl _,λk _ _=>rfl⟩
   have hId:Inv κd:=⟨hI.len,hI.yw,hI.apart,hI.inj,λb y hy=>(hI.blk b y hy).mono hx rfl λ_ _ _=>rfl,hI.gl.mono hx.same⟩
   have pI:rest ops (Array.replicate ops.size false)=List.range ops.size:=by
    unfold rest
    rw[List.filter_eq_self]
    intro i hi
    have:=List.mem_range.1 hi
    simp[Array.getD_eq_getD_getElem?,this]
   have Yt:∀ j,j<ops.size->(Array.replicate ops.size false).getD j true=false:=λj hj=>by simp[Array.getD_eq_getD_getElem?,hj]
   have z2W:tp ops (Array.replicate ops.size false):=λq hq Ob=>by rw[Yt q hq]at Ob; cases Ob
   have B7:∀ i,i<ops.size->ks[i]? = some (kd i):=λi hi=>by simp[kd,List.getD,List.getElem?_eq_getElem (show i<ks.length by omega)]
   have XL:∀ i (hi:i<ops.size),ops.toList[i]? = some ops[i]:=λi hi=>by simp
   rcases hd with(hd | hd) | hd
   ·simp only[L3,Bool.and_eq_true]at hd
    obtain⟨d1,d2⟩:=hd
    rw[g3,List.reverse_reverse]at d2
    have kC:∀ p i,p<i->i<ops.size->ordered (xh ops.toList []) p i=true\/Ind ops kd p i:=by
     intro p i HX hi
     have hp:=mr ops.toList ks 0 [] d2 i ops[i] (kd i) (XL i hi) (B7 i hi)
     have:=hp.2 p ops[p] (kd p) HX (XL p (by omega)) (B7 p (by omega))
     simp only[Nat.zero_add]at this
     refine dE this (λh=>h) λhap x y hx hy => ?_
     rw[Array.getElem?_eq_getElem (by omega)]at hx hy
     cases hx
     cases hy
     exact hap
    exact UI (κ:=κd) hC d1 ops.size _ (λp i h1 h2 _=>kC p i h1 h2) (by simp) (by rw[pI]; simp) z2W hId (hR.mono hx) rfl (by rw[pI]; exact vx) λa' κ' e1 e2 e3 e4 e5=>hQ a' κ' e1 e2 (hx.trans e3) e4 e5
   ·simp only[Il,Bool.and_eq_true]at hd
    obtain⟨⟨⟨d1,d0⟩,d2⟩,d3⟩:=hd
    rw[g3,List.reverse_reverse]at d0 d2
    have cx:∀ i,i<ops.size->kd i<=2:=λi hi=>Nat.le_of_ble_eq_true (List.all_eq_true.1 d0 _ (List.mem_of_getElem? (B7 i hi)))
    have kC:∀ p i,p<i->i<ops.size->ordered (xh ops.toList []) p i=true\/z13 ops kd p i:=by
     intro p i HX hi
     have hp:=mr ops.toList (Jw ops.toList ks) 0 [] d2 i ops[i] (kd3 kd ops[i] i) (XL i hi) (sX (XL i hi) (B7 i hi))
     have:=hp.2 p ops[p] (kd3 kd ops[p] p) HX (XL p (by omega)) (sX (XL p (by omega)) (B7 p (by omega)))
     simp only[Nat.zero_add]at this
     refine dE this (λh=>h) λhap x y hx hy => ?_
     rw[Array.getElem?_eq_getElem (by omega)]at hx hy
     cases hx
     cases hy
     exact hap
    have nL:∀ p j,p<ops.size->dG ops p->j<ops.size->ordered (xh ops.toList []) p j=true->∀ q,q<ops.size->dG ops q->ordered (xh ops.toList []) q j=true:=by
     intro p j hp hap hj ho q hq haq
     unfold Bg at d3
     have:=List.all_eq_true.1 d3 j (List.mem_range.2 (by simpa using hj))
     simp only[Bool.or_eq_true,Bool.not_eq_true',List.any_eq_false,List.all_eq_true]at this
     have hm:∀ r,dG ops r->r∈Jy ops.toList 0:=λr ⟨o,h1,h2⟩=>by
      have:=KX (l:=ops.toList) (k:=0) (i:=r) (o:=o) (by rw[Array.getElem?_toList]; exact h1) h2
      rwa [Nat.zero_add]at this
     rcases this with h | h
     ·have:=h p (hm p hap); rw[ho]at this; exact absurd rfl this
     ·exact h q (hm q haq)
    by_cases hex:∃ q,q<ops.size/\dG ops q
    ·obtain⟨q,q1,q2⟩:=hex
     exact tO (κ0:=κd) (κ:=κd) (a0:=a) hC d1 kC cx nL ops.size _ (Array.replicate ops.size false) [] (by simp) (by simp) (by rw[pI]; simp) z2W (λj hj h=>by rw[Yt j hj]at h; cases h)
      (λj hj h _=>by rw[Yt j hj]at h; cases h) (λe he=>by cases he) .nil ⟨q,q1,q2,Yt q q1⟩ hId (hR.mono hx) rfl (Ext.refl _) (λe he=>by cases he) (by rw[pI]; exact vx) (dR.refl _ _)
      λa' κ' e1 e2 e3 e4 e5=>hQ a' κ' e1 e2 (hx.trans e3) e4 e5
    ·exact UI (κ:=κd) hC d1 ops.size _ (λp i h1 h2 _=>(kC p i h1 h2).elim .inl λh=>.inr (Gw h (cx p (by omega)) (cx i h2) λhh=>hex ⟨p,by omega,hh.1⟩)) (by simp) (by rw[pI]; simp) z2W hId (hR.mono hx) rfl (by rw[pI]; exact vx) λa' κ' e1 e2 e3 e4 e5=>hQ a' κ' e1 e2 (hx.trans e3) e4 e5
   ·simp only[Iy,Bool.and_eq_true]at hd
    obtain⟨d1,d2⟩:=hd
    rw[r3,List.reverse_reverse]at d2
    let kr:Nat->RK:=λi=>rks.getD i (.z 0)
    have hrl:rks.length=ops.size:=by rw[KP _ _ _ _ r1]; simp
    have zeO:rks=(List.range ops.size).map kr:=by
     apply List.ext_getElem?
     intro i
     by_cases hi:i<ops.size
     ·simp[kr,hi,List.getD,List.getElem?_eq_getElem (show i<rks.length by omega)]
     ·rw[List.getElem?_eq_none (by omega),List.getElem?_eq_none (by simp; omega)]
    have z5u:∀ i,i<ops.size->rks[i]? = some (kr i):=λi hi=>by simp[kr,List.getD,List.getElem?_eq_getElem (show i<rks.length by omega)]
    have zcP:=XP (kd:=kr) _ _ _ _ r1 zeO
    have kC:∀ p i,p<i->i<ops.size->ordered (xh ops.toList []) p i=true\/z6H ops kr p i:=by
     intro p i HX hi
     have hp:=mr ops.toList rks 0 [] d2 i ops[i] (kr i) (XL i hi) (z5u i hi)
     have:=hp.2 p ops[p] (kr p) HX (XL p (by omega)) (z5u p (by omega))
     simp only[Nat.zero_add]at this
     refine dE this (λh=>h) λhap x y hx hy => ?_
     rw[Array.getElem?_eq_getElem (by omega)]at hx hy
     cases hx
     cases hy
     exact hap
    exact QG (κ:=κd) (Stp:=λi s s'=>cH c n ops i s s' (kr i)) (In:=λp i=>z6H ops kr p i) (λi s s' h=>h.plain) (λp i hi s s1 s2 h1 h2=>Ev hi h1 h2) hC d1 ops.size _ (λp i h1 h2 _=>kC p i h1 h2) (by simp) (by rw[pI]; simp) z2W hId (hR.mono hx) rfl (by rw[pI]; exact zcP) λa' κ' e1 e2 e3 e4 e5=>hQ a' κ' e1 e2 (hx.trans e3) e4 e5
end
end Go.AM
namespace Go.AM
set_option linter.unusedSectionVars false
variable [vQ] [Kl]
def Dc(κ:KS):Ex->Exit->Prop
 | .normal,e=>e=.normal
 | .exit id,e=>e=.exit id
 | .ret,e=>e=.ret
 | .kz d,e=>∃ v,e=.panic [{ v,recovered:=false }]/\RD κ d v
section
variable {c:Ctx} {n:Nat}
def xj:Code->List (Nat×Code)
 | .seq a b=>xj a++xj b
 | .cond _ a b=>xj a++xj b
 | .block id (.loop b)=>[(id,b)]
 | .block _ a=>xj a
 | _=>[]
theorem Oq{ops:Array Oper}{draw:Bool}{fr:Fr}{kn:Kn}{st:St}{s':cQ}(hk:vC kn fr.get)(h:(bA c n ops draw fr kn st).leads s'):vC s'.kn s'.fr.get:=by
 simp only[bA,T.zC]at h
 obtain⟨s1,h1,h2⟩:=h
 obtain⟨ks,g1,g2,g3⟩:=dO ops.toList 0 ⟨fr,kn,st,[],[]⟩ s1 (λj=>.inl (by simp)) hk h1
 cases hd:(!draw||tz ops s1.ks.reverse s1.bk.reverse)with
 | false=>rw[hd]at h2; exact h2.elim
 | true=>rw[hd,cond_true]at h2; cases h2; exact g2
theorem cw(f:F):vC [] f:=by nofun
theorem Ds{id:Nat}{b:Code}(hb:∀ b',b≠.loop b'):xj (.block id b)=xj b:=by
 cases b<;>first | rfl | exact absurd rfl (hb _)
end
end Go.AM
namespace Go.AM
set_option linter.unusedSectionVars false
variable [vQ] [Kl]
section
variable {c:Ctx} {n:Nat}
theorem YX:∀ (ds:List D) (i s:Nat),(wh ds i).get s=if i<=s then ds[s-i]? else none
 | [],i,s=>by simp[wh,Fr.get]
 | d::r,i,s=>by
  simp only[wh,Fr.get]
  by_cases h:i=s
  ·subst h; simp
  ·rw[mq h,cond_false,YX r (i+1) s]
   grind
theorem tZ{κ:KS}{args:List D}{zx:List Value}(h:qD κ args zx)(hn:args.length<=n) :
  Rel κ n (wh args 0).get { tmps:=zx.toArray++Array.replicate (n-zx.toArray.size) undef,defers:=Kl.df }:=by
 have hl:=h.1
 refine⟨by grind,rfl,λs d hd => ?_⟩
 rw[YX]at hd
 obtain⟨v,h1,h2⟩:=h.get hd
 grind
theorem tk{κ:KS}{fr:Fr}{a:Act}(hI:Inv κ)(hR:Rel κ n fr.get a):∀ (rvs:List ResultVar) (ds:List D),(bg c fr κ.st rvs).leads ds ->
  ∃ vs:List Value,Sem.run c.P (rvs.mapM λr=>match r with | ResultVar.tmp t=>(Pure.pure (a.tmps.getD t undef):Sem Value) | ResultVar.cell p t=>do loadVar t (<- asAddr (a.tmps.getD p undef))) κ.w=Result.ok vs κ.w/\qD κ ds vs
 | [],ds,h=>by cases h; exact⟨[],by simp,.nil⟩
 | .tmp t::r,ds,h=>by
  simp only[bg]at h
  split at h
  ·rename_i d hd
   simp only[T.zC]at h
   obtain⟨l,hl,rfl⟩:=h
   obtain⟨v,h1,h2⟩:=hR.get t d hd
   obtain⟨vs,h3,h4⟩:=tk hI hR r l hl
   refine⟨v::vs,?_,.cons h2 h4⟩
   simp only[List.mapM_cons,Sem.run_bind,Sem.run_pure,Result.andThen_ok,h3]
   simp[h1]
  ·exact h.elim
 | .cell p t::r,ds,h=>by
  simp only[bg]at h
  split at h
  ·rename_i b off hd
   split at h
   ·rename_i d hb
    split at h
    ·rename_i x hx
     simp only[T.zC]at h
     obtain⟨l,hl,rfl⟩:=h
     obtain⟨v,h1,h2⟩:=hR.get p _ hd
     obtain⟨vs,h3,h4⟩:=tk hI hR r l hl
     cases h2 with
     | ptr _ _ blk m d1 DS hp =>
      obtain⟨iS,n',cs,T,g1,g2,g3,g4,g5⟩:=hI.blk b _ hb
      rw[hp]at g1
      cases g1
      obtain⟨u,e1,e2⟩:=J5 (c:=c) (blk:=blk) 0 hx g4 g5.1 (λj v hj=>by rw[pZ g2]; simpa using hj)
      rw[Nat.zero_add]at e1
      refine⟨u::vs,?_,.cons e2 h4⟩
      have hA:(asAddr (a.tmps.getD p undef)).run c.P κ.w=.ok ⟨blk,off,none⟩ κ.w:=by simp[h1,asAddr]
      simp only[List.mapM_cons,Sem.run_bind,hA,Result.andThen_ok,e1,h3,Sem.run_pure]
    ·exact h.elim
   ·exact h.elim
  ·exact h.elim
def TE:List Value->Value
 | [v]=>v
 | vs=>.tuple vs.toArray
theorem mB{κ:KS}{fr:Fr}{a:Act}{fn:Func}{ds:List D}(hI:Inv κ)(hR:Rel κ n fr.get a)(h:(bg c fr κ.st fn.results.toList).leads ds) :
  ∃ vs:List Value,(results fn a.tmps).run c.P κ.w=.ok (TE vs) κ.w/\qD κ ds vs:=by
 obtain⟨vs,h1,h2⟩:=tk hI hR _ _ h
 simp only[results,Array.mapM_eq_mapM_toList,Sem.run_bind,Sem.run_map]
 have key:∀ r:Result (List Value),r=.ok vs κ.w->((r.andThen λa w'=>.ok a.toArray w').andThen λa w'=>(Pure.pure (if h:a.size=1 then a[0]else .tuple a):Sem Value).run c.P w')=.ok (TE vs) κ.w:=by
  rintro _ rfl
  match vs with
  | []=>rfl
  | [v]=>rfl
  | _::_::_=>rfl
 grind
theorem tw{κ:KS}{ds:List D}{vs:List Value}(h:qD κ ds vs):RD κ (yg ds) (TE vs):=by
 match ds,vs,h with
 | [],vs,h=>rw[h.qg]; exact .yC [] [] rfl (λi h=>absurd h (Nat.not_lt_zero i))
 | [d],vs,h =>
  obtain⟨v,r,rfl,h1,h2⟩:=h.cons_inv
  rw[h2.qg]
  exact h1
 | d::e::r,vs,h =>
  obtain⟨v,us,rfl,h1,h2⟩:=h.cons_inv
  obtain⟨u,ws,rfl,h3,h4⟩:=h2.cons_inv
  exact .yC _ _ h.1 h.2
def KS.cut(κ:KS)(m:Nat):KS:={ κ with ph:=κ.ph.take m,st:=κ.st.take m }
theorem qe{α:Type}{l:List α}{m i:Nat}{a:α}(h:l[i]? = some a)(hi:i<m):(l.take m)[i]? = some a:=by grind
theorem gv{α:Type}{l:List α}{m i:Nat}{a:α}(h:(l.take m)[i]? = some a):l[i]? = some a/\i<m:=by grind
theorem da{κ:KS}{m:Nat}{d:D}{v:Value}(h:RD κ d v)(hd:vL m d=true):RD (κ.cut m) d v:=by
 cases h with
 | zI τ y cs h=>exact .zI τ y cs h
 | xb e a=>exact .xb e a
 | tight e l ne blk off f vJ wg h hc=>exact .tight e l ne blk off f vJ wg h hc
 | xp=>exact .xp
 | kP=>exact .kP
 | qT=>exact .qT
 | vR=>exact .vR
 | vP=>exact .vP
 | sG v h=>exact .sG v h
 | c6 T=>exact .c6 T
 | c8 b T d hb=>exact .c8 b T d (qe hb (Nat.le_of_ble_eq_true hd))
 | bU b T blk n d hb h=>exact .bU b T blk n d (qe hb (Nat.le_of_ble_eq_true hd)) (qe h (Nat.le_of_ble_eq_true hd))
 | ptr b off blk n d hb h=>exact .ptr b off blk n d (qe hb (Nat.le_of_ble_eq_true hd)) (qe h (Nat.le_of_ble_eq_true hd))
 | qR τ y cs blk off wg h hc=>exact .qR τ y cs blk off wg h hc
 | ui b qy e idx off blk o hb h =>
  have qs:b<m:=Nat.le_of_ble_eq_true hd
  refine .ui b qy e idx off blk o (dE hb (λh=>qe h qs) ?_) λxs hx hi => ?_
  ·rintro⟨v0,e0,x0,h1,h2⟩; exact⟨v0,e0,x0,qe h1 qs,h2⟩
  ·obtain⟨n,h1,h2⟩:=h xs (gv hx).1 hi
   exact⟨n,qe h1 qs,h2⟩
 | ms b qy e off len cap a hb wY ha pC h =>
  have qs:b<m:=Nat.le_of_ble_eq_true hd
  refine .ms b qy e off len cap a (dE hb (λh=>qe h qs) ?_) wY ha pC λxs hx => ?_
  ·rintro⟨v0,e0,x0,h1,h2⟩; exact⟨v0,e0,x0,qe h1 qs,h2⟩
  ·obtain⟨h1,h2⟩:=h xs (gv hx).1
   refine⟨h1,dE h2 ?_ ?_⟩
   ·rintro⟨g1,g2,g3,g4⟩; exact⟨g1,g2,g3,qe g4 qs⟩
   ·rintro⟨blk,n,o,DV,g1,g2⟩; exact⟨blk,n,o,DV,qe g1 qs,g2⟩
 | qW=>cases hd
 | agg=>cases hd
 | yC=>cases hd
 | iface=>cases hd
theorem F1{κ:KS}{m:Nat}{d:D}{v:Value}(h:RD κ d v)(hd:gQ m d=true):RD (κ.cut m) d v:=by
 cases d with
 | qW f l =>
  cases h with
  | qW _ _ vs hl hh =>
   simp only[gQ,List.all_eq_true]at hd
   exact .qW f l vs hl λi h1 h2=>da (hh i h1 h2) (hd _ (List.getElem_mem h1))
 | agg l =>
  cases h with
  | agg _ vs hl ho hh =>
   simp only[gQ,List.all_eq_true]at hd
   exact .agg l vs hl ho λi h1 h2=>da (hh i h1 h2) (hd _ (List.getElem_mem h1))
 | yC l=>cases hd
 | iface t d =>
  cases h with
  | iface _ _ v h=>exact .iface t _ v (da h hd)
 | _=>exact da h hd
theorem MA{κ:KS}{m:Nat}{l:List D}{vs:List Value}(h:qD κ l vs)(hd:∀ d∈l,gQ m d=true):qD (κ.cut m) l vs:=⟨h.1,λi h1 h2=>F1 (h.2 i h1 h2) (hd _ (List.getElem_mem h1))⟩
theorem HE{m:Nat}{d:D}(h:gQ m d=true):∀ x∈qh d,gQ m x=true:=by
 have HY:∀ (τ:Ty) (x:den τ),∀ y∈flat τ x,gQ m y=true:=by
  intro τ x y hy
  have:∃ σ z,y=.zI σ z:=by
   induction τ with
   | cons a b ia ib =>
    simp only[flat]at hy
    grind
   | nil=>simp[flat]at hy
   | expr=>simp[flat]at hy; rcases hy with rfl | rfl | rfl | rfl | rfl | rfl<;>exact⟨_,_,rfl⟩
   | _=>simp[flat]at hy; subst hy; exact⟨_,_,rfl⟩
  obtain⟨σ,z,rfl⟩:=this
  rfl
 cases d with
 | zI τ x=>exact HY τ x
 | agg l =>
  intro x hx
  simp only[gQ,List.all_eq_true]at h
  have:=h x hx
  cases x<;>first | exact this | cases this
 | yC l=>cases h
 | _=>intro x hx; simp[qh]at hx; subst hx; exact h
theorem z3r{κ:KS}{m:Nat}(hI:Inv κ)(hc:∀ x∈κ.st.take m,G7 m x=true):Inv (κ.cut m):=by
 refine⟨by simp[KS.cut,hI.len],hI.yw,λb blk n h=>hI.apart b blk n (gv h).1,λb b' blk n n' h h'=>hI.inj b b' blk n n' (gv h).1 (gv h').1,λb x h => ?_,hI.gl⟩
 obtain⟨h1,h2⟩:=gv h
 have hb:=hI.blk b x h1
 have hcx:=hc x (List.mem_of_getElem? h)
 cases x with
 | dead=>trivial
 | var d =>
  obtain⟨blk,n,cs,t,g1,g2,g3,g4,g5⟩:=hb
  exact⟨blk,n,cs,t,qe g1 h2,g2,g3,MA g4 (HE hcx),g5⟩
 | arr qy e xs =>
  obtain⟨h0,hb⟩:=hb
  refine⟨h0,dE hb (λh=>⟨h.1,qe h.2 h2⟩) ?_⟩
  rintro⟨blk,n,cs,t,g1,g2⟩
  exact⟨blk,n,cs,t,qe g1 h2,g2⟩
end
end Go.AM
namespace Go.AM
set_option linter.unusedSectionVars false
variable [vQ]
section
variable {c:Ctx}
theorem wN{P:Program}{f:Nat}{fn:Func}{args:Array Value}(hf:P.funcs[f]? = some fn) (hn:(fn.name == "runtime.NumGoroutine")=false) (hb:fn.body.isNone=false) (w:World) :
  (callFunc f args).run P w=.ok (.enter f args) w:=by
 simp only[callFunc,Sem.run_bind,run_program,Result.andThen_ok,hf,hn,hb,Bool.false_eq_true,if_false,Sem.run_pure]
theorem ND{κ κe:KS}(hI:Inv κ)(xJ:κ.st=[])(hIe:Inv κe)(hx:Ext κ κe):Inv (κe.bare (OE κe))/\Ext κ (κe.bare (OE κe)):=by
 have qs:∀ k,OE κe k->k<κe.w.heap.size:=by
  rintro k (hk | ⟨b,n,hk⟩)
  ·exact hIe.yw k hk
  ·exact(hIe.apart b k n hk).1
 refine⟨Ul hIe (λ_ h=>.inl h) qs,hx.os,hx.tape,hx.output,hx.size,λk hk=>⟨.inl (hx.same k hk).1,(hx.same k hk).2⟩,?_,λb blk n h=>by simp[KS.bare]at h,λb d h=>by grind,
  λb v0 e xs h=>by grind,λb h=>by grind,by grind,hx.frame⟩
 rintro k (hk | ⟨b,n,hk⟩)
 ·exact hx.fresh k hk
 ·rcases hx.phs b k n hk with h | h
  ·grind
  ·grind
end
end Go.AM
namespace Go.AM
set_option linter.unusedSectionVars false
variable [vQ] [Kl]
open Go.RowKit
def z3I(s:Nat)(fr:Fr)(st:St):T (Fr×St):=match fr.get s with
 | some (.ms b qy e off len)=>match st[b]? with
  | some (.arr jL e' xs)=>match(wO (a:=.sl e') (b:=.sl e) xs:Option (List (den e)))with
   | some ys=>.zL (qy=jL) (.ret ((s,some (.zI (.sl e) ((ys.take (off+len)).drop off)))::fr,st.set b .dead))
   | none=>.fail
  | _=>.fail
 | _=>.ret (fr,st)
def z38(j i:Nat)(fr:Fr)(st:St):T (Fr×St):=match st[j]? with
 | some (.var (.agg ds))=>match ds[i]? with
  | some (.ms b qy e off len)=>match st[b]? with
   | some (.arr jL e' xs)=>match(wO (a:=.sl e') (b:=.sl e) xs:Option (List (den e)))with
    | some ys=>.zL (qy=jL) (.ret (fr,(st.set b .dead).set j (.var (.agg (ds.set i (.zI (.sl e) ((ys.take (off+len)).drop off)))))))
    | none=>.fail
   | _=>.fail
  | _=>.ret (fr,st)
 | _=>.ret (fr,st)
def z3c(s:Nat)(fr:Fr)(st:St):T (Fr×St):=bif Nat.ble 1000000 s then z38 ((s-1000000) / 1000) ((s-1000000) % 1000) fr st else z3I s fr st
def frz:List Nat->Fr->St->T (Fr×St)
 | [],fr,st=>.ret (fr,st)
 | s::r,fr,st=>(z3c s fr st).bind λx=>frz r x.1 x.2
section
variable {c:Ctx} {κ:KS} {n:Nat}
theorem zcB{b qy off len:Nat}{e:Ty}{xs:List (den e)}{v:Value}(hI:Inv κ)(h:RD κ (.ms b qy e off len) v)(hb:κ.st[b]? = some (.arr qy e xs)){Xz:Nat->Prop}(h1:∀ k,κ.ok k->Xz k)(h2:∀ k n,κ.ph[b]? = some (some (k,n))->Xz k) :
  Rc κ.w Xz (.sl e) ((xs.take (off+len)).drop off) [v]:=by
 obtain⟨HK,_⟩:=Es hI h hb
 obtain⟨a,cap,f,hve,wY,hn,g1,g2⟩:=HK.ex
 have R8:∀ blk o:Nat,v=.slice (some ⟨blk,o,none⟩) ((xs.take (off+len)).drop off).length cap->Xz blk:=by
  intro blk o he
  cases h with
  | ms _ _ _ _ _ DV a' hold z9C ha pC hm =>
   obtain⟨_,hm⟩:=hm xs hb
   grind
 rw[hve]
 cases a with
 | none=>obtain⟨k1,k2⟩:=hn rfl; rw[k1,k2]; exact .fH e none
 | some p =>
  rcases g2 p rfl with⟨k1,k2⟩ | ⟨hp,_,hc⟩
  ·rw[k1,k2]; exact .fH e _
  ·obtain⟨blk,o,sp⟩:=p
   subst hp
   exact .sl e _ blk o cap f (R8 blk o hve) wY (λi hi=>(g1 i hi).mono λk hk=>⟨h1 k hk,rfl⟩) hc
theorem IG{b qy:Nat}{e:Ty}{xs:List (den e)}(hb:κ.st[b]? = some (.arr qy e xs))(hI:Inv κ):∃ κ':KS,κ'.w=κ.w/\κ'.st=κ.st.set b .dead/\Inv κ'/\Ext κ κ' /\
  ∀ (off len:Nat) (v:Value),RD κ (.ms b qy e off len) v->RD κ' (.zI (.sl e) ((xs.take (off+len)).drop off)) v:=by
 have qs:b<κ.st.length:=(List.getElem?_eq_some_iff.1 hb).1
 let κ':KS:=⟨κ.w,λk=>κ.ok k\/∃ n,κ.ph[b]? = some (some (k,n)),κ.ph.set b none,κ.st.set b .dead⟩
 have xJ:∀ i,i≠b->κ'.st[i]? = κ.st[i]? := λi hi=>by show(κ.st.set b .dead)[i]? = _; rw[List.getElem?_set_ne (λe=>hi e.symm)]
 have YJ:∀ i,i≠b->κ'.ph[i]? = κ.ph[i]? := λi hi=>by show(κ.ph.set b none)[i]? = _; rw[List.getElem?_set_ne (λe=>hi e.symm)]
 have z0P:∀ (i blk m:Nat),κ'.ph[i]? = some (some (blk,m))->i≠b/\κ.ph[i]? = some (some (blk,m)):=by
  grind
 have hx:Ext κ κ':=by
  refine⟨rfl,rfl,rfl,Nat.le_refl _,λk hk=>⟨.inl hk,rfl⟩,?_,λi blk m hi=>.inl (z0P i blk m hi).2,?_,?_,?_,by show _<=(κ.st.set b .dead).length; simp,λ_ _ _=>rfl⟩
  ·grind
  ·grind
  ·grind
  ·grind
 have hI':Inv κ':=by
  refine⟨by show(κ.ph.set b none).length=(κ.st.set b .dead).length; simp[hI.len],?_,?_,?_,?_,hI.gl.mono hx.same⟩
  ·rintro k (hk | ⟨m,hk⟩)
   ·exact hI.yw k hk
   ·exact(hI.apart b k m hk).1
  ·intro i blk m hi
   obtain⟨hib,JN⟩:=z0P i blk m hi
   obtain⟨g1,g2⟩:=hI.apart i blk m JN
   refine⟨g1,?_⟩
   rintro(hk | ⟨m',hk⟩)
   ·exact g2 hk
   ·exact hib (hI.inj i b blk m m' JN hk)
  ·intro i i' blk m m' hi JN
   exact hI.inj i i' blk m m' (z0P i blk m hi).2 (z0P i' blk m' JN).2
  ·intro i B hB
   by_cases hib:i=b
   ·subst hib
    have:(κ.st.set i .dead)[i]? = some B:=hB
    rw[List.getElem?_set_self qs]at this
    cases this
    trivial
   ·rw[xJ i hib]at hB
    exact(hI.blk i B hB).mono hx (YJ i hib) λ_ _ _=>rfl
 exact⟨κ',rfl,rfl,hI',hx,λoff len v hd=>RD.lW rfl (zcB hI hd hb (λk hk=>.inl hk) λk m hk=>.inr ⟨m,hk⟩)⟩
theorem z3o{s:Nat}{fr:Fr}{a:Act}{r:Fr×St}(h:(z3I s fr κ.st).leads r)(hI:Inv κ)(hR:Rel κ n fr.get a):∃ κ':KS,κ'.w=κ.w/\κ'.st=r.2/\Inv κ'/\Ext κ κ'/\Rel κ' n r.1.get a:=by
 unfold z3I at h
 split at h
 ·rename_i b qy e off len hs
  split at h
  ·rename_i jL e' xs hb
   split at h
   ·rename_i ys hy
    obtain⟨he,hx⟩:=qj hy
    obtain⟨rfl,h⟩:=h
    cases h
    obtain⟨v,hv,hd⟩:=hR.get s _ hs
    obtain⟨κ',e1,e2,hI',hx,hk⟩:=IG hb hI
    refine⟨κ',e1,e2,hI',hx,hR.size,hR.defers,λt d kL => ?_⟩
    simp only[Fr.get]at kL
    cases ht:Nat.beq s t with
    | true =>
     rw[<- Nat.eq_of_beq_eq_true ht]
     grind
    | false =>
     rw[ht,cond_false]at kL
     obtain⟨u,g1,g2⟩:=hR.get t d kL
     exact⟨u,g1,g2.mono hx⟩
   ·exact h.elim
  ·exact h.elim
 ·cases h; exact⟨κ,rfl,rfl,hI,Ext.refl κ,hR⟩
theorem Oz{ds:List D}{i b qy off len:Nat}{e:Ty}{d':D}(hd:ds[i]? = some (.ms b qy e off len))(hn:gA [d']=none){T:Nat}(h:gA (ds.set i d')=some T):gA ds=some T:=by
 cases ds with
 | nil=>cases hd
 | cons x r =>
  cases i with
  | zero =>
   have:gA (d'::r)=gA [d']:=by cases d'<;>rfl
   grind
  | succ i =>
   have:∀ r':List D,gA (x::r')=gA [x]:=by intro r'; cases x<;>rfl
   grind
theorem z1d{j i:Nat}{fr:Fr}{a:Act}{r:Fr×St}(h:(z38 j i fr κ.st).leads r)(hI:Inv κ)(hR:Rel κ n fr.get a):∃ κ':KS,κ'.w=κ.w/\κ'.st=r.2/\Inv κ'/\Ext κ κ'/\Rel κ' n r.1.get a:=by
 unfold z38 at h
 split at h
 ·rename_i ds hj
  split at h
  ·rename_i b qy e off len hi
   split at h
   ·rename_i jL e' xs hb
    split at h
    ·rename_i ys hy
     obtain⟨he,hx⟩:=qj hy
     cases he
     cases hx
     obtain⟨rfl,h⟩:=h
     cases h
     obtain⟨κ1,e1,e2,Qx,hx1,hk⟩:=IG hb hI
     have hjb:j≠b:=λq=>by subst q; rw[hb]at hj; cases hj
     have hj1:κ1.st[j]? = some (.var (.agg ds)):=by rw[e2,List.getElem?_set_ne (λq=>hjb q.symm)]; exact hj
     have OM:j<κ1.st.length:=(List.getElem?_eq_some_iff.1 hj1).1
     let d':D:=.zI (.sl e) ((xs.take (off+len)).drop off)
     let κ2:KS:={ κ1 with st:=κ1.st.set j (.var (.agg (ds.set i d'))) }
     have xJ:∀ k,k≠j->κ2.st[k]? = κ1.st[k]? := λk hk=>by show(κ1.st.set j _)[k]? = _; rw[List.getElem?_set_ne (λq=>hk q.symm)]
     have zh5:κ2.st[j]? = some (.var (.agg (ds.set i d'))):=by show(κ1.st.set j _)[j]? = _; rw[List.getElem?_set_self OM]
     have Ff:Ext κ1 κ2:=by
      refine⟨rfl,rfl,rfl,Nat.le_refl _,λk hk=>⟨hk,rfl⟩,λk hk=>.inl hk,λk blk m hk=>.inl hk,?_,?_,?_,by show _<=(κ1.st.set j _).length; simp,λ_ _ _=>rfl⟩
      ·grind
      ·grind
      ·grind
     have hI2:Inv κ2:=by
      refine⟨by show κ1.ph.length=(κ1.st.set j _).length; simp[Qx.len],Qx.yw,Qx.apart,Qx.inj,?_,Qx.gl⟩
      intro k B hB
      by_cases q:k=j
      ·subst q
       rw[zh5]at hB
       cases hB
       obtain⟨blk,m,cs,t,g1,g2,g3,g4,g5,g6⟩:=hI.blk k _ hj
       obtain⟨iS,m',bM,t',p1,p2,p3,p4,p5,p6⟩:=Qx.blk k _ hj1
       have YJ:κ1.ph[k]? = κ.ph[k]? := (hx1.var k _ hj).2
       rw[YJ,g1]at p1
       cases p1
       rw[e1,g2]at p2
       cases p2
       refine⟨blk,m,cs,t,YJ.trans g1,by show κ1.w.heap[blk]? = _; rw[e1]; exact g2,g3,?_,?_,λT hT=>g6 T (Oz hi rfl hT)⟩
       ·have p4':qD κ2 ds cs.toList:=qD.mono Ff p4
        refine⟨by show(ds.set i d').length=_; rw[List.length_set]; exact p4'.1,λk' h1 h2 => ?_⟩
        have Wp:k'<(ds.set i d').length:=h1
        rw[List.length_set]at Wp
        show RD κ2 ((ds.set i d')[k']) _
        by_cases q:i=k'
        ·subst q
         have hdi:ds[i]'Wp=.ms b qy e off len:=Option.some.inj ((List.getElem?_eq_getElem Wp).symm.trans hi)
         have:=g4.2 i Wp h2
         have Dw:(qh (D.agg ds))[i]'Wp=.ms b qy e off len:=hdi
         rw[Dw]at this
         have e3:(ds.set i d')[i]'h1=d':=List.getElem_set_self _
         rw[e3]
         exact(hk _ _ _ this).mono Ff
        ·have e3:(ds.set i d')[k']'h1=ds[k']'Wp:=List.getElem_set_ne q _
         rw[e3]
         exact p4'.2 k' Wp h2
       ·intro x hx
        rcases List.mem_or_eq_of_mem_set hx with hx | rfl
        ·exact g5 x hx
        ·rfl
      ·rw[xJ k q]at hB
       exact(Qx.blk k B hB).mono Ff rfl λ_ _ _=>rfl
     refine⟨κ2,e1,by show κ1.st.set j _=_; rw[e2],hI2,hx1.trans Ff,hR.size,hR.defers,λt d kL => ?_⟩
     obtain⟨u,q1,q2⟩:=hR.get t d kL
     exact⟨u,q1,(q2.mono hx1).mono Ff⟩
    ·exact h.elim
   ·exact h.elim
  ·cases h; exact⟨κ,rfl,rfl,hI,Ext.refl κ,hR⟩
 ·cases h; exact⟨κ,rfl,rfl,hI,Ext.refl κ,hR⟩
theorem z2h{s:Nat}{fr:Fr}{a:Act}{r:Fr×St}(h:(z3c s fr κ.st).leads r)(hI:Inv κ)(hR:Rel κ n fr.get a):∃ κ':KS,κ'.w=κ.w/\κ'.st=r.2/\Inv κ'/\Ext κ κ'/\Rel κ' n r.1.get a:=by
 unfold z3c at h
 cases hb:Nat.ble 1000000 s with
 | true=>rw[hb,cond_true]at h; exact z1d h hI hR
 | false=>rw[hb,cond_false]at h; exact z3o h hI hR
theorem PB:∀ (l:List Nat) {fr:Fr} {κ:KS} {a:Act} {r:Fr×St},(frz l fr κ.st).leads r->Inv κ->Rel κ n fr.get a->∃ κ':KS,κ'.w=κ.w/\κ'.st=r.2/\Inv κ'/\Ext κ κ'/\Rel κ' n r.1.get a
 | [],fr,κ,a,r,h,hI,hR=>by cases h; exact⟨κ,rfl,rfl,hI,Ext.refl κ,hR⟩
 | s::l,fr,κ,a,r,h,hI,hR=>by
  simp only[frz,T.zC]at h
  obtain⟨x,h1,h2⟩:=h
  obtain⟨κ1,e1,e2,e3,e4,e5⟩:=z2h h1 hI hR
  rw[<- e2]at h2
  obtain⟨κ2,g1,g2,g3,g4,g5⟩:=PB l h2 e3 e5
  exact⟨κ2,g1.trans e1,g2,g3,e4.trans g4,g5⟩
end
end Go.AM