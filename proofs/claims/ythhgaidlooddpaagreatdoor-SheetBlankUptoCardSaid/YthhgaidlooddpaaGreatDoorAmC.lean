/-
  The abstract machine, part C: texts of our own, the same for each claim.
-/
import Derived.Test.YthhgaidlooddpaaGreatDoorAmB
import Derived.Deep.LoopGhost
set_option linter.unusedVariables false
namespace Go.AM
set_option linter.unusedSectionVars false
variable [uy]
abbrev F:=Nat->Option D
def qt(f:F):Operand->Option D
 | .tmp t=>f t
 | .const v=>WG v
 | .global _=>none
 | .func g=>bif Nat.blt g 1000000 then some (.xl g [])else none
theorem bM(fr:Fr):jh fr=qt fr.get:=by rfl
def y7(f:F)(dst:Option Nat)(d:Option D):F:=match dst with
 | some t=>λs=>if s=t then d else f s
 | none=>f
theorem nw{a b:Nat}(h:a≠b):Nat.beq a b=false:=by
 cases hb:Nat.beq a b with
 | false=>rfl
 | true=>exact absurd (Nat.eq_of_beq_eq_true hb) h
theorem mM(fr:Fr)(dst:Option Nat)(d:Option D):(fr.put dst d).get=y7 fr.get dst d:=by
 cases dst with
 | none=>rfl
 | some t =>
  funext s
  simp only[Fr.put,Fr.get,y7]
  by_cases h:s=t
  ·subst h; simp
  ·rw[if_neg h,nw (λe=>h e.symm),cond_false]
section
variable (c:Ctx) (n:Nat) (ops:Array Oper)
def wD(f:F)(o:Oper):Option Bool:=match o.guard with
 | none=>some true
 | some (j,w)=>match jf ops j with
  | none=>none
  | some t=>match f t with
   | some (.zC .bool b)=>some (b==w)
   | some (.gE [])=>some false
   | _=>none
def gF(i:Nat)(s s':F×St)(k:Nat):Prop:=∃ o,ops[i]? = some o/\uq n o.dst=true /\
 ((wD ops s.1 o=some true/\k=(qO c (qt s.1) o).kind/\∃ d zy,(zR (qO c (qt s.1) o) s.2).leads (d,zy)/\s'=(y7 s.1 o.dst d,zy)) \/
  (wD ops s.1 o=some false/\k=0/\s'=(y7 s.1 o.dst (some O6),s.2)))
def NS:List Nat->F×St->F×St->List Nat->Prop
 | [],s,s',ks=>s'=s/\ks=[]
 | i::l,s,s',ks=>∃ s1 k Ii,ks=k::Ii/\gF c n ops i s s1 k/\NS l s1 s' Ii
end
section
variable {c:Ctx} {n:Nat} {ops:Array Oper}
def uh(kn:Kn)(f:F):Prop:=∀ t b,kn.get t=some b->f t=some (.zC .bool b)
theorem Kj(t:Nat)(b:Option Bool)(kn:Kn)(s:Nat):Kn.get ((t,b)::kn) s=if s=t then b else kn.get s:=by
 simp only[Kn.get]
 by_cases h:s=t
 ·subst h; simp
 ·rw[if_neg h,nw (λe=>h e.symm),cond_false]
theorem cJ{kn:Kn}{f:F}(h:uh kn f){x:Operand}{b:Bool}(hx:dM kn x=some b):qt f x=some (.zC .bool b):=by
 unfold dM at hx
 split at hx
 ·exact h _ _ hx
 ·cases hx; rfl
 ·cases hx
theorem Cv{kn:Kn}{fr:Fr}{o:Oper}(hk:uh kn fr.get){st:St}{r:Option D×St}(h:(zR (oh c kn fr o) st).leads r) :
  (zR (qO c (qt fr.get) o) st).leads r/\(oh c kn fr o).kind=(qO c (qt fr.get) o).kind/\∀ b,KF kn o.op=some b->r.1=some (.zC .bool b):=by
 obtain⟨dst,op,ty,pos,after,guard⟩:=o
 rw[<- bM]
 cases op with
 | pick x a b =>
  simp only[oh]at h ⊢
  cases hx:dM kn x with
  | none =>
   rw[hx]at h
   refine⟨h,rfl,λb' hb => ?_⟩
   simp[KF,hx]at hb
  | some bx =>
   rw[hx]at h
   have hval:=cJ hk hx
   rw[<- bM]at hval
   have z9e:qO c (jh fr) ⟨dst,.pick x a b,ty,pos,after,guard⟩=.val (.ite bx (.ret (jh fr a)) (.ret (jh fr b))):=by
    simp only[qO,EY,hval,asBool]
   rw[z9e]
   obtain⟨d,zy⟩:=r
   cases bx with
   | true =>
    simp only[vF,T.leads]at h ⊢
    refine⟨⟨.inl ⟨by first | rfl | trivial,h.1⟩,h.2⟩,rfl,λb' hb => ?_⟩
    simp only[KF,hx]at hb
    have:=cJ hk hb
    rw[<- bM]at this
    grind
   | false =>
    simp only[vF,T.leads]at h ⊢
    refine⟨⟨.inr ⟨by first | rfl | trivial,h.1⟩,h.2⟩,rfl,λb' hb => ?_⟩
    simp only[KF,hx]at hb
    have:=cJ hk hb
    rw[<- bM]at this
    grind
 | move x =>
  refine⟨h,rfl,λb hb => ?_⟩
  obtain⟨d,zy⟩:=r
  simp only[oh,qO,vF,T.leads]at h
  have:=cJ hk (show dM kn x=some b from hb)
  rw[<- bM]at this
  grind
 | assign x =>
  refine⟨h,rfl,λb hb => ?_⟩
  obtain⟨d,zy⟩:=r
  simp only[oh,qO,vF,T.leads]at h
  have:=cJ hk (show dM kn x=some b from hb)
  rw[<- bM]at this
  grind
 | _=>exact⟨h,rfl,λb hb=>by simp[KF]at hb⟩
theorem N3{kn:Kn}{f:F}(hk:uh kn f){dst:Option Nat}{d:Option D}{b:Option Bool}(hb:∀ b',b=some b'->d=some (.zC .bool b')):uh (KK kn dst b) (y7 f dst d):=by
 cases dst with
 | none=>exact hk
 | some t =>
  intro s b' h
  simp only[KK,Kj]at h
  simp only[y7]
  split at h
  ·grind
  ·rename_i e; rw[if_neg e]; exact hk s b' h
theorem sn{kn:Kn}{f:F}(hk:uh kn f){t:Nat}{b:Bool}(hb:f t=some (.zC .bool b)):uh ((t,some b)::kn) f:=by
 intro s b' h
 rw[Kj]at h
 split at h
 ·grind
 ·exact hk s b' h
theorem J4{o:Oper}{s s':dS}(hk:uh s.kn s.fr.get)(h:(bK c n o s).leads s') :
  uq n o.dst=true/\(∃ d zy,(zR (qO c (qt s.fr.get) o) s.st).leads (d,zy)/\s'.fr.get=y7 s.fr.get o.dst d/\s'.st=zy)/\uh s'.kn s'.fr.get/\s'.ks=(qO c (qt s.fr.get) o).kind::s.ks:=by
 unfold bK at h
 cases hd:uq n o.dst with
 | false=>rw[hd]at h; exact h.elim
 | true =>
  rw[hd,cond_true]at h
  simp only[T.zM]at h
  obtain⟨⟨d,zy⟩,h1,rfl⟩:=h
  obtain⟨h2,h3,h4⟩:=Cv hk h1
  refine⟨rfl,⟨d,zy,h2,mM _ _ _,rfl⟩,?_,by grind⟩
  rw[mM]
  exact N3 hk h4
theorem L4{o:Oper}{s:dS}(hk:uh s.kn s.fr.get):uh (jT o s).kn (jT o s).fr.get:=by
 show uh (KK s.kn o.dst none) (s.fr.put o.dst (some O6)).get
 rw[mM]
 exact N3 hk nofun
theorem GD{i:Nat}{o:Oper}{s s':dS}(ho:ops[i]? = some o)(hk:uh s.kn s.fr.get)(h:(stepG c n ops o s).leads s') :
  ∃ k,gF c n ops i (s.fr.get,s.st) (s'.fr.get,s'.st) k/\uh s'.kn s'.fr.get/\s'.ks=k::s.ks:=by
 have run:∀ (s0:dS),s0.fr=s.fr->s0.st=s.st->s0.ks=s.ks->uh s0.kn s0.fr.get->wD ops s.fr.get o=some true->(bK c n o s0).leads s' ->
   ∃ k,gF c n ops i (s.fr.get,s.st) (s'.fr.get,s'.st) k/\uh s'.kn s'.fr.get/\s'.ks=k::s.ks:=by
  intro s0 e1 e2 e3 Bt hw h
  obtain⟨h1,⟨d,zy,h2,h3,h4⟩,h5,h6⟩:=J4 Bt h
  rw[e1]at h2 h3 h6
  rw[e2]at h2
  rw[e3]at h6
  exact⟨_,⟨o,ho,h1,.inl ⟨hw,rfl,d,zy,h2,by rw[h3,h4]⟩⟩,h5,h6⟩
 have skip:∀ (s0:dS),s0.fr=s.fr->s0.st=s.st->s0.ks=s.ks->uh s0.kn s0.fr.get->wD ops s.fr.get o=some false->uq n o.dst=true->jT o s0=s' ->
   ∃ k,gF c n ops i (s.fr.get,s.st) (s'.fr.get,s'.st) k/\uh s'.kn s'.fr.get/\s'.ks=k::s.ks:=by
  intro s0 e1 e2 e3 Bt hw hd h
  subst h
  refine⟨0,⟨o,ho,hd,.inr ⟨hw,rfl,?_⟩⟩,L4 Bt,by simp[jT,e3]⟩
  simp only[jT,mM,e1,e2]
 unfold stepG at h
 split at h
 ·rename_i hg
  exact run s rfl rfl rfl hk (by simp[wD,hg]) h
 ·rename_i j w hg
  split at h
  ·exact h.elim
  ·rename_i t ht
   split at h
   ·rename_i b hb
    have hf:=hk t b hb
    have hw:wD ops s.fr.get o=some (b==w):=by simp[wD,hg,ht,hf]
    cases Pn:(b==w)with
    | true=>grind
    | false =>
     rw[Pn,cond_false]at h
     cases hd:uq n o.dst with
     | false=>rw[hd]at h; exact h.elim
     | true=>rw[hd,cond_true]at h; exact skip s rfl rfl rfl hk (by rw[hw,Pn]) hd h
   ·split at h
    ·rename_i x hx
     have hw:wD ops s.fr.get o=some (x==w):=by simp[wD,hg,ht,hx]
     cases hd:uq n o.dst with
     | false=>rw[hd]at h; exact h.elim
     | true =>
      rw[hd,cond_true]at h
      rcases h with⟨rfl,h⟩ | ⟨rfl,h⟩
      ·have Bj:uh (s.cj t true).kn (s.cj t true).fr.get:=sn hk hx
       cases w with
       | true=>exact run (s.cj t true) rfl rfl rfl Bj hw h
       | false=>exact skip (s.cj t true) rfl rfl rfl Bj hw hd h
      ·have Bj:uh (s.cj t false).kn (s.cj t false).fr.get:=sn hk hx
       cases w with
       | true=>exact skip (s.cj t false) rfl rfl rfl Bj hw hd h
       | false=>exact run (s.cj t false) rfl rfl rfl Bj hw h
    ·rename_i hx
     have hw:wD ops s.fr.get o=some false:=by simp[wD,hg,ht,hx]
     cases hd:uq n o.dst with
     | false=>rw[hd]at h; exact h.elim
     | true=>rw[hd,cond_true]at h; exact skip s rfl rfl rfl hk hw hd h
    ·exact h.elim
theorem fm:∀ (l:List Oper) (k0:Nat) (s s':dS),(∀ j,l[j]? = ops[k0+j]? \/ l.length<=j)->uh s.kn s.fr.get->(lJ c n ops l s).leads s' ->
  ∃ ks,NS c n ops (List.range' k0 l.length) (s.fr.get,s.st) (s'.fr.get,s'.st) ks/\uh s'.kn s'.fr.get/\s'.ks=ks.reverse++s.ks
 | [],k0,s,s',_,hk,h=>by cases h; exact⟨[],⟨rfl,rfl⟩,hk,rfl⟩
 | o::l,k0,s,s',hl,hk,h=>by
  simp only[lJ,T.zM]at h
  obtain⟨s1,h1,h2⟩:=h
  have ho:ops[k0]? = some o:=by rcases hl 0 with h | h<;>simp at h; exact h.symm
  obtain⟨k,g1,g2,g3⟩:=GD ho hk h1
  obtain⟨ks,g4,g5,g6⟩:=fm l (k0+1) s1 s' (λj=>by have:=hl (j+1); simpa[Nat.add_assoc,Nat.add_comm 1 j]using this) g2 h2
  refine⟨k::ks,?_,g5,by grind⟩
  exact⟨_,k,ks,rfl,g1,g4⟩
end
end Go.AM
namespace Go.AM
set_option linter.unusedSectionVars false
variable [uy]
section
variable {c:Ctx} {n:Nat} {ops:Array Oper}
theorem rY{α:Type}{ρ ρ':α->Option D}(L:List (Nat×α))(h:∀ p∈L,ρ p.2=ρ' p.2):(L.map λp=>(p.1,ρ p.2))=L.map λp=>(p.1,ρ' p.2) :=
 List.map_congr_left λp hp=>by rw[h p hp]
theorem ZH{ρ ρ':Operand->Option D}(o:Oper)(h:∀ x∈o.op.operands,ρ x=ρ' x):qO c ρ o=qO c ρ' o:=by
 obtain⟨dst,op,ty,pos,after,guard⟩:=o
 cases op with
 | move x=>simp only[qO]; rw[h x (by simp[Op.operands])]
 | assign x=>simp only[qO]; rw[h x (by simp[Op.operands])]
 | pick x a b=>simp only[qO]; rw[h x (by simp[Op.operands]),h a (by simp[Op.operands]),h b (by simp[Op.operands])]
 | box t x=>simp only[qO]; rw[h x (by simp[Op.operands])]
 | load t x=>simp only[qO]; rw[h x (by simp[Op.operands])]
 | store t x y=>simp only[qO]; rw[h x (by simp[Op.operands]),h y (by simp[Op.operands])]
 | nilCheck x=>simp only[qO]; rw[h x (by simp[Op.operands])]
 | binOp op t x y _=>simp only[qO]; rw[h x (by simp[Op.operands]),h y (by simp[Op.operands])]
 | typeAssert x xt t ok=>simp only[qO]; rw[h x (by simp[Op.operands])]
 | unOp op t x=>simp only[qO]; rw[h x (by simp[Op.operands])]
 | convert s t x=>simp only[qO]; rw[h x (by simp[Op.operands])]
 | makeInterface t x=>simp only[qO]; rw[h x (by simp[Op.operands])]
 | makeFunc fn first cap =>
  cases fn<;>simp only[qO]
  rw[List.map_congr_left (l:=cap.toList) (λx hx=>h x (by simp[Op.operands,Array.mem_toList_iff.1 hx])),List.map_congr_left (l:=first.toList) (λx hx=>h x (by simp[Op.operands,Array.mem_toList_iff.1 hx]))]
 | makeSlice t x y=>simp only[qO]; rw[h x (by simp[Op.operands]),h y (by simp[Op.operands])]
 | slice t x lo hi mx =>
  simp only[qO]
  have ho:∀ o:Option Operand,(∀ y,o=some y->ρ y=ρ' y)->o.map ρ=o.map ρ':=λo ho=>by
   cases o with
   | none=>rfl
   | some y=>grind
  rw[h x (by simp[Op.operands]),ho lo (λy hy=>h y (by simp[Op.operands,hy])),ho hi (λy hy=>h y (by simp[Op.operands,hy])),ho mx (λy hy=>h y (by simp[Op.operands,hy]))]
 | fieldAddr s x f=>simp only[qO]; rw[h x (by simp[Op.operands])]
 | field s x f=>simp only[qO]; rw[h x (by simp[Op.operands])]
 | indexAddr t x y=>simp only[qO]; rw[h x (by simp[Op.operands]),h y (by simp[Op.operands])]
 | index t x y=>simp only[qO]; rw[h x (by simp[Op.operands]),h y (by simp[Op.operands])]
 | extract x i=>simp only[qO]; rw[h x (by simp[Op.operands])]
 | build t ps=>simp only[qO]; rw[rY ps.toList λp hp=>h p.2 (by simp[Op.operands]; exact⟨p.1,Array.mem_toList_iff.1 hp⟩)]
 | buildSlice t k ps=>simp only[qO]; rw[rY ps.toList λp hp=>h p.2 (by simp[Op.operands]; exact⟨p.1,Array.mem_toList_iff.1 hp⟩)]
 | call cl =>
  obtain⟨callee,args,oq⟩:=cl
  have cp:args.toList.map ρ=args.toList.map ρ':=List.map_congr_left λx hx=>h x (by simp[Op.operands,Call.operands,Array.mem_toList_iff.1 hx])
  cases callee with
  | builtin b=>simp only[qO]; rw[cp]
  | value f=>simp only[qO]; rw[cp,h f (by simp[Op.operands,Call.operands])]
  | invoke r m=>rfl
 | _=>rfl
theorem G3{f:F}{dst:Option Nat}{d:Option D}{x:Operand}(h:∀ t,dst=some t->x≠.tmp t):qt (y7 f dst d) x=qt f x:=by
 cases dst with
 | none=>rfl
 | some t=>cases x with
  | tmp s=>simp only[qt,y7]; rw[if_neg (λe=>h t rfl (by rw[e]))]
  | _=>rfl
theorem gI(f:F){a b:Option Nat}(d e:Option D)(h:∀ t,a=some t->b≠some t):y7 (y7 f a d) b e=y7 (y7 f b e) a d:=by
 cases a with
 | none=>rfl
 | some s=>cases b with
  | none=>rfl
  | some t =>
   simp only[y7]
   grind
def Ind(ops:Array Oper)(kd:Nat->Nat)(p i:Nat):Prop:=∀ x y,ops[p]? = some x->ops[i]? = some y ->
 (∀ d,x.dst=some d->d ∉ tmpsOf ops y)/\(∀ d,y.dst=some d->d ∉ tmpsOf ops x)/\uZ (kd p) (kd i)=false
theorem y3{o:Oper}{d:Nat}(h:o.dst=some d):d∈tmpsOf ops o:=by simp[tmpsOf,h]
theorem rN{o:Oper}{d:Nat}(h:Operand.tmp d∈o.op.operands):d∈tmpsOf ops o:=by
 simp only[tmpsOf,List.mem_append,List.mem_filterMap]
 exact .inr ⟨.tmp d,by grind,rfl⟩
theorem s7{o:Oper}{j:Nat}{w:Bool}{d:Nat}(h:o.guard=some (j,w))(hg:jf ops j=some d):d∈tmpsOf ops o:=by
 simp[tmpsOf,h,hg]
theorem wz{f:F}{o:Oper}{dst:Option Nat}{d:Option D}(h:∀ t,dst=some t->t ∉ tmpsOf ops o):wD ops (y7 f dst d) o=wD ops f o:=by
 unfold wD
 cases hg:o.guard with
 | none=>rfl
 | some jw =>
  obtain⟨j,w⟩:=jw
  simp only
  cases hs:jf ops j with
  | none=>rfl
  | some t =>
   simp only
   have:y7 f dst d t=f t:=by
    cases dst with
    | none=>rfl
    | some s=>simp only[y7]; rw[if_neg]; intro e; exact h s rfl (e▸s7 hg hs)
   rw[this]
theorem kM{f:F}{o:Oper}{dst:Option Nat}{d:Option D}(h:∀ t,dst=some t->t ∉ tmpsOf ops o):qO c (qt (y7 f dst d)) o=qO c (qt f) o :=
 ZH o λx hx=>G3 λt ht e=>h t ht (rN (ops:=ops) (e▸hx))
theorem iM{cl:cv}(h:cl.kind=0){st zy:St}{d:Option D}(hl:(zR cl st).leads (d,zy)):zy=st/\∀ k8,(zR cl k8).leads (d,k8):=by
 cases cl with
 | val t=>rw[vF]at hl; exact⟨hl.2,λk8=>by rw[vF]; exact⟨hl.1,rfl⟩⟩
 | rd k=>cases h
 | wr k=>cases h
theorem dh{cl:cv}(h:cl.kind<=1){st zy:St}{d:Option D}(hl:(zR cl st).leads (d,zy)):zy=st:=by
 cases cl with
 | val t=>rw[vF]at hl; exact hl.2
 | rd k=>rw[lY]at hl; exact hl.2
 | wr k=>simp[cv.kind]at h
theorem Xe(cl:cv):cl.kind<=2:=by cases cl<;>simp[cv.kind]
theorem Yp{kd:Nat->Nat}{p i:Nat}(hi:Ind ops kd p i){s s1 s2:F×St}(h1:gF c n ops p s s1 (kd p))(h2:gF c n ops i s1 s2 (kd i)) :
  ∃ s',gF c n ops i s s' (kd i)/\gF c n ops p s' s2 (kd p):=by
 obtain⟨x,hx,hdx,ZG⟩:=h1
 obtain⟨y,hy,hdy,hy'⟩:=h2
 obtain⟨a1,a2,a3⟩:=hi x y hx hy
 have N6:∀ t,x.dst=some t->y.dst≠some t:=λt ht e=>a1 t ht (y3 e)
 obtain⟨f,st⟩:=s
 rcases ZG with⟨hw,hk,d,b7,hl,rfl⟩ | ⟨hw,hk,rfl⟩
 ·rcases hy' with⟨sS,cM,e,k8,iI,rfl⟩ | ⟨sS,cM,rfl⟩
  ·simp only[wz a1,kM (c:=c) a1]at sS cM iI
   simp only at hw hk hl
   -- the two meet nowhere in the store
   have key:(zR (qO c (qt f) y) st).leads (e,(if(qO c (qt f) y).kind=2 then k8 else st))/\(zR (qO c (qt f) x) (if(qO c (qt f) y).kind=2 then k8 else st)).leads (d,k8):=by
    rw[hk,cM]at a3
    rcases Nat.lt_or_ge (qO c (qt f) y).kind 2 with EF | EF
    ·rw[if_neg (by omega)]
     have e2:=dh (by omega) iI
     subst e2
     rcases Nat.lt_or_ge (qO c (qt f) x).kind 2 with Iz | Iz
     ·have e1:=dh (by omega) hl
      grind
     ·have hx3:(qO c (qt f) x).kind=2:=Nat.le_antisymm (Xe _) Iz
      have hy0:(qO c (qt f) y).kind=0:=by
       rw[hx3]at a3
       cases hy0:(qO c (qt f) y).kind with
       | zero=>rfl
       | succ m=>rw[hy0]at a3; simp[uZ]at a3
      exact⟨(iM hy0 iI).2 st,hl⟩
    ·have hy3:(qO c (qt f) y).kind=2:=Nat.le_antisymm (Xe _) EF
     rw[if_pos hy3]
     have VF:(qO c (qt f) x).kind=0:=by
      rw[hy3]at a3
      cases VF:(qO c (qt f) x).kind with
      | zero=>rfl
      | succ m=>rw[VF]at a3; simp[uZ]at a3
     obtain⟨e1,h3⟩:=iM VF hl
     grind
   refine⟨_,⟨y,hy,hdy,.inl ⟨sS,cM,e,_,key.1,rfl⟩⟩,x,hx,hdx,.inl ⟨?_,?_,d,k8,?_,?_⟩⟩
   ·rw[wz a2]; exact hw
   ·rw[kM (c:=c) a2]; exact hk
   ·rw[kM (c:=c) a2]; exact key.2
   ·simp only[gI f d e N6]
  ·simp only[wz a1]at sS
   refine⟨_,⟨y,hy,hdy,.inr ⟨sS,cM,rfl⟩⟩,x,hx,hdx,.inl ⟨?_,?_,d,b7,?_,?_⟩⟩
   ·rw[wz a2]; exact hw
   ·rw[kM (c:=c) a2]; exact hk
   ·rw[kM (c:=c) a2]; exact hl
   ·simp only[gI f d (some O6) N6]
 ·rcases hy' with⟨sS,cM,e,k8,iI,rfl⟩ | ⟨sS,cM,rfl⟩
  ·simp only[wz a1,kM (c:=c) a1]at sS cM iI
   refine⟨_,⟨y,hy,hdy,.inl ⟨sS,cM,e,k8,iI,rfl⟩⟩,x,hx,hdx,.inr ⟨?_,hk,?_⟩⟩
   ·rw[wz a2]; exact hw
   ·simp only[gI f (some O6) e N6]
  ·simp only[wz a1]at sS
   refine⟨_,⟨y,hy,hdy,.inr ⟨sS,cM,rfl⟩⟩,x,hx,hdx,.inr ⟨?_,hk,?_⟩⟩
   ·rw[wz a2]; exact hw
   ·simp only[gI f (some O6) (some O6) N6]
def oa(c:Ctx)(n:Nat)(ops:Array Oper)(kd:Nat->Nat):List Nat->F×St->F×St->Prop
 | [],s,s'=>s'=s
 | i::l,s,s'=>∃ s1,gF c n ops i s s1 (kd i)/\oa c n ops kd l s1 s'
theorem K6{kd:Nat->Nat}{i:Nat}{post:List Nat}{s':F×St}:∀ {pre:List Nat} {s:F×St},(∀ p∈pre,Ind ops kd p i)->oa c n ops kd (pre++i::post) s s' ->
  ∃ s1,gF c n ops i s s1 (kd i)/\oa c n ops kd (pre++post) s1 s'
 | [],s,_,h=>h
 | p::pre,s,hp,⟨sp,h1,h2⟩=>by
  obtain⟨s1,h3,h4⟩:=K6 (λq hq=>hp q (List.mem_cons_of_mem _ hq)) h2
  obtain⟨s2,h5,h6⟩:=Yp (hp p List.mem_cons_self) h1 h3
  exact⟨s2,h5,s1,h6,h4⟩
end
end Go.AM
namespace Go.AM
set_option linter.unusedSectionVars false
variable [uy]
section
variable (c:Ctx) (n:Nat) (ops:Array Oper)
def dN(i:Nat)(s s':F×St)(k:RK):Prop:=∃ o,ops[i]? = some o/\uq n o.dst=true /\
 ((wD ops s.1 o=some true/\k=wA c (qt s.1) s.2 o/\∃ d zy,(zR (qO c (qt s.1) o) s.2).leads (d,zy)/\s'=(y7 s.1 o.dst d,zy)) \/
  (wD ops s.1 o=some false/\k=.z 0/\s'=(y7 s.1 o.dst (some O6),s.2)))
def Mk:List Nat->F×St->F×St->List RK->Prop
 | [],s,s',ks=>s'=s/\ks=[]
 | i::l,s,s',ks=>∃ s1 k Ii,ks=k::Ii/\dN c n ops i s s1 k/\Mk l s1 s' Ii
end
section
variable {c:Ctx} {n:Nat} {ops:Array Oper}
theorem dN.plain{i:Nat}{s s':F×St}{k:RK}(h:dN c n ops i s s' k):∃ k',gF c n ops i s s' k':=by
 obtain⟨o,h1,h2,h3⟩:=h
 rcases h3 with⟨g1,_,g3⟩ | ⟨g1,_,g3⟩
 ·exact⟨_,o,h1,h2,.inl ⟨g1,rfl,g3⟩⟩
 ·exact⟨_,o,h1,h2,.inr ⟨g1,rfl,g3⟩⟩
theorem FZ{i:Nat}{o:Oper}{s s':dS}(ho:ops[i]? = some o)(hk:uh s.kn s.fr.get)(h:(stepG c n ops o s).leads s') :
  ∃ k,dN c n ops i (s.fr.get,s.st) (s'.fr.get,s'.st) k/\uh s'.kn s'.fr.get/\s'.bk=k::s.bk:=by
 have bkS:∀ {s0:dS},(bK c n o s0).leads s'->s'.bk=wA c (jh s0.fr) s0.st o::s0.bk:=by
  intro s0 h
  unfold bK at h
  cases hd:uq n o.dst with
  | false=>rw[hd]at h; exact h.elim
  | true =>
   rw[hd,cond_true]at h
   simp only[T.zM]at h
   obtain⟨⟨d,zy⟩,h1,rfl⟩:=h
   rfl
 have run:∀ (s0:dS),s0.fr=s.fr->s0.st=s.st->s0.bk=s.bk->uh s0.kn s0.fr.get->wD ops s.fr.get o=some true->(bK c n o s0).leads s' ->
   ∃ k,dN c n ops i (s.fr.get,s.st) (s'.fr.get,s'.st) k/\uh s'.kn s'.fr.get/\s'.bk=k::s.bk:=by
  intro s0 e1 e2 e3 Bt hw h
  obtain⟨h1,⟨d,zy,h2,h3,h4⟩,h5,h6⟩:=J4 Bt h
  have hb:=bkS h
  rw[e1]at h2 h3 hb
  rw[e2]at h2 hb
  rw[e3]at hb
  rw[bM]at hb
  exact⟨_,⟨o,ho,h1,.inl ⟨hw,rfl,d,zy,h2,by rw[h3,h4]⟩⟩,h5,hb⟩
 have skip:∀ (s0:dS),s0.fr=s.fr->s0.st=s.st->s0.bk=s.bk->uh s0.kn s0.fr.get->wD ops s.fr.get o=some false->uq n o.dst=true->jT o s0=s' ->
   ∃ k,dN c n ops i (s.fr.get,s.st) (s'.fr.get,s'.st) k/\uh s'.kn s'.fr.get/\s'.bk=k::s.bk:=by
  intro s0 e1 e2 e3 Bt hw hd h
  subst h
  refine⟨.z 0,⟨o,ho,hd,.inr ⟨hw,rfl,?_⟩⟩,L4 Bt,by simp[jT,e3]⟩
  simp only[jT,mM,e1,e2]
 unfold stepG at h
 split at h
 ·rename_i hg
  exact run s rfl rfl rfl hk (by simp[wD,hg]) h
 ·rename_i j w hg
  split at h
  ·exact h.elim
  ·rename_i t ht
   split at h
   ·rename_i b hb
    have hf:=hk t b hb
    have hw:wD ops s.fr.get o=some (b==w):=by simp[wD,hg,ht,hf]
    cases Pn:(b==w)with
    | true=>grind
    | false =>
     rw[Pn,cond_false]at h
     cases hd:uq n o.dst with
     | false=>rw[hd]at h; exact h.elim
     | true=>rw[hd,cond_true]at h; exact skip s rfl rfl rfl hk (by rw[hw,Pn]) hd h
   ·split at h
    ·rename_i x hx
     have hw:wD ops s.fr.get o=some (x==w):=by simp[wD,hg,ht,hx]
     cases hd:uq n o.dst with
     | false=>rw[hd]at h; exact h.elim
     | true =>
      rw[hd,cond_true]at h
      rcases h with⟨rfl,h⟩ | ⟨rfl,h⟩
      ·have Bj:uh (s.cj t true).kn (s.cj t true).fr.get:=sn hk hx
       cases w with
       | true=>exact run (s.cj t true) rfl rfl rfl Bj hw h
       | false=>exact skip (s.cj t true) rfl rfl rfl Bj hw hd h
      ·have Bj:uh (s.cj t false).kn (s.cj t false).fr.get:=sn hk hx
       cases w with
       | true=>exact skip (s.cj t false) rfl rfl rfl Bj hw hd h
       | false=>exact run (s.cj t false) rfl rfl rfl Bj hw h
    ·rename_i hx
     have hw:wD ops s.fr.get o=some false:=by simp[wD,hg,ht,hx]
     cases hd:uq n o.dst with
     | false=>rw[hd]at h; exact h.elim
     | true=>rw[hd,cond_true]at h; exact skip s rfl rfl rfl hk hw hd h
    ·exact h.elim
theorem Wz:∀ (l:List Oper) (k0:Nat) (s s':dS),(∀ j,l[j]? = ops[k0+j]? \/ l.length<=j)->uh s.kn s.fr.get->(lJ c n ops l s).leads s' ->
  ∃ ks,Mk c n ops (List.range' k0 l.length) (s.fr.get,s.st) (s'.fr.get,s'.st) ks/\s'.bk=ks.reverse++s.bk
 | [],k0,s,s',_,hk,h=>by cases h; exact⟨[],⟨rfl,rfl⟩,rfl⟩
 | o::l,k0,s,s',hl,hk,h=>by
  simp only[lJ,T.zM]at h
  obtain⟨s1,h1,h2⟩:=h
  have ho:ops[k0]? = some o:=by rcases hl 0 with h | h<;>simp at h; exact h.symm
  obtain⟨k,g1,g2,g3⟩:=FZ ho hk h1
  obtain⟨ks,g4,g6⟩:=Wz l (k0+1) s1 s' (λj=>by have:=hl (j+1); simpa[Nat.add_assoc,Nat.add_comm 1 j]using this) g2 h2
  refine⟨k::ks,?_,by grind⟩
  exact⟨_,k,ks,rfl,g1,g4⟩
theorem Fu{m b:Nat}{l:List Nat}:b∈others m l↔b<m/\∀ x∈l,b≠x:=by
 simp only[others]
 simp
theorem N4{d:Option D}{b:Nat}(h:z6x d=some b):(∃ off,d=some (.ptr b off))\/∃ v e i off,d=some (.uY b v e i off):=by
 cases d with
 | none=>cases h
 | some d=>cases d<;>first | (cases h; exact .inl ⟨_,rfl⟩) | (cases h; exact .inr ⟨_,_,_,_,rfl⟩) | cases h
theorem Qy{bi:Builtin}{l:List (Option D)}:LQ bi l=.z 2\/∃ b v e off len x,bi=.append/\l=[some (.ms b v e off len),some x]/\Ym x=false/\LQ bi l=.up b:=by
 unfold LQ
 grind
theorem K3(ρ:Operand->Option D)(st:St)(o:Oper):(wA c ρ st o).base=(qO c ρ o).kind:=by
 unfold wA
 split
 ·rename_i h
  rw[h]
  cases o.op with
  | load t a=>simp only; split<;>rfl
  | _=>rfl
 ·rename_i h
  rw[h]
  cases o.op with
  | call cl =>
   cases hc:cl.callee with
   | builtin bi =>
    simp only[hc]
    rcases Qy (bi:=bi) (l:=cl.args.toList.map ρ)with e | ⟨b,v,e,off,len,x,_,_,_,e⟩<;>rw[e]<;>rfl
   | value f=>simp only[hc]; split<;>rfl
   | _=>simp only[hc]; rfl
  | store t a v=>simp only; split<;>rfl
  | _=>rfl
 ·rfl
theorem WQ{ρ:Operand->Option D}{o:Oper}(h:(qO c ρ o).kind<=1)(st zy:St):wA c ρ st o=wA c ρ zy o:=by
 unfold wA
 grind
theorem X6{ρ:Operand->Option D}{st:St}{o:Oper}{b:Nat}(h:wA c ρ st o=.rd b){b7 k8 Ci:St}{d:Option D}(hl:(zR (qO c ρ o) b7).leads (d,Ci))(hb:k8[b]? = b7[b]?):(zR (qO c ρ o) k8).leads (d,k8):=by
 obtain⟨dst,op,ty,pos,after,guard⟩:=o
 cases op with
 | load t a =>
  have h':(∃ off,ρ a=some (.ptr b off))\/∃ v e i off,ρ a=some (.uY b v e i off):=by
   unfold wA at h
   simp only at h
   split at h
   ·split at h
    ·rename_i b' ha; cases h; exact N4 ha
    ·cases h
   ·cases h
   ·cases h
  have he:qO c ρ ⟨dst,.load t a,ty,pos,after,guard⟩=JU c t (ρ a):=rfl
  rcases h' with⟨off,ha⟩ | ⟨v,e,i,off,ha⟩
  all_goals
   rw[he,ha]at hl ⊢
   simp only[JU]at hl ⊢
   rw[lY]at hl ⊢
   grind
 | call cl =>
  obtain⟨callee,args,oq⟩:=cl
  unfold wA at h
  split at h
  ·cases h
  ·cases callee with
   | builtin bi =>
    simp only at h
    rcases Qy (bi:=bi) (l:=args.toList.map ρ)with e | ⟨b,v,e,off,len,x,_,_,_,e⟩<;>rw[e]at h<;>cases h
   | value f=>grind
   | _=>cases h
  ·cases h
 | _ =>
  unfold wA at h
  grind
theorem Dt{ρ:Operand->Option D}{st:St}{o:Oper}{A:List Nat}(h:wA c ρ st o=.wr A){zy:St}{d:Option D}(hl:(zR (qO c ρ o) st).leads (d,zy)):∀ b∈A,zy[b]? = st[b]? := by
 obtain⟨dst,op,ty,pos,after,guard⟩:=o
 cases op with
 | alloc t =>
  have h':A=others st.length []:=by
   unfold wA at h
   grind
  subst h'
  intro b hb
  obtain⟨hb,_⟩:=Fu.1 hb
  have hl:(zR (mQ c t) st).leads (d,zy):=hl
  unfold mQ at hl
  split at hl
  ·rename_i z hz
   have hl:(some (D.ptr st.length 0),st++[yg.var z])=(d,zy):=hl
   grind
  ·exact absurd hl zh
 | store t a v =>
  exfalso
  unfold wA at h
  grind
 | call cl =>
  obtain⟨callee,args,oq⟩:=cl
  cases callee with
  | value f =>
   have h':(qO c ρ ⟨dst,.call ⟨.value f,args,oq⟩,ty,pos,after,guard⟩).kind=2/\∃ g caps l,ρ f=some (.xl g caps)/\j5 (args.toList.map ρ)=some l/\A=c.free (gD g) (jV g l caps) st:=by
    unfold wA at h
    grind
   obtain⟨hk,g,caps,l,hg,RL,rfl⟩:=h'
   intro b hb
   have he:qO c ρ ⟨dst,.call ⟨.value f,args,oq⟩,ty,pos,after,guard⟩=dI c (ρ f) (args.toList.map ρ):=rfl
   rw[he,hg]at hl hk
   simp only[dI,RL]at hl hk
   split at hl
   ·rename_i s hs
    rw[hs]at hk
    simp only[bw]at hk
    cases hn:(!(jV g l caps).any JH)<;>rw[hn]at hk<;>simp[cv.kind]at hk
   ·simp only[sJ,zR,T.zM]at hl
    obtain⟨⟨rs,b7⟩,h1,h2⟩:=hl
    cases rs with
    | ret ds=>cases h2; exact c.Tc _ _ _ _ _ b h1 hb
    | yk p=>exact h2.elim
  | builtin bi =>
   exfalso
   unfold wA at h
   simp only at h
   split at h
   ·cases h
   ·rcases Qy (bi:=bi) (l:=args.toList.map ρ)with e | ⟨b,v,e,off,len,x,_,_,_,e⟩<;>rw[e]at h<;>cases h
   ·cases h
  | invoke r m =>
   exfalso
   unfold wA at h
   simp only at h
   split at h<;>cases h
 | _ =>
  exfalso
  unfold wA at h
  simp only at h
  split at h
  ·first
    | cases h
    | (split at h<;>cases h)
  ·cases h
  ·cases h
theorem Qz{ρ:Operand->Option D}{st:St}{o:Oper}{b:Nat}(h:wA c ρ st o=.up b){b7 Ci:St}{d:Option D}(hl:(zR (qO c ρ o) b7).leads (d,Ci)) :
  ∃ y,Ci=b7.set b y/\∀ k8:St,k8[b]? = b7[b]? -> (zR (qO c ρ o) k8).leads (d,k8.set b y):=by
 obtain⟨dst,op,ty,pos,after,guard⟩:=o
 cases op with
 | store t a v =>
  have h':(∃ off,ρ a=some (.ptr b off))\/∃ v e i off,ρ a=some (.uY b v e i off):=by
   unfold wA at h
   simp only at h
   split at h
   ·cases h
   ·split at h
    ·rename_i b ha; cases h; exact N4 ha
    ·cases h
   ·cases h
  have he:qO c ρ ⟨dst,.store t a v,ty,pos,after,guard⟩=VD c t (ρ a) (ρ v):=rfl
  rw[he]at hl ⊢
  cases hv:ρ v with
  | none =>
   rw[hv]at hl
   rcases h' with⟨off,ha⟩ | ⟨w,e,i,off,ha⟩<;>(rw[ha]at hl; exact absurd hl zh)
  | some x =>
   rw[hv]at hl
   rcases h' with⟨off,ha⟩ | ⟨w,e,i,off,ha⟩
   ·rw[ha]at hl ⊢
    have hl:(match b7[b]? with
     | some (.var d)=>match Dm c t d off x with | some r=>bif nd d r then T.ret ((none:Option D),b7.set b (.var r))else .fail | none=>.fail
     | _=>.fail:T (Option D×St)).leads (d,Ci):=hl
    split at hl
    ·rename_i d0 hb
     split at hl
     ·rename_i r hr
      cases ho:nd d0 r with
      | false=>rw[ho]at hl; exact hl.elim
      | true =>
       rw[ho]at hl
       cases hl
       refine⟨.var r,rfl,λk8 h2 => ?_⟩
       show(match k8[b]? with
        | some (.var d)=>match Dm c t d off x with | some r=>bif nd d r then T.ret ((none:Option D),k8.set b (.var r))else .fail | none=>.fail
        | _=>.fail:T (Option D×St)).leads _
       rw[h2,hb]
       simp only[hr,ho,cond_true]
       rfl
     ·exact hl.elim
    ·exact hl.elim
   ·rw[ha]at hl ⊢
    have hl:(match b7[b]? with
     | some (.arr kG e' xs)=>bif decide (e'=e)then
       .zx (w=kG/\i<xs.length) (match Dm c t (.zC e' (xs.getD i (zn e'))) off x with
        | some r=>match iu e' r with | some y=>T.ret ((none:Option D),b7.set b (.arr kG e' (xs.set i y))) | none=>.fail
        | none=>.fail)
      else .fail
     | _=>.fail:T (Option D×St)).leads (d,Ci):=hl
    split at hl
    ·rename_i kG e' xs hb
     cases hd:decide (e'=e)with
     | false=>rw[hd]at hl; exact hl.elim
     | true =>
      rw[hd,cond_true]at hl
      obtain⟨ho,hl⟩:=hl
      split at hl
      ·rename_i r hr
       split at hl
       ·rename_i y hy
        cases hl
        refine⟨.arr kG e' (xs.set i y),rfl,λk8 h2 => ?_⟩
        show(match k8[b]? with
         | some (.arr kG e' xs)=>bif decide (e'=e)then
           .zx (w=kG/\i<xs.length) (match Dm c t (.zC e' (xs.getD i (zn e'))) off x with
            | some r=>match iu e' r with | some y=>T.ret ((none:Option D),k8.set b (.arr kG e' (xs.set i y))) | none=>.fail
            | none=>.fail)
          else .fail
         | _=>.fail:T (Option D×St)).leads _
        rw[h2,hb]
        simp only[hd,cond_true,hr,hy]
        exact⟨ho,rfl⟩
       ·exact hl.elim
      ·exact hl.elim
    ·exact hl.elim
 | call cl =>
  obtain⟨callee,args,oq⟩:=cl
  cases callee with
  | builtin bi =>
   have h':bi=.append/\∃ v e off len x,args.toList.map ρ=[some (.ms b v e off len),some x]/\Ym x=false:=by
    unfold wA at h
    simp only at h
    split at h
    ·cases h
    ·rcases Qy (bi:=bi) (l:=args.toList.map ρ)with e | ⟨b',v,e,off,len,x,h1,h2,h3,e'⟩
     ·grind
     ·rw[e']at h; cases h; exact⟨h1,v,e,off,len,x,h2,h3⟩
    ·cases h
   obtain⟨rfl,v,e,off,len,x,hx,hm⟩:=h'
   have he:qO c ρ ⟨dst,.call ⟨.builtin .append,args,oq⟩,ty,pos,after,guard⟩=mj c .append oq.toList (args.toList.map ρ):=rfl
   rw[he,hx]at hl ⊢
   -- what the row gets
   have one:∀ {e':Ty} {ys:List (den e')} {ne:Bool} {oD:Nat},(ko e' (.ms b v e off len) ys ne oD b7).leads (d,Ci)->∃ y,Ci=b7.set b y/\∀ k8:St,k8[b]? = b7[b]? -> (ko e' (.ms b v e off len) ys ne oD k8).leads (d,k8.set b y):=by
    intro e' ys ne oD hl
    simp only[ko]at hl
    split at hl
    ·rename_i kG e'' xs hb
     split at hl
     ·rename_i zs hz
      cases hd:decide (e=e')with
      | false=>rw[hd]at hl; exact hl.elim
      | true =>
       rw[hd,cond_true]at hl
       obtain⟨ho,hl⟩:=hl
       cases hl
       refine⟨_,rfl,λk8 h2 => ?_⟩
       simp only[ko]
       rw[h2,hb]
       simp only[hz,hd,cond_true]
       exact⟨ho,rfl⟩
     ·exact hl.elim
    ·exact hl.elim
   have snp:∀ k8,nY k8 x=.ret x:=λk8=>by cases x<;>first | rfl | cases hm
   generalize oq.toList=tl at hl ⊢
   rcases tl with _ | ⟨t,_ | ⟨t',_ | ⟨t'',tl⟩⟩⟩
   ·exact absurd hl zh
   ·exact absurd hl zh
   rotate_left
   ·exact absurd hl zh
   ·
    simp only[mj]at hl ⊢
    cases ht:Nat.beq t t' with
    | true =>
     rw[ht,cond_true]at hl
     simp only[cond_true]
     unfold X1 at hl ⊢
     cases het:iC c t with
     | none=>rw[het]at hl; exact absurd hl zh
     | some et =>
      rw[het]at hl
      simp only at hl ⊢
      cases h1:Bf c 20 et with
      | none=>rw[h1]at hl; exact absurd hl zh
      | some ee =>
       rw[h1]at hl
       try simp only at hl ⊢
       cases h2:mZ c et with
       | none=>rw[h2]at hl; exact absurd hl zh
       | some bytes =>
        rw[h2]at hl
        simp only at hl ⊢
        cases hc:kY c et ee&&Nat.blt 0 ee.size&&Nat.blt 0 bytes&&(zeroOf c et ee).isSome with
        | false=>rw[hc]at hl; exact absurd hl zh
        | true =>
         rw[hc,cond_true]at hl
         simp only[cond_true,zR,snp,T.bind]at hl ⊢
         cases x<;>simp only at hl ⊢ <;> first | exact hl.elim | exact one hl | skip
         ·split at hl
          ·exact one hl
          ·exact hl.elim
         ·split at hl
          ·exact one hl
          ·exact hl.elim
    | false =>
     rw[ht,cond_false]at hl
     simp only[cond_false]
     unfold sI at hl ⊢
     cases het:iC c t with
     | none=>rw[het]at hl; exact absurd hl zh
     | some et =>
      rw[het]at hl
      simp only at hl ⊢
      split at hl
      ·rename_i bytes h1 h2 h3
       cases hc:kY c et (.int .u8)&&Nat.blt 0 bytes&&(zeroOf c et (.int .u8)).isSome with
       | false=>rw[hc]at hl; exact absurd hl zh
       | true =>
        rw[hc,cond_true]at hl
        simp only[cond_true]
        split at hl
        ·rename_i s l e1 e2
         cases e1
         cases e2
         simp only[zR]at hl ⊢
         exact one hl
        ·exact absurd hl zh
      ·exact absurd hl zh
  | _ =>
   exfalso
   unfold wA at h
   simp only at h
   split at h
   ·cases h
   ·first | cases h | (split at h<;>cases h)
   ·cases h
 | _ =>
  exfalso
  unfold wA at h
  simp only at h
  split at h
  ·first
    | cases h
    | (split at h<;>cases h)
  ·cases h
  ·cases h
theorem YQ:∀ (l:List Nat) (s s':F×St) (ks:List RK),Mk c n ops l s s' ks->ks.length=l.length
 | [],_,_,_,h=>by rw[h.2]; rfl
 | i::l,s,s',ks,⟨s1,k,Ii,e,h1,h2⟩=>by subst e; simp[YQ l s1 s' Ii h2]
theorem p7{ρ:Operand->Option D}{st:St}{o:Oper}{b:Nat}(h:wA c ρ st o=.up b)(zy:St):wA c ρ zy o=.up b:=by
 obtain⟨dst,op,ty,pos,after,guard⟩:=o
 cases op with
 | alloc t =>
  unfold wA at h
  grind
 | call cl =>
  obtain⟨callee,args,oq⟩:=cl
  cases callee with
  | value f =>
   unfold wA at h
   grind
  | builtin bi=>cases bi<;>exact h
  | _=>exact h
 | _=>exact h
def z6R(ops:Array Oper)(kd:Nat->RK)(p i:Nat):Prop:=∀ x y,ops[p]? = some x->ops[i]? = some y ->
 (∀ d,x.dst=some d->d ∉ tmpsOf ops y)/\(∀ d,y.dst=some d->d ∉ tmpsOf ops x)/\uW (kd p) (kd i)=false
theorem sQ{f:F}{o:Oper}{dst:Option Nat}{d:Option D}{st:St}(h:∀ t,dst=some t->t ∉ tmpsOf ops o):wA c (qt (y7 f dst d)) st o=wA c (qt f) st o:=by
 have e1:qO c (qt (y7 f dst d)) o=qO c (qt f) o:=kM h
 have e2:∀ x∈o.op.operands,qt (y7 f dst d) x=qt f x:=λx hx=>G3 λt ht e=>h t ht (rN (ops:=ops) (e▸hx))
 obtain⟨dd,op,ty,pos,after,guard⟩:=o
 unfold wA
 rw[e1]
 cases op with
 | load t a=>simp only[e2 a (by simp[Op.operands])]
 | store t a v=>simp only[e2 a (by simp[Op.operands])]
 | call cl =>
  obtain⟨callee,args,oq⟩:=cl
  cases callee with
  | value g =>
   have cp:args.toList.map (qt (y7 f dst d))=args.toList.map (qt f):=List.map_congr_left λx hx=>e2 x (by simp[Op.operands,Call.operands,Array.mem_toList_iff.1 hx])
   simp only[cp,e2 g (by simp[Op.operands,Call.operands])]
  | builtin bi =>
   have cp:args.toList.map (qt (y7 f dst d))=args.toList.map (qt f):=List.map_congr_left λx hx=>e2 x (by simp[Op.operands,Call.operands,Array.mem_toList_iff.1 hx])
   grind
  | _=>rfl
 | _=>rfl
theorem Fv{kd:Nat->RK}{p i:Nat}(hi:z6R ops kd p i){s s1 s2:F×St}(h1:dN c n ops p s s1 (kd p))(h2:dN c n ops i s1 s2 (kd i)) :
  ∃ s',dN c n ops i s s' (kd i)/\dN c n ops p s' s2 (kd p):=by
 obtain⟨x,hx,hdx,ZG⟩:=h1
 obtain⟨y,hy,hdy,hy'⟩:=h2
 obtain⟨a1,a2,a3⟩:=hi x y hx hy
 have N6:∀ t,x.dst=some t->y.dst≠some t:=λt ht e=>a1 t ht (y3 e)
 obtain⟨f,st⟩:=s
 rcases ZG with⟨hw,hk,d,b7,hl,rfl⟩ | ⟨hw,hk,rfl⟩
 ·rcases hy' with⟨sS,cM,e,k8,iI,rfl⟩ | ⟨sS,cM,rfl⟩
  ·simp only[wz a1,kM (c:=c) a1,sQ (c:=c) a1]at sS cM iI
   simp only at hw hk hl
   -- the two meet nowhere in the store
   have key:∃ zy,(zR (qO c (qt f) y) st).leads (e,zy)/\(zR (qO c (qt f) x) zy).leads (d,k8)/\wA c (qt f) st y=kd i/\wA c (qt f) zy x=kd p:=by
    have bx:=K3 (c:=c) (qt f) st x
    have oD:=K3 (c:=c) (qt f) b7 y
    rw[<- hk]at bx
    rw[<- cM]at oD
    rcases Nat.lt_or_ge (qO c (qt f) x).kind 2 with Iz | Iz
    ·-- x writes nothing
     have e1:=dh (by omega) hl
     subst e1
     refine⟨k8,iI,?_,cM.symm,(WQ (by omega) k8 b7).trans hk.symm⟩
     rcases Nat.lt_or_ge (qO c (qt f) y).kind 2 with EF | EF
     ·have e2:=dh (by omega) iI
      grind
     ·have hy3:(qO c (qt f) y).kind=2:=Nat.le_antisymm (Xe _) EF
      cases hp:kd p with
      | rd b =>
       cases hq:kd i with
       | wr A =>
        rw[hp,hq]at a3
        simp only[uW,Bool.not_eq_false',List.any_eq_true]at a3
        obtain⟨b',BE,hbb⟩:=a3
        have:=Nat.eq_of_beq_eq_true hbb
        subst this
        exact X6 (by rw[<- hk]; exact hp) hl (Dt (by rw[<- cM]; exact hq) iI b BE)
       | rd b'=>rw[hq]at oD; simp[RK.base]at oD; omega
       | z k=>rw[hp,hq]at a3; rw[hq,hy3]at oD; simp only[RK.base]at oD; subst oD; simp[uW,uZ,RK.base]at a3
       | up a =>
        rw[hp,hq]at a3
        have Y8:a≠b:=λe=>by subst e; simp[uW]at a3
        obtain⟨z,e1,_⟩:=Qz (by rw[<- cM]; exact hq) iI
        subst e1
        exact X6 (by rw[<- hk]; exact hp) hl (by rw[List.getElem?_set_ne Y8])
      | wr A=>rw[hp]at bx; simp[RK.base]at bx; omega
      | up A=>rw[hp]at bx; simp[RK.base]at bx; omega
      | z k =>
       rw[hp]at bx
       simp only[RK.base]at bx
       have Bt:k=0:=by
        cases hq:kd i with
        | wr A =>
         rw[hp,hq]at a3
         simp only[uW,RK.base,uZ]at a3
         cases k with
         | zero=>rfl
         | succ m=>simp at a3
        | rd b'=>rw[hq]at oD; simp[RK.base]at oD; omega
        | z k' =>
         rw[hq,hy3]at oD
         simp only[RK.base]at oD
         subst oD
         rw[hp,hq]at a3
         simp only[uW,RK.base,uZ]at a3
         cases k with
         | zero=>rfl
         | succ m=>simp at a3
        | up A =>
         rw[hp,hq]at a3
         simp only[uW,RK.base,uZ]at a3
         cases k with
         | zero=>rfl
         | succ m=>simp at a3
       subst Bt
       exact(iM bx.symm hl).2 k8
    ·have hx3:(qO c (qt f) x).kind=2:=Nat.le_antisymm (Xe _) Iz
     -- x writes
     rcases Nat.lt_or_ge (qO c (qt f) y).kind 2 with EF | EF
     ·have e2:=dh (by omega) iI
      subst e2
      refine⟨st,?_,hl,(WQ (by omega) st k8).trans cM.symm,hk.symm⟩
      cases hq:kd i with
      | wr A=>rw[hq]at oD; simp[RK.base]at oD; omega
      | up A=>rw[hq]at oD; simp[RK.base]at oD; omega
      | rd b =>
       cases hp:kd p with
       | wr A =>
        rw[hp,hq]at a3
        simp only[uW,Bool.not_eq_false',List.any_eq_true]at a3
        obtain⟨b',BE,hbb⟩:=a3
        have:=Nat.eq_of_beq_eq_true hbb
        subst this
        exact X6 (st:=k8) (by rw[<- cM]; exact hq) iI (Dt (by rw[<- hk]; exact hp) hl b BE).symm
       | up a =>
        rw[hp,hq]at a3
        have Y8:a≠b:=λe=>by subst e; simp[uW]at a3
        obtain⟨z,e1,_⟩:=Qz (by rw[<- hk]; exact hp) hl
        subst e1
        exact X6 (st:=st.set a z) (by rw[<- cM]; exact hq) iI (by rw[List.getElem?_set_ne Y8])
       | rd b'=>rw[hp]at bx; simp[RK.base]at bx; omega
       | z k=>rw[hp]at bx; simp only[RK.base]at bx; rw[hx3]at bx; subst bx; rw[hp,hq]at a3; simp[uW,RK.base,uZ]at a3
      | z k =>
       rw[hq]at oD
       simp only[RK.base]at oD
       have Bt:k=0:=by
        have a4:uW (kd p) (.z k)=false:=by rw[hq]at a3; exact a3
        have a5:uZ 2 k=false:=by
         cases hp:kd p with
         | wr A=>rw[hp]at a4; exact a4
         | up A=>rw[hp]at a4; exact a4
         | rd b'=>rw[hp]at bx; simp[RK.base]at bx; omega
         | z k'=>rw[hp]at bx a4; simp only[RK.base]at bx; rw[hx3]at bx; subst bx; exact a4
        cases k with
        | zero=>rfl
        | succ m=>simp[uZ]at a5
       subst Bt
       exact(iM oD.symm iI).2 st
     ·have hy3:(qO c (qt f) y).kind=2:=Nat.le_antisymm (Xe _) EF
      -- both write: one block each
      have hup:∃ a b,kd p=.up a/\kd i=.up b/\a≠b:=by
       cases hp:kd p with
       | rd b'=>rw[hp]at bx; simp[RK.base]at bx; omega
       | up a =>
        cases hq:kd i with
        | up b=>rw[hp,hq]at a3; exact⟨a,b,rfl,rfl,λe=>by subst e; simp[uW]at a3⟩
        | rd b'=>rw[hq]at oD; simp[RK.base]at oD; omega
        | wr A=>rw[hp,hq]at a3; simp[uW,RK.base,uZ]at a3
        | z k=>rw[hq,hy3]at oD; simp only[RK.base]at oD; subst oD; rw[hp,hq]at a3; simp[uW,RK.base,uZ]at a3
       | wr A =>
        cases hq:kd i with
        | up b=>rw[hp,hq]at a3; simp[uW,RK.base,uZ]at a3
        | rd b'=>rw[hq]at oD; simp[RK.base]at oD; omega
        | wr B=>rw[hp,hq]at a3; simp[uW,RK.base,uZ]at a3
        | z k=>rw[hq,hy3]at oD; simp only[RK.base]at oD; subst oD; rw[hp,hq]at a3; simp[uW,RK.base,uZ]at a3
       | z k' =>
        rw[hp,hx3]at bx
        simp only[RK.base]at bx
        subst bx
        cases hq:kd i with
        | up b=>rw[hp,hq]at a3; simp[uW,RK.base,uZ]at a3
        | rd b'=>rw[hq]at oD; simp[RK.base]at oD; omega
        | wr B=>rw[hp,hq]at a3; simp[uW,RK.base,uZ]at a3
        | z k=>rw[hq,hy3]at oD; simp only[RK.base]at oD; subst oD; rw[hp,hq]at a3; simp[uW,RK.base,uZ]at a3
      obtain⟨a,b,hp,hq,Y8⟩:=hup
      obtain⟨z1,e1,w1⟩:=Qz (by rw[<- hk]; exact hp) hl
      subst e1
      obtain⟨z2,e2,w2⟩:=Qz (by rw[<- cM]; exact hq) iI
      subst e2
      refine⟨st.set b z2,w2 st (by rw[List.getElem?_set_ne Y8]),?_,(p7 (by rw[<- cM]; exact hq) st).trans hq.symm,(p7 (by rw[<- hk]; exact hp) _).trans hp.symm⟩
      rw[List.set_comm _ _ Y8]
      exact w1 (st.set b z2) (by rw[List.getElem?_set_ne (λe=>Y8 e.symm)])
   obtain⟨zy,k1,k2,k3,k4⟩:=key
   refine⟨_,⟨y,hy,hdy,.inl ⟨sS,k3.symm,e,_,k1,rfl⟩⟩,x,hx,hdx,.inl ⟨?_,?_,d,k8,?_,?_⟩⟩
   ·rw[wz a2]; exact hw
   ·rw[sQ (c:=c) a2]; exact k4.symm
   ·rw[kM (c:=c) a2]; exact k2
   ·simp only[gI f d e N6]
  ·simp only[wz a1]at sS
   refine⟨_,⟨y,hy,hdy,.inr ⟨sS,cM,rfl⟩⟩,x,hx,hdx,.inl ⟨?_,?_,d,b7,?_,?_⟩⟩
   ·rw[wz a2]; exact hw
   ·rw[sQ (c:=c) a2]; exact hk
   ·rw[kM (c:=c) a2]; exact hl
   ·simp only[gI f d (some O6) N6]
 ·rcases hy' with⟨sS,cM,e,k8,iI,rfl⟩ | ⟨sS,cM,rfl⟩
  ·simp only[wz a1,kM (c:=c) a1,sQ (c:=c) a1]at sS cM iI
   refine⟨_,⟨y,hy,hdy,.inl ⟨sS,cM,e,k8,iI,rfl⟩⟩,x,hx,hdx,.inr ⟨?_,hk,?_⟩⟩
   ·rw[wz a2]; exact hw
   ·simp only[gI f (some O6) e N6]
  ·simp only[wz a1]at sS
   refine⟨_,⟨y,hy,hdy,.inr ⟨sS,cM,rfl⟩⟩,x,hx,hdx,.inr ⟨?_,hk,?_⟩⟩
   ·rw[wz a2]; exact hw
   ·simp only[gI f (some O6) (some O6) N6]
end
end Go.AM
namespace Go.AM
set_option linter.unusedSectionVars false
variable [uy]
class Kq where
 df:List Deferred
instance J1:Kq:=⟨[]⟩
variable [Kq]
structure Rel(κ:KS)(n:Nat)(f:F)(a:Act):Prop where
 size:a.tmps.size=n
 defers:a.defers=Kq.df
 get:∀ (s:Nat) (d:D),f s=some d->∃ v,a.tmps[s]? = some v/\RD κ d v
section
variable {c:Ctx} {κ:KS} {n:Nat} {f:F} {a:Act}
theorem Rel.eval(h:Rel κ n f a){x:Operand}{d:D}(hx:qt f x=some d):RD κ d (a.eval x):=by
 cases x with
 | tmp t =>
  obtain⟨v,h1,h2⟩:=h.get t d hx
  simp only[Act.eval,Array.getD_eq_getD_getElem?,h1]
  exact h2
 | const v=>exact(Jy hx).1
 | global g=>cases hx
 | func g =>
  have hx:(bif Nat.blt g 1000000 then some (D.xl g [])else none)=some d:=hx
  cases hb:Nat.blt g 1000000 with
  | false=>grind
  | true =>
   rw[hb]at hx
   cases hx
   have:=RD.xl (κ:=κ) g [] [] rfl (λi h=>absurd h (Nat.not_lt_zero i))
   rwa [GV hb]at this
theorem Rel.mono{κ':KS}(x:Ext κ κ')(h:Rel κ n f a):Rel κ' n f a:=⟨h.size,h.defers,λs d hd=>by obtain⟨v,h1,h2⟩:=h.get s d hd; exact⟨v,h1,h2.mono x⟩⟩
theorem Rel.put{dst:Option Nat}{d:Option D}{v:Value}(h:Rel κ n f a)(hd:uq n dst=true)(hv:∀ d',d=some d'->RD κ d' v):Rel κ n (y7 f dst d) (a.put dst v):=by
 cases dst with
 | none=>exact h
 | some t =>
  have qD:t<n:=Nat.le_of_ble_eq_true hd
  refine⟨by simp[Act.put,h.size],h.defers,λs d' hs => ?_⟩
  simp only[y7]at hs
  simp only[Act.put]
  by_cases e:s=t
  ·subst e
   rw[if_pos rfl]at hs
   exact⟨v,by simp[h.size,qD],hv d' hs⟩
  ·rw[if_neg e]at hs
   obtain⟨u,h1,h2⟩:=h.get s d' hs
   grind
theorem PB{v:Value}:RD κ O6 undef:=.gE [] [] rfl (λi h=>absurd h (Nat.not_lt_zero i))
theorem z2d{o:Oper}{d:Option D}{zy:St}(h:qJ c.P (execOp a.eval o) κ d zy){K:Act->World->Prop}{Q:Exit->Act->World->Prop}
  (hK:∀ (v:Value) (κ':KS),κ'.st=zy->Inv κ'->Ext κ κ'->(∀ d',d=some d'->RD κ' d' v)->K (a.put o.dst v) κ'.w):o.wp c.P a κ.w K Q:=by
 obtain⟨κ',nx,v,h1,h2,h3,h4,h5,h6⟩:=h
 unfold Oper.wp
 rw[h1]
 rcases h2 with rfl | ⟨rfl,rfl⟩
 ·exact hK v κ' h3 h4 h5 h6
 ·exact hK undef κ' h3 h4 h5 h6
theorem IA(h:Rel κ n f a)(x:Option Operand):Wy κ (x.map (qt f)) (x.map a.eval):=by
 cases x with
 | none=>trivial
 | some x=>exact λy hy=>h.eval hy
theorem BA(hI:Inv κ)(hR:Rel κ n f a){b:Builtin}{args:Array Operand}{oq:Array TypeId}{o:Oper}(ho:o.op=.call ⟨.builtin b,args,oq⟩){d:Option D}{zy:St}
  (h:(zR (mj c b oq.toList (args.toList.map (qt f))) κ.st).leads (d,zy)):qJ c.P (execOp a.eval o) κ d zy:=by
 have two:∀ {g:Value->Value->Sem Value} {m:Int->Int->Int},(∀ k k' a b,(g (.int k a) (.int k' b)).run c.P κ.w=.ok (.int k (m a b)) κ.w)->(zR (Jt m (args.toList.map (qt f))) κ.st).leads (d,zy) ->
   (∀ p q,args = #[p,q]->execOp a.eval o=(do Pure.pure (.value (<- g (a.eval p) (a.eval q))):Sem Next))->qJ c.P (execOp a.eval o) κ d zy:=by
  intro g m hg h he
  match hl:args.toList,h with
  | [p,q],h =>
   have hpq:args = #[p,q]:=by rw[<- Array.toArray_toList (xs:=args),hl]
   rw[he p q hpq]
   obtain⟨r,h1,rfl,h3⟩:=Iu hg hI (λz hz=>hR.eval (x:=p) hz) (λz hz=>hR.eval (x:=q) hz) h
   exact⟨κ,.value r,r,by simp[h1],.inl rfl,rfl,hI,Ext.refl κ,h3⟩
  | [],h=>exact absurd h zh
  | [_],h=>exact absurd h zh
  | _::_::_::_,h=>exact absurd h zh
 unfold mj at h
 split at h
 ·rename_i t ts x xs h1 h2
  have ht:oq[0]? = some t:=by rw[<- Array.getElem?_toList,h1]; rfl
  obtain⟨y,hy,rfl⟩:∃ y,args[0]? = some y/\x=qt f y:=by
   cases hl:args.toList with
   | nil=>grind
   | cons y ys=>rw[hl]at h2; simp at h2; exact⟨y,by rw[<- Array.getElem?_toList,hl]; rfl,h2.1.symm⟩
  have:=z1V (c:=c) (ty:=o.type) (ts:=oq) (vs:=args.map a.eval) hI (λz hz=>hR.eval (x:=y) hz) ht (by simp[hy]) h
  simp only[execOp,ho,resolve,invoke,builtin,pure_bind]
  exact this
 ·rename_i t t' s x h1 h2
  obtain⟨p,q,rfl,rfl,hpq⟩:∃ p q,s=qt f p/\x=qt f q/\args = #[p,q]:=by
   cases hl:args.toList with
   | nil=>grind
   | cons p r=>rw[hl]at h2; cases r with
    | nil=>simp at h2
    | cons q r=>cases r with
     | nil=>grind
     | cons _ _=>simp at h2
  subst hpq
  cases hb:Nat.beq t t' with
  | false =>
   rw[hb,cond_false]at h
   have Sl:oq = #[t,t']:=by rw[<- Array.toArray_toList (xs:=oq),h1]
   subst Sl
   have:=Jx (c:=c) (ty:=o.type) hI (λz hz=>hR.eval (x:=p) hz) (λz hz=>hR.eval (x:=q) hz) h
   have e2:(#[p,q]:Array Operand).map a.eval = #[a.eval p,a.eval q]:=by simp
   simp only[execOp,ho,resolve,invoke,builtin,pure_bind,e2]
   exact this
  | true =>
   rw[hb,cond_true]at h
   have e:=Nat.eq_of_beq_eq_true hb
   subst e
   have Sl:oq = #[t,t]:=by rw[<- Array.toArray_toList (xs:=oq),h1]
   subst Sl
   have:=Cm (c:=c) (ty:=o.type) hI (λz hz=>hR.eval (x:=p) hz) (λz hz=>hR.eval (x:=q) hz) h
   have e2:(#[p,q]:Array Operand).map a.eval = #[a.eval p,a.eval q]:=by simp
   simp only[execOp,ho,resolve,invoke,builtin,pure_bind,e2]
   exact this
 ·rename_i t t' s x h1 h2
  obtain⟨p,q,rfl,rfl,hpq⟩:∃ p q,s=qt f p/\x=qt f q/\args = #[p,q]:=by
   cases hl:args.toList with
   | nil=>grind
   | cons p r=>rw[hl]at h2; cases r with
    | nil=>simp at h2
    | cons q r=>cases r with
     | nil=>simp at h2; exact⟨p,q,h2.1.symm,h2.2.symm,by rw[<- Array.toArray_toList (xs:=args),hl]⟩
     | cons _ _=>simp at h2
  subst hpq
  have Sl:oq = #[t,t']:=by rw[<- Array.toArray_toList (xs:=oq),h1]
  subst Sl
  have:=Ny (c:=c) (ty:=o.type) (t':=t') hI (λz hz=>hR.eval (x:=p) hz) (λz hz=>hR.eval (x:=q) hz) h
  have e2:(#[p,q]:Array Operand).map a.eval = #[a.eval p,a.eval q]:=by simp
  simp only[execOp,ho,resolve,invoke,builtin,pure_bind,e2]
  exact this
 ·rename_i h2
  exact two (g:=Builtin.min2) (λk k' a b=>by simp[Builtin.min2,Vj]) h λp q hpq=>by
   subst hpq
   have e2:(#[p,q]:Array Operand).map a.eval = #[a.eval p,a.eval q]:=by simp
   simp only[execOp,ho,resolve,invoke,builtin,pure_bind,e2]
   simp[Builtin.min_]
 ·rename_i h2
  exact two (g:=Builtin.max2) (λk k' a b=>by simp[Builtin.max2,nO]) h λp q hpq=>by
   subst hpq
   have e2:(#[p,q]:Array Operand).map a.eval = #[a.eval p,a.eval q]:=by simp
   simp only[execOp,ho,resolve,invoke,builtin,pure_bind,e2]
   simp[Builtin.max_]
 ·exact absurd h zh
theorem z1T{o:Oper}{g:Nat}{caps:Array Value}{args:Array Value}{R:Ending->World->Prop}(wY:(execOp a.eval o).run c.P κ.w=(callFunc g args).run c.P κ.w)
  (h:j7 c.P g args κ.w R) {K:Act->World->Prop} {Q:Exit->Act->World->Prop} (hR:∀ e w',R e w'->∃ v,e=.returned v/\K (a.put o.dst v) w'):o.wp c.P a κ.w K Q:=by
 unfold Oper.wp
 rw[wY]
 rcases h with⟨h1,h2⟩ | ⟨v,w',h1,h2⟩
 ·rw[h1]
  refine h2.mono λe w' he => ?_
  grind
 ·rw[h1]
  obtain⟨u,hu,hk⟩:=hR _ _ h2
  cases hu
  exact hk
theorem Uu(g:Nat){l caps:List D}{vs us:List Value}(h1:qN κ l vs)(h2:qN κ caps us):qN κ (jV g l caps) (jV g vs us):=by
 unfold jV
 cases Nat.ble 1000000 g with
 | true=>exact h2.append h1
 | false=>exact h1.append h2
theorem CV{dst:Option Nat}{p:Operand}{args:Array Operand}{oq:Array TypeId}{ty:TypeId}{pos:String}{after:Array Edge}{guard:Option (Nat×Bool)}{g:Nat}{us:List Value}{P:Program}{w:World}(BQ:a.eval p=oz g us) :
  (execOp a.eval ⟨dst,.call ⟨.value p,args,oq⟩,ty,pos,after,guard⟩).run P w=(callFunc (gD g) (jV g (args.toList.map a.eval) us).toArray).run P w:=by
 unfold oz at BQ
 unfold gD jV
 cases hb:Nat.ble 1000000 g with
 | true =>
  rw[hb]at BQ
  simp at BQ ⊢
  have e:us.toArray++args.map a.eval=(us++args.toList.map a.eval).toArray:=by apply Array.ext'; simp
  simp only[execOp,resolve,BQ,Deferred.ofValue,pure_bind,invoke,Array.append_empty,e]
 | false =>
  rw[hb]at BQ
  simp at BQ ⊢
  have e:args.map a.eval++us.toArray=(args.toList.map a.eval++us).toArray:=by apply Array.ext'; simp
  simp only[execOp,resolve,BQ,Deferred.ofValue,pure_bind,invoke,Array.empty_append,e]
theorem Dl{o:Oper}{d:Option D}{zy:St}(hC:∀ g,BC c.P g (c.fn g))(hI:Inv κ)(hR:Rel κ n f a)(h:(zR (qO c (qt f) o) κ.st).leads (d,zy)){K:Act->World->Prop}{Q:Exit->Act->World->Prop}
  (hK:∀ (v:Value) (κ':KS),κ'.st=zy->Inv κ'->Ext κ κ'->(∀ d',d=some d'->RD κ' d' v)->K (a.put o.dst v) κ'.w):o.wp c.P a κ.w K Q:=by
 have iB:∀ (x:Operand) (z:D),qt f x=some z->RD κ z (a.eval x):=λx z hz=>hR.eval hz
 obtain⟨dst,op,ty,pos,after,guard⟩:=o
 have fin:qJ c.P (execOp a.eval ⟨dst,op,ty,pos,after,guard⟩) κ d zy->Oper.wp c.P ⟨dst,op,ty,pos,after,guard⟩ a κ.w K Q:=λhd=>z2d hd hK
 cases op with
 | move x =>
  simp only[qO,vF,T.leads]at h
  obtain⟨h,rfl⟩:=h
  exact fin (qJ.val hI λd' yw=>iB x d' (h.trans yw))
 | assign x =>
  simp only[qO,vF,T.leads]at h
  obtain⟨h,rfl⟩:=h
  exact fin (qJ.val hI λd' yw=>iB x d' (h.trans yw))
 | pick x p q =>
  simp only[qO,EY]at h
  split at h
  ·rename_i b hb
   have hv:=sW hb (iB x)
   rw[vF]at h
   obtain⟨h,rfl⟩:=h
   refine fin ⟨κ,.value (if b then a.eval p else a.eval q),if b then a.eval p else a.eval q,?_,.inl rfl,rfl,hI,Ext.refl κ,λd' yw => ?_⟩
   ·simp[execOp,hv,Go.asBool]
   ·rcases h with⟨rfl,h⟩ | ⟨rfl,h⟩
    ·exact iB p d' (h.trans yw)
    ·exact iB q d' (h.trans yw)
  ·exact absurd h zh
 | alloc t=>exact fin (EA hI h)
 | box t x=>exact fin (FB hI (iB x) h)
 | load t x=>exact fin (Nz hI (iB x) h)
 | store t x y=>exact fin (EM hI (iB x) (iB y) h)
 | nilCheck x=>exact fin (Y4 rfl hI (iB x) h)
 | binOp op t x y ty' =>
  have h:(zR (FR c op t y (qt f x) (qt f y)) κ.st).leads (d,zy):=h
  unfold FR at h
  split at h
  ·exact fin (EL hI (iB x) h)
  ·exact fin (RW hI (iB x) (iB y) h)
 | typeAssert x xt t ok=>exact fin (Vw hI (iB x) h)
 | unOp op t x=>exact fin (z2C hI (iB x) h)
 | convert s t x=>exact fin (Hb hI (iB x) h)
 | makeInterface t x=>exact fin (Jo hI (iB x) h)
 | makeFunc fn first cap =>
  cases fn with
  | func g =>
   simp only[qO]at h
   cases hb:Nat.beq first.size 0&&Nat.blt g 1000000 with
   | false =>
    rw[hb,cond_false]at h
    cases By:Nat.beq cap.size 0&&Nat.blt g 1000000 with
    | false=>rw[By]at h; exact absurd h zh
    | true =>
     rw[By,cond_true]at h
     simp only[Bool.and_eq_true]at By
     have hf:cap = #[]:=Array.eq_empty_of_size_eq_zero (Nat.eq_of_beq_eq_true By.1)
     subst hf
     split at h
     ·rename_i l hl
      rw[kS]at h
      obtain⟨rfl,rfl⟩:=h
      have hr:=gH (κ:=κ) (vs:=first.toList.map a.eval) hl (by simp) (λi d v hd hv=>by
       simp only[List.getElem?_map]at hd hv
       cases hi:first.toList[i]? with
       | none=>grind
       | some x=>rw[hi]at hd hv; simp at hd hv; subst hv; exact iB x d hd)
      refine fin (qJ.pure hI ?_ (.xl (g+1000000) l _ hr.1 hr.2))
      have e:(first.toList.map a.eval).toArray=first.map a.eval:=by apply Array.ext'; simp
      rw[ED By.2,e]
      simp[Instr.makeFunc]
     ·exact absurd h zh
   | true =>
    rw[hb,cond_true]at h
    simp only[Bool.and_eq_true]at hb
    have hf:first = #[]:=Array.eq_empty_of_size_eq_zero (Nat.eq_of_beq_eq_true hb.1)
    subst hf
    split at h
    ·rename_i l hl
     rw[kS]at h
     obtain⟨rfl,rfl⟩:=h
     have hr:=gH (κ:=κ) (vs:=cap.toList.map a.eval) hl (by simp) (λi d v hd hv=>by
      simp only[List.getElem?_map]at hd hv
      cases hi:cap.toList[i]? with
      | none=>grind
      | some x=>rw[hi]at hd hv; simp at hd hv; subst hv; exact iB x d hd)
     refine fin (qJ.pure hI ?_ (.xl g l _ hr.1 hr.2))
     have e:(cap.toList.map a.eval).toArray=cap.map a.eval:=by apply Array.ext'; simp
     rw[GV hb.2,e]
     simp[Instr.makeFunc]
    ·exact absurd h zh
  | _=>exact absurd h zh
 | makeSlice t x y=>exact fin (Pb hI (iB x) (iB y) h)
 | slice t x lo hi mx=>exact fin (EV hI (iB x) (IA hR lo) (IA hR hi) (IA hR mx) h)
 | fieldAddr s x fl=>exact fin (Ug hI (iB x) h)
 | field s x fl=>exact fin (I3 hI (iB x) h)
 | indexAddr t x i=>exact fin (JF hI (iB x) (iB i) h)
 | index t x i=>exact fin (EI hI (iB x) (iB i) h)
 | extract x i=>exact fin (Bp hI (iB x) h)
 | build t ps =>
  have:=F6 (L:=ps.toList) (G:=a.eval) hI iB h
  refine fin ?_
  have e:(ps.toList.map λp=>(p.1,a.eval p.2)).toArray=ps.map λp=>(p.1,a.eval p.2):=by apply Array.ext'; simp
  rw[e]at this
  exact this
 | buildSlice t k ps =>
  have:=Vt (L:=ps.toList) (G:=a.eval) hI iB h
  refine fin ?_
  have e:(ps.toList.map λp=>(p.1,a.eval p.2)).toArray=ps.map λp=>(p.1,a.eval p.2):=by apply Array.ext'; simp
  rw[e]at this
  exact this
 | call cl =>
  obtain⟨callee,args,oq⟩:=cl
  cases callee with
  | builtin b=>exact fin (BA hI hR rfl h)
  | invoke r m=>exact absurd h zh
  | value p =>
   simp only[qO,dI]at h
   split at h
   ·rename_i g caps l hp hl
    have hpv:=iB p _ hp
    have hr:=gH (κ:=κ) (vs:=args.toList.map a.eval) hl (by simp) (λi d v hd hv=>by
      simp only[List.getElem?_map]at hd hv
      cases hi:args.toList[i]? with
      | none=>rw[hi]at hd; cases hd
      | some x=>rw[hi]at hd hv; simp at hd hv; subst hv; exact iB x d hd)
    generalize BQ:a.eval p=pv at hpv
    cases hpv with
    | xl _ _ us iI hh2 =>
     have pR:=Uu g hr (⟨iI,hh2⟩:qN κ caps us)
     refine z1T (c:=c) (κ:=κ) (g:=gD g) (caps := #[]) (args:=(jV g (args.toList.map a.eval) us).toArray) ?_ (O5 (hC (gD g)) hI pR h) ?_
     ·exact CV BQ
     ·rintro e w' ⟨κ',v,rfl,h1,h2,h3,rfl,h4⟩
      exact⟨v,rfl,hK v κ' h1 h2 h3 h4⟩
   ·exact absurd h zh
 | _=>exact absurd h zh
end
end Go.AM
namespace Go.AM
set_option linter.unusedSectionVars false
variable [uy] [Kq]
section
variable {c:Ctx} {n:Nat} {ops:Array Oper}
theorem He(j:Nat):jf ops j=(ops[j]?).bind (·.dst):=by
 unfold jf; cases ops[j]? <;> rfl
theorem mn{κ:KS}{f:F}{a:Act}{o:Oper}{b:Bool}(hR:Rel κ n f a)(h:wD ops f o=some b):Region.wanted o (yielded ops a.tmps)=b:=by
 unfold wD at h
 unfold Region.wanted
 split at h
 ·grind
 ·rename_i j w hg
  rw[hg]
  split at h
  ·cases h
  ·rename_i t ht
   rw[He]at ht
   simp only[yielded,ht,Option.bind_some]
   split at h
   ·rename_i x hx
    obtain⟨v,h1,h2⟩:=hR.get t _ hx
    have:=h2.kt
    cases h
    grind
   ·rename_i hx
    obtain⟨v,h1,h2⟩:=hR.get t _ hx
    cases h
    rw[h1]
    cases h2 with
    | gE _ vs hl hh=>rfl
   ·cases h
def eZ(ops:Array Oper)(a a':Act):Prop:=∀ s:Nat,(∀ o∈ops.toList,o.dst≠some s)->a'.tmps[s]? = a.tmps[s]?
theorem eZ.refl(ops:Array Oper)(a:Act):eZ ops a a:=λ_ _=>rfl
theorem eZ.trans{ops:Array Oper}{a b d:Act}(h:eZ ops a b)(k:eZ ops b d):eZ ops a d:=λs hs=>(k s hs).trans (h s hs)
theorem pZ{ops:Array Oper}{i:Nat}{o:Oper}{a:Act}{v:Value}(ho:ops[i]? = some o):eZ ops a (a.put o.dst v):=by
 intro s hs
 have hm:o∈ops.toList:=by have:=Array.mem_of_getElem? ho; simpa using this
 have:=hs o hm
 cases hd:o.dst with
 | none=>rfl
 | some t =>
  rw[hd]at this
  have um:t≠s:=λe=>this (by rw[e])
  simp[Act.put,Array.getElem?_setIfInBounds_ne um]
theorem UO{κ:KS}{a:Act}{i k:Nat}{s s':F×St}(hC:∀ g,BC c.P g (c.fn g))(hI:Inv κ)(hR:Rel κ n s.1 a)(xV:κ.st=s.2)(h:gF c n ops i s s' k){K:Act->World->Prop}{Q:Exit->Act->World->Prop}
  (hK:∀ (a':Act) (κ':KS),κ'.st=s'.2->Inv κ'->Ext κ κ'->Rel κ' n s'.1 a'->eZ ops a a'->K a' κ'.w):wpOp c.P ops Q i K a κ.w:=by
 obtain⟨o,ho,hd,h⟩:=h
 unfold wpOp
 rw[ho]
 simp only
 rcases h with⟨hw,_,d,zy,hl,rfl⟩ | ⟨hw,_,rfl⟩
 ·rw[if_pos (mn hR hw)]
  refine .inl (Dl hC hI hR (xV▸hl) λv κ' h1 h2 h3 h4=>hK _ κ' h1 h2 h3 ((hR.mono h3).put hd h4) (pZ ho))
 ·rw[if_neg (by rw[mn hR hw]; exact Bool.false_ne_true)]
  exact hK _ κ xV hI (Ext.refl κ) (hR.put hd λd' yw=>by cases yw; exact PB (v:=undef)) (pZ ho)
theorem LB{Q:Exit->Act->World->Prop}(hC:∀ g,BC c.P g (c.fn g)):∀ (l:List Nat) {κ:KS} {a:Act} {s s':F×St} {ks:List Nat},Inv κ->Rel κ n s.1 a->κ.st=s.2->NS c n ops l s s' ks ->
  (∀ (a':Act) (κ':KS),κ'.st=s'.2->Inv κ'->Ext κ κ'->Rel κ' n s'.1 a'->eZ ops a a'->Q .normal a' κ'.w)->wpOps c.P ops Q l a κ.w
 | [],κ,a,s,s',ks,hI,hR,xV,h,hQ=>by
  obtain⟨rfl,_⟩:=h
  exact hQ a κ xV hI (Ext.refl κ) hR (eZ.refl _ _)
 | i::l,κ,a,s,s',ks,hI,hR,xV,h,hQ=>by
  obtain⟨s1,k,Ii,_,h1,h2⟩:=h
  refine UO hC hI hR xV h1 λa1 κ1 g1 g2 g3 g4 g5 => ?_
  exact LB hC l g2 g4 g1 h2 λa' κ' e1 e2 e3 e4 e5=>hQ a' κ' e1 e2 (g3.trans e3) e4 (g5.trans e5)
theorem XL{Q:Exit->Act->World->Prop}(hC:∀ g,BC c.P g (c.fn g)):∀ (l m:List Nat) {κ:KS} {a:Act} {s s':F×St} {ks:List Nat},Inv κ->Rel κ n s.1 a->κ.st=s.2->NS c n ops l s s' ks ->
  (∀ (a':Act) (κ':KS),κ'.st=s'.2->Inv κ'->Ext κ κ'->Rel κ' n s'.1 a'->eZ ops a a'->wpOps c.P ops Q m a' κ'.w)->wpOps c.P ops Q (l++m) a κ.w
 | [],m,κ,a,s,s',ks,hI,hR,xV,h,hQ=>by
  obtain⟨rfl,_⟩:=h
  exact hQ a κ xV hI (Ext.refl κ) hR (eZ.refl _ _)
 | i::l,m,κ,a,s,s',ks,hI,hR,xV,h,hQ=>by
  obtain⟨s1,k,Ii,_,h1,h2⟩:=h
  refine UO hC hI hR xV h1 λa1 κ1 g1 g2 g3 g4 g5 => ?_
  exact XL hC l m g2 g4 g1 h2 λa' κ' e1 e2 e3 e4 e5=>hQ a' κ' e1 e2 (g3.trans e3) e4 (g5.trans e5)
theorem Jh{kd:Nat->Nat}:∀ (l:List Nat) (s s':F×St) (ks:List Nat),NS c n ops l s s' ks->ks=l.map kd->oa c n ops kd l s s'
 | [],s,s',ks,h,_=>h.1
 | i::l,s,s',ks,⟨s1,k,Ii,e,h1,h2⟩,hk=>by
  subst e
  simp at hk
  obtain⟨rfl,hk⟩:=hk
  exact⟨s1,h1,Jh l s1 s' Ii h2 hk⟩
theorem CL:∀ (l:List Nat) (s s':F×St) (ks:List Nat),NS c n ops l s s' ks->ks.length=l.length
 | [],_,_,_,h=>by rw[h.2]
 | i::l,s,s',ks,⟨s1,k,Ii,e,h1,h2⟩=>by subst e; simp[CL l s1 s' Ii h2]
theorem Cn(acc:List Nat):∀ (es:List Edge) (s0 p:Nat),Nat.testBit (es.foldl (λs e=>bif Region.binds .any e then s ||| 2 ^ e.on ||| acc.getD e.on 0 else s) s0) p=true ->
  Nat.testBit s0 p=true\/∃ e∈es,Region.binds .any e=true/\(p=e.on\/Nat.testBit (acc.getD e.on 0) p=true)
 | [],s0,p,h=>.inl h
 | e::es,s0,p,h=>by
  rcases Cn acc es _ p h with h1 | ⟨e',h1,h2⟩
  ·grind
  ·grind
theorem n5:∀ (l:List Oper) (acc:List Nat),∃ r,xz l acc=acc++r/\r.length=l.length /\
  ∀ j o,l[j]? = some o->∀ p,Nat.testBit ((xz l acc).getD (acc.length+j) 0) p=true ->
   ∃ e∈o.after.toList,Region.binds .any e=true/\(p=e.on\/(e.on<acc.length+j/\Nat.testBit ((xz l acc).getD e.on 0) p=true))
 | [],acc=>⟨[],by simp[xz],rfl,λj o h=>by simp at h⟩
 | o::l,acc=>by
  let b:=o.after.toList.foldl (λs e=>bif Region.binds .any e then s ||| 2 ^ e.on ||| acc.getD e.on 0 else s) 0
  obtain⟨r,h1,h2,h3⟩:=n5 l (acc++[b])
  have hb:xz (o::l) acc=xz l (acc++[b]):=rfl
  have OH:∀ i,i<acc.length->(xz l (acc++[b])).getD i 0=acc.getD i 0:=λi hi=>by
   grind
  refine⟨b::r,by rw[hb,h1]; simp,by simp[h2],?_⟩
  rw[hb]
  intro j o' ho p hp
  cases j with
  | zero =>
   simp at ho
   subst ho
   have he:(xz l (acc++[b])).getD (acc.length+0) 0=b:=by rw[h1]; simp[List.getD]
   rw[he]at hp
   rcases Cn acc _ 0 p hp with h | ⟨e,k1,k2,k3⟩
   ·simp at h
   ·grind
  | succ j =>
   have:=h3 j o' (by simpa using ho) p (by rw[show(acc++[b]).length+j=acc.length+(j+1) by simp; omega]; exact hp)
   grind
theorem mX:∀ (l:List Oper) (k:Nat),bW l k=true->∀ j o,l[j]? = some o->∀ e∈o.after.toList,Region.binds .any e=true->e.on<k+j
 | [],_,_,j,o,h,_,_,_=>by simp at h
 | o::l,k,h,j,o',ho,e,he,hb=>by
  simp only[bW,Bool.and_eq_true,List.all_eq_true]at h
  cases j with
  | zero =>
   simp at ho
   subst ho
   have:=h.1 e he
   rw[hb]at this
   exact Nat.le_of_ble_eq_true this
  | succ j =>
   have:=mX l (k+1) h.2 j o' (by grind) e he hb
   omega
def RV{K:Type}(cl:K->K->Bool)(ops:Array Oper)(x:Oper)(kx:K)(y:Oper)(ky:K):Prop:=(∀ d,x.dst=some d->d ∉ tmpsOf ops y)/\(∀ d,y.dst=some d->d ∉ tmpsOf ops x)/\cl kx ky=false
theorem Cf{K:Type}{cl:K->K->Bool}{bs:List Nat}{xs:List (Nat×Option Nat×List Nat×K)}{j:Nat}{ky:K}{y:Oper}(h:FJ cl bs xs j y.dst (tmpsOf ops y) ky=true){i:Nat}{kx:K}{x:Oper}(hx:(i,x.dst,tmpsOf ops x,kx)∈xs) :
  ordered bs i j=true\/RV cl ops x kx y ky:=by
 simp only[FJ,List.all_eq_true]at h
 have:=h _ hx
 simp at this
 rcases this with h1 | ⟨⟨h1,h2⟩,h3⟩
 ·grind
 ·refine .inr ⟨λd hd hm => ?_,λd hd hm => ?_,h3⟩
  ·grind
  ·grind
theorem mW{K:Type}{cl:K->K->Bool}{bs:List Nat}:∀ (l:List Oper) (ks:List K) (k0:Nat) (xs:List (Nat×Option Nat×List Nat×K)),mY cl ops bs l ks k0 xs=true ->
  (∀ j y ky,l[j]? = some y->ks[j]? = some ky->(∀ i x kx,(i,x.dst,tmpsOf ops x,kx)∈xs->ordered bs i (k0+j)=true\/RV cl ops x kx y ky) /\
   (∀ i x kx,i<j->l[i]? = some x->ks[i]? = some kx->ordered bs (k0+i) (k0+j)=true\/RV cl ops x kx y ky))
 | [],_,_,_,_,j,y,ky,hy,_=>by simp at hy
 | o::l,[],_,_,h,_,_,_,_,_=>by simp[mY]at h
 | o::l,k::ks,k0,xs,h,j,y,ky,hy,hk=>by
  simp only[mY,Bool.and_eq_true]at h
  obtain⟨h1,h2⟩:=h
  have ih:=mW l ks (k0+1) _ h2
  cases j with
  | zero =>
   simp at hy hk
   subst hy hk
   exact⟨λi x kx hx=>by simpa using Cf h1 hx,λi x kx hi=>absurd hi (Nat.not_lt_zero i)⟩
  | succ j =>
   obtain⟨g1,g2⟩:=ih j y ky (by simpa using hy) (by simpa using hk)
   have e:k0+1+j=k0+(j+1):=by omega
   rw[e]at g1 g2
   refine⟨λi x kx hx=>g1 i x kx (List.mem_cons_of_mem _ hx),λi x kx hi hx hkx => ?_⟩
   cases i with
   | zero =>
    grind
   | succ i =>
    grind
def rest(ops:Array Oper)(listed:Array Bool):List Nat:=(List.range ops.size).filter λi => !listed.getD i true
def Zr(ops:Array Oper)(listed:Array Bool):Prop:=∀ q,q<ops.size->listed.getD q true=true->∀ p,ordered (xz ops.toList []) p q=true->p<ops.size->listed.getD p true=true
theorem jD{listed:Array Bool}{i j:Nat}(hi:i<listed.size):(listed.setIfInBounds i true).getD j true=if j=i then true else listed.getD j true:=by
 simp
 grind
theorem bN{p q:Nat->Bool}{i:Nat}:∀ (l:List Nat),l.Pairwise (· < ·)->i∈l->p i=true->(∀ j,q j=(p j && !(j==i))) ->
  ∃ pre post,l.filter p=pre++i::post/\l.filter q=pre++post/\∀ x∈pre,p x=true/\x∈l/\x<i
 | [],_,hi,_,_=>by simp at hi
 | a::l,hn,hi,hp,hq=>by
  have hn':=List.pairwise_cons.1 hn
  by_cases ha:a=i
  ·subst ha
   refine⟨[],l.filter p,by grind,?_,by simp⟩
   have hqa:q a=false:=by rw[hq]; simp
   simp only[List.filter_cons,hqa]
   refine List.filter_congr λx hx => ?_
   rw[hq]
   have:(x==a)=false:=by simp; exact λe=>absurd (hn'.1 x hx) (by omega)
   simp[this]
  ·have KG:i∈l:=by rcases List.mem_cons.1 hi with h | h; exact absurd h.symm ha; exact h
   obtain⟨pre,post,h1,h2,h3⟩:=bN l hn'.2 KG hp hq
   grind
theorem nW{listed:Array Bool}{i:Nat}:i∈Region.ready .any ops listed↔i<ops.size/\listed.getD i true=false/\∀ o,ops[i]? = some o->∀ e∈o.after.toList,Region.binds .any e=true->listed.getD e.on false=true:=by
 unfold Region.ready
 simp only[List.mem_filter,List.mem_range,Bool.and_eq_true,Bool.not_eq_true']
 constructor
 ·rintro⟨h1,h2,h3⟩
  refine⟨h1,h2,λo ho e he hb => ?_⟩
  rw[ho]at h3
  simp only[Option.map_some,Option.getD_some,Array.all_eq_true_iff_forall_mem]at h3
  grind
 ·grind
theorem JE(Iw:bW ops.toList 0=true){listed:Array Bool}(jA:listed.size=ops.size):Region.ready .any ops listed=[]->rest ops listed=[]:=by
 intro hr
 cases hre:rest ops listed with
 | nil=>rfl
 | cons i l =>
  have hi:i∈rest ops listed:=by rw[hre]; exact List.mem_cons_self
  simp only[rest,List.mem_filter,List.mem_range,Bool.not_eq_true']at hi
  have z7C:∀ j,j<i->listed.getD j true=true:=by
   intro j hj
   cases hl:listed.getD j true with
   | true=>rfl
   | false =>
    have hpw:(rest ops listed).Pairwise (· < ·):=List.Pairwise.filter _ List.pairwise_lt_range
    have hjm:j∈rest ops listed:=by simp only[rest,List.mem_filter,List.mem_range,Bool.not_eq_true']; exact⟨by omega,hl⟩
    rw[hre]at hpw hjm
    rcases List.mem_cons.1 hjm with rfl | hjm
    ·grind
    ·have:=(List.pairwise_cons.1 hpw).1 j hjm; omega
  have:i∈Region.ready .any ops listed:=by
   rw[nW]
   refine⟨hi.1,hi.2,λo ho e he hb => ?_⟩
   have qD:=mX ops.toList 0 Iw i o (by grind) e he hb
   grind
  grind
def JA(Stp:Nat->F×St->F×St->Prop):List Nat->F×St->F×St->Prop
 | [],s,s'=>s'=s
 | i::l,s,s'=>∃ s1,Stp i s s1/\JA Stp l s1 s'
theorem Gj{Stp:Nat->F×St->F×St->Prop}{In:Nat->Nat->Prop}(E6:∀ p i,In p i->∀ s s1 s2,Stp p s s1->Stp i s1 s2->∃ s',Stp i s s'/\Stp p s' s2){i:Nat}{post:List Nat}{s':F×St}:∀ {pre:List Nat} {s:F×St},(∀ p∈pre,In p i)->JA Stp (pre++i::post) s s' ->
  ∃ s1,Stp i s s1/\JA Stp (pre++post) s1 s'
 | [],s,_,h=>h
 | p::pre,s,hp,⟨sp,h1,h2⟩=>by
  obtain⟨s1,h3,h4⟩:=Gj E6 (λq hq=>hp q (List.mem_cons_of_mem _ hq)) h2
  obtain⟨s2,h5,h6⟩:=E6 _ _ (hp p List.mem_cons_self) _ _ _ h1 h3
  exact⟨s2,h5,s1,h6,h4⟩
theorem XX{Stp:Nat->F×St->F×St->Prop}{In:Nat->Nat->Prop}(RT:∀ i s s',Stp i s s'->∃ k,gF c n ops i s s' k)(E6:∀ p i,In p i->∀ s s1 s2,Stp p s s1->Stp i s1 s2->∃ s',Stp i s s'/\Stp p s' s2){Q:Exit->Act->World->Prop}(hC:∀ g,BC c.P g (c.fn g))(Iw:bW ops.toList 0=true)
  {sf:F×St}:∀ (fuel:Nat) (listed:Array Bool) {κ:KS} {a:Act} {s:F×St},(∀ p i,p<i->i<ops.size->listed.getD p true=false->ordered (xz ops.toList []) p i=true\/In p i) ->
  listed.size=ops.size->fuel=(rest ops listed).length->Zr ops listed->Inv κ->Rel κ n s.1 a->κ.st=s.2->JA Stp (rest ops listed) s sf ->
  (∀ (a':Act) (κ':KS),κ'.st=sf.2->Inv κ'->Ext κ κ'->Rel κ' n sf.1 a'->eZ ops a a'->Q .normal a' κ'.w)->wpAny c.P .any ops Q fuel listed a κ.w
 | fuel,listed,κ,a,s,yj,jA,hfuel,Xq,hI,hR,xV,wY,hQ=>by
  have z7f:=JE Iw (listed:=listed) jA
  have z0o:rest ops listed=[]->Q .normal a κ.w:=by
   intro h
   rw[h]at wY
   cases wY
   exact hQ a κ xV hI (Ext.refl κ) hR (eZ.refl _ _)
  cases fuel with
  | zero =>
   have hre:rest ops listed=[]:=List.eq_nil_of_length_eq_zero hfuel.symm
   refine⟨?_,z0o hre⟩
   apply List.eq_nil_iff_forall_not_mem.2
   intro i hi
   rw[nW]at hi
   have:i∈rest ops listed:=by simp only[rest,List.mem_filter,List.mem_range,Bool.not_eq_true']; exact⟨hi.1,hi.2.1⟩
   grind
  | succ fuel =>
   refine⟨λh=>z0o (z7f h),λi hi => ?_⟩
   rw[nW]at hi
   obtain⟨h1,h2,h3⟩:=hi
   have ho:ops[i]? = some ops[i]:=Array.getElem?_eq_getElem h1
   obtain⟨pre,post,g1,g2,g3⟩:=bN (p:=λi => !listed.getD i true) (q:=λj => !(listed.setIfInBounds i true).getD j true) (i:=i) (List.range ops.size) List.pairwise_lt_range
    (List.mem_range.2 h1) (by simp[h2]) (λj=>by
     rw[jD (by omega)]
     by_cases h:j=i
     ·grind
     ·simp[h])
   have Rx:∀ p,ordered (xz ops.toList []) p i=true->p<ops.size->listed.getD p true=true:=by
    intro p hp qD
    obtain⟨r,_,_,hb⟩:=n5 ops.toList []
    obtain⟨e,k1,k2,k3⟩:=hb i ops[i] (by simp) p (by simpa[ordered]using hp)
    have hle:=h3 _ ho e k1 k2
    have Ku:=mX ops.toList 0 Iw i ops[i] (by simp) e k1 k2
    have Kx:listed.getD e.on true=true:=by
     grind
    rcases k3 with rfl | ⟨_,k3⟩
    ·exact Kx
    ·exact Xq e.on (by omega) Kx p k3 qD
   have RA:∀ p∈pre,In p i:=by
    grind
   have BN:JA Stp (pre++i::post) s sf:=by
    have:rest ops listed=pre++i::post:=g1
    grind
   obtain⟨s1,k1,k2⟩:=Gj E6 RA BN
   have pj:rest ops (listed.setIfInBounds i true)=pre++post:=g2
   obtain⟨kk,k1⟩:=RT _ _ _ k1
   refine UO hC hI hR xV k1 λa1 κ1 e1 e2 e3 e4 e5 => ?_
   refine XX RT E6 hC Iw fuel (listed.setIfInBounds i true) (λp j hpj hj hp=>yj p j hpj hj (by
    rw[jD (by omega)]at hp
    split at hp
    ·cases hp
    ·exact hp)) (by simp[jA]) ?_ ?_ e2 e4 e1 (by rw[pj]; exact k2) λa' κ' d1 d2 d3 d4 d5=>hQ a' κ' d1 d2 (e3.trans d3) d4 (e5.trans d5)
   ·have:rest ops listed=pre++i::post:=g1
    rw[this]at hfuel
    rw[pj]
    simp only[List.length_append,List.length_cons]at hfuel ⊢
    omega
   ·intro q hq NC p hp qD
    rw[jD (by omega)]at NC ⊢
    split
    ·rfl
    ·split at NC
     ·rename_i e; subst e; exact Rx p hp qD
     ·exact Xq q hq NC p hp qD
theorem E9{kd:Nat->Nat}:∀ (l:List Nat) (s s':F×St),oa c n ops kd l s s'->JA (λi s s'=>gF c n ops i s s' (kd i)) l s s'
 | [],_,_,h=>h
 | i::l,s,s',⟨s1,h1,h2⟩=>⟨s1,h1,E9 l s1 s' h2⟩
theorem JP{kd:Nat->Nat}{Q:Exit->Act->World->Prop}(hC:∀ g,BC c.P g (c.fn g))(Iw:bW ops.toList 0=true)
  {sf:F×St}:∀ (fuel:Nat) (listed:Array Bool) {κ:KS} {a:Act} {s:F×St},(∀ p i,p<i->i<ops.size->listed.getD p true=false->ordered (xz ops.toList []) p i=true\/Ind ops kd p i) ->
  listed.size=ops.size->fuel=(rest ops listed).length->Zr ops listed->Inv κ->Rel κ n s.1 a->κ.st=s.2->oa c n ops kd (rest ops listed) s sf ->
  (∀ (a':Act) (κ':KS),κ'.st=sf.2->Inv κ'->Ext κ κ'->Rel κ' n sf.1 a'->eZ ops a a'->Q .normal a' κ'.w)->wpAny c.P .any ops Q fuel listed a κ.w
 | fuel,listed,κ,a,s,yj,jA,hfuel,Xq,hI,hR,xV,wY,hQ =>
  XX (Stp:=λi s s'=>gF c n ops i s s' (kd i)) (In:=λp i=>Ind ops kd p i) (λi s s' h=>⟨_,h⟩) (λp i hi s s1 s2 h1 h2=>Yp hi h1 h2) hC Iw fuel listed yj jA hfuel Xq hI hR xV (E9 _ _ _ wY) hQ
end
end Go.AM
namespace Go.AM
set_option linter.unusedSectionVars false
variable [uy] [Kq]
open Go.RowKit
structure Up(κ κ':KS):Prop where
 same:Ew κ.w κ'.w κ.ok κ'.ok
 var:∀ (b:Nat) (d:D),κ.st[b]? = some (.var d)->(∃ d',κ'.st[b]? = some (.var d'))/\κ'.ph[b]? = κ.ph[b]?
 old:∀ (b qK:Nat),Old κ.st b qK->Old κ'.st b qK
 row:∀ (b v:Nat) (e:Ty) (xs:List (den e)),Old κ.st b v->κ'.st[b]? = some (.arr v e xs)->κ.st[b]? = some (.arr v e xs)/\κ'.ph[b]? = κ.ph[b]?
theorem RD.up{κ κ':KS}(x:Up κ κ'){d:D}{v:Value}(h:RD κ d v):RD κ' d v:=by
 induction h with
 | zC τ y cs h=>exact .zC τ y cs (h.mono x.same)
 | xr e a=>exact .xr e a
 | tight e l ne blk off f um wU h hc=>exact .tight e l ne blk off f um (x.same _ wU).1 (λi hi=>(h i hi).mono x.same) λi hi j v hv=>by rw[cG (x.same _ wU).2]; exact hc i hi j v hv
 | xH=>exact .xH
 | yR=>exact .yR
 | xj=>exact .xj
 | uu=>exact .uu
 | uv=>exact .uv
 | tP v h=>exact .tP v h
 | dx T=>exact .dx T
 | dr b T d hd =>
  obtain⟨⟨d',yw⟩,hp⟩:=x.var b d hd
  exact .dr b T d' yw
 | dq b T blk n d hd h =>
  obtain⟨⟨d',yw⟩,hp⟩:=x.var b d hd
  exact .dq b T blk n d' yw (hp.trans h)
 | ptr b off blk n d hd h =>
  obtain⟨⟨d',yw⟩,hp⟩:=x.var b d hd
  exact .ptr b off blk n d' yw (hp.trans h)
 | xg τ y cs blk off wU h hc=>exact .xg τ y cs blk off (x.same _ wU).1 (h.mono x.same) λj v hv=>by rw[cG (x.same _ wU).2]; exact hc j v hv
 | uY b qK e idx off blk o hb h =>
  refine .uY b qK e idx off blk o (x.old b qK hb) λxs hx hi => ?_
  obtain⟨h1,h2⟩:=x.row b qK e xs hb hx
  grind
 | ms b qK e off len cap a hb vO ha mb h =>
  refine .ms b qK e off len cap a (x.old b qK hb) vO ha mb λxs hx => ?_
  obtain⟨h1,h2⟩:=x.row b qK e xs hb hx
  have:=h xs h1
  unfold IF at this ⊢
  grind
 | xl f l vs hl h ih=>exact .xl f l vs hl ih
 | agg l vs hl ho h ih=>exact .agg l vs hl ho ih
 | gE l vs hl h ih=>exact .gE l vs hl ih
 | iface t d v h ih=>exact .iface t d v ih
structure Nob(κ:KS)(blk:Nat):Prop where
 lt:blk<κ.w.heap.size
 ok:¬ κ.ok blk
 ph:∀ (b n:Nat),κ.ph[b]? ≠ some (some (blk,n))
theorem Nob.ext{κ κ':KS}(x:Ext κ κ'){blk:Nat}(h:Nob κ blk):Nob κ' blk/\κ'.w.heap[blk]? = κ.w.heap[blk]? := by
 refine⟨⟨Nat.lt_of_lt_of_le h.lt x.size,λhk => ?_,λb n hb => ?_⟩,x.frame blk h.lt h.ph⟩
 ·rcases x.fresh blk hk with h1 | h1 | ⟨b,n,h1⟩
  ·exact h.ok h1
  ·have:=h.lt; omega
  ·exact h.ph b n h1
 ·rcases x.phs b blk n hb with h1 | h1
  ·exact h.ph b n h1
  ·have:=h.lt; omega
def KS.push(κ:KS)(blk n:Nat)(d:D):KS:={ κ with ph:=κ.ph++[some (blk,n)],st:=κ.st++[.var d] }
theorem mA{α:Type}{l:List α}{x y:α}{b:Nat}(h:l[b]? = some y):(l++[x])[b]? = some y:=by grind
theorem sR{α:Type}{l:List α}{x y:α}{b:Nat}(h:(l++[x])[b]? = some y):l[b]? = some y\/(b=l.length/\y=x):=by grind
theorem Ln{κ:KS}(hI:Inv κ)(blk n:Nat)(d:D):Up κ (κ.push blk n d):=by
 have Yl:∀ {b:Nat} {y:yg},κ.st[b]? = some y->(κ.ph++[some (blk,n)])[b]? = κ.ph[b]? := λh=>by
  rw[List.getElem?_append_left]; rw[hI.len]; exact(List.getElem?_eq_some_iff.1 h).1
 refine⟨λk hk=>⟨hk,rfl⟩,λb d' h=>⟨⟨d',mA h⟩,Yl h⟩,λb qK h => ?_,λb v e xs ho h => ?_⟩
 ·rcases h with h | ⟨v0,e0,Zu,h,hv⟩
  ·exact .inl (mA h)
  ·exact .inr ⟨v0,e0,Zu,mA h,hv⟩
 ·rcases sR h with h1 | ⟨_,h1⟩
  ·exact⟨h1,Yl h1⟩
  ·cases h1
theorem z2v{κ0 κ:KS}{blk:Nat}{d:D}{z:Value}{t:TypeId}(hI:Inv κ)(hx:Ext κ0 κ)(hb:Nob κ blk)(h0:κ0.w.heap.size<=blk)(hz:RD κ d z)(ht:d.jl=false)(L0:∀ T,d.typed=some T->t=T)(hh:κ.w.heap[blk]? = some (.cells z.cells t (0,0))) :
  Inv (κ.push blk z.cells.size d)/\Ext κ0 (κ.push blk z.cells.size d)/\RD (κ.push blk z.cells.size d) (.ptr κ.st.length 0) (.pointer (some ⟨blk,0,none⟩)):=by
 have hu:=Ln hI blk z.cells.size d
 have xV:(κ.push blk z.cells.size d).st[κ.st.length]? = some (.var d):=by simp[KS.push]
 have Yl:(κ.push blk z.cells.size d).ph[κ.st.length]? = some (some (blk,z.cells.size)):=by simp[KS.push,<- hI.len]
 have Rk:∀ {b k m:Nat},(κ.push blk z.cells.size d).ph[b]? = some (some (k,m))->κ.ph[b]? = some (some (k,m))\/(b=κ.ph.length/\k=blk):=by
  intro b k m h
  rcases sR h with h1 | ⟨h1,h2⟩
  ·grind
  ·grind
 refine⟨⟨by simp[KS.push,hI.len],hI.gi,λb k m h => ?_,λb b' k m m' h h' => ?_,λb y h => ?_,hI.gl⟩,?_,.ptr _ 0 blk _ d xV Yl⟩
 ·rcases Rk h with h1 | ⟨_,rfl⟩
  ·exact hI.apart b k m h1
  ·exact⟨hb.lt,hb.ok⟩
 ·rcases Rk h with h1 | ⟨h1,rfl⟩
  ·rcases Rk h' with h2 | ⟨h2,rfl⟩
   ·exact hI.inj b b' k m m' h1 h2
   ·exact(hb.ph b m h1).elim
  ·rcases Rk h' with h2 | ⟨h2,_⟩
   ·exact(hb.ph b' m' h2).elim
   ·omega
 ·rcases sR h with h1 | ⟨h1,h2⟩
  ·have hp:(κ.push blk z.cells.size d).ph[b]? = κ.ph[b]? := by
    show(κ.ph++[_])[b]? = _
    grind
   have hy:=hI.blk b y h1
   cases y with
   | dead=>trivial
   | var d' =>
    obtain⟨k,m,cs,T,g1,g2,g3,g4,g5⟩:=hy
    exact⟨k,m,cs,T,hp.trans g1,g2,g3,⟨g4.1,λi h1 h2=>(g4.2 i h1 h2).up hu⟩,g5⟩
   | arr qK e xs =>
    obtain⟨g0,g⟩:=hy
    refine⟨g0,fk g (λh=>⟨h.1,hp.trans h.2⟩) ?_⟩
    rintro⟨k,m,cs,T,g1,g2⟩
    exact⟨k,m,cs,T,hp.trans g1,g2⟩
  ·subst h1
   subst h2
   have hf:=jM hz ht
   exact⟨blk,z.cells.size,z.cells,t,Yl,hh,rfl,⟨hf.1,λi h1 h2=>(hf.2 i h1 h2).up hu⟩,jN hz,L0⟩
 ·refine⟨hx.os,hx.tape,hx.output,hx.size,hx.same,hx.fresh,λb k m h => ?_,λb d' h => ?_,λb v0 e xs h => ?_,λb h=>mA (hx.dead b h),Nat.le_trans hx.C0 (by simp[KS.push]),hx.frame⟩
  ·rcases Rk h with h1 | ⟨_,rfl⟩
   ·exact hx.phs b k m h1
   ·exact .inr h0
  ·obtain⟨⟨d1,h1⟩,h2⟩:=hx.var b d' h
   obtain⟨h3,h4⟩:=hu.var b d1 h1
   exact⟨h3,h4.trans h2⟩
  ·rcases hx.arr b v0 e xs h with h1 | ⟨v1,jI,h1,h2,h3⟩
   ·exact .inl (mA h1)
   ·refine .inr ⟨v1,jI,mA h1,h2,λhe=>⟨?_,(h3 he).2⟩⟩
    have hp:(κ.push blk z.cells.size d).ph[b]? = κ.ph[b]? := by
     show(κ.ph++[_])[b]? = _
     rw[List.getElem?_append_left]; rw[hI.len]; exact(List.getElem?_eq_some_iff.1 h1).1
    exact hp.trans (h3 he).1
theorem z38{κ:KS}(hI:Inv κ)(o:Obj):Inv { κ with w:=κ.w.alloc o }/\Ext κ { κ with w:=κ.w.alloc o }/\Nob { κ with w:=κ.w.alloc o } κ.w.heap.size/\(κ.w.alloc o).heap[κ.w.heap.size]? = some o:=by
 have hs:(κ.w.alloc o).heap.size=κ.w.heap.size+1:=by simp
 have hold:∀ k,k<κ.w.heap.size->(κ.w.alloc o).heap[k]? = κ.w.heap[k]? := λk hk=>by
  show(κ.w.heap.push o)[k]? = _
  grind
 have hx:Ext κ { κ with w:=κ.w.alloc o }:=⟨rfl,rfl,rfl,by simp,λk hk=>⟨hk,hold k (hI.gi k hk)⟩,λk hk=>.inl hk,λ_ _ _ h=>.inl h,λb d h=>⟨⟨d,h⟩,rfl⟩,
  λb v0 e xs h=>.inr ⟨v0,xs,h,Nat.le_refl _,λ_=>⟨rfl,rfl⟩⟩,λ_ h=>h,Nat.le_refl _,λk hk _=>hold k hk⟩
 refine⟨⟨hI.len,λk hk => ?_,λb blk n h => ?_,hI.inj,λb y hy=>(hI.blk b y hy).mono hx rfl λblk n h=>hold _ (hI.apart b blk n h).1,hI.gl.mono hx.same⟩,hx,⟨?_,λhk => ?_,λb n h => ?_⟩,?_⟩
 ·have:=hI.gi k hk; show k<(κ.w.alloc o).heap.size; omega
 ·have:=hI.apart b blk n h; exact⟨by grind,this.2⟩
 ·simp
 ·have:=hI.gi _ hk; omega
 ·have:=(hI.apart b _ n h).1; omega
 ·show(κ.w.heap.push o)[κ.w.heap.size]? = some o
  simp
section
variable {c:Ctx} {n:Nat} {ops:Array Oper}
structure Em where
 i:Nat
 d:Nat
 blk:Nat
 t:TypeId
 z:Value
 D:D
structure Ik(c:Ctx)(ops:Array Oper)(κ0 κ:KS)(a:Act)(e:Em):Prop where
 op:∃ o,ops[e.i]? = some o/\o.op=.alloc e.t/\o.guard=none/\o.dst=some e.d
 zero:WY c e.t=some e.D
 z:∃ i,c.P.info? e.t=some i/\i.zero=some e.z/\ZD e.t e.D e.z
 val:a.tmps[e.d]? = some (.pointer (some ⟨e.blk,0,none⟩))
 heap:κ.w.heap[e.blk]? = some (.cells e.z.cells e.t (0,0))
 nob:Nob κ e.blk
 new:κ0.w.heap.size<=e.blk
theorem Ik.mono{κ0 κ κ':KS}{a a':Act}{e:Em}(h:Ik c ops κ0 κ a e)(x:Ext κ κ')(ha:a'.tmps[e.d]? = a.tmps[e.d]?):Ik c ops κ0 κ' a' e:=by
 obtain⟨h1,h2⟩:=h.nob.ext x
 exact⟨h.op,h.zero,h.z,ha.trans h.val,h2.trans h.heap,h1,h.new⟩
def yf(es:List Em)(f:F):F:=λs=>if es.any (λe=>Nat.beq e.d s)then none else f s
theorem Qk{es:List Em}{f:F}{s:Nat}(h:∀ e∈es,e.d≠s):yf es f s=f s:=by
 unfold yf
 rw[if_neg]
 intro hh
 obtain⟨e,he,hb⟩:=List.any_eq_true.1 hh
 exact h e he (Nat.eq_of_beq_eq_true hb)
theorem Gy{es:List Em}{f:F}{s:Nat}{d:D}(h:yf es f s=some d):f s=some d/\∀ e∈es,e.d≠s:=by
 unfold yf at h
 split at h
 ·cases h
 ·rename_i hh
  refine⟨h,λe he hs=>hh (List.any_eq_true.2 ⟨e,he,?_⟩)⟩
  subst hs; simp
def fS(ops:Array Oper)(i:Nat):Prop:=∃ o,ops[i]? = some o/\Vy o=true
theorem NY{o:Oper}(h:Vy o=true):∃ t d,o.op=.alloc t/\o.guard=none/\o.dst=some d:=by
 unfold Vy at h
 simp only[Bool.and_eq_true]at h
 obtain⟨⟨h1,h2⟩,h3⟩:=h
 split at h1
 ·rename_i t ht
  obtain⟨d,hd⟩:=Option.isSome_iff_exists.1 h3
  exact⟨t,d,ht,Option.isNone_iff_eq_none.1 h2,hd⟩
 ·cases h1
theorem HU{o:Oper}{t d:Nat}(h1:o.op=.alloc t)(h2:o.guard=none)(h3:o.dst=some d):Vy o=true:=by
 unfold Vy; rw[h1,h2,h3]; rfl
theorem BJ{kd:Nat->Nat}:∀ {l:List Nat} {s sf:F×St} {i:Nat},oa c n ops kd l s sf->i∈l->∃ s1 s2,gF c n ops i s1 s2 (kd i)
 | [],_,_,_,_,h=>by cases h
 | j::l,s,sf,i,⟨s1,h1,h2⟩,h=>by
  rcases List.mem_cons.1 h with rfl | h
  ·grind
  ·exact BJ h2 h
theorem UJ{kd:Nat->Nat}{i t d:Nat}{o:Oper}(ho:ops[i]? = some o)(h1:o.op=.alloc t)(h2:o.guard=none)(h3:o.dst=some d){s s':F×St}(h:gF c n ops i s s' (kd i)) :
  ∃ D,WY c t=some D/\d<n/\s'=(y7 s.1 (some d) (some (.ptr s.2.length 0)),s.2++[.var D]):=by
 obtain⟨o',ho',hd,h⟩:=h
 rw[ho]at ho'
 cases ho'
 rw[h3]at hd
 have qD:d<n:=Nat.le_of_ble_eq_true hd
 have hw:wD ops s.1 o=some true:=by unfold wD; rw[h2]
 rcases h with⟨_,_,D,zy,hl,rfl⟩ | ⟨hw',_,_⟩
 ·have he:qO c (qt s.1) o=mQ c t:=by
   obtain⟨dst,op,ty,pos,after,guard⟩:=o
   cases h1
   rfl
  rw[he]at hl
  unfold mQ at hl
  split at hl
  ·rename_i y hy
   simp only[zR,T.leads]at hl
   grind
  ·exact absurd hl zh
 ·grind
theorem F5{es:List Em}{i k:Nat}{s s':F×St}(h:gF c n ops i s s' k)(hd:∀ o,ops[i]? = some o->∀ e∈es,e.d ∉ tmpsOf ops o) :
  gF c n ops i (yf es s.1,s.2) (yf es s'.1,s'.2) k:=by
 obtain⟨o,ho,z3Q,h⟩:=h
 have kl:=hd o ho
 have z9D:∀ x:Option D,y7 (yf es s.1) o.dst x=yf es (y7 s.1 o.dst x):=by
  intro x
  cases hds:o.dst with
  | none=>rfl
  | some t =>
   funext u
   simp only[y7,yf]
   by_cases hu:u=t
   ·subst hu
    rw[if_pos rfl]
    rw[if_neg,if_pos rfl]
    intro hh
    obtain⟨e,he,hb⟩:=List.any_eq_true.1 hh
    exact kl e he (by rw[Nat.eq_of_beq_eq_true hb]; exact y3 hds)
   ·grind
 have iB:∀ x∈o.op.operands,qt (yf es s.1) x=qt s.1 x:=by
  intro x hx
  cases x with
  | tmp t=>exact Qk λe he ht=>kl e he (ht▸rN hx)
  | _=>rfl
 have hw:wD ops (yf es s.1) o=wD ops s.1 o:=by
  unfold wD
  cases hg:o.guard with
  | none=>rfl
  | some jw =>
   obtain⟨j,w⟩:=jw
   simp only
   cases hs:jf ops j with
   | none=>rfl
   | some t =>
    simp only
    rw[Qk λe he ht=>kl e he (ht▸s7 hg hs)]
 refine⟨o,ho,z3Q,?_⟩
 rcases h with⟨h1,h2,d,zy,h3,rfl⟩ | ⟨h1,h2,rfl⟩
 ·refine .inl ⟨hw.trans h1,?_,d,zy,?_,?_⟩
  ·rw[show qO c (qt (yf es s.1)) o=qO c (qt s.1) o from ZH o iB]; exact h2
  ·rw[show qO c (qt (yf es s.1)) o=qO c (qt s.1) o from ZH o iB]; exact h3
  ·rw[z9D]
 ·grind
theorem Om{κ:KS}{a:Act}{i k:Nat}{s s':F×St}(hC:∀ g,BC c.P g (c.fn g))(hI:Inv κ)(hR:Rel κ n s.1 a)(xV:κ.st=s.2)(h:gF c n ops i s s' k){K:Act->World->Prop}{Q:Exit->Act->World->Prop}
  (hK:∀ (a':Act) (κ':KS),κ'.st=s'.2->Inv κ'->Ext κ κ'->Rel κ' n s'.1 a'->eZ ops a a'->(∀ u:Nat,(∀ o,ops[i]? = some o->o.dst≠some u)->a'.tmps[u]? = a.tmps[u]?)->K a' κ'.w):wpOp c.P ops Q i K a κ.w:=by
 obtain⟨o,ho,hd,h⟩:=h
 have hu:∀ (v:Value) (u:Nat),(∀ o,ops[i]? = some o->o.dst≠some u)->(a.put o.dst v).tmps[u]? = a.tmps[u]? := by
  intro v u hn
  have:=hn o ho
  cases hds:o.dst with
  | none=>rfl
  | some t =>
   rw[hds]at this
   have um:t≠u:=λe=>this (by rw[e])
   simp[Act.put,Array.getElem?_setIfInBounds_ne um]
 unfold wpOp
 rw[ho]
 simp only
 rcases h with⟨hw,_,d,zy,hl,rfl⟩ | ⟨hw,_,rfl⟩
 ·rw[if_pos (mn hR hw)]
  refine .inl (Dl hC hI hR (xV▸hl) λv κ' h1 h2 h3 h4=>hK _ κ' h1 h2 h3 ((hR.mono h3).put hd h4) (pZ ho) (hu v))
 ·rw[if_neg (by rw[mn hR hw]; exact Bool.false_ne_true)]
  exact hK _ κ xV hI (Ext.refl κ) (hR.put hd λd' yw=>by cases yw; exact PB (v:=undef)) (pZ ho) (hu undef)
def kd3(kd:Nat->Nat)(o:Oper)(i:Nat):Nat:=bif Vy o then 3 else kd i
def z1a(ops:Array Oper)(kd:Nat->Nat)(p i:Nat):Prop:=∀ x y,ops[p]? = some x->ops[i]? = some y ->
 (∀ d,x.dst=some d->d ∉ tmpsOf ops y)/\(∀ d,y.dst=some d->d ∉ tmpsOf ops x)/\pB (kd3 kd x p) (kd3 kd y i)=false
theorem Tu{k l:Nat}(hk:k<=2)(hl:l<=2)(h:pB k l=false):uZ k l=false:=by
 have h1:Nat.beq k 3=false:=nw (by omega)
 have h2:Nat.beq l 3=false:=nw (by omega)
 simpa[pB,h1,h2]using h
theorem z1A{k l:Nat}(hl:l<=2)(h:pB 3 l=false):uZ k l=false:=by
 have h2:Nat.beq l 3=false:=nw (by omega)
 have h3:uZ 2 l=false:=by simpa[pB,h2]using h
 have h0:l=0:=by
  match l,hl,h3 with
  | 0,_,_=>rfl
  | 1,_,h3=>cases h3
  | 2,_,h3=>cases h3
 subst h0
 simp[uZ]
theorem z1L{k l:Nat}(hk:k<=2)(h:pB k 3=false):uZ k l=false:=by
 have h2:Nat.beq k 3=false:=nw (by omega)
 have h3:uZ k 2=false:=by simpa[pB,h2]using h
 have h0:k=0:=by
  match k,hk,h3 with
  | 0,_,_=>rfl
  | 1,_,h3=>cases h3
  | 2,_,h3=>cases h3
 subst h0
 simp[uZ]
theorem H2{kd:Nat->Nat}{p i:Nat}(h:z1a ops kd p i)(hp:kd p<=2)(hi:kd i<=2)(hn:¬ (fS ops p/\fS ops i)):Ind ops kd p i:=by
 intro x y hx hy
 obtain⟨h1,h2,h3⟩:=h x y hx hy
 refine⟨h1,h2,?_⟩
 unfold kd3 at h3
 cases hax:Vy x with
 | true =>
  cases hay:Vy y with
  | true=>exact(hn ⟨⟨x,hx,hax⟩,y,hy,hay⟩).elim
  | false=>rw[hax,hay]at h3; exact z1A hi h3
 | false =>
  cases hay:Vy y with
  | true=>rw[hax,hay]at h3; exact z1L hp h3
  | false=>rw[hax,hay]at h3; exact Tu hp hi h3
theorem least{es:List Em}(h:es≠[]):∃ e∈es,∀ f∈es,e.i<=f.i:=by
 induction es with
 | nil=>grind
 | cons e r ih =>
  by_cases hr:r=[]
  ·subst hr; exact⟨e,List.mem_cons_self,λf hf=>by grind⟩
  ·grind
def Dis(e f:Em):Prop:=e.i≠f.i/\e.blk≠f.blk/\e.d≠f.d
theorem Dis.symm{e f:Em}(h:Dis e f):Dis f e:=⟨h.1.symm,h.2.1.symm,h.2.2.symm⟩
theorem flush{kd:Nat->Nat}{κ0:KS}(yj:∀ p i,p<i->i<ops.size->ordered (xz ops.toList []) p i=true\/z1a ops kd p i)(cM:∀ i,i<ops.size->kd i<=2)
  {listed:Array Bool} (Xq:Zr ops listed) (pR:∀ q,q<ops.size->fS ops q->listed.getD q true=true) {a:Act} {sf:F×St} :
  ∀ (m:Nat) (es:List Em) (qH:Array Bool) (κ:KS) (s:F×St),es.length=m->qH.size=ops.size->(∀ j,j<ops.size->qH.getD j true=true->listed.getD j true=true) ->
  (∀ j,j<ops.size->listed.getD j true=true->qH.getD j true=false->∃ e∈es,e.i=j)->(∀ e∈es,e.i<ops.size/\listed.getD e.i true=true/\qH.getD e.i true=false)->es.Pairwise Dis ->
  Inv κ->Rel κ n (yf es s.1) a->κ.st=s.2->Ext κ0 κ->(∀ e∈es,Ik c ops κ0 κ a e)->oa c n ops kd (rest ops qH) s sf ->
  ∃ (κ':KS) (s':F×St),κ'.w=κ.w/\κ'.st=s'.2/\Inv κ'/\Ext κ0 κ'/\Rel κ' n s'.1 a/\oa c n ops kd (rest ops listed) s' sf:=by
 intro m
 induction m with
 | zero =>
  intro es qH κ s hl _ h1 h2 _ _ hI hR xV hx _ wY
  obtain rfl:es=[]:=List.eq_nil_of_length_eq_zero hl
  refine⟨κ,s,rfl,xV,hI,hx,hR,?_⟩
  have:rest ops qH=rest ops listed:=by
   unfold rest
   refine List.filter_congr λi hi => ?_
   grind
  grind
 | succ m ih =>
  intro es qH κ s hl jA h1 h2 h3 Fm hI hR xV hx hem wY
  obtain⟨e,he,z7C⟩:=least (es:=es) (λh=>by rw[h]at hl; cases hl)
  obtain⟨l1,l2,rfl⟩:=List.append_of_mem he
  obtain⟨hei,hel,hea⟩:=h3 e he
  have ni:∀ f,f∈l1++l2->f∈l1++e::l2:=λf hf=>by
   grind
  have z68:∀ f,f∈l1++e::l2->f=e\/f∈l1++l2:=λf hf=>by
   rcases List.mem_append.1 hf with hf | hf
   ·exact .inr (List.mem_append_left _ hf)
   ·rcases List.mem_cons.1 hf with rfl | hf
    ·exact .inl rfl
    ·exact .inr (List.mem_append_right _ hf)
  have hde:∀ f∈l1++l2,Dis e f:=by
   intro f hf
   rw[List.pairwise_append]at Fm
   obtain⟨_,d2,d3⟩:=Fm
   rcases List.mem_append.1 hf with hf | hf
   ·exact(d3 f hf e List.mem_cons_self).symm
   ·exact(List.pairwise_cons.1 d2).1 f hf
  have MV:(l1++l2).Pairwise Dis:=Fm.sublist (List.Sublist.append_left (List.sublist_cons_self e l2) l1)
  obtain⟨pre,post,g1,g2,g3⟩:=bN (p:=λi => !qH.getD i true) (q:=λj => !(qH.setIfInBounds e.i true).getD j true) (i:=e.i) (List.range ops.size) List.pairwise_lt_range
   (List.mem_range.2 hei) (by simp[hea]) (λj=>by
    rw[jD (by omega)]
    by_cases h:j=e.i
    ·subst h; simp
    ·simp[h])
  have RA:∀ p∈pre,Ind ops kd p e.i:=by
   intro p hp
   obtain⟨q1,q2,q3⟩:=g3 p hp
   have q2:=List.mem_range.1 q2
   have hpa:qH.getD p true=false:=by simpa using q1
   have V5:listed.getD p true=false:=by
    cases hb:listed.getD p true with
    | false=>rfl
    | true =>
     obtain⟨f,hf,CS⟩:=h2 p q2 hb hpa
     have:=z7C f hf
     omega
   have hna:¬ fS ops p:=λh=>by rw[pR p q2 h]at V5; cases V5
   rcases yj p e.i q3 hei with h | h
   ·have:=Xq e.i hei hel p h q2
    rw[this]at V5; cases V5
   ·exact H2 h (cM p q2) (cM e.i hei) λhh=>hna hh.1
  have BN:oa c n ops kd (pre++e.i::post) s sf:=by
   have:rest ops qH=pre++e.i::post:=g1
   rw[<- this]; exact wY
  obtain⟨s1,k1,k2⟩:=K6 RA BN
  have hE:=hem e he
  obtain⟨o,o1,o2,o3,o4⟩:=hE.op
  obtain⟨D,d1,d2,rfl⟩:=UJ o1 o2 o3 o4 k1
  obtain rfl:D=e.D:=Option.some.inj (d1.symm.trans hE.zero)
  obtain⟨iz,z1,z2,z3⟩:=hE.z
  obtain⟨p1,p2,p3⟩:=z2v hI hx hE.nob hE.new (z3.rd κ) z3.gE z3.ty hE.heap
  have hup:=Ln hI e.blk e.z.cells.size e.D
  refine ih (l1++l2) (qH.setIfInBounds e.i true) (κ.push e.blk e.z.cells.size e.D) (y7 s.1 (some e.d) (some (.ptr s.2.length 0)),s.2++[.var e.D]) (by simp at hl ⊢; omega) (by simp[jA]) (λj hj ha => ?_) (λj hj hb ha => ?_) (λf hf => ?_) MV p1 ?_ (by show κ.st++_=s.2++_; rw[xV]) p2 (λf hf => ?_) ?_
  ·rw[jD (by omega)]at ha
   split at ha
   ·rename_i h; subst h; exact hel
   ·exact h1 j hj ha
  ·rw[jD (by omega)]at ha
   split at ha
   ·cases ha
   ·rename_i um
    obtain⟨f,hf,CS⟩:=h2 j hj hb ha
    rcases z68 f hf with rfl | hf
    ·exact absurd CS.symm um
    ·exact⟨f,hf,CS⟩
  ·obtain⟨f1,f2,f3⟩:=h3 f (ni f hf)
   refine⟨f1,f2,?_⟩
   rw[jD (by omega),if_neg (hde f hf).1.symm]
   exact f3
  ·refine⟨hR.size,hR.defers,λu d0 hu => ?_⟩
   obtain⟨u1,u2⟩:=Gy hu
   simp only[y7]at u1
   by_cases hue:u=e.d
   ·subst hue
    rw[if_pos rfl]at u1
    cases u1
    rw[<- xV]
    exact⟨_,hE.val,p3⟩
   ·rw[if_neg hue]at u1
    have:yf (l1++e::l2) s.1 u=some d0:=by
     rw[Qk λf hf hfu => ?_]
     ·exact u1
     ·rcases z68 f hf with rfl | hf
      ·exact hue hfu.symm
      ·exact u2 f hf hfu
    obtain⟨v,v1,v2⟩:=hR.get u d0 this
    exact⟨v,v1,v2.up hup⟩
  ·have hF:=hem f (ni f hf)
   refine⟨hF.op,hF.zero,hF.z,hF.val,hF.heap,⟨hF.nob.lt,hF.nob.ok,λb m hb => ?_⟩,hF.new⟩
   rcases sR hb with hb | ⟨_,hb⟩
   ·exact hF.nob.ph b m hb
   ·exact(hde f hf).2.1 (congrArg Prod.fst (Option.some.inj hb)).symm
  ·have:rest ops (qH.setIfInBounds e.i true)=pre++post:=g2
   rw[this]; exact k2
theorem Tf{listed:Array Bool}{i:Nat}(jA:listed.size=ops.size)(h1:i<ops.size)(h2:listed.getD i true=false):(rest ops listed).length=(rest ops (listed.setIfInBounds i true)).length+1:=by
 obtain⟨pre,post,g1,g2,_⟩:=bN (p:=λi => !listed.getD i true) (q:=λj => !(listed.setIfInBounds i true).getD j true) (i:=i) (List.range ops.size) List.pairwise_lt_range
  (List.mem_range.2 h1) (by grind) (λj=>by
   rw[jD (by omega)]
   by_cases h:j=i
   ·grind
   ·simp[h])
 have e1:rest ops listed=pre++i::post:=g1
 have e2:rest ops (listed.setIfInBounds i true)=pre++post:=g2
 grind
theorem FV{listed:Array Bool}{i:Nat}(Iw:bW ops.toList 0=true)(jA:listed.size=ops.size)(Xq:Zr ops listed)(h1:i<ops.size)
  (h3:∀ o,ops[i]? = some o->∀ e∈o.after.toList,Region.binds .any e=true->listed.getD e.on false=true) :
  (∀ p,ordered (xz ops.toList []) p i=true->p<ops.size->listed.getD p true=true)/\Zr ops (listed.setIfInBounds i true):=by
 have Rx:∀ p,ordered (xz ops.toList []) p i=true->p<ops.size->listed.getD p true=true:=by
  intro p hp qD
  obtain⟨r,_,_,hb⟩:=n5 ops.toList []
  obtain⟨e,k1,k2,k3⟩:=hb i ops[i] (by simp) p (by simpa[ordered]using hp)
  have Ku:=mX ops.toList 0 Iw i ops[i] (by simp) e k1 k2
  have Kx:listed.getD e.on true=true:=by
   grind
  rcases k3 with rfl | ⟨_,k3⟩
  ·exact Kx
  ·exact Xq e.on (by omega) Kx p k3 qD
 refine⟨Rx,λq hq NC p hp qD => ?_⟩
 rw[jD (by omega)]at NC ⊢
 split
 ·rfl
 ·split at NC
  ·grind
  ·exact Xq q hq NC p hp qD
theorem HG{κ:KS}{a:Act}{es:List Em}{f:F}{e:Em}{v:Value}(hR:Rel κ n (yf es f) a):Rel κ n (yf (e::es) f) (a.put (some e.d) v):=by
 refine⟨by simp[Act.put,hR.size],hR.defers,λu d hu => ?_⟩
 obtain⟨u1,u2⟩:=Gy hu
 have um:e.d≠u:=u2 e List.mem_cons_self
 have:yf es f u=some d:=by rw[Qk λg hg=>u2 g (List.mem_cons_of_mem _ hg)]; exact u1
 obtain⟨w,w1,w2⟩:=hR.get u d this
 exact⟨w,by simp[Act.put,Array.getElem?_setIfInBounds_ne um]; exact w1,w2⟩
theorem Zh{kd:Nat->Nat}{Q:Exit->Act->World->Prop}(hC:∀ g,BC c.P g (c.fn g))(Iw:bW ops.toList 0=true)
  (yj:∀ p i,p<i->i<ops.size->ordered (xz ops.toList []) p i=true\/z1a ops kd p i) (cM:∀ i,i<ops.size->kd i<=2)
  (pR:∀ p j,p<ops.size->fS ops p->j<ops.size->ordered (xz ops.toList []) p j=true->∀ q,q<ops.size->fS ops q->ordered (xz ops.toList []) q j=true)
  {κ0:KS} {a0:Act} {sf:F×St}:∀ (fuel:Nat) (listed qH:Array Bool) (es:List Em) {κ:KS} {a:Act} {s:F×St},
  listed.size=ops.size->qH.size=ops.size->fuel=(rest ops listed).length->Zr ops listed->(∀ j,j<ops.size->qH.getD j true=true->listed.getD j true=true) ->
  (∀ j,j<ops.size->listed.getD j true=true->qH.getD j true=false->∃ e∈es,e.i=j)->(∀ e∈es,e.i<ops.size/\listed.getD e.i true=true/\qH.getD e.i true=false)->es.Pairwise Dis ->
  (∃ q,q<ops.size/\fS ops q/\listed.getD q true=false)->Inv κ->Rel κ n (yf es s.1) a->κ.st=s.2->Ext κ0 κ->(∀ e∈es,Ik c ops κ0 κ a e)->oa c n ops kd (rest ops qH) s sf->eZ ops a0 a ->
  (∀ (a':Act) (κ':KS),κ'.st=sf.2->Inv κ'->Ext κ0 κ'->Rel κ' n sf.1 a'->eZ ops a0 a'->Q .normal a' κ'.w)->wpAny c.P .any ops Q fuel listed a κ.w
 | 0,listed,qH,es,κ,a,s,jA,hszA,hfuel,Xq,h1,h2,h3,Fm,⟨q,q1,q2,q3⟩,hI,hR,xV,hx,hem,wY,hkp,hQ=>by
  have hre:rest ops listed=[]:=List.eq_nil_of_length_eq_zero hfuel.symm
  have:q∈rest ops listed:=by simp only[rest,List.mem_filter,List.mem_range,Bool.not_eq_true']; exact⟨q1,q3⟩
  grind
 | fuel+1,listed,qH,es,κ,a,s,jA,hszA,hfuel,Xq,h1,h2,h3,Fm,⟨q,q1,q2,q3⟩,hI,hR,xV,hx,hem,wY,hkp,hQ=>by
  refine⟨λh => ?_,λi hi => ?_⟩
  ·have hre:=JE Iw jA h
   grind
  rw[nW]at hi
  obtain⟨i1,i2,i3⟩:=hi
  obtain⟨Rx,OF⟩:=FV Iw jA Xq i1 i3
  have Ie:fuel=(rest ops (listed.setIfInBounds i true)).length:=by have:=Tf jA i1 i2; omega
  have hia:qH.getD i true=false:=by
   grind
  have Rl:∀ p,p<ops.size->fS ops p->ordered (xz ops.toList []) p i=true->False:=by
   grind
  have cg:∀ j,(listed.setIfInBounds i true).getD j true=if j=i then true else listed.getD j true:=λj=>jD (by omega)
  by_cases ot:fS ops i
  ·-- a new variable is laid
   obtain⟨o,ho,hao⟩:=ot
   obtain⟨t,d,o1,o2,o3⟩:=NY hao
   have him:i∈rest ops qH:=by simp only[rest,List.mem_filter,List.mem_range,Bool.not_eq_true']; exact⟨i1,hia⟩
   obtain⟨t1,t2,hos⟩:=BJ wY him
   obtain⟨D,d1,d2,_⟩:=UJ ho o1 o2 o3 hos
   obtain⟨iz,z,z1,z2,z3⟩:=fW d1
   obtain⟨w1,w2,w3,w4⟩:=z38 hI (.cells z.cells t)
   let e:Em:=⟨i,d,κ.w.heap.size,t,z,D⟩
   have za7:(execOp a.eval o).run c.P κ.w=.ok (.value (.pointer (some ⟨κ.w.heap.size,0,none⟩))) (κ.w.alloc (.cells z.cells t)):=by
    obtain⟨dst,op,ty,pos,after,guard⟩:=o
    cases o1
    simp[execOp,Instr.alloc,zeroValue,typeInfo,z1,z2,newVar,newRow]
   have zaw:Region.wanted o (yielded ops a.tmps)=true:=by unfold Region.wanted; rw[o2]
   unfold wpOp
   rw[ho]
   simp only
   rw[if_pos zaw]
   refine .inl ?_
   unfold Oper.wp
   rw[za7]
   show wpAny c.P Region.Mode.any ops Q fuel (listed.setIfInBounds i true) (a.put o.dst (Value.pointer (some { block:=κ.w.heap.size,off:=0 }))) (κ.w.alloc (Obj.cells z.cells t))
   rw[o3]
   have um:∀ f∈es,f.d≠d:=by
    intro f hf Pp
    obtain⟨f1,f2,f3⟩:=h3 f hf
    obtain⟨fo,fo1,fo2,fo3,fo4⟩:=(hem f hf).op
    have CS:f.i≠i:=λh=>by rw[h,i2]at f2; cases f2
    rcases Nat.lt_or_gt_of_ne CS with qD | qD
    ·rcases yj f.i i qD i1 with h | h
     ·exact Rl f.i f1 ⟨fo,fo1,HU fo2 fo3 fo4⟩ h
     ·exact(h fo o fo1 ho).1 f.d fo4 (Pp▸y3 o3)
    ·rcases yj i f.i qD f1 with h | h
     ·have:=Xq f.i f1 f2 i h i1; rw[i2]at this; cases this
     ·exact(h o fo ho fo1).1 d o3 (Pp▸y3 fo4)
   have zfJ:Ik c ops κ0 { κ with w:=κ.w.alloc (.cells z.cells t) } (a.put (some d) (.pointer (some ⟨κ.w.heap.size,0,none⟩))) e :=
    ⟨⟨o,ho,o1,o2,o3⟩,d1,⟨iz,z1,z2,z3⟩,by simp[e,Act.put,hR.size,d2],w4,w3,hx.size⟩
   have zaU:∀ f∈e::es,Ik c ops κ0 { κ with w:=κ.w.alloc (.cells z.cells t) } (a.put (some d) (.pointer (some ⟨κ.w.heap.size,0,none⟩))) f:=by
    intro f hf
    rcases List.mem_cons.1 hf with rfl | hf
    ·exact zfJ
    ·exact(hem f hf).mono w2 (by simp[Act.put,Array.getElem?_setIfInBounds_ne (λe'=>um f hf e'.symm)])
   have hR':Rel { κ with w:=κ.w.alloc (.cells z.cells t) } n (yf (e::es) s.1) (a.put (some d) (.pointer (some ⟨κ.w.heap.size,0,none⟩))):=HG (e:=e) (hR.mono w2)
   have hdE:∀ f∈es,Dis e f:=by
    intro f hf
    unfold Dis
    refine⟨λh => ?_,λh => ?_,λh=>um f hf h.symm⟩
    ·have hf2:=(h3 f hf).2.1
     rw[<- h]at hf2
     have i2':listed.getD e.i true=false:=i2
     rw[i2']at hf2
     cases hf2
    ·have hl:=(hem f hf).nob.lt
     rw[<- h]at hl
     exact Nat.lt_irrefl _ hl
   have MV:(e::es).Pairwise Dis:=List.pairwise_cons.2 ⟨hdE,Fm⟩
   have zaS:eZ ops a0 (a.put (some d) (.pointer (some ⟨κ.w.heap.size,0,none⟩))):=hkp.trans (by have:=pZ (a:=a) (v:=.pointer (some ⟨κ.w.heap.size,0,none⟩)) ho; rw[o3]at this; exact this)
   have Vv:∀ j,j<ops.size->qH.getD j true=true->(listed.setIfInBounds i true).getD j true=true:=λj hj ha=>by
    rw[cg]; split
    ·rfl
    ·exact h1 j hj ha
   have h2':∀ j,j<ops.size->(listed.setIfInBounds i true).getD j true=true->qH.getD j true=false->∃ f∈e::es,f.i=j:=λj hj hb ha=>by
    rw[cg]at hb
    split at hb
    ·rename_i h; exact⟨e,List.mem_cons_self,h.symm⟩
    ·obtain⟨f,hf,CS⟩:=h2 j hj hb ha; exact⟨f,List.mem_cons_of_mem _ hf,CS⟩
   have h3':∀ f∈e::es,f.i<ops.size/\(listed.setIfInBounds i true).getD f.i true=true/\qH.getD f.i true=false:=λf hf=>by
    rcases List.mem_cons.1 hf with rfl | hf
    ·exact⟨i1,by rw[cg]; exact if_pos rfl,hia⟩
    ·obtain⟨f1,f2,f3⟩:=h3 f hf
     exact⟨f1,by rw[cg]; split<;>first | rfl | exact f2,f3⟩
   by_cases hmore:∃ q,q<ops.size/\fS ops q/\(listed.setIfInBounds i true).getD q true=false
   ·exact Zh hC Iw yj cM pR fuel (listed.setIfInBounds i true) qH (e::es) (κ:={ κ with w:=κ.w.alloc (.cells z.cells t) }) (by simp[jA]) hszA Ie OF Vv h2' h3' MV hmore w1 hR' xV (hx.trans w2) zaU wY zaS hQ
   ·-- all are laid
    have z5J:∀ q,q<ops.size->fS ops q->(listed.setIfInBounds i true).getD q true=true:=λq q1 q2=>by
     cases hb:(listed.setIfInBounds i true).getD q true with
     | true=>rfl
     | false=>exact(hmore ⟨q,q1,q2,hb⟩).elim
    obtain⟨κ',s',f1,f2,f3,f4,f5,f6⟩:=flush (c:=c) (n:=n) yj cM OF z5J (e::es).length (e::es) qH { κ with w:=κ.w.alloc (.cells z.cells t) } s rfl hszA Vv h2' h3' MV w1 hR' xV (hx.trans w2) zaU wY
    have hgo:=JP (κ:=κ') hC Iw fuel (listed.setIfInBounds i true) (Q:=Q) (λp j hpj hj hp=>(yj p j hpj hj).elim .inl λh=>.inr (H2 h (cM p (by omega)) (cM j hj) λhh=>by
     rw[z5J p (by omega) hh.1]at hp; cases hp)) (by simp[jA]) Ie OF f3 f5 f2 f6 λa' Np e1 e2 e3 e4 e5=>hQ a' Np e1 e2 (f4.trans e3) e4 (zaS.trans e5)
    rw[f1]at hgo
    exact hgo
  ·-- another operation
   have z4O:∀ o,ops[i]? = some o->∀ e∈es,e.d ∉ tmpsOf ops o:=by
    intro o ho f hf
    obtain⟨f1,f2,f3⟩:=h3 f hf
    obtain⟨fo,fo1,fo2,fo3,fo4⟩:=(hem f hf).op
    have CS:f.i≠i:=λh=>by rw[h,i2]at f2; cases f2
    rcases Nat.lt_or_gt_of_ne CS with qD | qD
    ·rcases yj f.i i qD i1 with h | h
     ·exact(Rl f.i f1 ⟨fo,fo1,HU fo2 fo3 fo4⟩ h).elim
     ·exact(h fo o fo1 ho).1 f.d fo4
    ·rcases yj i f.i qD f1 with h | h
     ·have:=Xq f.i f1 f2 i h i1; rw[i2]at this; cases this
     ·exact(h o fo ho fo1).2.1 f.d fo4
   obtain⟨pre,post,g1,g2,g3⟩:=bN (p:=λi => !qH.getD i true) (q:=λj => !(qH.setIfInBounds i true).getD j true) (i:=i) (List.range ops.size) List.pairwise_lt_range
    (List.mem_range.2 i1) (by simp[hia]) (λj=>by
     rw[jD (by omega)]
     by_cases h:j=i
     ·subst h; simp
     ·simp[h])
   have RA:∀ p∈pre,Ind ops kd p i:=by
    intro p hp
    obtain⟨r1,r2,r3⟩:=g3 p hp
    have r2:=List.mem_range.1 r2
    have r1:qH.getD p true=false:=by simpa using r1
    rcases yj p i r3 i1 with h | h
    ·obtain⟨f,hf,CS⟩:=h2 p r2 (Rx p h r2) r1
     obtain⟨fo,fo1,fo2,fo3,fo4⟩:=(hem f hf).op
     exact(Rl p r2 ⟨fo,by rw[<- CS]; exact fo1,HU fo2 fo3 fo4⟩ h).elim
    ·exact H2 h (cM p r2) (cM i i1) λhh=>ot hh.2
   have BN:oa c n ops kd (pre++i::post) s sf:=by
    have:rest ops qH=pre++i::post:=g1
    rw[<- this]; exact wY
   obtain⟨s1,k1,k2⟩:=K6 RA BN
   refine Om (s:=(yf es s.1,s.2)) (s':=(yf es s1.1,s1.2)) hC hI hR xV (F5 k1 z4O) λa1 κ1 e1 e2 e3 e4 e5 e6 => ?_
   have RZ:∀ j,(qH.setIfInBounds i true).getD j true=if j=i then true else qH.getD j true:=λj=>jD (by omega)
   refine Zh hC Iw yj cM pR fuel (listed.setIfInBounds i true) (qH.setIfInBounds i true) es (κ:=κ1) (s:=s1) (by simp[jA]) (by simp[hszA]) Ie OF (λj hj ha => ?_) (λj hj hb ha => ?_) (λf hf => ?_) Fm
    ⟨q,q1,q2,?_⟩ e2 e4 e1 (hx.trans e3) (λf hf=>(hem f hf).mono e3 (e6 f.d λo ho hod=>z4O o ho f hf (y3 hod))) ?_ (hkp.trans e5) hQ
   ·rw[RZ]at ha; rw[cg]
    split
    ·rfl
    ·rename_i h; rw[if_neg h]at ha; exact h1 j hj ha
   ·rw[RZ]at ha; rw[cg]at hb
    split at ha
    ·cases ha
    ·rename_i h; rw[if_neg h]at hb; exact h2 j hj hb ha
   ·obtain⟨f1,f2,f3⟩:=h3 f hf
    have CS:f.i≠i:=λh=>by rw[h,i2]at f2; cases f2
    exact⟨f1,by rw[cg,if_neg CS]; exact f2,by rw[RZ,if_neg CS]; exact f3⟩
   ·have hqi:q≠i:=λh=>ot (by rw[<- h]; exact q2)
    rw[cg,if_neg hqi]; exact q3
   ·have:rest ops (qH.setIfInBounds i true)=pre++post:=g2
    rw[this]; exact k2
theorem ZM{kd:Nat->Nat}:∀ {l:List Oper} {ks:List Nat} {i j:Nat} {o:Oper},l[i]? = some o->ks[i]? = some (kd j)->(Ja l ks)[i]? = some (kd3 kd o j)
 | [],_,i,_,_,h,_=>by simp at h
 | _::_,[],i,_,_,_,h=>by simp at h
 | x::l,k::ks,0,j,o,h1,h2=>by simp at h1 h2; subst h1; subst h2; rfl
 | x::l,k::ks,i+1,j,o,h1,h2=>by
  have:=ZM (kd:=kd) (l:=l) (ks:=ks) (i:=i) (j:=j) (o:=o) (by grind) (by grind)
  simpa[Ja]using this
theorem YW:∀ {l:List Oper} {k i:Nat} {o:Oper},l[i]? = some o->Vy o=true->k+i∈Um l k
 | [],_,_,_,h,_=>by simp at h
 | x::l,k,0,o,h1,h2=>by simp at h1; subst h1; simp[Um,h2]
 | x::l,k,i+1,o,h1,h2=>by
  have:=YW (l:=l) (k:=k+1) (i:=i) (o:=o) (by grind) h2
  simp only[Um]
  grind
theorem WJ{kd:Nat->RK}:∀ (l:List Nat) (s s':F×St) (ks:List RK),Mk c n ops l s s' ks->ks=l.map kd->JA (λi s s'=>dN c n ops i s s' (kd i)) l s s'
 | [],s,s',ks,h,_=>h.1
 | i::l,s,s',ks,⟨s1,k,Ii,e,h1,h2⟩,hk=>by
  subst e
  simp at hk
  obtain⟨rfl,hk⟩:=hk
  exact⟨s1,h1,WJ l s1 s' Ii h2 hk⟩
theorem O0{κ:KS}{a:Act}{id:Nat}{draw:Bool}{fr:Fr}{kn:Kn}{s':dS}(hm:c.P.follows .mixedOrders=true)(hC:∀ g,BC c.P g (c.fn g))(hI:Inv κ)(hR:Rel κ n fr.get a)(hk:uh kn fr.get)
  (h:(cE c n ops draw fr kn κ.st).leads s') {Q:Exit->Act->World->Prop} (hQ:∀ (a':Act) (κ':KS),κ'.st=s'.st->Inv κ'->Ext κ κ'->Rel κ' n s'.fr.get a'->eZ ops a a'->Q .normal a' κ'.w) :
  (Code.region id ops draw).wp c.P Q a κ.w/\uh s'.kn s'.fr.get:=by
 simp only[cE,T.zM]at h
 obtain⟨s1,h1,h2⟩:=h
 obtain⟨ks,g1,g2,g3⟩:=fm ops.toList 0 ⟨fr,kn,κ.st,[],[]⟩ s1 (λj=>.inl (by simp)) hk h1
 simp only[List.append_nil]at g3
 have hl:ops.toList.length=ops.size:=by simp
 rw[hl,<- List.range_eq_range']at g1
 cases hd:(!draw||Zz ops s1.ks.reverse s1.bk.reverse)with
 | false=>rw[hd]at h2; exact h2.elim
 | true =>
  rw[hd,cond_true]at h2
  cases h2
  refine⟨?_,g2⟩
  cases draw with
  | false=>exact wp_region (LB hC _ hI hR rfl g1 hQ)
  | true =>
   simp only[Bool.not_true,Bool.false_or,Zz,Bool.or_eq_true]at hd
   obtain⟨rks,r1,r3⟩:=Wz (ops:=ops) ops.toList 0 ⟨fr,kn,κ.st,[],[]⟩ _ (λj=>.inl (by simp)) hk h1
   simp only[List.append_nil]at r3
   rw[hl,<- List.range_eq_range']at r1
   let kd:Nat->Nat:=λi=>ks.getD i 0
   have hkl:ks.length=ops.size:=by rw[CL _ _ _ _ g1]; simp
   have hks:ks=(List.range ops.size).map kd:=by
    apply List.ext_getElem?
    intro i
    grind
   have wY:=Jh (kd:=kd) _ _ _ _ g1 hks
   refine wp_region_any hm ?_
   let κd:KS:={ κ with w:=κ.w.drew }
   have hx:Ext κ κd:=⟨rfl,rfl,rfl,Nat.le_refl _,λk hk=>⟨hk,rfl⟩,λk hk=>.inl hk,λ_ _ _ h=>.inl h,λb d h=>⟨⟨d,h⟩,rfl⟩,
    λb v0 e xs h=>.inr ⟨v0,xs,h,Nat.le_refl _,λ_=>⟨rfl,rfl⟩⟩,λ_ h=>h,Nat.le_refl _,λk _ _=>rfl⟩
   have hId:Inv κd:=⟨hI.len,hI.gi,hI.apart,hI.inj,λb y hy=>(hI.blk b y hy).mono hx rfl λ_ _ _=>rfl,hI.gl.mono hx.same⟩
   have pj:rest ops (Array.replicate ops.size false)=List.range ops.size:=by
    unfold rest
    rw[List.filter_eq_self]
    intro i hi
    have:=List.mem_range.1 hi
    simp[Array.getD_eq_getD_getElem?,this]
   have Gt:∀ j,j<ops.size->(Array.replicate ops.size false).getD j true=false:=λj hj=>by simp[Array.getD_eq_getD_getElem?,hj]
   have z2i:Zr ops (Array.replicate ops.size false):=λq hq NC=>by rw[Gt q hq]at NC; cases NC
   have BM:∀ i,i<ops.size->ks[i]? = some (kd i):=λi hi=>by simp[kd,List.getD,List.getElem?_eq_getElem (show i<ks.length by omega)]
   have WR:∀ i (hi:i<ops.size),ops.toList[i]? = some ops[i]:=λi hi=>by simp
   rcases hd with(hd | hd) | hd
   ·simp only[Mn,Bool.and_eq_true]at hd
    obtain⟨d1,d2⟩:=hd
    rw[g3,List.reverse_reverse]at d2
    have yj:∀ p i,p<i->i<ops.size->ordered (xz ops.toList []) p i=true\/Ind ops kd p i:=by
     intro p i BF hi
     have hp:=mW ops.toList ks 0 [] d2 i ops[i] (kd i) (WR i hi) (BM i hi)
     have:=hp.2 p ops[p] (kd p) BF (WR p (by omega)) (BM p (by omega))
     simp only[Nat.zero_add]at this
     refine fk this (λh=>h) λhap x y hx hy => ?_
     rw[Array.getElem?_eq_getElem (by omega)]at hx hy
     cases hx
     cases hy
     exact hap
    exact JP (κ:=κd) hC d1 ops.size _ (λp i h1 h2 _=>yj p i h1 h2) (by simp) (by rw[pj]; simp) z2i hId (hR.mono hx) rfl (by rw[pj]; exact wY) λa' κ' e1 e2 e3 e4 e5=>hQ a' κ' e1 e2 (hx.trans e3) e4 e5
   ·simp only[MD,Bool.and_eq_true]at hd
    obtain⟨⟨⟨d1,d0⟩,d2⟩,d3⟩:=hd
    rw[g3,List.reverse_reverse]at d0 d2
    have cM:∀ i,i<ops.size->kd i<=2:=λi hi=>Nat.le_of_ble_eq_true (List.all_eq_true.1 d0 _ (List.mem_of_getElem? (BM i hi)))
    have yj:∀ p i,p<i->i<ops.size->ordered (xz ops.toList []) p i=true\/z1a ops kd p i:=by
     intro p i BF hi
     have hp:=mW ops.toList (Ja ops.toList ks) 0 [] d2 i ops[i] (kd3 kd ops[i] i) (WR i hi) (ZM (WR i hi) (BM i hi))
     have:=hp.2 p ops[p] (kd3 kd ops[p] p) BF (WR p (by omega)) (ZM (WR p (by omega)) (BM p (by omega)))
     simp only[Nat.zero_add]at this
     refine fk this (λh=>h) λhap x y hx hy => ?_
     rw[Array.getElem?_eq_getElem (by omega)]at hx hy
     cases hx
     cases hy
     exact hap
    have pR:∀ p j,p<ops.size->fS ops p->j<ops.size->ordered (xz ops.toList []) p j=true->∀ q,q<ops.size->fS ops q->ordered (xz ops.toList []) q j=true:=by
     intro p j hp hap hj ho q hq haq
     unfold BT at d3
     have:=List.all_eq_true.1 d3 j (List.mem_range.2 (by simpa using hj))
     simp only[Bool.or_eq_true,Bool.not_eq_true',List.any_eq_false,List.all_eq_true]at this
     have hm:∀ r,fS ops r->r∈Um ops.toList 0:=λr ⟨o,h1,h2⟩=>by
      have:=YW (l:=ops.toList) (k:=0) (i:=r) (o:=o) (by rw[Array.getElem?_toList]; exact h1) h2
      rwa [Nat.zero_add]at this
     rcases this with h | h
     ·have:=h p (hm p hap); rw[ho]at this; exact absurd rfl this
     ·exact h q (hm q haq)
    by_cases hex:∃ q,q<ops.size/\fS ops q
    ·obtain⟨q,q1,q2⟩:=hex
     exact Zh (κ0:=κd) (κ:=κd) (a0:=a) hC d1 yj cM pR ops.size _ (Array.replicate ops.size false) [] (by simp) (by simp) (by rw[pj]; simp) z2i (λj hj h=>by rw[Gt j hj]at h; cases h)
      (λj hj h _=>by rw[Gt j hj]at h; cases h) (λe he=>by cases he) .nil ⟨q,q1,q2,Gt q q1⟩ hId (hR.mono hx) rfl (Ext.refl _) (λe he=>by cases he) (by rw[pj]; exact wY) (eZ.refl _ _)
      λa' κ' e1 e2 e3 e4 e5=>hQ a' κ' e1 e2 (hx.trans e3) e4 e5
    ·exact JP (κ:=κd) hC d1 ops.size _ (λp i h1 h2 _=>(yj p i h1 h2).elim .inl λh=>.inr (H2 h (cM p (by omega)) (cM i h2) λhh=>hex ⟨p,by omega,hh.1⟩)) (by simp) (by rw[pj]; simp) z2i hId (hR.mono hx) rfl (by rw[pj]; exact wY) λa' κ' e1 e2 e3 e4 e5=>hQ a' κ' e1 e2 (hx.trans e3) e4 e5
   ·simp only[Mt,Bool.and_eq_true]at hd
    obtain⟨d1,d2⟩:=hd
    rw[r3,List.reverse_reverse]at d2
    let kr:Nat->RK:=λi=>rks.getD i (.z 0)
    have hrl:rks.length=ops.size:=by rw[YQ _ _ _ _ r1]; simp
    have zfw:rks=(List.range ops.size).map kr:=by
     apply List.ext_getElem?
     intro i
     by_cases hi:i<ops.size
     ·simp[kr,hi,List.getD,List.getElem?_eq_getElem (show i<rks.length by omega)]
     ·rw[List.getElem?_eq_none (by omega),List.getElem?_eq_none (by simp; omega)]
    have z5X:∀ i,i<ops.size->rks[i]? = some (kr i):=λi hi=>by simp[kr,List.getD,List.getElem?_eq_getElem (show i<rks.length by omega)]
    have zbs:=WJ (kd:=kr) _ _ _ _ r1 zfw
    have yj:∀ p i,p<i->i<ops.size->ordered (xz ops.toList []) p i=true\/z6R ops kr p i:=by
     intro p i BF hi
     have hp:=mW ops.toList rks 0 [] d2 i ops[i] (kr i) (WR i hi) (z5X i hi)
     have:=hp.2 p ops[p] (kr p) BF (WR p (by omega)) (z5X p (by omega))
     simp only[Nat.zero_add]at this
     refine fk this (λh=>h) λhap x y hx hy => ?_
     rw[Array.getElem?_eq_getElem (by omega)]at hx hy
     cases hx
     cases hy
     exact hap
    exact XX (κ:=κd) (Stp:=λi s s'=>dN c n ops i s s' (kr i)) (In:=λp i=>z6R ops kr p i) (λi s s' h=>h.plain) (λp i hi s s1 s2 h1 h2=>Fv hi h1 h2) hC d1 ops.size _ (λp i h1 h2 _=>yj p i h1 h2) (by simp) (by rw[pj]; simp) z2i hId (hR.mono hx) rfl (by rw[pj]; exact zbs) λa' κ' e1 e2 e3 e4 e5=>hQ a' κ' e1 e2 (hx.trans e3) e4 e5
end
end Go.AM
namespace Go.AM
set_option linter.unusedSectionVars false
variable [uy] [Kq]
def CM(κ:KS):Ex->Exit->Prop
 | .normal,e=>e=.normal
 | .exit id,e=>e=.exit id
 | .ret,e=>e=.ret
 | .yk d,e=>∃ v,e=.panic [{ v,recovered:=false }]/\RD κ d v
section
variable {c:Ctx} {n:Nat}
def xE:Code->List (Nat×Code)
 | .seq a b=>xE a++xE b
 | .cond _ a b=>xE a++xE b
 | .block id (.loop b)=>[(id,b)]
 | .block _ a=>xE a
 | _=>[]
theorem OO{ops:Array Oper}{draw:Bool}{fr:Fr}{kn:Kn}{st:St}{s':dS}(hk:uh kn fr.get)(h:(cE c n ops draw fr kn st).leads s'):uh s'.kn s'.fr.get:=by
 simp only[cE,T.zM]at h
 obtain⟨s1,h1,h2⟩:=h
 obtain⟨ks,g1,g2,g3⟩:=fm ops.toList 0 ⟨fr,kn,st,[],[]⟩ s1 (λj=>.inl (by simp)) hk h1
 cases hd:(!draw||Zz ops s1.ks.reverse s1.bk.reverse)with
 | false=>rw[hd]at h2; exact h2.elim
 | true=>rw[hd,cond_true]at h2; cases h2; exact g2
theorem dB(f:F):uh [] f:=by nofun
theorem D6{id:Nat}{b:Code}(hb:∀ b',b≠.loop b'):xE (.block id b)=xE b:=by
 cases b<;>first | rfl | exact absurd rfl (hb _)
end
end Go.AM
namespace Go.AM
set_option linter.unusedSectionVars false
variable [uy] [Kq]
section
variable {c:Ctx} {n:Nat}
theorem YD:∀ (ds:List D) (i s:Nat),(wT ds i).get s=if i<=s then ds[s-i]? else none
 | [],i,s=>by simp[wT,Fr.get]
 | d::r,i,s=>by
  simp only[wT,Fr.get]
  by_cases h:i=s
  ·subst h; simp
  ·rw[nw h,cond_false,YD r (i+1) s]
   grind
theorem Q8{κ:KS}{args:List D}{zJ:List Value}(h:qN κ args zJ)(hn:args.length<=n) :
  Rel κ n (wT args 0).get { tmps:=zJ.toArray++Array.replicate (n-zJ.toArray.size) undef,defers:=Kq.df }:=by
 have hl:=h.1
 refine⟨by grind,rfl,λs d hd => ?_⟩
 rw[YD]at hd
 obtain⟨v,h1,h2⟩:=h.get hd
 grind
theorem Z9{κ:KS}{fr:Fr}{a:Act}(hI:Inv κ)(hR:Rel κ n fr.get a):∀ (rvs:List ResultVar) (ds:List D),(cq c fr κ.st rvs).leads ds ->
  ∃ vs:List Value,Sem.run c.P (rvs.mapM λr=>match r with | ResultVar.tmp t=>(Pure.pure (a.tmps.getD t undef):Sem Value) | ResultVar.cell p t=>do loadVar t (<- asAddr (a.tmps.getD p undef))) κ.w=Result.ok vs κ.w/\qN κ ds vs
 | [],ds,h=>by cases h; exact⟨[],by simp,.nil⟩
 | .tmp t::r,ds,h=>by
  simp only[cq]at h
  split at h
  ·rename_i d hd
   simp only[T.zM]at h
   obtain⟨l,hl,rfl⟩:=h
   obtain⟨v,h1,h2⟩:=hR.get t d hd
   obtain⟨vs,h3,h4⟩:=Z9 hI hR r l hl
   refine⟨v::vs,?_,.cons h2 h4⟩
   simp only[List.mapM_cons,Sem.run_bind,Sem.run_pure,Result.andThen_ok,h3]
   simp[h1]
  ·exact h.elim
 | .cell p t::r,ds,h=>by
  simp only[cq]at h
  split at h
  ·rename_i b off hd
   split at h
   ·rename_i d hb
    split at h
    ·rename_i x hx
     simp only[T.zM]at h
     obtain⟨l,hl,rfl⟩:=h
     obtain⟨v,h1,h2⟩:=hR.get p _ hd
     obtain⟨vs,h3,h4⟩:=Z9 hI hR r l hl
     cases h2 with
     | ptr _ _ blk m d1 FY hp =>
      obtain⟨mv,n',cs,T,g1,g2,g3,g4,g5⟩:=hI.blk b _ hb
      rw[hp]at g1
      cases g1
      obtain⟨u,e1,e2⟩:=US (c:=c) (blk:=blk) 0 hx g4 g5.1 (λj v hj=>by rw[sV g2]; simpa using hj)
      rw[Nat.zero_add]at e1
      refine⟨u::vs,?_,.cons e2 h4⟩
      have hA:(asAddr (a.tmps.getD p undef)).run c.P κ.w=.ok ⟨blk,off,none⟩ κ.w:=by simp[h1,asAddr]
      simp only[List.mapM_cons,Sem.run_bind,hA,Result.andThen_ok,e1,h3,Sem.run_pure]
    ·exact h.elim
   ·exact h.elim
  ·exact h.elim
def RX:List Value->Value
 | [v]=>v
 | vs=>.tuple vs.toArray
theorem nu{κ:KS}{fr:Fr}{a:Act}{fn:Func}{ds:List D}(hI:Inv κ)(hR:Rel κ n fr.get a)(h:(cq c fr κ.st fn.results.toList).leads ds) :
  ∃ vs:List Value,(results fn a.tmps).run c.P κ.w=.ok (RX vs) κ.w/\qN κ ds vs:=by
 obtain⟨vs,h1,h2⟩:=Z9 hI hR _ _ h
 simp only[results,Array.mapM_eq_mapM_toList,Sem.run_bind,Sem.run_map]
 have key:∀ r:Result (List Value),r=.ok vs κ.w->((r.andThen λa w'=>.ok a.toArray w').andThen λa w'=>(Pure.pure (if h:a.size=1 then a[0]else .tuple a):Sem Value).run c.P w')=.ok (RX vs) κ.w:=by
  rintro _ rfl
  match vs with
  | []=>rfl
  | [v]=>rfl
  | _::_::_=>rfl
 grind
theorem Ze{κ:KS}{ds:List D}{vs:List Value}(h:qN κ ds vs):RD κ (yV ds) (RX vs):=by
 match ds,vs,h with
 | [],vs,h=>rw[h.ql]; exact .gE [] [] rfl (λi h=>absurd h (Nat.not_lt_zero i))
 | [d],vs,h =>
  obtain⟨v,r,rfl,h1,h2⟩:=h.cons_inv
  rw[h2.ql]
  exact h1
 | d::e::r,vs,h =>
  obtain⟨v,us,rfl,h1,h2⟩:=h.cons_inv
  obtain⟨u,ws,rfl,h3,h4⟩:=h2.cons_inv
  exact .gE _ _ h.1 h.2
def KS.cut(κ:KS)(m:Nat):KS:={ κ with ph:=κ.ph.take m,st:=κ.st.take m }
theorem qj{α:Type}{l:List α}{m i:Nat}{a:α}(h:l[i]? = some a)(hi:i<m):(l.take m)[i]? = some a:=by grind
theorem b6{α:Type}{l:List α}{m i:Nat}{a:α}(h:(l.take m)[i]? = some a):l[i]? = some a/\i<m:=by grind
theorem dT{κ:KS}{m:Nat}{d:D}{v:Value}(h:RD κ d v)(hd:uj m d=true):RD (κ.cut m) d v:=by
 cases h with
 | zC τ y cs h=>exact .zC τ y cs h
 | xr e a=>exact .xr e a
 | tight e l ne blk off f um wU h hc=>exact .tight e l ne blk off f um wU h hc
 | xH=>exact .xH
 | yR=>exact .yR
 | xj=>exact .xj
 | uu=>exact .uu
 | uv=>exact .uv
 | tP v h=>exact .tP v h
 | dx T=>exact .dx T
 | dr b T d hb=>exact .dr b T d (qj hb (Nat.le_of_ble_eq_true hd))
 | dq b T blk n d hb h=>exact .dq b T blk n d (qj hb (Nat.le_of_ble_eq_true hd)) (qj h (Nat.le_of_ble_eq_true hd))
 | ptr b off blk n d hb h=>exact .ptr b off blk n d (qj hb (Nat.le_of_ble_eq_true hd)) (qj h (Nat.le_of_ble_eq_true hd))
 | xg τ y cs blk off wU h hc=>exact .xg τ y cs blk off wU h hc
 | uY b qK e idx off blk o hb h =>
  have qD:b<m:=Nat.le_of_ble_eq_true hd
  refine .uY b qK e idx off blk o (fk hb (λh=>qj h qD) ?_) λxs hx hi => ?_
  ·rintro⟨v0,e0,x0,h1,h2⟩; exact⟨v0,e0,x0,qj h1 qD,h2⟩
  ·obtain⟨n,h1,h2⟩:=h xs (b6 hx).1 hi
   exact⟨n,qj h1 qD,h2⟩
 | ms b qK e off len cap a hb vO ha mb h =>
  have qD:b<m:=Nat.le_of_ble_eq_true hd
  refine .ms b qK e off len cap a (fk hb (λh=>qj h qD) ?_) vO ha mb λxs hx => ?_
  ·rintro⟨v0,e0,x0,h1,h2⟩; exact⟨v0,e0,x0,qj h1 qD,h2⟩
  ·obtain⟨h1,h2⟩:=h xs (b6 hx).1
   refine⟨h1,fk h2 ?_ ?_⟩
   ·rintro⟨g1,g2,g3,g4⟩; exact⟨g1,g2,g3,qj g4 qD⟩
   ·rintro⟨blk,n,o,FP,g1,g2⟩; exact⟨blk,n,o,FP,qj g1 qD,g2⟩
 | xl=>cases hd
 | agg=>cases hd
 | gE=>cases hd
 | iface=>cases hd
theorem EE{κ:KS}{m:Nat}{d:D}{v:Value}(h:RD κ d v)(hd:bI m d=true):RD (κ.cut m) d v:=by
 cases d with
 | xl f l =>
  cases h with
  | xl _ _ vs hl hh =>
   simp only[bI,List.all_eq_true]at hd
   exact .xl f l vs hl λi h1 h2=>dT (hh i h1 h2) (hd _ (List.getElem_mem h1))
 | agg l =>
  cases h with
  | agg _ vs hl ho hh =>
   simp only[bI,List.all_eq_true]at hd
   exact .agg l vs hl ho λi h1 h2=>dT (hh i h1 h2) (hd _ (List.getElem_mem h1))
 | gE l=>cases hd
 | iface t d =>
  cases h with
  | iface _ _ v h=>exact .iface t _ v (dT h hd)
 | _=>exact dT h hd
theorem MT{κ:KS}{m:Nat}{l:List D}{vs:List Value}(h:qN κ l vs)(hd:∀ d∈l,bI m d=true):qN (κ.cut m) l vs:=⟨h.1,λi h1 h2=>EE (h.2 i h1 h2) (hd _ (List.getElem_mem h1))⟩
theorem HM{m:Nat}{d:D}(h:bI m d=true):∀ x∈qo d,bI m x=true:=by
 have BD:∀ (τ:Ty) (x:den τ),∀ y∈flat τ x,bI m y=true:=by
  intro τ x y hy
  have:∃ σ z,y=.zC σ z:=by
   induction τ with
   | cons a b ia ib =>
    simp only[flat]at hy
    grind
   | nil=>simp[flat]at hy
   | expr=>simp[flat]at hy; rcases hy with rfl | rfl | rfl | rfl | rfl | rfl<;>exact⟨_,_,rfl⟩
   | _=>simp[flat]at hy; subst hy; exact⟨_,_,rfl⟩
  obtain⟨σ,z,rfl⟩:=this
  rfl
 cases d with
 | zC τ x=>exact BD τ x
 | agg l =>
  intro x hx
  simp only[bI,List.all_eq_true]at h
  have:=h x hx
  cases x<;>first | exact this | cases this
 | gE l=>cases h
 | _=>intro x hx; simp[qo]at hx; subst hx; exact h
theorem z2x{κ:KS}{m:Nat}(hI:Inv κ)(hc:∀ x∈κ.st.take m,Bm m x=true):Inv (κ.cut m):=by
 refine⟨by simp[KS.cut,hI.len],hI.gi,λb blk n h=>hI.apart b blk n (b6 h).1,λb b' blk n n' h h'=>hI.inj b b' blk n n' (b6 h).1 (b6 h').1,λb x h => ?_,hI.gl⟩
 obtain⟨h1,h2⟩:=b6 h
 have hb:=hI.blk b x h1
 have hcx:=hc x (List.mem_of_getElem? h)
 cases x with
 | dead=>trivial
 | var d =>
  obtain⟨blk,n,cs,t,g1,g2,g3,g4,g5⟩:=hb
  exact⟨blk,n,cs,t,qj g1 h2,g2,g3,MT g4 (HM hcx),g5⟩
 | arr qK e xs =>
  obtain⟨h0,hb⟩:=hb
  refine⟨h0,fk hb (λh=>⟨h.1,qj h.2 h2⟩) ?_⟩
  rintro⟨blk,n,cs,t,g1,g2⟩
  exact⟨blk,n,cs,t,qj g1 h2,g2⟩
end
end Go.AM
namespace Go.AM
set_option linter.unusedSectionVars false
variable [uy]
section
variable {c:Ctx}
theorem vy{P:Program}{f:Nat}{fn:Func}{args:Array Value}(hf:P.funcs[f]? = some fn) (hn:(fn.name == "runtime.NumGoroutine")=false) (hb:fn.body.isNone=false) (w:World) :
  (callFunc f args).run P w=.ok (.enter f args) w:=by
 simp only[callFunc,Sem.run_bind,run_program,Result.andThen_ok,hf,hn,hb,Bool.false_eq_true,if_false,Sem.run_pure]
theorem Nw{κ κe:KS}(hI:Inv κ)(xV:κ.st=[])(hIe:Inv κe)(hx:Ext κ κe):Inv (κe.bare (Pk κe))/\Ext κ (κe.bare (Pk κe)):=by
 have qD:∀ k,Pk κe k->k<κe.w.heap.size:=by
  rintro k (hk | ⟨b,n,hk⟩)
  ·exact hIe.gi k hk
  ·exact(hIe.apart b k n hk).1
 refine⟨UK hIe (λ_ h=>.inl h) qD,hx.os,hx.tape,hx.output,hx.size,λk hk=>⟨.inl (hx.same k hk).1,(hx.same k hk).2⟩,?_,λb blk n h=>by simp[KS.bare]at h,λb d h=>by grind,
  λb v0 e xs h=>by grind,λb h=>by grind,by grind,hx.frame⟩
 rintro k (hk | ⟨b,n,hk⟩)
 ·exact hx.fresh k hk
 ·rcases hx.phs b k n hk with h | h
  ·grind
  ·grind
end
end Go.AM
namespace Go.AM
set_option linter.unusedSectionVars false
variable [uy] [Kq]
open Go.RowKit
def z27(s:Nat)(fr:Fr)(st:St):T (Fr×St):=match fr.get s with
 | some (.ms b qK e off len)=>match st[b]? with
  | some (.arr kG e' xs)=>match(vT (a:=.sl e') (b:=.sl e) xs:Option (List (den e)))with
   | some ys=>.zx (qK=kG) (.ret ((s,some (.zC (.sl e) ((ys.take (off+len)).drop off)))::fr,st.set b .dead))
   | none=>.fail
  | _=>.fail
 | _=>.ret (fr,st)
def z3R(j i:Nat)(fr:Fr)(st:St):T (Fr×St):=match st[j]? with
 | some (.var (.agg ds))=>match ds[i]? with
  | some (.ms b qK e off len)=>match st[b]? with
   | some (.arr kG e' xs)=>match(vT (a:=.sl e') (b:=.sl e) xs:Option (List (den e)))with
    | some ys=>.zx (qK=kG) (.ret (fr,(st.set b .dead).set j (.var (.agg (ds.set i (.zC (.sl e) ((ys.take (off+len)).drop off)))))))
    | none=>.fail
   | _=>.fail
  | _=>.ret (fr,st)
 | _=>.ret (fr,st)
def z48(s:Nat)(fr:Fr)(st:St):T (Fr×St):=bif Nat.ble 1000000 s then z3R ((s-1000000) / 1000) ((s-1000000) % 1000) fr st else z27 s fr st
def frz:List Nat->Fr->St->T (Fr×St)
 | [],fr,st=>.ret (fr,st)
 | s::r,fr,st=>(z48 s fr st).bind λx=>frz r x.1 x.2
section
variable {c:Ctx} {κ:KS} {n:Nat}
theorem zbx{b qK off len:Nat}{e:Ty}{xs:List (den e)}{v:Value}(hI:Inv κ)(h:RD κ (.ms b qK e off len) v)(hb:κ.st[b]? = some (.arr qK e xs)){Wl:Nat->Prop}(h1:∀ k,κ.ok k->Wl k)(h2:∀ k n,κ.ph[b]? = some (some (k,n))->Wl k) :
  Rc κ.w Wl (.sl e) ((xs.take (off+len)).drop off) [v]:=by
 obtain⟨Hm,_⟩:=Fb hI h hb
 obtain⟨a,cap,f,hve,vO,hn,g1,g2⟩:=Hm.ex
 have S7:∀ blk o:Nat,v=.slice (some ⟨blk,o,none⟩) ((xs.take (off+len)).drop off).length cap->Wl blk:=by
  intro blk o he
  cases h with
  | ms _ _ _ _ _ FP a' hold zc5 ha mb hm =>
   obtain⟨_,hm⟩:=hm xs hb
   grind
 rw[hve]
 cases a with
 | none=>obtain⟨k1,k2⟩:=hn rfl; rw[k1,k2]; exact .lp e none
 | some p =>
  rcases g2 p rfl with⟨k1,k2⟩ | ⟨hp,_,hc⟩
  ·rw[k1,k2]; exact .lp e _
  ·obtain⟨blk,o,sp⟩:=p
   subst hp
   exact .sl e _ blk o cap f (S7 blk o hve) vO (λi hi=>(g1 i hi).mono λk hk=>⟨h1 k hk,rfl⟩) hc
theorem IE{b qK:Nat}{e:Ty}{xs:List (den e)}(hb:κ.st[b]? = some (.arr qK e xs))(hI:Inv κ):∃ κ':KS,κ'.w=κ.w/\κ'.st=κ.st.set b .dead/\Inv κ'/\Ext κ κ' /\
  ∀ (off len:Nat) (v:Value),RD κ (.ms b qK e off len) v->RD κ' (.zC (.sl e) ((xs.take (off+len)).drop off)) v:=by
 have qD:b<κ.st.length:=(List.getElem?_eq_some_iff.1 hb).1
 let κ':KS:=⟨κ.w,λk=>κ.ok k\/∃ n,κ.ph[b]? = some (some (k,n)),κ.ph.set b none,κ.st.set b .dead⟩
 have xV:∀ i,i≠b->κ'.st[i]? = κ.st[i]? := λi hi=>by show(κ.st.set b .dead)[i]? = _; rw[List.getElem?_set_ne (λe=>hi e.symm)]
 have Yl:∀ i,i≠b->κ'.ph[i]? = κ.ph[i]? := λi hi=>by show(κ.ph.set b none)[i]? = _; rw[List.getElem?_set_ne (λe=>hi e.symm)]
 have z1g:∀ (i blk m:Nat),κ'.ph[i]? = some (some (blk,m))->i≠b/\κ.ph[i]? = some (some (blk,m)):=by
  grind
 have hx:Ext κ κ':=by
  refine⟨rfl,rfl,rfl,Nat.le_refl _,λk hk=>⟨.inl hk,rfl⟩,?_,λi blk m hi=>.inl (z1g i blk m hi).2,?_,?_,?_,by show _<=(κ.st.set b .dead).length; simp,λ_ _ _=>rfl⟩
  ·grind
  ·grind
  ·grind
  ·grind
 have hI':Inv κ':=by
  refine⟨by show(κ.ph.set b none).length=(κ.st.set b .dead).length; simp[hI.len],?_,?_,?_,?_,hI.gl.mono hx.same⟩
  ·rintro k (hk | ⟨m,hk⟩)
   ·exact hI.gi k hk
   ·exact(hI.apart b k m hk).1
  ·intro i blk m hi
   obtain⟨hib,KG⟩:=z1g i blk m hi
   obtain⟨g1,g2⟩:=hI.apart i blk m KG
   refine⟨g1,?_⟩
   rintro(hk | ⟨m',hk⟩)
   ·exact g2 hk
   ·exact hib (hI.inj i b blk m m' KG hk)
  ·intro i i' blk m m' hi KG
   exact hI.inj i i' blk m m' (z1g i blk m hi).2 (z1g i' blk m' KG).2
  ·intro i B hB
   by_cases hib:i=b
   ·subst hib
    have:(κ.st.set i .dead)[i]? = some B:=hB
    rw[List.getElem?_set_self qD]at this
    cases this
    trivial
   ·rw[xV i hib]at hB
    exact(hI.blk i B hB).mono hx (Yl i hib) λ_ _ _=>rfl
 exact⟨κ',rfl,rfl,hI',hx,λoff len v hd=>RD.mP rfl (zbx hI hd hb (λk hk=>.inl hk) λk m hk=>.inr ⟨m,hk⟩)⟩
theorem z30{s:Nat}{fr:Fr}{a:Act}{r:Fr×St}(h:(z27 s fr κ.st).leads r)(hI:Inv κ)(hR:Rel κ n fr.get a):∃ κ':KS,κ'.w=κ.w/\κ'.st=r.2/\Inv κ'/\Ext κ κ'/\Rel κ' n r.1.get a:=by
 unfold z27 at h
 split at h
 ·rename_i b qK e off len hs
  split at h
  ·rename_i kG e' xs hb
   split at h
   ·rename_i ys hy
    obtain⟨he,hx⟩:=qw hy
    obtain⟨rfl,h⟩:=h
    cases h
    obtain⟨v,hv,hd⟩:=hR.get s _ hs
    obtain⟨κ',e1,e2,hI',hx,hk⟩:=IE hb hI
    refine⟨κ',e1,e2,hI',hx,hR.size,hR.defers,λt d yw => ?_⟩
    simp only[Fr.get]at yw
    cases ht:Nat.beq s t with
    | true =>
     rw[<- Nat.eq_of_beq_eq_true ht]
     grind
    | false =>
     rw[ht,cond_false]at yw
     obtain⟨u,g1,g2⟩:=hR.get t d yw
     exact⟨u,g1,g2.mono hx⟩
   ·exact h.elim
  ·exact h.elim
 ·cases h; exact⟨κ,rfl,rfl,hI,Ext.refl κ,hR⟩
theorem O1{ds:List D}{i b qK off len:Nat}{e:Ty}{d':D}(hd:ds[i]? = some (.ms b qK e off len))(hn:bQ [d']=none){T:Nat}(h:bQ (ds.set i d')=some T):bQ ds=some T:=by
 cases ds with
 | nil=>cases hd
 | cons x r =>
  cases i with
  | zero =>
   have:bQ (d'::r)=bQ [d']:=by cases d'<;>rfl
   grind
  | succ i =>
   have:∀ r':List D,bQ (x::r')=bQ [x]:=by intro r'; cases x<;>rfl
   grind
theorem z3J{j i:Nat}{fr:Fr}{a:Act}{r:Fr×St}(h:(z3R j i fr κ.st).leads r)(hI:Inv κ)(hR:Rel κ n fr.get a):∃ κ':KS,κ'.w=κ.w/\κ'.st=r.2/\Inv κ'/\Ext κ κ'/\Rel κ' n r.1.get a:=by
 unfold z3R at h
 split at h
 ·rename_i ds hj
  split at h
  ·rename_i b qK e off len hi
   split at h
   ·rename_i kG e' xs hb
    split at h
    ·rename_i ys hy
     obtain⟨he,hx⟩:=qw hy
     cases he
     cases hx
     obtain⟨rfl,h⟩:=h
     cases h
     obtain⟨κ1,e1,e2,Xp,hx1,hk⟩:=IE hb hI
     have hjb:j≠b:=λq=>by subst q; rw[hb]at hj; cases hj
     have hj1:κ1.st[j]? = some (.var (.agg ds)):=by rw[e2,List.getElem?_set_ne (λq=>hjb q.symm)]; exact hj
     have Ph:j<κ1.st.length:=(List.getElem?_eq_some_iff.1 hj1).1
     let d':D:=.zC (.sl e) ((xs.take (off+len)).drop off)
     let κ2:KS:={ κ1 with st:=κ1.st.set j (.var (.agg (ds.set i d'))) }
     have xV:∀ k,k≠j->κ2.st[k]? = κ1.st[k]? := λk hk=>by show(κ1.st.set j _)[k]? = _; rw[List.getElem?_set_ne (λq=>hk q.symm)]
     have zgv:κ2.st[j]? = some (.var (.agg (ds.set i d'))):=by show(κ1.st.set j _)[j]? = _; rw[List.getElem?_set_self Ph]
     have Iz:Ext κ1 κ2:=by
      refine⟨rfl,rfl,rfl,Nat.le_refl _,λk hk=>⟨hk,rfl⟩,λk hk=>.inl hk,λk blk m hk=>.inl hk,?_,?_,?_,by show _<=(κ1.st.set j _).length; simp,λ_ _ _=>rfl⟩
      ·grind
      ·grind
      ·grind
     have hI2:Inv κ2:=by
      refine⟨by show κ1.ph.length=(κ1.st.set j _).length; simp[Xp.len],Xp.gi,Xp.apart,Xp.inj,?_,Xp.gl⟩
      intro k B hB
      by_cases q:k=j
      ·subst q
       rw[zgv]at hB
       cases hB
       obtain⟨blk,m,cs,t,g1,g2,g3,g4,g5,g6⟩:=hI.blk k _ hj
       obtain⟨mv,m',cR,t',p1,p2,p3,p4,p5,p6⟩:=Xp.blk k _ hj1
       have Yl:κ1.ph[k]? = κ.ph[k]? := (hx1.var k _ hj).2
       rw[Yl,g1]at p1
       cases p1
       rw[e1,g2]at p2
       cases p2
       refine⟨blk,m,cs,t,Yl.trans g1,by show κ1.w.heap[blk]? = _; rw[e1]; exact g2,g3,?_,?_,λT hT=>g6 T (O1 hi rfl hT)⟩
       ·have p4':qN κ2 ds cs.toList:=qN.mono Iz p4
        refine⟨by show(ds.set i d').length=_; rw[List.length_set]; exact p4'.1,λk' h1 h2 => ?_⟩
        have Vv:k'<(ds.set i d').length:=h1
        rw[List.length_set]at Vv
        show RD κ2 ((ds.set i d')[k']) _
        by_cases q:i=k'
        ·subst q
         have hdi:ds[i]'Vv=.ms b qK e off len:=Option.some.inj ((List.getElem?_eq_getElem Vv).symm.trans hi)
         have:=g4.2 i Vv h2
         have CS:(qo (D.agg ds))[i]'Vv=.ms b qK e off len:=hdi
         rw[CS]at this
         have e3:(ds.set i d')[i]'h1=d':=List.getElem_set_self _
         rw[e3]
         exact(hk _ _ _ this).mono Iz
        ·have e3:(ds.set i d')[k']'h1=ds[k']'Vv:=List.getElem_set_ne q _
         rw[e3]
         exact p4'.2 k' Vv h2
       ·intro x hx
        rcases List.mem_or_eq_of_mem_set hx with hx | rfl
        ·exact g5 x hx
        ·rfl
      ·rw[xV k q]at hB
       exact(Xp.blk k B hB).mono Iz rfl λ_ _ _=>rfl
     refine⟨κ2,e1,by show κ1.st.set j _=_; rw[e2],hI2,hx1.trans Iz,hR.size,hR.defers,λt d yw => ?_⟩
     obtain⟨u,q1,q2⟩:=hR.get t d yw
     exact⟨u,q1,(q2.mono hx1).mono Iz⟩
    ·exact h.elim
   ·exact h.elim
  ·cases h; exact⟨κ,rfl,rfl,hI,Ext.refl κ,hR⟩
 ·cases h; exact⟨κ,rfl,rfl,hI,Ext.refl κ,hR⟩
theorem z3e{s:Nat}{fr:Fr}{a:Act}{r:Fr×St}(h:(z48 s fr κ.st).leads r)(hI:Inv κ)(hR:Rel κ n fr.get a):∃ κ':KS,κ'.w=κ.w/\κ'.st=r.2/\Inv κ'/\Ext κ κ'/\Rel κ' n r.1.get a:=by
 unfold z48 at h
 cases hb:Nat.ble 1000000 s with
 | true=>rw[hb,cond_true]at h; exact z3J h hI hR
 | false=>rw[hb,cond_false]at h; exact z30 h hI hR
theorem SW:∀ (l:List Nat) {fr:Fr} {κ:KS} {a:Act} {r:Fr×St},(frz l fr κ.st).leads r->Inv κ->Rel κ n fr.get a->∃ κ':KS,κ'.w=κ.w/\κ'.st=r.2/\Inv κ'/\Ext κ κ'/\Rel κ' n r.1.get a
 | [],fr,κ,a,r,h,hI,hR=>by cases h; exact⟨κ,rfl,rfl,hI,Ext.refl κ,hR⟩
 | s::l,fr,κ,a,r,h,hI,hR=>by
  simp only[frz,T.zM]at h
  obtain⟨x,h1,h2⟩:=h
  obtain⟨κ1,e1,e2,e3,e4,e5⟩:=z3e h1 hI hR
  rw[<- e2]at h2
  obtain⟨κ2,g1,g2,g3,g4,g5⟩:=SW l h2 e3 e5
  exact⟨κ2,g1.trans e1,g2,g3,e4.trans g4,g5⟩
end
end Go.AM