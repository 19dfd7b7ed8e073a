/-
  The abstract machine, part C: texts of our own, the same for each claim.
-/
import Derived.Test.YthhgaidlooddpaaGreatDoorAmB
import Derived.Deep.LoopGhost
set_option linter.unusedVariables false
namespace Go.AM
set_option linter.unusedSectionVars false
variable [vX]
abbrev F:=Nat->Option D
def qi(f:F):Operand->Option D
 | .tmp t=>f t
 | .const v=>Wo v
 | .global _=>none
 | .func g=>bif Nat.blt g 1000000 then some (.qW g [])else none
theorem gT(fr:Fr):uG fr=qi fr.get:=by rfl
def ku(f:F)(dst:Option Nat)(d:Option D):F:=match dst with
 | some t=>λs=>if s=t then d else f s
 | none=>f
theorem nq{a b:Nat}(h:a≠b):Nat.beq a b=false:=by
 cases hb:Nat.beq a b with
 | false=>rfl
 | true=>exact absurd (Nat.eq_of_beq_eq_true hb) h
theorem ml(fr:Fr)(dst:Option Nat)(d:Option D):(fr.put dst d).get=ku fr.get dst d:=by
 cases dst with
 | none=>rfl
 | some t =>
  funext s
  simp only[Fr.put,Fr.get,ku]
  by_cases h:s=t
  ·subst h; simp
  ·rw[if_neg h,nq (λe=>h e.symm),cond_false]
section
variable (c:Ctx) (n:Nat) (ops:Array Oper)
def wb(f:F)(o:Oper):Option Bool:=match o.guard with
 | none=>some true
 | some (j,w)=>match uB ops j with
  | none=>none
  | some t=>match f t with
   | some (.zI .bool b)=>some (b==w)
   | some (.yq [])=>some false
   | _=>none
def yK(i:Nat)(s s':F×St)(k:Nat):Prop:=∃ o,ops[i]? = some o/\vS n o.dst=true /\
 ((wb ops s.1 o=some true/\k=(qF c (qi s.1) o).kind/\∃ d zt,(zH (qF c (qi s.1) o) s.2).leads (d,zt)/\s'=(ku s.1 o.dst d,zt)) \/
  (wb ops s.1 o=some false/\k=0/\s'=(ku s.1 o.dst (some Nx),s.2)))
def O1:List Nat->F×St->F×St->List Nat->Prop
 | [],s,s',ks=>s'=s/\ks=[]
 | i::l,s,s',ks=>∃ s1 k Fa,ks=k::Fa/\yK c n ops i s s1 k/\O1 l s1 s' Fa
end
section
variable {c:Ctx} {n:Nat} {ops:Array Oper}
def vA(kn:Kn)(f:F):Prop:=∀ t b,kn.get t=some b->f t=some (.zI .bool b)
theorem Un(t:Nat)(b:Option Bool)(kn:Kn)(s:Nat):Kn.get ((t,b)::kn) s=if s=t then b else kn.get s:=by
 simp only[Kn.get]
 by_cases h:s=t
 ·subst h; simp
 ·rw[if_neg h,nq (λe=>h e.symm),cond_false]
theorem bu{kn:Kn}{f:F}(h:vA kn f){x:Operand}{b:Bool}(hx:cE kn x=some b):qi f x=some (.zI .bool b):=by
 unfold cE at hx
 split at hx
 ·exact h _ _ hx
 ·cases hx; rfl
 ·cases hx
theorem D5{kn:Kn}{fr:Fr}{o:Oper}(hk:vA kn fr.get){st:St}{r:Option D×St}(h:(zH (nT c kn fr o) st).leads r) :
  (zH (qF c (qi fr.get) o) st).leads r/\(nT c kn fr o).kind=(qF c (qi fr.get) o).kind/\∀ b,Kf kn o.op=some b->r.1=some (.zI .bool b):=by
 obtain⟨dst,op,ty,pos,after,guard⟩:=o
 rw[<- gT]
 cases op with
 | pick x a b =>
  simp only[nT]at h ⊢
  cases hx:cE kn x with
  | none =>
   rw[hx]at h
   refine⟨h,rfl,λb' hb => ?_⟩
   simp[Kf,hx]at hb
  | some bx =>
   rw[hx]at h
   have Kc:=bu hk hx
   rw[<- gT]at Kc
   have z9X:qF c (uG fr) ⟨dst,.pick x a b,ty,pos,after,guard⟩=.val (.ite bx (.ret (uG fr a)) (.ret (uG fr b))):=by
    simp only[qF,Ig,Kc,asBool]
   rw[z9X]
   obtain⟨d,zt⟩:=r
   cases bx with
   | true =>
    simp only[wU,T.leads]at h ⊢
    refine⟨⟨.inl ⟨by first | rfl | trivial,h.1⟩,h.2⟩,rfl,λb' hb => ?_⟩
    simp only[Kf,hx]at hb
    have:=bu hk hb
    rw[<- gT]at this
    grind
   | false =>
    simp only[wU,T.leads]at h ⊢
    refine⟨⟨.inr ⟨by first | rfl | trivial,h.1⟩,h.2⟩,rfl,λb' hb => ?_⟩
    simp only[Kf,hx]at hb
    have:=bu hk hb
    rw[<- gT]at this
    grind
 | move x =>
  refine⟨h,rfl,λb hb => ?_⟩
  obtain⟨d,zt⟩:=r
  simp only[nT,qF,wU,T.leads]at h
  have:=bu hk (show cE kn x=some b from hb)
  rw[<- gT]at this
  grind
 | assign x =>
  refine⟨h,rfl,λb hb => ?_⟩
  obtain⟨d,zt⟩:=r
  simp only[nT,qF,wU,T.leads]at h
  have:=bu hk (show cE kn x=some b from hb)
  rw[<- gT]at this
  grind
 | _=>exact⟨h,rfl,λb hb=>by simp[Kf]at hb⟩
theorem Lr{kn:Kn}{f:F}(hk:vA kn f){dst:Option Nat}{d:Option D}{b:Option Bool}(hb:∀ b',b=some b'->d=some (.zI .bool b')):vA (KD kn dst b) (ku f dst d):=by
 cases dst with
 | none=>exact hk
 | some t =>
  intro s b' h
  simp only[KD,Un]at h
  simp only[ku]
  split at h
  ·grind
  ·rename_i e; rw[if_neg e]; exact hk s b' h
theorem sd{kn:Kn}{f:F}(hk:vA kn f){t:Nat}{b:Bool}(hb:f t=some (.zI .bool b)):vA ((t,some b)::kn) f:=by
 intro s b' h
 rw[Un]at h
 split at h
 ·grind
 ·exact hk s b' h
theorem VV{o:Oper}{s s':du}(hk:vA s.kn s.fr.get)(h:(hJ c n o s).leads s') :
  vS n o.dst=true/\(∃ d zt,(zH (qF c (qi s.fr.get) o) s.st).leads (d,zt)/\s'.fr.get=ku s.fr.get o.dst d/\s'.st=zt)/\vA s'.kn s'.fr.get/\s'.ks=(qF c (qi s.fr.get) o).kind::s.ks:=by
 unfold hJ at h
 cases hd:vS n o.dst with
 | false=>rw[hd]at h; exact h.elim
 | true =>
  rw[hd,cond_true]at h
  simp only[T.zD]at h
  obtain⟨⟨d,zt⟩,h1,rfl⟩:=h
  obtain⟨h2,h3,h4⟩:=D5 hk h1
  refine⟨rfl,⟨d,zt,h2,ml _ _ _,rfl⟩,?_,by grind⟩
  rw[ml]
  exact Lr hk h4
theorem Iw{o:Oper}{s:du}(hk:vA s.kn s.fr.get):vA (jd o s).kn (jd o s).fr.get:=by
 show vA (KD s.kn o.dst none) (s.fr.put o.dst (some Nx)).get
 rw[ml]
 exact Lr hk nofun
theorem Yx{i:Nat}{o:Oper}{s s':du}(ho:ops[i]? = some o)(hk:vA s.kn s.fr.get)(h:(stepG c n ops o s).leads s') :
  ∃ k,yK c n ops i (s.fr.get,s.st) (s'.fr.get,s'.st) k/\vA s'.kn s'.fr.get/\s'.ks=k::s.ks:=by
 have run:∀ (s0:du),s0.fr=s.fr->s0.st=s.st->s0.ks=s.ks->vA s0.kn s0.fr.get->wb ops s.fr.get o=some true->(hJ c n o s0).leads s' ->
   ∃ k,yK c n ops i (s.fr.get,s.st) (s'.fr.get,s'.st) k/\vA s'.kn s'.fr.get/\s'.ks=k::s.ks:=by
  intro s0 e1 e2 e3 HZ hw h
  obtain⟨h1,⟨d,zt,h2,h3,h4⟩,h5,h6⟩:=VV HZ h
  rw[e1]at h2 h3 h6
  rw[e2]at h2
  rw[e3]at h6
  exact⟨_,⟨o,ho,h1,.inl ⟨hw,rfl,d,zt,h2,by rw[h3,h4]⟩⟩,h5,h6⟩
 have skip:∀ (s0:du),s0.fr=s.fr->s0.st=s.st->s0.ks=s.ks->vA s0.kn s0.fr.get->wb ops s.fr.get o=some false->vS n o.dst=true->jd o s0=s' ->
   ∃ k,yK c n ops i (s.fr.get,s.st) (s'.fr.get,s'.st) k/\vA s'.kn s'.fr.get/\s'.ks=k::s.ks:=by
  intro s0 e1 e2 e3 HZ hw hd h
  subst h
  refine⟨0,⟨o,ho,hd,.inr ⟨hw,rfl,?_⟩⟩,Iw HZ,by simp[jd,e3]⟩
  simp only[jd,ml,e1,e2]
 unfold stepG at h
 split at h
 ·rename_i hg
  exact run s rfl rfl rfl hk (by simp[wb,hg]) h
 ·rename_i j w hg
  split at h
  ·exact h.elim
  ·rename_i t ht
   split at h
   ·rename_i b hb
    have hf:=hk t b hb
    have hw:wb ops s.fr.get o=some (b==w):=by simp[wb,hg,ht,hf]
    cases Pg:(b==w)with
    | true=>grind
    | false =>
     rw[Pg,cond_false]at h
     cases hd:vS n o.dst with
     | false=>rw[hd]at h; exact h.elim
     | true=>rw[hd,cond_true]at h; exact skip s rfl rfl rfl hk (by rw[hw,Pg]) hd h
   ·split at h
    ·rename_i x hx
     have hw:wb ops s.fr.get o=some (x==w):=by simp[wb,hg,ht,hx]
     cases hd:vS n o.dst with
     | false=>rw[hd]at h; exact h.elim
     | true =>
      rw[hd,cond_true]at h
      rcases h with⟨rfl,h⟩ | ⟨rfl,h⟩
      ·have Gy:vA (s.ba t true).kn (s.ba t true).fr.get:=sd hk hx
       cases w with
       | true=>exact run (s.ba t true) rfl rfl rfl Gy hw h
       | false=>exact skip (s.ba t true) rfl rfl rfl Gy hw hd h
      ·have Gy:vA (s.ba t false).kn (s.ba t false).fr.get:=sd hk hx
       cases w with
       | true=>exact skip (s.ba t false) rfl rfl rfl Gy hw hd h
       | false=>exact run (s.ba t false) rfl rfl rfl Gy hw h
    ·rename_i hx
     have hw:wb ops s.fr.get o=some false:=by simp[wb,hg,ht,hx]
     cases hd:vS n o.dst with
     | false=>rw[hd]at h; exact h.elim
     | true=>rw[hd,cond_true]at h; exact skip s rfl rfl rfl hk hw hd h
    ·exact h.elim
theorem ff:∀ (l:List Oper) (k0:Nat) (s s':du),(∀ j,l[j]? = ops[k0+j]? \/ l.length<=j)->vA s.kn s.fr.get->(iO c n ops l s).leads s' ->
  ∃ ks,O1 c n ops (List.range' k0 l.length) (s.fr.get,s.st) (s'.fr.get,s'.st) ks/\vA s'.kn s'.fr.get/\s'.ks=ks.reverse++s.ks
 | [],k0,s,s',_,hk,h=>by cases h; exact⟨[],⟨rfl,rfl⟩,hk,rfl⟩
 | o::l,k0,s,s',hl,hk,h=>by
  simp only[iO,T.zD]at h
  obtain⟨s1,h1,h2⟩:=h
  have ho:ops[k0]? = some o:=by rcases hl 0 with h | h<;>simp at h; exact h.symm
  obtain⟨k,g1,g2,g3⟩:=Yx ho hk h1
  obtain⟨ks,g4,g5,g6⟩:=ff l (k0+1) s1 s' (λj=>by have:=hl (j+1); simpa[Nat.add_assoc,Nat.add_comm 1 j]using this) g2 h2
  refine⟨k::ks,?_,g5,by grind⟩
  exact⟨_,k,ks,rfl,g1,g4⟩
end
end Go.AM
namespace Go.AM
set_option linter.unusedSectionVars false
variable [vX]
section
variable {c:Ctx} {n:Nat} {ops:Array Oper}
theorem ov{α:Type}{ρ ρ':α->Option D}(L:List (Nat×α))(h:∀ p∈L,ρ p.2=ρ' p.2):(L.map λp=>(p.1,ρ p.2))=L.map λp=>(p.1,ρ' p.2) :=
 List.map_congr_left λp hp=>by rw[h p hp]
theorem th{ρ ρ':Operand->Option D}(o:Oper)(h:∀ x∈o.op.operands,ρ x=ρ' x):qF c ρ o=qF c ρ' o:=by
 obtain⟨dst,op,ty,pos,after,guard⟩:=o
 cases op with
 | move x=>simp only[qF]; rw[h x (by simp[Op.operands])]
 | assign x=>simp only[qF]; rw[h x (by simp[Op.operands])]
 | pick x a b=>simp only[qF]; rw[h x (by simp[Op.operands]),h a (by simp[Op.operands]),h b (by simp[Op.operands])]
 | box t x=>simp only[qF]; rw[h x (by simp[Op.operands])]
 | load t x=>simp only[qF]; rw[h x (by simp[Op.operands])]
 | store t x y=>simp only[qF]; rw[h x (by simp[Op.operands]),h y (by simp[Op.operands])]
 | nilCheck x=>simp only[qF]; rw[h x (by simp[Op.operands])]
 | binOp op t x y _=>simp only[qF]; rw[h x (by simp[Op.operands]),h y (by simp[Op.operands])]
 | typeAssert x xt t ok=>simp only[qF]; rw[h x (by simp[Op.operands])]
 | unOp op t x=>simp only[qF]; rw[h x (by simp[Op.operands])]
 | convert s t x=>simp only[qF]; rw[h x (by simp[Op.operands])]
 | makeInterface t x=>simp only[qF]; rw[h x (by simp[Op.operands])]
 | makeFunc fn first cap =>
  cases fn<;>simp only[qF]
  rw[List.map_congr_left (l:=cap.toList) (λx hx=>h x (by simp[Op.operands,Array.mem_toList_iff.1 hx])),List.map_congr_left (l:=first.toList) (λx hx=>h x (by simp[Op.operands,Array.mem_toList_iff.1 hx]))]
 | makeSlice t x y=>simp only[qF]; rw[h x (by simp[Op.operands]),h y (by simp[Op.operands])]
 | slice t x lo hi mx =>
  simp only[qF]
  have ho:∀ o:Option Operand,(∀ y,o=some y->ρ y=ρ' y)->o.map ρ=o.map ρ':=λo ho=>by
   cases o with
   | none=>rfl
   | some y=>grind
  rw[h x (by simp[Op.operands]),ho lo (λy hy=>h y (by simp[Op.operands,hy])),ho hi (λy hy=>h y (by simp[Op.operands,hy])),ho mx (λy hy=>h y (by simp[Op.operands,hy]))]
 | fieldAddr s x f=>simp only[qF]; rw[h x (by simp[Op.operands])]
 | field s x f=>simp only[qF]; rw[h x (by simp[Op.operands])]
 | indexAddr t x y=>simp only[qF]; rw[h x (by simp[Op.operands]),h y (by simp[Op.operands])]
 | index t x y=>simp only[qF]; rw[h x (by simp[Op.operands]),h y (by simp[Op.operands])]
 | extract x i=>simp only[qF]; rw[h x (by simp[Op.operands])]
 | build t ps=>simp only[qF]; rw[ov ps.toList λp hp=>h p.2 (by simp[Op.operands]; exact⟨p.1,Array.mem_toList_iff.1 hp⟩)]
 | buildSlice t k ps=>simp only[qF]; rw[ov ps.toList λp hp=>h p.2 (by simp[Op.operands]; exact⟨p.1,Array.mem_toList_iff.1 hp⟩)]
 | call cl =>
  obtain⟨callee,args,o5⟩:=cl
  have bj:args.toList.map ρ=args.toList.map ρ':=List.map_congr_left λx hx=>h x (by simp[Op.operands,Call.operands,Array.mem_toList_iff.1 hx])
  cases callee with
  | builtin b=>simp only[qF]; rw[bj]
  | value f=>simp only[qF]; rw[bj,h f (by simp[Op.operands,Call.operands])]
  | invoke r m=>rfl
 | _=>rfl
theorem Yr{f:F}{dst:Option Nat}{d:Option D}{x:Operand}(h:∀ t,dst=some t->x≠.tmp t):qi (ku f dst d) x=qi f x:=by
 cases dst with
 | none=>rfl
 | some t=>cases x with
  | tmp s=>simp only[qi,ku]; rw[if_neg (λe=>h t rfl (by rw[e]))]
  | _=>rfl
theorem yO(f:F){a b:Option Nat}(d e:Option D)(h:∀ t,a=some t->b≠some t):ku (ku f a d) b e=ku (ku f b e) a d:=by
 cases a with
 | none=>rfl
 | some s=>cases b with
  | none=>rfl
  | some t =>
   simp only[ku]
   grind
def Ind(ops:Array Oper)(kd:Nat->Nat)(p i:Nat):Prop:=∀ x y,ops[p]? = some x->ops[i]? = some y ->
 (∀ d,x.dst=some d->d ∉ tmpsOf ops y)/\(∀ d,y.dst=some d->d ∉ tmpsOf ops x)/\uw (kd p) (kd i)=false
theorem kh{o:Oper}{d:Nat}(h:o.dst=some d):d∈tmpsOf ops o:=by simp[tmpsOf,h]
theorem pG{o:Oper}{d:Nat}(h:Operand.tmp d∈o.op.operands):d∈tmpsOf ops o:=by
 simp only[tmpsOf,List.mem_append,List.mem_filterMap]
 exact .inr ⟨.tmp d,by grind,rfl⟩
theorem oi{o:Oper}{j:Nat}{w:Bool}{d:Nat}(h:o.guard=some (j,w))(hg:uB ops j=some d):d∈tmpsOf ops o:=by
 simp[tmpsOf,h,hg]
theorem xZ{f:F}{o:Oper}{dst:Option Nat}{d:Option D}(h:∀ t,dst=some t->t ∉ tmpsOf ops o):wb ops (ku f dst d) o=wb ops f o:=by
 unfold wb
 cases hg:o.guard with
 | none=>rfl
 | some jw =>
  obtain⟨j,w⟩:=jw
  simp only
  cases hs:uB ops j with
  | none=>rfl
  | some t =>
   simp only
   have:ku f dst d t=f t:=by
    cases dst with
    | none=>rfl
    | some s=>simp only[ku]; rw[if_neg]; intro e; exact h s rfl (e▸oi hg hs)
   rw[this]
theorem jF{f:F}{o:Oper}{dst:Option Nat}{d:Option D}(h:∀ t,dst=some t->t ∉ tmpsOf ops o):qF c (qi (ku f dst d)) o=qF c (qi f) o :=
 th o λx hx=>Yr λt ht e=>h t ht (pG (ops:=ops) (e▸hx))
theorem fT{cl:bz}(h:cl.kind=0){st zt:St}{d:Option D}(hl:(zH cl st).leads (d,zt)):zt=st/\∀ jk,(zH cl jk).leads (d,jk):=by
 cases cl with
 | val t=>rw[wU]at hl; exact⟨hl.2,λjk=>by rw[wU]; exact⟨hl.1,rfl⟩⟩
 | rd k=>cases h
 | wr k=>cases h
theorem cg{cl:bz}(h:cl.kind<=1){st zt:St}{d:Option D}(hl:(zH cl st).leads (d,zt)):zt=st:=by
 cases cl with
 | val t=>rw[wU]at hl; exact hl.2
 | rd k=>rw[lF]at hl; exact hl.2
 | wr k=>simp[bz.kind]at h
theorem Zq(cl:bz):cl.kind<=2:=by cases cl<;>simp[bz.kind]
theorem YU{kd:Nat->Nat}{p i:Nat}(hi:Ind ops kd p i){s s1 s2:F×St}(h1:yK c n ops p s s1 (kd p))(h2:yK c n ops i s1 s2 (kd i)) :
  ∃ s',yK c n ops i s s' (kd i)/\yK c n ops p s' s2 (kd p):=by
 obtain⟨x,hx,hdx,HR⟩:=h1
 obtain⟨y,hy,hdy,hy'⟩:=h2
 obtain⟨a1,a2,a3⟩:=hi x y hx hy
 have M1:∀ t,x.dst=some t->y.dst≠some t:=λt ht e=>a1 t ht (kh e)
 obtain⟨f,st⟩:=s
 rcases HR with⟨hw,hk,d,gS,hl,rfl⟩ | ⟨hw,hk,rfl⟩
 ·rcases hy' with⟨QI,cC,e,jk,fy,rfl⟩ | ⟨QI,cC,rfl⟩
  ·simp only[xZ a1,jF (c:=c) a1]at QI cC fy
   simp only at hw hk hl
   -- the two meet nowhere in the store
   have key:(zH (qF c (qi f) y) st).leads (e,(if(qF c (qi f) y).kind=2 then jk else st))/\(zH (qF c (qi f) x) (if(qF c (qi f) y).kind=2 then jk else st)).leads (d,jk):=by
    rw[hk,cC]at a3
    rcases Nat.lt_or_ge (qF c (qi f) y).kind 2 with ET | ET
    ·rw[if_neg (by omega)]
     have e2:=cg (by omega) fy
     subst e2
     rcases Nat.lt_or_ge (qF c (qi f) x).kind 2 with FI | FI
     ·have e1:=cg (by omega) hl
      grind
     ·have hx3:(qF c (qi f) x).kind=2:=Nat.le_antisymm (Zq _) FI
      have hy0:(qF c (qi f) y).kind=0:=by
       rw[hx3]at a3
       cases hy0:(qF c (qi f) y).kind with
       | zero=>rfl
       | succ m=>rw[hy0]at a3; simp[uw]at a3
      exact⟨(fT hy0 fy).2 st,hl⟩
    ·have hy3:(qF c (qi f) y).kind=2:=Nat.le_antisymm (Zq _) ET
     rw[if_pos hy3]
     have Ve:(qF c (qi f) x).kind=0:=by
      rw[hy3]at a3
      cases Ve:(qF c (qi f) x).kind with
      | zero=>rfl
      | succ m=>rw[Ve]at a3; simp[uw]at a3
     obtain⟨e1,h3⟩:=fT Ve hl
     grind
   refine⟨_,⟨y,hy,hdy,.inl ⟨QI,cC,e,_,key.1,rfl⟩⟩,x,hx,hdx,.inl ⟨?_,?_,d,jk,?_,?_⟩⟩
   ·rw[xZ a2]; exact hw
   ·rw[jF (c:=c) a2]; exact hk
   ·rw[jF (c:=c) a2]; exact key.2
   ·simp only[yO f d e M1]
  ·simp only[xZ a1]at QI
   refine⟨_,⟨y,hy,hdy,.inr ⟨QI,cC,rfl⟩⟩,x,hx,hdx,.inl ⟨?_,?_,d,gS,?_,?_⟩⟩
   ·rw[xZ a2]; exact hw
   ·rw[jF (c:=c) a2]; exact hk
   ·rw[jF (c:=c) a2]; exact hl
   ·simp only[yO f d (some Nx) M1]
 ·rcases hy' with⟨QI,cC,e,jk,fy,rfl⟩ | ⟨QI,cC,rfl⟩
  ·simp only[xZ a1,jF (c:=c) a1]at QI cC fy
   refine⟨_,⟨y,hy,hdy,.inl ⟨QI,cC,e,jk,fy,rfl⟩⟩,x,hx,hdx,.inr ⟨?_,hk,?_⟩⟩
   ·rw[xZ a2]; exact hw
   ·simp only[yO f (some Nx) e M1]
  ·simp only[xZ a1]at QI
   refine⟨_,⟨y,hy,hdy,.inr ⟨QI,cC,rfl⟩⟩,x,hx,hdx,.inr ⟨?_,hk,?_⟩⟩
   ·rw[xZ a2]; exact hw
   ·simp only[yO f (some Nx) (some Nx) M1]
def nJ(c:Ctx)(n:Nat)(ops:Array Oper)(kd:Nat->Nat):List Nat->F×St->F×St->Prop
 | [],s,s'=>s'=s
 | i::l,s,s'=>∃ s1,yK c n ops i s s1 (kd i)/\nJ c n ops kd l s1 s'
theorem JN{kd:Nat->Nat}{i:Nat}{post:List Nat}{s':F×St}:∀ {pre:List Nat} {s:F×St},(∀ p∈pre,Ind ops kd p i)->nJ c n ops kd (pre++i::post) s s' ->
  ∃ s1,yK c n ops i s s1 (kd i)/\nJ c n ops kd (pre++post) s1 s'
 | [],s,_,h=>h
 | p::pre,s,hp,⟨sp,h1,h2⟩=>by
  obtain⟨s1,h3,h4⟩:=JN (λq hq=>hp q (List.mem_cons_of_mem _ hq)) h2
  obtain⟨s2,h5,h6⟩:=YU (hp p List.mem_cons_self) h1 h3
  exact⟨s2,h5,s1,h6,h4⟩
end
end Go.AM
namespace Go.AM
set_option linter.unusedSectionVars false
variable [vX]
section
variable (c:Ctx) (n:Nat) (ops:Array Oper)
def cN(i:Nat)(s s':F×St)(k:RK):Prop:=∃ o,ops[i]? = some o/\vS n o.dst=true /\
 ((wb ops s.1 o=some true/\k=w7 c (qi s.1) s.2 o/\∃ d zt,(zH (qF c (qi s.1) o) s.2).leads (d,zt)/\s'=(ku s.1 o.dst d,zt)) \/
  (wb ops s.1 o=some false/\k=.z 0/\s'=(ku s.1 o.dst (some Nx),s.2)))
def Lx:List Nat->F×St->F×St->List RK->Prop
 | [],s,s',ks=>s'=s/\ks=[]
 | i::l,s,s',ks=>∃ s1 k Fa,ks=k::Fa/\cN c n ops i s s1 k/\Lx l s1 s' Fa
end
section
variable {c:Ctx} {n:Nat} {ops:Array Oper}
theorem cN.plain{i:Nat}{s s':F×St}{k:RK}(h:cN c n ops i s s' k):∃ k',yK c n ops i s s' k':=by
 obtain⟨o,h1,h2,h3⟩:=h
 rcases h3 with⟨g1,_,g3⟩ | ⟨g1,_,g3⟩
 ·exact⟨_,o,h1,h2,.inl ⟨g1,rfl,g3⟩⟩
 ·exact⟨_,o,h1,h2,.inr ⟨g1,rfl,g3⟩⟩
theorem Fi{i:Nat}{o:Oper}{s s':du}(ho:ops[i]? = some o)(hk:vA s.kn s.fr.get)(h:(stepG c n ops o s).leads s') :
  ∃ k,cN c n ops i (s.fr.get,s.st) (s'.fr.get,s'.st) k/\vA s'.kn s'.fr.get/\s'.bk=k::s.bk:=by
 have bkS:∀ {s0:du},(hJ c n o s0).leads s'->s'.bk=w7 c (uG s0.fr) s0.st o::s0.bk:=by
  intro s0 h
  unfold hJ at h
  cases hd:vS n o.dst with
  | false=>rw[hd]at h; exact h.elim
  | true =>
   rw[hd,cond_true]at h
   simp only[T.zD]at h
   obtain⟨⟨d,zt⟩,h1,rfl⟩:=h
   rfl
 have run:∀ (s0:du),s0.fr=s.fr->s0.st=s.st->s0.bk=s.bk->vA s0.kn s0.fr.get->wb ops s.fr.get o=some true->(hJ c n o s0).leads s' ->
   ∃ k,cN c n ops i (s.fr.get,s.st) (s'.fr.get,s'.st) k/\vA s'.kn s'.fr.get/\s'.bk=k::s.bk:=by
  intro s0 e1 e2 e3 HZ hw h
  obtain⟨h1,⟨d,zt,h2,h3,h4⟩,h5,h6⟩:=VV HZ h
  have hb:=bkS h
  rw[e1]at h2 h3 hb
  rw[e2]at h2 hb
  rw[e3]at hb
  rw[gT]at hb
  exact⟨_,⟨o,ho,h1,.inl ⟨hw,rfl,d,zt,h2,by rw[h3,h4]⟩⟩,h5,hb⟩
 have skip:∀ (s0:du),s0.fr=s.fr->s0.st=s.st->s0.bk=s.bk->vA s0.kn s0.fr.get->wb ops s.fr.get o=some false->vS n o.dst=true->jd o s0=s' ->
   ∃ k,cN c n ops i (s.fr.get,s.st) (s'.fr.get,s'.st) k/\vA s'.kn s'.fr.get/\s'.bk=k::s.bk:=by
  intro s0 e1 e2 e3 HZ hw hd h
  subst h
  refine⟨.z 0,⟨o,ho,hd,.inr ⟨hw,rfl,?_⟩⟩,Iw HZ,by simp[jd,e3]⟩
  simp only[jd,ml,e1,e2]
 unfold stepG at h
 split at h
 ·rename_i hg
  exact run s rfl rfl rfl hk (by simp[wb,hg]) h
 ·rename_i j w hg
  split at h
  ·exact h.elim
  ·rename_i t ht
   split at h
   ·rename_i b hb
    have hf:=hk t b hb
    have hw:wb ops s.fr.get o=some (b==w):=by simp[wb,hg,ht,hf]
    cases Pg:(b==w)with
    | true=>grind
    | false =>
     rw[Pg,cond_false]at h
     cases hd:vS n o.dst with
     | false=>rw[hd]at h; exact h.elim
     | true=>rw[hd,cond_true]at h; exact skip s rfl rfl rfl hk (by rw[hw,Pg]) hd h
   ·split at h
    ·rename_i x hx
     have hw:wb ops s.fr.get o=some (x==w):=by simp[wb,hg,ht,hx]
     cases hd:vS n o.dst with
     | false=>rw[hd]at h; exact h.elim
     | true =>
      rw[hd,cond_true]at h
      rcases h with⟨rfl,h⟩ | ⟨rfl,h⟩
      ·have Gy:vA (s.ba t true).kn (s.ba t true).fr.get:=sd hk hx
       cases w with
       | true=>exact run (s.ba t true) rfl rfl rfl Gy hw h
       | false=>exact skip (s.ba t true) rfl rfl rfl Gy hw hd h
      ·have Gy:vA (s.ba t false).kn (s.ba t false).fr.get:=sd hk hx
       cases w with
       | true=>exact skip (s.ba t false) rfl rfl rfl Gy hw hd h
       | false=>exact run (s.ba t false) rfl rfl rfl Gy hw h
    ·rename_i hx
     have hw:wb ops s.fr.get o=some false:=by simp[wb,hg,ht,hx]
     cases hd:vS n o.dst with
     | false=>rw[hd]at h; exact h.elim
     | true=>rw[hd,cond_true]at h; exact skip s rfl rfl rfl hk hw hd h
    ·exact h.elim
theorem XT:∀ (l:List Oper) (k0:Nat) (s s':du),(∀ j,l[j]? = ops[k0+j]? \/ l.length<=j)->vA s.kn s.fr.get->(iO c n ops l s).leads s' ->
  ∃ ks,Lx c n ops (List.range' k0 l.length) (s.fr.get,s.st) (s'.fr.get,s'.st) ks/\s'.bk=ks.reverse++s.bk
 | [],k0,s,s',_,hk,h=>by cases h; exact⟨[],⟨rfl,rfl⟩,rfl⟩
 | o::l,k0,s,s',hl,hk,h=>by
  simp only[iO,T.zD]at h
  obtain⟨s1,h1,h2⟩:=h
  have ho:ops[k0]? = some o:=by rcases hl 0 with h | h<;>simp at h; exact h.symm
  obtain⟨k,g1,g2,g3⟩:=Fi ho hk h1
  obtain⟨ks,g4,g6⟩:=XT l (k0+1) s1 s' (λj=>by have:=hl (j+1); simpa[Nat.add_assoc,Nat.add_comm 1 j]using this) g2 h2
  refine⟨k::ks,?_,by grind⟩
  exact⟨_,k,ks,rfl,g1,g4⟩
theorem FK{m b:Nat}{l:List Nat}:b∈others m l↔b<m/\∀ x∈l,b≠x:=by
 simp only[others]
 simp
theorem IN{d:Option D}{b:Nat}(h:z8e d=some b):(∃ off,d=some (.ptr b off))\/∃ v e i off,d=some (.uo b v e i off):=by
 cases d with
 | none=>cases h
 | some d=>cases d<;>first | (cases h; exact .inl ⟨_,rfl⟩) | (cases h; exact .inr ⟨_,_,_,_,rfl⟩) | cases h
theorem QB{bi:Builtin}{l:List (Option D)}:IF bi l=.z 2\/∃ b v e off len x,bi=.append/\l=[some (.ms b v e off len),some x]/\YT x=false/\IF bi l=.up b:=by
 unfold IF
 grind
theorem Uj(ρ:Operand->Option D)(st:St)(o:Oper):(w7 c ρ st o).base=(qF c ρ o).kind:=by
 unfold w7
 split
 ·rename_i h
  rw[h]
  cases o.op with
  | load t a=>simp only; split<;>rfl
  | _=>rfl
 ·rename_i h
  rw[h]
  cases o.op with
  | call cl =>
   cases hc:cl.callee with
   | builtin bi =>
    simp only[hc]
    rcases QB (bi:=bi) (l:=cl.args.toList.map ρ)with e | ⟨b,v,e,off,len,x,_,_,_,e⟩<;>rw[e]<;>rfl
   | value f=>simp only[hc]; split<;>rfl
   | _=>simp only[hc]; rfl
  | store t a v=>simp only; split<;>rfl
  | _=>rfl
 ·rfl
theorem Wd{ρ:Operand->Option D}{o:Oper}(h:(qF c ρ o).kind<=1)(st zt:St):w7 c ρ st o=w7 c ρ zt o:=by
 unfold w7
 grind
theorem Zb{ρ:Operand->Option D}{st:St}{o:Oper}{b:Nat}(h:w7 c ρ st o=.rd b){gS jk D4:St}{d:Option D}(hl:(zH (qF c ρ o) gS).leads (d,D4))(hb:jk[b]? = gS[b]?):(zH (qF c ρ o) jk).leads (d,jk):=by
 obtain⟨dst,op,ty,pos,after,guard⟩:=o
 cases op with
 | load t a =>
  have h':(∃ off,ρ a=some (.ptr b off))\/∃ v e i off,ρ a=some (.uo b v e i off):=by
   unfold w7 at h
   simp only at h
   split at h
   ·split at h
    ·rename_i b' ha; cases h; exact IN ha
    ·cases h
   ·cases h
   ·cases h
  have he:qF c ρ ⟨dst,.load t a,ty,pos,after,guard⟩=Uf c t (ρ a):=rfl
  rcases h' with⟨off,ha⟩ | ⟨v,e,i,off,ha⟩
  all_goals
   rw[he,ha]at hl ⊢
   simp only[Uf]at hl ⊢
   rw[lF]at hl ⊢
   grind
 | call cl =>
  obtain⟨callee,args,o5⟩:=cl
  unfold w7 at h
  split at h
  ·cases h
  ·cases callee with
   | builtin bi =>
    simp only at h
    rcases QB (bi:=bi) (l:=args.toList.map ρ)with e | ⟨b,v,e,off,len,x,_,_,_,e⟩<;>rw[e]at h<;>cases h
   | value f=>grind
   | _=>cases h
  ·cases h
 | _ =>
  unfold w7 at h
  grind
theorem Bv{ρ:Operand->Option D}{st:St}{o:Oper}{A:List Nat}(h:w7 c ρ st o=.wr A){zt:St}{d:Option D}(hl:(zH (qF c ρ o) st).leads (d,zt)):∀ b∈A,zt[b]? = st[b]? := by
 obtain⟨dst,op,ty,pos,after,guard⟩:=o
 cases op with
 | alloc t =>
  have h':A=others st.length []:=by
   unfold w7 at h
   grind
  subst h'
  intro b hb
  obtain⟨hb,_⟩:=FK.1 hb
  have hl:(zH (nE c t) st).leads (d,zt):=hl
  unfold nE at hl
  split at hl
  ·rename_i z hz
   have hl:(some (D.ptr st.length 0),st++[kA.var z])=(d,zt):=hl
   grind
  ·exact absurd hl zf
 | store t a v =>
  exfalso
  unfold w7 at h
  grind
 | call cl =>
  obtain⟨callee,args,o5⟩:=cl
  cases callee with
  | value f =>
   have h':(qF c ρ ⟨dst,.call ⟨.value f,args,o5⟩,ty,pos,after,guard⟩).kind=2/\∃ g caps l,ρ f=some (.qW g caps)/\uy (args.toList.map ρ)=some l/\A=c.free (yo g) (jj g l caps) st:=by
    unfold w7 at h
    grind
   obtain⟨hk,g,caps,l,hg,hl',rfl⟩:=h'
   intro b hb
   have he:qF c ρ ⟨dst,.call ⟨.value f,args,o5⟩,ty,pos,after,guard⟩=cO c (ρ f) (args.toList.map ρ):=rfl
   rw[he,hg]at hl hk
   simp only[cO,hl']at hl hk
   split at hl
   ·rename_i s hs
    rw[hs]at hk
    simp only[hH]at hk
    cases hn:(!(jj g l caps).any UT)<;>rw[hn]at hk<;>simp[bz.kind]at hk
   ·simp only[rk,zH,T.zD]at hl
    obtain⟨⟨rs,gS⟩,h1,h2⟩:=hl
    cases rs with
    | ret ds=>cases h2; exact c.Tl _ _ _ _ _ b h1 hb
    | kB p=>exact h2.elim
  | builtin bi =>
   exfalso
   unfold w7 at h
   simp only at h
   split at h
   ·cases h
   ·rcases QB (bi:=bi) (l:=args.toList.map ρ)with e | ⟨b,v,e,off,len,x,_,_,_,e⟩<;>rw[e]at h<;>cases h
   ·cases h
  | invoke r m =>
   exfalso
   unfold w7 at h
   simp only at h
   split at h<;>cases h
 | _ =>
  exfalso
  unfold w7 at h
  simp only at h
  split at h
  ·first
    | cases h
    | (split at h<;>cases h)
  ·cases h
  ·cases h
theorem Qm{ρ:Operand->Option D}{st:St}{o:Oper}{b:Nat}(h:w7 c ρ st o=.up b){gS D4:St}{d:Option D}(hl:(zH (qF c ρ o) gS).leads (d,D4)) :
  ∃ y,D4=gS.set b y/\∀ jk:St,jk[b]? = gS[b]? -> (zH (qF c ρ o) jk).leads (d,jk.set b y):=by
 obtain⟨dst,op,ty,pos,after,guard⟩:=o
 cases op with
 | store t a v =>
  have h':(∃ off,ρ a=some (.ptr b off))\/∃ v e i off,ρ a=some (.uo b v e i off):=by
   unfold w7 at h
   simp only at h
   split at h
   ·cases h
   ·split at h
    ·rename_i b ha; cases h; exact IN ha
    ·cases h
   ·cases h
  have he:qF c ρ ⟨dst,.store t a v,ty,pos,after,guard⟩=Vj c t (ρ a) (ρ v):=rfl
  rw[he]at hl ⊢
  cases hv:ρ v with
  | none =>
   rw[hv]at hl
   rcases h' with⟨off,ha⟩ | ⟨w,e,i,off,ha⟩<;>(rw[ha]at hl; exact absurd hl zf)
  | some x =>
   rw[hv]at hl
   rcases h' with⟨off,ha⟩ | ⟨w,e,i,off,ha⟩
   ·rw[ha]at hl ⊢
    have hl:(match gS[b]? with
     | some (.var d)=>match CZ c t d off x with | some r=>bif n8 d r then T.ret ((none:Option D),gS.set b (.var r))else .fail | none=>.fail
     | _=>.fail:T (Option D×St)).leads (d,D4):=hl
    split at hl
    ·rename_i d0 hb
     split at hl
     ·rename_i r hr
      cases ho:n8 d0 r with
      | false=>rw[ho]at hl; exact hl.elim
      | true =>
       rw[ho]at hl
       cases hl
       refine⟨.var r,rfl,λjk h2 => ?_⟩
       show(match jk[b]? with
        | some (.var d)=>match CZ c t d off x with | some r=>bif n8 d r then T.ret ((none:Option D),jk.set b (.var r))else .fail | none=>.fail
        | _=>.fail:T (Option D×St)).leads _
       rw[h2,hb]
       simp only[hr,ho,cond_true]
       rfl
     ·exact hl.elim
    ·exact hl.elim
   ·rw[ha]at hl ⊢
    have hl:(match gS[b]? with
     | some (.arr jQ e' xs)=>bif decide (e'=e)then
       .zL (w=jQ/\i<xs.length) (match CZ c t (.zI e' (xs.getD i (zk e'))) off x with
        | some r=>match fp e' r with | some y=>T.ret ((none:Option D),gS.set b (.arr jQ e' (xs.set i y))) | none=>.fail
        | none=>.fail)
      else .fail
     | _=>.fail:T (Option D×St)).leads (d,D4):=hl
    split at hl
    ·rename_i jQ e' xs hb
     cases hd:decide (e'=e)with
     | false=>rw[hd]at hl; exact hl.elim
     | true =>
      rw[hd,cond_true]at hl
      obtain⟨ho,hl⟩:=hl
      split at hl
      ·rename_i r hr
       split at hl
       ·rename_i y hy
        cases hl
        refine⟨.arr jQ e' (xs.set i y),rfl,λjk h2 => ?_⟩
        show(match jk[b]? with
         | some (.arr jQ e' xs)=>bif decide (e'=e)then
           .zL (w=jQ/\i<xs.length) (match CZ c t (.zI e' (xs.getD i (zk e'))) off x with
            | some r=>match fp e' r with | some y=>T.ret ((none:Option D),jk.set b (.arr jQ e' (xs.set i y))) | none=>.fail
            | none=>.fail)
          else .fail
         | _=>.fail:T (Option D×St)).leads _
        rw[h2,hb]
        simp only[hd,cond_true,hr,hy]
        exact⟨ho,rfl⟩
       ·exact hl.elim
      ·exact hl.elim
    ·exact hl.elim
 | call cl =>
  obtain⟨callee,args,o5⟩:=cl
  cases callee with
  | builtin bi =>
   have h':bi=.append/\∃ v e off len x,args.toList.map ρ=[some (.ms b v e off len),some x]/\YT x=false:=by
    unfold w7 at h
    simp only at h
    split at h
    ·cases h
    ·rcases QB (bi:=bi) (l:=args.toList.map ρ)with e | ⟨b',v,e,off,len,x,h1,h2,h3,e'⟩
     ·grind
     ·rw[e']at h; cases h; exact⟨h1,v,e,off,len,x,h2,h3⟩
    ·cases h
   obtain⟨rfl,v,e,off,len,x,hx,hm⟩:=h'
   have he:qF c ρ ⟨dst,.call ⟨.builtin .append,args,o5⟩,ty,pos,after,guard⟩=lC c .append o5.toList (args.toList.map ρ):=rfl
   rw[he,hx]at hl ⊢
   -- what the row gets
   have one:∀ {e':Ty} {ys:List (den e')} {ne:Bool} {oa:Nat},(jD e' (.ms b v e off len) ys ne oa gS).leads (d,D4)->∃ y,D4=gS.set b y/\∀ jk:St,jk[b]? = gS[b]? -> (jD e' (.ms b v e off len) ys ne oa jk).leads (d,jk.set b y):=by
    intro e' ys ne oa hl
    simp only[jD]at hl
    split at hl
    ·rename_i jQ e'' xs hb
     split at hl
     ·rename_i zs hz
      cases hd:decide (e=e')with
      | false=>rw[hd]at hl; exact hl.elim
      | true =>
       rw[hd,cond_true]at hl
       obtain⟨ho,hl⟩:=hl
       cases hl
       refine⟨_,rfl,λjk h2 => ?_⟩
       simp only[jD]
       rw[h2,hb]
       simp only[hz,hd,cond_true]
       exact⟨ho,rfl⟩
     ·exact hl.elim
    ·exact hl.elim
   have snp:∀ jk,nS jk x=.ret x:=λjk=>by cases x<;>first | rfl | cases hm
   generalize o5.toList=tl at hl ⊢
   rcases tl with _ | ⟨t,_ | ⟨t',_ | ⟨t'',tl⟩⟩⟩
   ·exact absurd hl zf
   ·exact absurd hl zf
   rotate_left
   ·exact absurd hl zf
   ·
    simp only[lC]at hl ⊢
    cases ht:Nat.beq t t' with
    | true =>
     rw[ht,cond_true]at hl
     simp only[cond_true]
     unfold QJ at hl ⊢
     cases het:fX c t with
     | none=>rw[het]at hl; exact absurd hl zf
     | some et =>
      rw[het]at hl
      simp only at hl ⊢
      cases h1:B9 c 20 et with
      | none=>rw[h1]at hl; exact absurd hl zf
      | some ee =>
       rw[h1]at hl
       try simp only at hl ⊢
       cases h2:ng c et with
       | none=>rw[h2]at hl; exact absurd hl zf
       | some bytes =>
        rw[h2]at hl
        simp only at hl ⊢
        cases hc:k9 c et ee&&Nat.blt 0 ee.size&&Nat.blt 0 bytes&&(zeroOf c et ee).isSome with
        | false=>rw[hc]at hl; exact absurd hl zf
        | true =>
         rw[hc,cond_true]at hl
         simp only[cond_true,zH,snp,T.bind]at hl ⊢
         cases x<;>simp only at hl ⊢ <;> first | exact hl.elim | exact one hl | skip
         ·split at hl
          ·exact one hl
          ·exact hl.elim
         ·split at hl
          ·exact one hl
          ·exact hl.elim
    | false =>
     rw[ht,cond_false]at hl
     simp only[cond_false]
     unfold rS at hl ⊢
     cases het:fX c t with
     | none=>rw[het]at hl; exact absurd hl zf
     | some et =>
      rw[het]at hl
      simp only at hl ⊢
      split at hl
      ·rename_i bytes h1 h2 h3
       cases hc:k9 c et (.int .u8)&&Nat.blt 0 bytes&&(zeroOf c et (.int .u8)).isSome with
       | false=>rw[hc]at hl; exact absurd hl zf
       | true =>
        rw[hc,cond_true]at hl
        simp only[cond_true]
        split at hl
        ·rename_i s l e1 e2
         cases e1
         cases e2
         simp only[zH]at hl ⊢
         exact one hl
        ·exact absurd hl zf
      ·exact absurd hl zf
  | _ =>
   exfalso
   unfold w7 at h
   simp only at h
   split at h
   ·cases h
   ·first | cases h | (split at h<;>cases h)
   ·cases h
 | _ =>
  exfalso
  unfold w7 at h
  simp only at h
  split at h
  ·first
    | cases h
    | (split at h<;>cases h)
  ·cases h
  ·cases h
theorem Ym:∀ (l:List Nat) (s s':F×St) (ks:List RK),Lx c n ops l s s' ks->ks.length=l.length
 | [],_,_,_,h=>by rw[h.2]; rfl
 | i::l,s,s',ks,⟨s1,k,Fa,e,h1,h2⟩=>by subst e; simp[Ym l s1 s' Fa h2]
theorem pA{ρ:Operand->Option D}{st:St}{o:Oper}{b:Nat}(h:w7 c ρ st o=.up b)(zt:St):w7 c ρ zt o=.up b:=by
 obtain⟨dst,op,ty,pos,after,guard⟩:=o
 cases op with
 | alloc t =>
  unfold w7 at h
  grind
 | call cl =>
  obtain⟨callee,args,o5⟩:=cl
  cases callee with
  | value f =>
   unfold w7 at h
   grind
  | builtin bi=>cases bi<;>exact h
  | _=>exact h
 | _=>exact h
def z6w(ops:Array Oper)(kd:Nat->RK)(p i:Nat):Prop:=∀ x y,ops[p]? = some x->ops[i]? = some y ->
 (∀ d,x.dst=some d->d ∉ tmpsOf ops y)/\(∀ d,y.dst=some d->d ∉ tmpsOf ops x)/\uv (kd p) (kd i)=false
theorem rJ{f:F}{o:Oper}{dst:Option Nat}{d:Option D}{st:St}(h:∀ t,dst=some t->t ∉ tmpsOf ops o):w7 c (qi (ku f dst d)) st o=w7 c (qi f) st o:=by
 have e1:qF c (qi (ku f dst d)) o=qF c (qi f) o:=jF h
 have e2:∀ x∈o.op.operands,qi (ku f dst d) x=qi f x:=λx hx=>Yr λt ht e=>h t ht (pG (ops:=ops) (e▸hx))
 obtain⟨dd,op,ty,pos,after,guard⟩:=o
 unfold w7
 rw[e1]
 cases op with
 | load t a=>simp only[e2 a (by simp[Op.operands])]
 | store t a v=>simp only[e2 a (by simp[Op.operands])]
 | call cl =>
  obtain⟨callee,args,o5⟩:=cl
  cases callee with
  | value g =>
   have bj:args.toList.map (qi (ku f dst d))=args.toList.map (qi f):=List.map_congr_left λx hx=>e2 x (by simp[Op.operands,Call.operands,Array.mem_toList_iff.1 hx])
   simp only[bj,e2 g (by simp[Op.operands,Call.operands])]
  | builtin bi =>
   have bj:args.toList.map (qi (ku f dst d))=args.toList.map (qi f):=List.map_congr_left λx hx=>e2 x (by simp[Op.operands,Call.operands,Array.mem_toList_iff.1 hx])
   grind
  | _=>rfl
 | _=>rfl
theorem FD{kd:Nat->RK}{p i:Nat}(hi:z6w ops kd p i){s s1 s2:F×St}(h1:cN c n ops p s s1 (kd p))(h2:cN c n ops i s1 s2 (kd i)) :
  ∃ s',cN c n ops i s s' (kd i)/\cN c n ops p s' s2 (kd p):=by
 obtain⟨x,hx,hdx,HR⟩:=h1
 obtain⟨y,hy,hdy,hy'⟩:=h2
 obtain⟨a1,a2,a3⟩:=hi x y hx hy
 have M1:∀ t,x.dst=some t->y.dst≠some t:=λt ht e=>a1 t ht (kh e)
 obtain⟨f,st⟩:=s
 rcases HR with⟨hw,hk,d,gS,hl,rfl⟩ | ⟨hw,hk,rfl⟩
 ·rcases hy' with⟨QI,cC,e,jk,fy,rfl⟩ | ⟨QI,cC,rfl⟩
  ·simp only[xZ a1,jF (c:=c) a1,rJ (c:=c) a1]at QI cC fy
   simp only at hw hk hl
   -- the two meet nowhere in the store
   have key:∃ zt,(zH (qF c (qi f) y) st).leads (e,zt)/\(zH (qF c (qi f) x) zt).leads (d,jk)/\w7 c (qi f) st y=kd i/\w7 c (qi f) zt x=kd p:=by
    have bx:=Uj (c:=c) (qi f) st x
    have oa:=Uj (c:=c) (qi f) gS y
    rw[<- hk]at bx
    rw[<- cC]at oa
    rcases Nat.lt_or_ge (qF c (qi f) x).kind 2 with FI | FI
    ·-- x writes nothing
     have e1:=cg (by omega) hl
     subst e1
     refine⟨jk,fy,?_,cC.symm,(Wd (by omega) jk gS).trans hk.symm⟩
     rcases Nat.lt_or_ge (qF c (qi f) y).kind 2 with ET | ET
     ·have e2:=cg (by omega) fy
      grind
     ·have hy3:(qF c (qi f) y).kind=2:=Nat.le_antisymm (Zq _) ET
      cases hp:kd p with
      | rd b =>
       cases hq:kd i with
       | wr A =>
        rw[hp,hq]at a3
        simp only[uv,Bool.not_eq_false',List.any_eq_true]at a3
        obtain⟨b',He,hbb⟩:=a3
        have:=Nat.eq_of_beq_eq_true hbb
        subst this
        exact Zb (by rw[<- hk]; exact hp) hl (Bv (by rw[<- cC]; exact hq) fy b He)
       | rd b'=>rw[hq]at oa; simp[RK.base]at oa; omega
       | z k=>rw[hp,hq]at a3; rw[hq,hy3]at oa; simp only[RK.base]at oa; subst oa; simp[uv,uw,RK.base]at a3
       | up a =>
        rw[hp,hq]at a3
        have QQ:a≠b:=λe=>by subst e; simp[uv]at a3
        obtain⟨z,e1,_⟩:=Qm (by rw[<- cC]; exact hq) fy
        subst e1
        exact Zb (by rw[<- hk]; exact hp) hl (by rw[List.getElem?_set_ne QQ])
      | wr A=>rw[hp]at bx; simp[RK.base]at bx; omega
      | up A=>rw[hp]at bx; simp[RK.base]at bx; omega
      | z k =>
       rw[hp]at bx
       simp only[RK.base]at bx
       have HZ:k=0:=by
        cases hq:kd i with
        | wr A =>
         rw[hp,hq]at a3
         simp only[uv,RK.base,uw]at a3
         cases k with
         | zero=>rfl
         | succ m=>simp at a3
        | rd b'=>rw[hq]at oa; simp[RK.base]at oa; omega
        | z k' =>
         rw[hq,hy3]at oa
         simp only[RK.base]at oa
         subst oa
         rw[hp,hq]at a3
         simp only[uv,RK.base,uw]at a3
         cases k with
         | zero=>rfl
         | succ m=>simp at a3
        | up A =>
         rw[hp,hq]at a3
         simp only[uv,RK.base,uw]at a3
         cases k with
         | zero=>rfl
         | succ m=>simp at a3
       subst HZ
       exact(fT bx.symm hl).2 jk
    ·have hx3:(qF c (qi f) x).kind=2:=Nat.le_antisymm (Zq _) FI
     -- x writes
     rcases Nat.lt_or_ge (qF c (qi f) y).kind 2 with ET | ET
     ·have e2:=cg (by omega) fy
      subst e2
      refine⟨st,?_,hl,(Wd (by omega) st jk).trans cC.symm,hk.symm⟩
      cases hq:kd i with
      | wr A=>rw[hq]at oa; simp[RK.base]at oa; omega
      | up A=>rw[hq]at oa; simp[RK.base]at oa; omega
      | rd b =>
       cases hp:kd p with
       | wr A =>
        rw[hp,hq]at a3
        simp only[uv,Bool.not_eq_false',List.any_eq_true]at a3
        obtain⟨b',He,hbb⟩:=a3
        have:=Nat.eq_of_beq_eq_true hbb
        subst this
        exact Zb (st:=jk) (by rw[<- cC]; exact hq) fy (Bv (by rw[<- hk]; exact hp) hl b He).symm
       | up a =>
        rw[hp,hq]at a3
        have QQ:a≠b:=λe=>by subst e; simp[uv]at a3
        obtain⟨z,e1,_⟩:=Qm (by rw[<- hk]; exact hp) hl
        subst e1
        exact Zb (st:=st.set a z) (by rw[<- cC]; exact hq) fy (by rw[List.getElem?_set_ne QQ])
       | rd b'=>rw[hp]at bx; simp[RK.base]at bx; omega
       | z k=>rw[hp]at bx; simp only[RK.base]at bx; rw[hx3]at bx; subst bx; rw[hp,hq]at a3; simp[uv,RK.base,uw]at a3
      | z k =>
       rw[hq]at oa
       simp only[RK.base]at oa
       have HZ:k=0:=by
        have a4:uv (kd p) (.z k)=false:=by rw[hq]at a3; exact a3
        have a5:uw 2 k=false:=by
         cases hp:kd p with
         | wr A=>rw[hp]at a4; exact a4
         | up A=>rw[hp]at a4; exact a4
         | rd b'=>rw[hp]at bx; simp[RK.base]at bx; omega
         | z k'=>rw[hp]at bx a4; simp only[RK.base]at bx; rw[hx3]at bx; subst bx; exact a4
        cases k with
        | zero=>rfl
        | succ m=>simp[uw]at a5
       subst HZ
       exact(fT oa.symm fy).2 st
     ·have hy3:(qF c (qi f) y).kind=2:=Nat.le_antisymm (Zq _) ET
      -- both write: one block each
      have hup:∃ a b,kd p=.up a/\kd i=.up b/\a≠b:=by
       cases hp:kd p with
       | rd b'=>rw[hp]at bx; simp[RK.base]at bx; omega
       | up a =>
        cases hq:kd i with
        | up b=>rw[hp,hq]at a3; exact⟨a,b,rfl,rfl,λe=>by subst e; simp[uv]at a3⟩
        | rd b'=>rw[hq]at oa; simp[RK.base]at oa; omega
        | wr A=>rw[hp,hq]at a3; simp[uv,RK.base,uw]at a3
        | z k=>rw[hq,hy3]at oa; simp only[RK.base]at oa; subst oa; rw[hp,hq]at a3; simp[uv,RK.base,uw]at a3
       | wr A =>
        cases hq:kd i with
        | up b=>rw[hp,hq]at a3; simp[uv,RK.base,uw]at a3
        | rd b'=>rw[hq]at oa; simp[RK.base]at oa; omega
        | wr B=>rw[hp,hq]at a3; simp[uv,RK.base,uw]at a3
        | z k=>rw[hq,hy3]at oa; simp only[RK.base]at oa; subst oa; rw[hp,hq]at a3; simp[uv,RK.base,uw]at a3
       | z k' =>
        rw[hp,hx3]at bx
        simp only[RK.base]at bx
        subst bx
        cases hq:kd i with
        | up b=>rw[hp,hq]at a3; simp[uv,RK.base,uw]at a3
        | rd b'=>rw[hq]at oa; simp[RK.base]at oa; omega
        | wr B=>rw[hp,hq]at a3; simp[uv,RK.base,uw]at a3
        | z k=>rw[hq,hy3]at oa; simp only[RK.base]at oa; subst oa; rw[hp,hq]at a3; simp[uv,RK.base,uw]at a3
      obtain⟨a,b,hp,hq,QQ⟩:=hup
      obtain⟨z1,e1,w1⟩:=Qm (by rw[<- hk]; exact hp) hl
      subst e1
      obtain⟨z2,e2,w2⟩:=Qm (by rw[<- cC]; exact hq) fy
      subst e2
      refine⟨st.set b z2,w2 st (by rw[List.getElem?_set_ne QQ]),?_,(pA (by rw[<- cC]; exact hq) st).trans hq.symm,(pA (by rw[<- hk]; exact hp) _).trans hp.symm⟩
      rw[List.set_comm _ _ QQ]
      exact w1 (st.set b z2) (by rw[List.getElem?_set_ne (λe=>QQ e.symm)])
   obtain⟨zt,k1,k2,k3,k4⟩:=key
   refine⟨_,⟨y,hy,hdy,.inl ⟨QI,k3.symm,e,_,k1,rfl⟩⟩,x,hx,hdx,.inl ⟨?_,?_,d,jk,?_,?_⟩⟩
   ·rw[xZ a2]; exact hw
   ·rw[rJ (c:=c) a2]; exact k4.symm
   ·rw[jF (c:=c) a2]; exact k2
   ·simp only[yO f d e M1]
  ·simp only[xZ a1]at QI
   refine⟨_,⟨y,hy,hdy,.inr ⟨QI,cC,rfl⟩⟩,x,hx,hdx,.inl ⟨?_,?_,d,gS,?_,?_⟩⟩
   ·rw[xZ a2]; exact hw
   ·rw[rJ (c:=c) a2]; exact hk
   ·rw[jF (c:=c) a2]; exact hl
   ·simp only[yO f d (some Nx) M1]
 ·rcases hy' with⟨QI,cC,e,jk,fy,rfl⟩ | ⟨QI,cC,rfl⟩
  ·simp only[xZ a1,jF (c:=c) a1,rJ (c:=c) a1]at QI cC fy
   refine⟨_,⟨y,hy,hdy,.inl ⟨QI,cC,e,jk,fy,rfl⟩⟩,x,hx,hdx,.inr ⟨?_,hk,?_⟩⟩
   ·rw[xZ a2]; exact hw
   ·simp only[yO f (some Nx) e M1]
  ·simp only[xZ a1]at QI
   refine⟨_,⟨y,hy,hdy,.inr ⟨QI,cC,rfl⟩⟩,x,hx,hdx,.inr ⟨?_,hk,?_⟩⟩
   ·rw[xZ a2]; exact hw
   ·simp only[yO f (some Nx) (some Nx) M1]
end
end Go.AM
namespace Go.AM
set_option linter.unusedSectionVars false
variable [vX]
class K0 where
 df:List Deferred
instance Vr:K0:=⟨[]⟩
variable [K0]
structure Rel(κ:KS)(n:Nat)(f:F)(a:Act):Prop where
 size:a.tmps.size=n
 defers:a.defers=K0.df
 get:∀ (s:Nat) (d:D),f s=some d->∃ v,a.tmps[s]? = some v/\RD κ d v
section
variable {c:Ctx} {κ:KS} {n:Nat} {f:F} {a:Act}
theorem Rel.eval(h:Rel κ n f a){x:Operand}{d:D}(hx:qi f x=some d):RD κ d (a.eval x):=by
 cases x with
 | tmp t =>
  obtain⟨v,h1,h2⟩:=h.get t d hx
  simp only[Act.eval,Array.getD_eq_getD_getElem?,h1]
  exact h2
 | const v=>exact(Js hx).1
 | global g=>cases hx
 | func g =>
  have hx:(bif Nat.blt g 1000000 then some (D.qW g [])else none)=some d:=hx
  cases hb:Nat.blt g 1000000 with
  | false=>grind
  | true =>
   rw[hb]at hx
   cases hx
   have:=RD.qW (κ:=κ) g [] [] rfl (λi h=>absurd h (Nat.not_lt_zero i))
   rwa [Hu hb]at this
theorem Rel.mono{κ':KS}(x:Ext κ κ')(h:Rel κ n f a):Rel κ' n f a:=⟨h.size,h.defers,λs d hd=>by obtain⟨v,h1,h2⟩:=h.get s d hd; exact⟨v,h1,h2.mono x⟩⟩
theorem Rel.put{dst:Option Nat}{d:Option D}{v:Value}(h:Rel κ n f a)(hd:vS n dst=true)(hv:∀ d',d=some d'->RD κ d' v):Rel κ n (ku f dst d) (a.put dst v):=by
 cases dst with
 | none=>exact h
 | some t =>
  have qu:t<n:=Nat.le_of_ble_eq_true hd
  refine⟨by simp[Act.put,h.size],h.defers,λs d' hs => ?_⟩
  simp only[ku]at hs
  simp only[Act.put]
  by_cases e:s=t
  ·subst e
   rw[if_pos rfl]at hs
   exact⟨v,by simp[h.size,qu],hv d' hs⟩
  ·rw[if_neg e]at hs
   obtain⟨u,h1,h2⟩:=h.get s d' hs
   grind
theorem Tz{v:Value}:RD κ Nx undef:=.yq [] [] rfl (λi h=>absurd h (Nat.not_lt_zero i))
theorem z3T{o:Oper}{d:Option D}{zt:St}(h:qx c.P (execOp a.eval o) κ d zt){K:Act->World->Prop}{Q:Exit->Act->World->Prop}
  (hK:∀ (v:Value) (κ':KS),κ'.st=zt->Inv κ'->Ext κ κ'->(∀ d',d=some d'->RD κ' d' v)->K (a.put o.dst v) κ'.w):o.wp c.P a κ.w K Q:=by
 obtain⟨κ',nx,v,h1,h2,h3,h4,h5,h6⟩:=h
 unfold Oper.wp
 rw[h1]
 rcases h2 with rfl | ⟨rfl,rfl⟩
 ·exact hK v κ' h3 h4 h5 h6
 ·exact hK undef κ' h3 h4 h5 h6
theorem En(h:Rel κ n f a)(x:Option Operand):Wu κ (x.map (qi f)) (x.map a.eval):=by
 cases x with
 | none=>trivial
 | some x=>exact λy hy=>h.eval hy
theorem Hk(hI:Inv κ)(hR:Rel κ n f a){b:Builtin}{args:Array Operand}{o5:Array TypeId}{o:Oper}(ho:o.op=.call ⟨.builtin b,args,o5⟩){d:Option D}{zt:St}
  (h:(zH (lC c b o5.toList (args.toList.map (qi f))) κ.st).leads (d,zt)):qx c.P (execOp a.eval o) κ d zt:=by
 have two:∀ {g:Value->Value->Sem Value} {m:Int->Int->Int},(∀ k k' a b,(g (.int k a) (.int k' b)).run c.P κ.w=.ok (.int k (m a b)) κ.w)->(zH (UP m (args.toList.map (qi f))) κ.st).leads (d,zt) ->
   (∀ p q,args = #[p,q]->execOp a.eval o=(do Pure.pure (.value (<- g (a.eval p) (a.eval q))):Sem Next))->qx c.P (execOp a.eval o) κ d zt:=by
  intro g m hg h he
  match hl:args.toList,h with
  | [p,q],h =>
   have hpq:args = #[p,q]:=by rw[<- Array.toArray_toList (xs:=args),hl]
   rw[he p q hpq]
   obtain⟨r,h1,rfl,h3⟩:=EZ hg hI (λz hz=>hR.eval (x:=p) hz) (λz hz=>hR.eval (x:=q) hz) h
   exact⟨κ,.value r,r,by simp[h1],.inl rfl,rfl,hI,Ext.refl κ,h3⟩
  | [],h=>exact absurd h zf
  | [_],h=>exact absurd h zf
  | _::_::_::_,h=>exact absurd h zf
 unfold lC at h
 split at h
 ·rename_i t ts x xs h1 h2
  have ht:o5[0]? = some t:=by rw[<- Array.getElem?_toList,h1]; rfl
  obtain⟨y,hy,rfl⟩:∃ y,args[0]? = some y/\x=qi f y:=by
   cases hl:args.toList with
   | nil=>grind
   | cons y ys=>rw[hl]at h2; simp at h2; exact⟨y,by rw[<- Array.getElem?_toList,hl]; rfl,h2.1.symm⟩
  have:=z3y (c:=c) (ty:=o.type) (ts:=o5) (vs:=args.map a.eval) hI (λz hz=>hR.eval (x:=y) hz) ht (by simp[hy]) h
  simp only[execOp,ho,resolve,invoke,builtin,pure_bind]
  exact this
 ·rename_i t t' s x h1 h2
  obtain⟨p,q,rfl,rfl,hpq⟩:∃ p q,s=qi f p/\x=qi f q/\args = #[p,q]:=by
   cases hl:args.toList with
   | nil=>grind
   | cons p r=>rw[hl]at h2; cases r with
    | nil=>simp at h2
    | cons q r=>cases r with
     | nil=>grind
     | cons _ _=>simp at h2
  subst hpq
  cases hb:Nat.beq t t' with
  | false =>
   rw[hb,cond_false]at h
   have Ry:o5 = #[t,t']:=by rw[<- Array.toArray_toList (xs:=o5),h1]
   subst Ry
   have:=JO (c:=c) (ty:=o.type) hI (λz hz=>hR.eval (x:=p) hz) (λz hz=>hR.eval (x:=q) hz) h
   have e2:(#[p,q]:Array Operand).map a.eval = #[a.eval p,a.eval q]:=by simp
   simp only[execOp,ho,resolve,invoke,builtin,pure_bind,e2]
   exact this
  | true =>
   rw[hb,cond_true]at h
   have e:=Nat.eq_of_beq_eq_true hb
   subst e
   have Ry:o5 = #[t,t]:=by rw[<- Array.toArray_toList (xs:=o5),h1]
   subst Ry
   have:=Cr (c:=c) (ty:=o.type) hI (λz hz=>hR.eval (x:=p) hz) (λz hz=>hR.eval (x:=q) hz) h
   have e2:(#[p,q]:Array Operand).map a.eval = #[a.eval p,a.eval q]:=by simp
   simp only[execOp,ho,resolve,invoke,builtin,pure_bind,e2]
   exact this
 ·rename_i t t' s x h1 h2
  obtain⟨p,q,rfl,rfl,hpq⟩:∃ p q,s=qi f p/\x=qi f q/\args = #[p,q]:=by
   cases hl:args.toList with
   | nil=>grind
   | cons p r=>rw[hl]at h2; cases r with
    | nil=>simp at h2
    | cons q r=>cases r with
     | nil=>simp at h2; exact⟨p,q,h2.1.symm,h2.2.symm,by rw[<- Array.toArray_toList (xs:=args),hl]⟩
     | cons _ _=>simp at h2
  subst hpq
  have Ry:o5 = #[t,t']:=by rw[<- Array.toArray_toList (xs:=o5),h1]
  subst Ry
  have:=OT (c:=c) (ty:=o.type) (t':=t') hI (λz hz=>hR.eval (x:=p) hz) (λz hz=>hR.eval (x:=q) hz) h
  have e2:(#[p,q]:Array Operand).map a.eval = #[a.eval p,a.eval q]:=by simp
  simp only[execOp,ho,resolve,invoke,builtin,pure_bind,e2]
  exact this
 ·rename_i h2
  exact two (g:=Builtin.min2) (λk k' a b=>by simp[Builtin.min2,H6]) h λp q hpq=>by
   subst hpq
   have e2:(#[p,q]:Array Operand).map a.eval = #[a.eval p,a.eval q]:=by simp
   simp only[execOp,ho,resolve,invoke,builtin,pure_bind,e2]
   simp[Builtin.min_]
 ·rename_i h2
  exact two (g:=Builtin.max2) (λk k' a b=>by simp[Builtin.max2,mP]) h λp q hpq=>by
   subst hpq
   have e2:(#[p,q]:Array Operand).map a.eval = #[a.eval p,a.eval q]:=by simp
   simp only[execOp,ho,resolve,invoke,builtin,pure_bind,e2]
   simp[Builtin.max_]
 ·exact absurd h zf
theorem z3u{o:Oper}{g:Nat}{caps:Array Value}{args:Array Value}{R:Ending->World->Prop}(vK:(execOp a.eval o).run c.P κ.w=(callFunc g args).run c.P κ.w)
  (h:uD c.P g args κ.w R) {K:Act->World->Prop} {Q:Exit->Act->World->Prop} (hR:∀ e w',R e w'->∃ v,e=.returned v/\K (a.put o.dst v) w'):o.wp c.P a κ.w K Q:=by
 unfold Oper.wp
 rw[vK]
 rcases h with⟨h1,h2⟩ | ⟨v,w',h1,h2⟩
 ·rw[h1]
  refine h2.mono λe w' he => ?_
  grind
 ·rw[h1]
  obtain⟨u,hu,hk⟩:=hR _ _ h2
  cases hu
  exact hk
theorem Jw(g:Nat){l caps:List D}{vs us:List Value}(h1:qE κ l vs)(h2:qE κ caps us):qE κ (jj g l caps) (jj g vs us):=by
 unfold jj
 cases Nat.ble 1000000 g with
 | true=>exact h2.append h1
 | false=>exact h1.append h2
theorem BA{dst:Option Nat}{p:Operand}{args:Array Operand}{o5:Array TypeId}{ty:TypeId}{pos:String}{after:Array Edge}{guard:Option (Nat×Bool)}{g:Nat}{us:List Value}{P:Program}{w:World}(DO:a.eval p=o7 g us) :
  (execOp a.eval ⟨dst,.call ⟨.value p,args,o5⟩,ty,pos,after,guard⟩).run P w=(callFunc (yo g) (jj g (args.toList.map a.eval) us).toArray).run P w:=by
 unfold o7 at DO
 unfold yo jj
 cases hb:Nat.ble 1000000 g with
 | true =>
  rw[hb]at DO
  simp at DO ⊢
  have e:us.toArray++args.map a.eval=(us++args.toList.map a.eval).toArray:=by apply Array.ext'; simp
  simp only[execOp,resolve,DO,Deferred.ofValue,pure_bind,invoke,Array.append_empty,e]
 | false =>
  rw[hb]at DO
  simp at DO ⊢
  have e:args.map a.eval++us.toArray=(args.toList.map a.eval++us).toArray:=by apply Array.ext'; simp
  simp only[execOp,resolve,DO,Deferred.ofValue,pure_bind,invoke,Array.empty_append,e]
theorem Di{o:Oper}{d:Option D}{zt:St}(hC:∀ g,Bb c.P g (c.fn g))(hI:Inv κ)(hR:Rel κ n f a)(h:(zH (qF c (qi f) o) κ.st).leads (d,zt)){K:Act->World->Prop}{Q:Exit->Act->World->Prop}
  (hK:∀ (v:Value) (κ':KS),κ'.st=zt->Inv κ'->Ext κ κ'->(∀ d',d=some d'->RD κ' d' v)->K (a.put o.dst v) κ'.w):o.wp c.P a κ.w K Q:=by
 have fE:∀ (x:Operand) (z:D),qi f x=some z->RD κ z (a.eval x):=λx z hz=>hR.eval hz
 obtain⟨dst,op,ty,pos,after,guard⟩:=o
 have fin:qx c.P (execOp a.eval ⟨dst,op,ty,pos,after,guard⟩) κ d zt->Oper.wp c.P ⟨dst,op,ty,pos,after,guard⟩ a κ.w K Q:=λhd=>z3T hd hK
 cases op with
 | move x =>
  simp only[qF,wU,T.leads]at h
  obtain⟨h,rfl⟩:=h
  exact fin (qx.val hI λd' kN=>fE x d' (h.trans kN))
 | assign x =>
  simp only[qF,wU,T.leads]at h
  obtain⟨h,rfl⟩:=h
  exact fin (qx.val hI λd' kN=>fE x d' (h.trans kN))
 | pick x p q =>
  simp only[qF,Ig]at h
  split at h
  ·rename_i b hb
   have hv:=sa hb (fE x)
   rw[wU]at h
   obtain⟨h,rfl⟩:=h
   refine fin ⟨κ,.value (if b then a.eval p else a.eval q),if b then a.eval p else a.eval q,?_,.inl rfl,rfl,hI,Ext.refl κ,λd' kN => ?_⟩
   ·simp[execOp,hv,Go.asBool]
   ·rcases h with⟨rfl,h⟩ | ⟨rfl,h⟩
    ·exact fE p d' (h.trans kN)
    ·exact fE q d' (h.trans kN)
  ·exact absurd h zf
 | alloc t=>exact fin (FH hI h)
 | box t x=>exact fin (EF hI (fE x) h)
 | load t x=>exact fin (OI hI (fE x) h)
 | store t x y=>exact fin (Fq hI (fE x) (fE y) h)
 | nilCheck x=>exact fin (Ki rfl hI (fE x) h)
 | binOp op t x y ty' =>
  have h:(zH (Eu c op t y (qi f x) (qi f y)) κ.st).leads (d,zt):=h
  unfold Eu at h
  split at h
  ·exact fin (I5 hI (fE x) h)
  ·exact fin (R0 hI (fE x) (fE y) h)
 | typeAssert x xt t ok=>exact fin (WE hI (fE x) h)
 | unOp op t x=>exact fin (z2I hI (fE x) h)
 | convert s t x=>exact fin (Hl hI (fE x) h)
 | makeInterface t x=>exact fin (JT hI (fE x) h)
 | makeFunc fn first cap =>
  cases fn with
  | func g =>
   simp only[qF]at h
   cases hb:Nat.beq first.size 0&&Nat.blt g 1000000 with
   | false =>
    rw[hb,cond_false]at h
    cases Ci:Nat.beq cap.size 0&&Nat.blt g 1000000 with
    | false=>rw[Ci]at h; exact absurd h zf
    | true =>
     rw[Ci,cond_true]at h
     simp only[Bool.and_eq_true]at Ci
     have hf:cap = #[]:=Array.eq_empty_of_size_eq_zero (Nat.eq_of_beq_eq_true Ci.1)
     subst hf
     split at h
     ·rename_i l hl
      rw[jY]at h
      obtain⟨rfl,rfl⟩:=h
      have hr:=yQ (κ:=κ) (vs:=first.toList.map a.eval) hl (by simp) (λi d v hd hv=>by
       simp only[List.getElem?_map]at hd hv
       cases hi:first.toList[i]? with
       | none=>grind
       | some x=>rw[hi]at hd hv; simp at hd hv; subst hv; exact fE x d hd)
      refine fin (qx.pure hI ?_ (.qW (g+1000000) l _ hr.1 hr.2))
      have e:(first.toList.map a.eval).toArray=first.map a.eval:=by apply Array.ext'; simp
      rw[EE Ci.2,e]
      simp[Instr.makeFunc]
     ·exact absurd h zf
   | true =>
    rw[hb,cond_true]at h
    simp only[Bool.and_eq_true]at hb
    have hf:first = #[]:=Array.eq_empty_of_size_eq_zero (Nat.eq_of_beq_eq_true hb.1)
    subst hf
    split at h
    ·rename_i l hl
     rw[jY]at h
     obtain⟨rfl,rfl⟩:=h
     have hr:=yQ (κ:=κ) (vs:=cap.toList.map a.eval) hl (by simp) (λi d v hd hv=>by
      simp only[List.getElem?_map]at hd hv
      cases hi:cap.toList[i]? with
      | none=>grind
      | some x=>rw[hi]at hd hv; simp at hd hv; subst hv; exact fE x d hd)
     refine fin (qx.pure hI ?_ (.qW g l _ hr.1 hr.2))
     have e:(cap.toList.map a.eval).toArray=cap.map a.eval:=by apply Array.ext'; simp
     rw[Hu hb.2,e]
     simp[Instr.makeFunc]
    ·exact absurd h zf
  | _=>exact absurd h zf
 | makeSlice t x y=>exact fin (NK hI (fE x) (fE y) h)
 | slice t x lo hi mx=>exact fin (Er hI (fE x) (En hR lo) (En hR hi) (En hR mx) h)
 | fieldAddr s x fl=>exact fin (Ui hI (fE x) h)
 | field s x fl=>exact fin (DY hI (fE x) h)
 | indexAddr t x i=>exact fin (Ug hI (fE x) (fE i) h)
 | index t x i=>exact fin (Et hI (fE x) (fE i) h)
 | extract x i=>exact fin (B8 hI (fE x) h)
 | build t ps =>
  have:=I8 (L:=ps.toList) (G:=a.eval) hI fE h
  refine fin ?_
  have e:(ps.toList.map λp=>(p.1,a.eval p.2)).toArray=ps.map λp=>(p.1,a.eval p.2):=by apply Array.ext'; simp
  rw[e]at this
  exact this
 | buildSlice t k ps =>
  have:=WC (L:=ps.toList) (G:=a.eval) hI fE h
  refine fin ?_
  have e:(ps.toList.map λp=>(p.1,a.eval p.2)).toArray=ps.map λp=>(p.1,a.eval p.2):=by apply Array.ext'; simp
  rw[e]at this
  exact this
 | call cl =>
  obtain⟨callee,args,o5⟩:=cl
  cases callee with
  | builtin b=>exact fin (Hk hI hR rfl h)
  | invoke r m=>exact absurd h zf
  | value p =>
   simp only[qF,cO]at h
   split at h
   ·rename_i g caps l hp hl
    have hpv:=fE p _ hp
    have hr:=yQ (κ:=κ) (vs:=args.toList.map a.eval) hl (by simp) (λi d v hd hv=>by
      simp only[List.getElem?_map]at hd hv
      cases hi:args.toList[i]? with
      | none=>rw[hi]at hd; cases hd
      | some x=>rw[hi]at hd hv; simp at hd hv; subst hv; exact fE x d hd)
    generalize DO:a.eval p=pv at hpv
    cases hpv with
    | qW _ _ us fy hh2 =>
     have o8:=Jw g hr (⟨fy,hh2⟩:qE κ caps us)
     refine z3u (c:=c) (κ:=κ) (g:=yo g) (caps := #[]) (args:=(jj g (args.toList.map a.eval) us).toArray) ?_ (OS (hC (yo g)) hI o8 h) ?_
     ·exact BA DO
     ·rintro e w' ⟨κ',v,rfl,h1,h2,h3,rfl,h4⟩
      exact⟨v,rfl,hK v κ' h1 h2 h3 h4⟩
   ·exact absurd h zf
 | _=>exact absurd h zf
end
end Go.AM
namespace Go.AM
set_option linter.unusedSectionVars false
variable [vX] [K0]
section
variable {c:Ctx} {n:Nat} {ops:Array Oper}
theorem Hw(j:Nat):uB ops j=(ops[j]?).bind (·.dst):=by
 unfold uB; cases ops[j]? <;> rfl
theorem lT{κ:KS}{f:F}{a:Act}{o:Oper}{b:Bool}(hR:Rel κ n f a)(h:wb ops f o=some b):Region.wanted o (yielded ops a.tmps)=b:=by
 unfold wb at h
 unfold Region.wanted
 split at h
 ·grind
 ·rename_i j w hg
  rw[hg]
  split at h
  ·cases h
  ·rename_i t ht
   rw[Hw]at ht
   simp only[yielded,ht,Option.bind_some]
   split at h
   ·rename_i x hx
    obtain⟨v,h1,h2⟩:=hR.get t _ hx
    have:=h2.jL
    cases h
    grind
   ·rename_i hx
    obtain⟨v,h1,h2⟩:=hR.get t _ hx
    cases h
    rw[h1]
    cases h2 with
    | yq _ vs hl hh=>rfl
   ·cases h
def dX(ops:Array Oper)(a a':Act):Prop:=∀ s:Nat,(∀ o∈ops.toList,o.dst≠some s)->a'.tmps[s]? = a.tmps[s]?
theorem dX.refl(ops:Array Oper)(a:Act):dX ops a a:=λ_ _=>rfl
theorem dX.trans{ops:Array Oper}{a b d:Act}(h:dX ops a b)(k:dX ops b d):dX ops a d:=λs hs=>(k s hs).trans (h s hs)
theorem pE{ops:Array Oper}{i:Nat}{o:Oper}{a:Act}{v:Value}(ho:ops[i]? = some o):dX ops a (a.put o.dst v):=by
 intro s hs
 have hm:o∈ops.toList:=by have:=Array.mem_of_getElem? ho; simpa using this
 have:=hs o hm
 cases hd:o.dst with
 | none=>rfl
 | some t =>
  rw[hd]at this
  have vM:t≠s:=λe=>this (by rw[e])
  simp[Act.put,Array.getElem?_setIfInBounds_ne vM]
theorem VA{κ:KS}{a:Act}{i k:Nat}{s s':F×St}(hC:∀ g,Bb c.P g (c.fn g))(hI:Inv κ)(hR:Rel κ n s.1 a)(xK:κ.st=s.2)(h:yK c n ops i s s' k){K:Act->World->Prop}{Q:Exit->Act->World->Prop}
  (hK:∀ (a':Act) (κ':KS),κ'.st=s'.2->Inv κ'->Ext κ κ'->Rel κ' n s'.1 a'->dX ops a a'->K a' κ'.w):wpOp c.P ops Q i K a κ.w:=by
 obtain⟨o,ho,hd,h⟩:=h
 unfold wpOp
 rw[ho]
 simp only
 rcases h with⟨hw,_,d,zt,hl,rfl⟩ | ⟨hw,_,rfl⟩
 ·rw[if_pos (lT hR hw)]
  refine .inl (Di hC hI hR (xK▸hl) λv κ' h1 h2 h3 h4=>hK _ κ' h1 h2 h3 ((hR.mono h3).put hd h4) (pE ho))
 ·rw[if_neg (by rw[lT hR hw]; exact Bool.false_ne_true)]
  exact hK _ κ xK hI (Ext.refl κ) (hR.put hd λd' kN=>by cases kN; exact Tz (v:=undef)) (pE ho)
theorem MX{Q:Exit->Act->World->Prop}(hC:∀ g,Bb c.P g (c.fn g)):∀ (l:List Nat) {κ:KS} {a:Act} {s s':F×St} {ks:List Nat},Inv κ->Rel κ n s.1 a->κ.st=s.2->O1 c n ops l s s' ks ->
  (∀ (a':Act) (κ':KS),κ'.st=s'.2->Inv κ'->Ext κ κ'->Rel κ' n s'.1 a'->dX ops a a'->Q .normal a' κ'.w)->wpOps c.P ops Q l a κ.w
 | [],κ,a,s,s',ks,hI,hR,xK,h,hQ=>by
  obtain⟨rfl,_⟩:=h
  exact hQ a κ xK hI (Ext.refl κ) hR (dX.refl _ _)
 | i::l,κ,a,s,s',ks,hI,hR,xK,h,hQ=>by
  obtain⟨s1,k,Fa,_,h1,h2⟩:=h
  refine VA hC hI hR xK h1 λa1 κ1 g1 g2 g3 g4 g5 => ?_
  exact MX hC l g2 g4 g1 h2 λa' κ' e1 e2 e3 e4 e5=>hQ a' κ' e1 e2 (g3.trans e3) e4 (g5.trans e5)
theorem QV{Q:Exit->Act->World->Prop}(hC:∀ g,Bb c.P g (c.fn g)):∀ (l m:List Nat) {κ:KS} {a:Act} {s s':F×St} {ks:List Nat},Inv κ->Rel κ n s.1 a->κ.st=s.2->O1 c n ops l s s' ks ->
  (∀ (a':Act) (κ':KS),κ'.st=s'.2->Inv κ'->Ext κ κ'->Rel κ' n s'.1 a'->dX ops a a'->wpOps c.P ops Q m a' κ'.w)->wpOps c.P ops Q (l++m) a κ.w
 | [],m,κ,a,s,s',ks,hI,hR,xK,h,hQ=>by
  obtain⟨rfl,_⟩:=h
  exact hQ a κ xK hI (Ext.refl κ) hR (dX.refl _ _)
 | i::l,m,κ,a,s,s',ks,hI,hR,xK,h,hQ=>by
  obtain⟨s1,k,Fa,_,h1,h2⟩:=h
  refine VA hC hI hR xK h1 λa1 κ1 g1 g2 g3 g4 g5 => ?_
  exact QV hC l m g2 g4 g1 h2 λa' κ' e1 e2 e3 e4 e5=>hQ a' κ' e1 e2 (g3.trans e3) e4 (g5.trans e5)
theorem UU{kd:Nat->Nat}:∀ (l:List Nat) (s s':F×St) (ks:List Nat),O1 c n ops l s s' ks->ks=l.map kd->nJ c n ops kd l s s'
 | [],s,s',ks,h,_=>h.1
 | i::l,s,s',ks,⟨s1,k,Fa,e,h1,h2⟩,hk=>by
  subst e
  simp at hk
  obtain⟨rfl,hk⟩:=hk
  exact⟨s1,h1,UU l s1 s' Fa h2 hk⟩
theorem Cd:∀ (l:List Nat) (s s':F×St) (ks:List Nat),O1 c n ops l s s' ks->ks.length=l.length
 | [],_,_,_,h=>by rw[h.2]
 | i::l,s,s',ks,⟨s1,k,Fa,e,h1,h2⟩=>by subst e; simp[Cd l s1 s' Fa h2]
theorem CN(acc:List Nat):∀ (es:List Edge) (s0 p:Nat),Nat.testBit (es.foldl (λs e=>bif Region.binds .any e then s ||| 2 ^ e.on ||| acc.getD e.on 0 else s) s0) p=true ->
  Nat.testBit s0 p=true\/∃ e∈es,Region.binds .any e=true/\(p=e.on\/Nat.testBit (acc.getD e.on 0) p=true)
 | [],s0,p,h=>.inl h
 | e::es,s0,p,h=>by
  rcases CN acc es _ p h with h1 | ⟨e',h1,h2⟩
  ·grind
  ·grind
theorem mS:∀ (l:List Oper) (acc:List Nat),∃ r,xc l acc=acc++r/\r.length=l.length /\
  ∀ j o,l[j]? = some o->∀ p,Nat.testBit ((xc l acc).getD (acc.length+j) 0) p=true ->
   ∃ e∈o.after.toList,Region.binds .any e=true/\(p=e.on\/(e.on<acc.length+j/\Nat.testBit ((xc l acc).getD e.on 0) p=true))
 | [],acc=>⟨[],by simp[xc],rfl,λj o h=>by simp at h⟩
 | o::l,acc=>by
  let b:=o.after.toList.foldl (λs e=>bif Region.binds .any e then s ||| 2 ^ e.on ||| acc.getD e.on 0 else s) 0
  obtain⟨r,h1,h2,h3⟩:=mS l (acc++[b])
  have hb:xc (o::l) acc=xc l (acc++[b]):=rfl
  have N7:∀ i,i<acc.length->(xc l (acc++[b])).getD i 0=acc.getD i 0:=λi hi=>by
   grind
  refine⟨b::r,by rw[hb,h1]; simp,by simp[h2],?_⟩
  rw[hb]
  intro j o' ho p hp
  cases j with
  | zero =>
   simp at ho
   subst ho
   have he:(xc l (acc++[b])).getD (acc.length+0) 0=b:=by rw[h1]; simp[List.getD]
   rw[he]at hp
   rcases CN acc _ 0 p hp with h | ⟨e,k1,k2,k3⟩
   ·simp at h
   ·grind
  | succ j =>
   have:=h3 j o' (by simpa using ho) p (by rw[show(acc++[b]).length+j=acc.length+(j+1) by simp; omega]; exact hp)
   grind
theorem mb:∀ (l:List Oper) (k:Nat),gH l k=true->∀ j o,l[j]? = some o->∀ e∈o.after.toList,Region.binds .any e=true->e.on<k+j
 | [],_,_,j,o,h,_,_,_=>by simp at h
 | o::l,k,h,j,o',ho,e,he,hb=>by
  simp only[gH,Bool.and_eq_true,List.all_eq_true]at h
  cases j with
  | zero =>
   simp at ho
   subst ho
   have:=h.1 e he
   rw[hb]at this
   exact Nat.le_of_ble_eq_true this
  | succ j =>
   have:=mb l (k+1) h.2 j o' (by grind) e he hb
   omega
def Ro{K:Type}(cl:K->K->Bool)(ops:Array Oper)(x:Oper)(kx:K)(y:Oper)(ky:K):Prop:=(∀ d,x.dst=some d->d ∉ tmpsOf ops y)/\(∀ d,y.dst=some d->d ∉ tmpsOf ops x)/\cl kx ky=false
theorem Dh{K:Type}{cl:K->K->Bool}{bs:List Nat}{xs:List (Nat×Option Nat×List Nat×K)}{j:Nat}{ky:K}{y:Oper}(h:Fw cl bs xs j y.dst (tmpsOf ops y) ky=true){i:Nat}{kx:K}{x:Oper}(hx:(i,x.dst,tmpsOf ops x,kx)∈xs) :
  ordered bs i j=true\/Ro cl ops x kx y ky:=by
 simp only[Fw,List.all_eq_true]at h
 have:=h _ hx
 simp at this
 rcases this with h1 | ⟨⟨h1,h2⟩,h3⟩
 ·grind
 ·refine .inr ⟨λd hd hm => ?_,λd hd hm => ?_,h3⟩
  ·grind
  ·grind
theorem mL{K:Type}{cl:K->K->Bool}{bs:List Nat}:∀ (l:List Oper) (ks:List K) (k0:Nat) (xs:List (Nat×Option Nat×List Nat×K)),mO cl ops bs l ks k0 xs=true ->
  (∀ j y ky,l[j]? = some y->ks[j]? = some ky->(∀ i x kx,(i,x.dst,tmpsOf ops x,kx)∈xs->ordered bs i (k0+j)=true\/Ro cl ops x kx y ky) /\
   (∀ i x kx,i<j->l[i]? = some x->ks[i]? = some kx->ordered bs (k0+i) (k0+j)=true\/Ro cl ops x kx y ky))
 | [],_,_,_,_,j,y,ky,hy,_=>by simp at hy
 | o::l,[],_,_,h,_,_,_,_,_=>by simp[mO]at h
 | o::l,k::ks,k0,xs,h,j,y,ky,hy,hk=>by
  simp only[mO,Bool.and_eq_true]at h
  obtain⟨h1,h2⟩:=h
  have ih:=mL l ks (k0+1) _ h2
  cases j with
  | zero =>
   simp at hy hk
   subst hy hk
   exact⟨λi x kx hx=>by simpa using Dh h1 hx,λi x kx hi=>absurd hi (Nat.not_lt_zero i)⟩
  | succ j =>
   obtain⟨g1,g2⟩:=ih j y ky (by simpa using hy) (by simpa using hk)
   have e:k0+1+j=k0+(j+1):=by omega
   rw[e]at g1 g2
   refine⟨λi x kx hx=>g1 i x kx (List.mem_cons_of_mem _ hx),λi x kx hi hx hkx => ?_⟩
   cases i with
   | zero =>
    grind
   | succ i =>
    grind
def rest(ops:Array Oper)(listed:Array Bool):List Nat:=(List.range ops.size).filter λi => !listed.getD i true
def Z2(ops:Array Oper)(listed:Array Bool):Prop:=∀ q,q<ops.size->listed.getD q true=true->∀ p,ordered (xc ops.toList []) p q=true->p<ops.size->listed.getD p true=true
theorem uX{listed:Array Bool}{i j:Nat}(hi:i<listed.size):(listed.setIfInBounds i true).getD j true=if j=i then true else listed.getD j true:=by
 simp
 grind
theorem gK{p q:Nat->Bool}{i:Nat}:∀ (l:List Nat),l.Pairwise (· < ·)->i∈l->p i=true->(∀ j,q j=(p j && !(j==i))) ->
  ∃ pre post,l.filter p=pre++i::post/\l.filter q=pre++post/\∀ x∈pre,p x=true/\x∈l/\x<i
 | [],_,hi,_,_=>by simp at hi
 | a::l,hn,hi,hp,hq=>by
  have hn':=List.pairwise_cons.1 hn
  by_cases ha:a=i
  ·subst ha
   refine⟨[],l.filter p,by grind,?_,by simp⟩
   have hqa:q a=false:=by rw[hq]; simp
   simp only[List.filter_cons,hqa]
   refine List.filter_congr λx hx => ?_
   rw[hq]
   have:(x==a)=false:=by simp; exact λe=>absurd (hn'.1 x hx) (by omega)
   simp[this]
  ·have KB:i∈l:=by rcases List.mem_cons.1 hi with h | h; exact absurd h.symm ha; exact h
   obtain⟨pre,post,h1,h2,h3⟩:=gK l hn'.2 KB hp hq
   grind
theorem mf{listed:Array Bool}{i:Nat}:i∈Region.ready .any ops listed↔i<ops.size/\listed.getD i true=false/\∀ o,ops[i]? = some o->∀ e∈o.after.toList,Region.binds .any e=true->listed.getD e.on false=true:=by
 unfold Region.ready
 simp only[List.mem_filter,List.mem_range,Bool.and_eq_true,Bool.not_eq_true']
 constructor
 ·rintro⟨h1,h2,h3⟩
  refine⟨h1,h2,λo ho e he hb => ?_⟩
  rw[ho]at h3
  simp only[Option.map_some,Option.getD_some,Array.all_eq_true_iff_forall_mem]at h3
  grind
 ·grind
theorem VF(Ej:gH ops.toList 0=true){listed:Array Bool}(uH:listed.size=ops.size):Region.ready .any ops listed=[]->rest ops listed=[]:=by
 intro hr
 cases hre:rest ops listed with
 | nil=>rfl
 | cons i l =>
  have hi:i∈rest ops listed:=by rw[hre]; exact List.mem_cons_self
  simp only[rest,List.mem_filter,List.mem_range,Bool.not_eq_true']at hi
  have z6V:∀ j,j<i->listed.getD j true=true:=by
   intro j hj
   cases hl:listed.getD j true with
   | true=>rfl
   | false =>
    have hpw:(rest ops listed).Pairwise (· < ·):=List.Pairwise.filter _ List.pairwise_lt_range
    have hjm:j∈rest ops listed:=by simp only[rest,List.mem_filter,List.mem_range,Bool.not_eq_true']; exact⟨by omega,hl⟩
    rw[hre]at hpw hjm
    rcases List.mem_cons.1 hjm with rfl | hjm
    ·grind
    ·have:=(List.pairwise_cons.1 hpw).1 j hjm; omega
  have:i∈Region.ready .any ops listed:=by
   rw[mf]
   refine⟨hi.1,hi.2,λo ho e he hb => ?_⟩
   have qu:=mb ops.toList 0 Ej i o (by grind) e he hb
   grind
  grind
def J4(Stp:Nat->F×St->F×St->Prop):List Nat->F×St->F×St->Prop
 | [],s,s'=>s'=s
 | i::l,s,s'=>∃ s1,Stp i s s1/\J4 Stp l s1 s'
theorem Yi{Stp:Nat->F×St->F×St->Prop}{In:Nat->Nat->Prop}(Dp:∀ p i,In p i->∀ s s1 s2,Stp p s s1->Stp i s1 s2->∃ s',Stp i s s'/\Stp p s' s2){i:Nat}{post:List Nat}{s':F×St}:∀ {pre:List Nat} {s:F×St},(∀ p∈pre,In p i)->J4 Stp (pre++i::post) s s' ->
  ∃ s1,Stp i s s1/\J4 Stp (pre++post) s1 s'
 | [],s,_,h=>h
 | p::pre,s,hp,⟨sp,h1,h2⟩=>by
  obtain⟨s1,h3,h4⟩:=Yi Dp (λq hq=>hp q (List.mem_cons_of_mem _ hq)) h2
  obtain⟨s2,h5,h6⟩:=Dp _ _ (hp p List.mem_cons_self) _ _ _ h1 h3
  exact⟨s2,h5,s1,h6,h4⟩
theorem X8{Stp:Nat->F×St->F×St->Prop}{In:Nat->Nat->Prop}(Pj:∀ i s s',Stp i s s'->∃ k,yK c n ops i s s' k)(Dp:∀ p i,In p i->∀ s s1 s2,Stp p s s1->Stp i s1 s2->∃ s',Stp i s s'/\Stp p s' s2){Q:Exit->Act->World->Prop}(hC:∀ g,Bb c.P g (c.fn g))(Ej:gH ops.toList 0=true)
  {sf:F×St}:∀ (fuel:Nat) (listed:Array Bool) {κ:KS} {a:Act} {s:F×St},(∀ p i,p<i->i<ops.size->listed.getD p true=false->ordered (xc ops.toList []) p i=true\/In p i) ->
  listed.size=ops.size->fuel=(rest ops listed).length->Z2 ops listed->Inv κ->Rel κ n s.1 a->κ.st=s.2->J4 Stp (rest ops listed) s sf ->
  (∀ (a':Act) (κ':KS),κ'.st=sf.2->Inv κ'->Ext κ κ'->Rel κ' n sf.1 a'->dX ops a a'->Q .normal a' κ'.w)->wpAny c.P .any ops Q fuel listed a κ.w
 | fuel,listed,κ,a,s,kC,uH,hfuel,WS,hI,hR,xK,vK,hQ=>by
  have z6S:=VF Ej (listed:=listed) uH
  have RV:rest ops listed=[]->Q .normal a κ.w:=by
   intro h
   rw[h]at vK
   cases vK
   exact hQ a κ xK hI (Ext.refl κ) hR (dX.refl _ _)
  cases fuel with
  | zero =>
   have hre:rest ops listed=[]:=List.eq_nil_of_length_eq_zero hfuel.symm
   refine⟨?_,RV hre⟩
   apply List.eq_nil_iff_forall_not_mem.2
   intro i hi
   rw[mf]at hi
   have:i∈rest ops listed:=by simp only[rest,List.mem_filter,List.mem_range,Bool.not_eq_true']; exact⟨hi.1,hi.2.1⟩
   grind
  | succ fuel =>
   refine⟨λh=>RV (z6S h),λi hi => ?_⟩
   rw[mf]at hi
   obtain⟨h1,h2,h3⟩:=hi
   have ho:ops[i]? = some ops[i]:=Array.getElem?_eq_getElem h1
   obtain⟨pre,post,g1,g2,g3⟩:=gK (p:=λi => !listed.getD i true) (q:=λj => !(listed.setIfInBounds i true).getD j true) (i:=i) (List.range ops.size) List.pairwise_lt_range
    (List.mem_range.2 h1) (by simp[h2]) (λj=>by
     rw[uX (by omega)]
     by_cases h:j=i
     ·grind
     ·simp[h])
   have S6:∀ p,ordered (xc ops.toList []) p i=true->p<ops.size->listed.getD p true=true:=by
    intro p hp qu
    obtain⟨r,_,_,hb⟩:=mS ops.toList []
    obtain⟨e,k1,k2,k3⟩:=hb i ops[i] (by simp) p (by simpa[ordered]using hp)
    have hle:=h3 _ ho e k1 k2
    have KL:=mb ops.toList 0 Ej i ops[i] (by simp) e k1 k2
    have KA:listed.getD e.on true=true:=by
     grind
    rcases k3 with rfl | ⟨_,k3⟩
    ·exact KA
    ·exact WS e.on (by omega) KA p k3 qu
   have Te:∀ p∈pre,In p i:=by
    grind
   have CG:J4 Stp (pre++i::post) s sf:=by
    have:rest ops listed=pre++i::post:=g1
    grind
   obtain⟨s1,k1,k2⟩:=Yi Dp Te CG
   have oO:rest ops (listed.setIfInBounds i true)=pre++post:=g2
   obtain⟨kk,k1⟩:=Pj _ _ _ k1
   refine VA hC hI hR xK k1 λa1 κ1 e1 e2 e3 e4 e5 => ?_
   refine X8 Pj Dp hC Ej fuel (listed.setIfInBounds i true) (λp j hpj hj hp=>kC p j hpj hj (by
    rw[uX (by omega)]at hp
    split at hp
    ·cases hp
    ·exact hp)) (by simp[uH]) ?_ ?_ e2 e4 e1 (by rw[oO]; exact k2) λa' κ' d1 d2 d3 d4 d5=>hQ a' κ' d1 d2 (e3.trans d3) d4 (e5.trans d5)
   ·have:rest ops listed=pre++i::post:=g1
    rw[this]at hfuel
    rw[oO]
    simp only[List.length_append,List.length_cons]at hfuel ⊢
    omega
   ·intro q hq Oz p hp qu
    rw[uX (by omega)]at Oz ⊢
    split
    ·rfl
    ·split at Oz
     ·rename_i e; subst e; exact S6 p hp qu
     ·exact WS q hq Oz p hp qu
theorem BO{kd:Nat->Nat}:∀ (l:List Nat) (s s':F×St),nJ c n ops kd l s s'->J4 (λi s s'=>yK c n ops i s s' (kd i)) l s s'
 | [],_,_,h=>h
 | i::l,s,s',⟨s1,h1,h2⟩=>⟨s1,h1,BO l s1 s' h2⟩
theorem U5{kd:Nat->Nat}{Q:Exit->Act->World->Prop}(hC:∀ g,Bb c.P g (c.fn g))(Ej:gH ops.toList 0=true)
  {sf:F×St}:∀ (fuel:Nat) (listed:Array Bool) {κ:KS} {a:Act} {s:F×St},(∀ p i,p<i->i<ops.size->listed.getD p true=false->ordered (xc ops.toList []) p i=true\/Ind ops kd p i) ->
  listed.size=ops.size->fuel=(rest ops listed).length->Z2 ops listed->Inv κ->Rel κ n s.1 a->κ.st=s.2->nJ c n ops kd (rest ops listed) s sf ->
  (∀ (a':Act) (κ':KS),κ'.st=sf.2->Inv κ'->Ext κ κ'->Rel κ' n sf.1 a'->dX ops a a'->Q .normal a' κ'.w)->wpAny c.P .any ops Q fuel listed a κ.w
 | fuel,listed,κ,a,s,kC,uH,hfuel,WS,hI,hR,xK,vK,hQ =>
  X8 (Stp:=λi s s'=>yK c n ops i s s' (kd i)) (In:=λp i=>Ind ops kd p i) (λi s s' h=>⟨_,h⟩) (λp i hi s s1 s2 h1 h2=>YU hi h1 h2) hC Ej fuel listed kC uH hfuel WS hI hR xK (BO _ _ _ vK) hQ
end
end Go.AM
namespace Go.AM
set_option linter.unusedSectionVars false
variable [vX] [K0]
open Go.RowKit
structure Up(κ κ':KS):Prop where
 same:I2 κ.w κ'.w κ.ok κ'.ok
 var:∀ (b:Nat) (d:D),κ.st[b]? = some (.var d)->(∃ d',κ'.st[b]? = some (.var d'))/\κ'.ph[b]? = κ.ph[b]?
 old:∀ (b qA:Nat),Old κ.st b qA->Old κ'.st b qA
 row:∀ (b v:Nat) (e:Ty) (xs:List (den e)),Old κ.st b v->κ'.st[b]? = some (.arr v e xs)->κ.st[b]? = some (.arr v e xs)/\κ'.ph[b]? = κ.ph[b]?
theorem RD.up{κ κ':KS}(x:Up κ κ'){d:D}{v:Value}(h:RD κ d v):RD κ' d v:=by
 induction h with
 | zI τ y cs h=>exact .zI τ y cs (h.mono x.same)
 | xd e a=>exact .xd e a
 | tight e l ne blk off f vM wg h hc=>exact .tight e l ne blk off f vM (x.same _ wg).1 (λi hi=>(h i hi).mono x.same) λi hi j v hv=>by rw[bn (x.same _ wg).2]; exact hc i hi j v hv
 | xr=>exact .xr
 | yd=>exact .yd
 | qV=>exact .qV
 | vW=>exact .vW
 | vV=>exact .vV
 | td v h=>exact .td v h
 | cA T=>exact .cA T
 | cd b T d hd =>
  obtain⟨⟨d',kN⟩,hp⟩:=x.var b d hd
  exact .cd b T d' kN
 | cB b T blk n d hd h =>
  obtain⟨⟨d',kN⟩,hp⟩:=x.var b d hd
  exact .cB b T blk n d' kN (hp.trans h)
 | ptr b off blk n d hd h =>
  obtain⟨⟨d',kN⟩,hp⟩:=x.var b d hd
  exact .ptr b off blk n d' kN (hp.trans h)
 | qR τ y cs blk off wg h hc=>exact .qR τ y cs blk off (x.same _ wg).1 (h.mono x.same) λj v hv=>by rw[bn (x.same _ wg).2]; exact hc j v hv
 | uo b qA e idx off blk o hb h =>
  refine .uo b qA e idx off blk o (x.old b qA hb) λxs hx hi => ?_
  obtain⟨h1,h2⟩:=x.row b qA e xs hb hx
  grind
 | ms b qA e off len cap a hb vc ha pR h =>
  refine .ms b qA e off len cap a (x.old b qA hb) vc ha pR λxs hx => ?_
  obtain⟨h1,h2⟩:=x.row b qA e xs hb hx
  have:=h xs h1
  unfold IL at this ⊢
  grind
 | qW f l vs hl h ih=>exact .qW f l vs hl ih
 | agg l vs hl ho h ih=>exact .agg l vs hl ho ih
 | yq l vs hl h ih=>exact .yq l vs hl ih
 | iface t d v h ih=>exact .iface t d v ih
structure Nob(κ:KS)(blk:Nat):Prop where
 lt:blk<κ.w.heap.size
 ok:¬ κ.ok blk
 ph:∀ (b n:Nat),κ.ph[b]? ≠ some (some (blk,n))
theorem Nob.ext{κ κ':KS}(x:Ext κ κ'){blk:Nat}(h:Nob κ blk):Nob κ' blk/\κ'.w.heap[blk]? = κ.w.heap[blk]? := by
 refine⟨⟨Nat.lt_of_lt_of_le h.lt x.size,λhk => ?_,λb n hb => ?_⟩,x.frame blk h.lt h.ph⟩
 ·rcases x.fresh blk hk with h1 | h1 | ⟨b,n,h1⟩
  ·exact h.ok h1
  ·have:=h.lt; omega
  ·exact h.ph b n h1
 ·rcases x.phs b blk n hb with h1 | h1
  ·exact h.ph b n h1
  ·have:=h.lt; omega
def KS.push(κ:KS)(blk n:Nat)(d:D):KS:={ κ with ph:=κ.ph++[some (blk,n)],st:=κ.st++[.var d] }
theorem lP{α:Type}{l:List α}{x y:α}{b:Nat}(h:l[b]? = some y):(l++[x])[b]? = some y:=by grind
theorem rG{α:Type}{l:List α}{x y:α}{b:Nat}(h:(l++[x])[b]? = some y):l[b]? = some y\/(b=l.length/\y=x):=by grind
theorem IY{κ:KS}(hI:Inv κ)(blk n:Nat)(d:D):Up κ (κ.push blk n d):=by
 have Yv:∀ {b:Nat} {y:kA},κ.st[b]? = some y->(κ.ph++[some (blk,n)])[b]? = κ.ph[b]? := λh=>by
  rw[List.getElem?_append_left]; rw[hI.len]; exact(List.getElem?_eq_some_iff.1 h).1
 refine⟨λk hk=>⟨hk,rfl⟩,λb d' h=>⟨⟨d',lP h⟩,Yv h⟩,λb qA h => ?_,λb v e xs ho h => ?_⟩
 ·rcases h with h | ⟨v0,e0,tq,h,hv⟩
  ·exact .inl (lP h)
  ·exact .inr ⟨v0,e0,tq,lP h,hv⟩
 ·rcases rG h with h1 | ⟨_,h1⟩
  ·exact⟨h1,Yv h1⟩
  ·cases h1
theorem z3c{κ0 κ:KS}{blk:Nat}{d:D}{z:Value}{t:TypeId}(hI:Inv κ)(hx:Ext κ0 κ)(hb:Nob κ blk)(h0:κ0.w.heap.size<=blk)(hz:RD κ d z)(ht:d.uM=false)(Lm:∀ T,d.typed=some T->t=T)(hh:κ.w.heap[blk]? = some (.cells z.cells t (0,0))) :
  Inv (κ.push blk z.cells.size d)/\Ext κ0 (κ.push blk z.cells.size d)/\RD (κ.push blk z.cells.size d) (.ptr κ.st.length 0) (.pointer (some ⟨blk,0,none⟩)):=by
 have hu:=IY hI blk z.cells.size d
 have xK:(κ.push blk z.cells.size d).st[κ.st.length]? = some (.var d):=by simp[KS.push]
 have Yv:(κ.push blk z.cells.size d).ph[κ.st.length]? = some (some (blk,z.cells.size)):=by simp[KS.push,<- hI.len]
 have S9:∀ {b k m:Nat},(κ.push blk z.cells.size d).ph[b]? = some (some (k,m))->κ.ph[b]? = some (some (k,m))\/(b=κ.ph.length/\k=blk):=by
  intro b k m h
  rcases rG h with h1 | ⟨h1,h2⟩
  ·grind
  ·grind
 refine⟨⟨by simp[KS.push,hI.len],hI.yF,λb k m h => ?_,λb b' k m m' h h' => ?_,λb y h => ?_,hI.gl⟩,?_,.ptr _ 0 blk _ d xK Yv⟩
 ·rcases S9 h with h1 | ⟨_,rfl⟩
  ·exact hI.apart b k m h1
  ·exact⟨hb.lt,hb.ok⟩
 ·rcases S9 h with h1 | ⟨h1,rfl⟩
  ·rcases S9 h' with h2 | ⟨h2,rfl⟩
   ·exact hI.inj b b' k m m' h1 h2
   ·exact(hb.ph b m h1).elim
  ·rcases S9 h' with h2 | ⟨h2,_⟩
   ·exact(hb.ph b' m' h2).elim
   ·omega
 ·rcases rG h with h1 | ⟨h1,h2⟩
  ·have hp:(κ.push blk z.cells.size d).ph[b]? = κ.ph[b]? := by
    show(κ.ph++[_])[b]? = _
    grind
   have hy:=hI.blk b y h1
   cases y with
   | dead=>trivial
   | var d' =>
    obtain⟨k,m,cs,T,g1,g2,g3,g4,g5⟩:=hy
    exact⟨k,m,cs,T,hp.trans g1,g2,g3,⟨g4.1,λi h1 h2=>(g4.2 i h1 h2).up hu⟩,g5⟩
   | arr qA e xs =>
    obtain⟨g0,g⟩:=hy
    refine⟨g0,fg g (λh=>⟨h.1,hp.trans h.2⟩) ?_⟩
    rintro⟨k,m,cs,T,g1,g2⟩
    exact⟨k,m,cs,T,hp.trans g1,g2⟩
  ·subst h1
   subst h2
   have hf:=j3 hz ht
   exact⟨blk,z.cells.size,z.cells,t,Yv,hh,rfl,⟨hf.1,λi h1 h2=>(hf.2 i h1 h2).up hu⟩,j4 hz,Lm⟩
 ·refine⟨hx.os,hx.tape,hx.output,hx.size,hx.same,hx.fresh,λb k m h => ?_,λb d' h => ?_,λb v0 e xs h => ?_,λb h=>lP (hx.dead b h),Nat.le_trans hx.BX (by simp[KS.push]),hx.frame⟩
  ·rcases S9 h with h1 | ⟨_,rfl⟩
   ·exact hx.phs b k m h1
   ·exact .inr h0
  ·obtain⟨⟨d1,h1⟩,h2⟩:=hx.var b d' h
   obtain⟨h3,h4⟩:=hu.var b d1 h1
   exact⟨h3,h4.trans h2⟩
  ·rcases hx.arr b v0 e xs h with h1 | ⟨v1,b8,h1,h2,h3⟩
   ·exact .inl (lP h1)
   ·refine .inr ⟨v1,b8,lP h1,h2,λhe=>⟨?_,(h3 he).2⟩⟩
    have hp:(κ.push blk z.cells.size d).ph[b]? = κ.ph[b]? := by
     show(κ.ph++[_])[b]? = _
     rw[List.getElem?_append_left]; rw[hI.len]; exact(List.getElem?_eq_some_iff.1 h1).1
    exact hp.trans (h3 he).1
theorem z1F{κ:KS}(hI:Inv κ)(o:Obj):Inv { κ with w:=κ.w.alloc o }/\Ext κ { κ with w:=κ.w.alloc o }/\Nob { κ with w:=κ.w.alloc o } κ.w.heap.size/\(κ.w.alloc o).heap[κ.w.heap.size]? = some o:=by
 have hs:(κ.w.alloc o).heap.size=κ.w.heap.size+1:=by simp
 have hold:∀ k,k<κ.w.heap.size->(κ.w.alloc o).heap[k]? = κ.w.heap[k]? := λk hk=>by
  show(κ.w.heap.push o)[k]? = _
  grind
 have hx:Ext κ { κ with w:=κ.w.alloc o }:=⟨rfl,rfl,rfl,by simp,λk hk=>⟨hk,hold k (hI.yF k hk)⟩,λk hk=>.inl hk,λ_ _ _ h=>.inl h,λb d h=>⟨⟨d,h⟩,rfl⟩,
  λb v0 e xs h=>.inr ⟨v0,xs,h,Nat.le_refl _,λ_=>⟨rfl,rfl⟩⟩,λ_ h=>h,Nat.le_refl _,λk hk _=>hold k hk⟩
 refine⟨⟨hI.len,λk hk => ?_,λb blk n h => ?_,hI.inj,λb y hy=>(hI.blk b y hy).mono hx rfl λblk n h=>hold _ (hI.apart b blk n h).1,hI.gl.mono hx.same⟩,hx,⟨?_,λhk => ?_,λb n h => ?_⟩,?_⟩
 ·have:=hI.yF k hk; show k<(κ.w.alloc o).heap.size; omega
 ·have:=hI.apart b blk n h; exact⟨by grind,this.2⟩
 ·simp
 ·have:=hI.yF _ hk; omega
 ·have:=(hI.apart b _ n h).1; omega
 ·show(κ.w.heap.push o)[κ.w.heap.size]? = some o
  simp
section
variable {c:Ctx} {n:Nat} {ops:Array Oper}
structure Em where
 i:Nat
 d:Nat
 blk:Nat
 t:TypeId
 z:Value
 D:D
structure Fz(c:Ctx)(ops:Array Oper)(κ0 κ:KS)(a:Act)(e:Em):Prop where
 op:∃ o,ops[e.i]? = some o/\o.op=.alloc e.t/\o.guard=none/\o.dst=some e.d
 zero:Wt c e.t=some e.D
 z:∃ i,c.P.info? e.t=some i/\i.zero=some e.z/\ZD e.t e.D e.z
 val:a.tmps[e.d]? = some (.pointer (some ⟨e.blk,0,none⟩))
 heap:κ.w.heap[e.blk]? = some (.cells e.z.cells e.t (0,0))
 nob:Nob κ e.blk
 new:κ0.w.heap.size<=e.blk
theorem Fz.mono{κ0 κ κ':KS}{a a':Act}{e:Em}(h:Fz c ops κ0 κ a e)(x:Ext κ κ')(ha:a'.tmps[e.d]? = a.tmps[e.d]?):Fz c ops κ0 κ' a' e:=by
 obtain⟨h1,h2⟩:=h.nob.ext x
 exact⟨h.op,h.zero,h.z,ha.trans h.val,h2.trans h.heap,h1,h.new⟩
def kF(es:List Em)(f:F):F:=λs=>if es.any (λe=>Nat.beq e.d s)then none else f s
theorem Zv{es:List Em}{f:F}{s:Nat}(h:∀ e∈es,e.d≠s):kF es f s=f s:=by
 unfold kF
 rw[if_neg]
 intro hh
 obtain⟨e,he,hb⟩:=List.any_eq_true.1 hh
 exact h e he (Nat.eq_of_beq_eq_true hb)
theorem G9{es:List Em}{f:F}{s:Nat}{d:D}(h:kF es f s=some d):f s=some d/\∀ e∈es,e.d≠s:=by
 unfold kF at h
 split at h
 ·cases h
 ·rename_i hh
  refine⟨h,λe he hs=>hh (List.any_eq_true.2 ⟨e,he,?_⟩)⟩
  subst hs; simp
def eG(ops:Array Oper)(i:Nat):Prop:=∃ o,ops[i]? = some o/\WI o=true
theorem Nj{o:Oper}(h:WI o=true):∃ t d,o.op=.alloc t/\o.guard=none/\o.dst=some d:=by
 unfold WI at h
 simp only[Bool.and_eq_true]at h
 obtain⟨⟨h1,h2⟩,h3⟩:=h
 split at h1
 ·rename_i t ht
  obtain⟨d,hd⟩:=Option.isSome_iff_exists.1 h3
  exact⟨t,d,ht,Option.isNone_iff_eq_none.1 h2,hd⟩
 ·cases h1
theorem B5{o:Oper}{t d:Nat}(h1:o.op=.alloc t)(h2:o.guard=none)(h3:o.dst=some d):WI o=true:=by
 unfold WI; rw[h1,h2,h3]; rfl
theorem CB{kd:Nat->Nat}:∀ {l:List Nat} {s sf:F×St} {i:Nat},nJ c n ops kd l s sf->i∈l->∃ s1 s2,yK c n ops i s1 s2 (kd i)
 | [],_,_,_,_,h=>by cases h
 | j::l,s,sf,i,⟨s1,h1,h2⟩,h=>by
  rcases List.mem_cons.1 h with rfl | h
  ·grind
  ·exact CB h2 h
theorem UN{kd:Nat->Nat}{i t d:Nat}{o:Oper}(ho:ops[i]? = some o)(h1:o.op=.alloc t)(h2:o.guard=none)(h3:o.dst=some d){s s':F×St}(h:yK c n ops i s s' (kd i)) :
  ∃ D,Wt c t=some D/\d<n/\s'=(ku s.1 (some d) (some (.ptr s.2.length 0)),s.2++[.var D]):=by
 obtain⟨o',FM,hd,h⟩:=h
 rw[ho]at FM
 cases FM
 rw[h3]at hd
 have qu:d<n:=Nat.le_of_ble_eq_true hd
 have hw:wb ops s.1 o=some true:=by unfold wb; rw[h2]
 rcases h with⟨_,_,D,zt,hl,rfl⟩ | ⟨hw',_,_⟩
 ·have he:qF c (qi s.1) o=nE c t:=by
   obtain⟨dst,op,ty,pos,after,guard⟩:=o
   cases h1
   rfl
  rw[he]at hl
  unfold nE at hl
  split at hl
  ·rename_i y hy
   simp only[zH,T.leads]at hl
   grind
  ·exact absurd hl zf
 ·grind
theorem E0{es:List Em}{i k:Nat}{s s':F×St}(h:yK c n ops i s s' k)(hd:∀ o,ops[i]? = some o->∀ e∈es,e.d ∉ tmpsOf ops o) :
  yK c n ops i (kF es s.1,s.2) (kF es s'.1,s'.2) k:=by
 obtain⟨o,ho,z3X,h⟩:=h
 have kK:=hd o ho
 have zaG:∀ x:Option D,ku (kF es s.1) o.dst x=kF es (ku s.1 o.dst x):=by
  intro x
  cases hds:o.dst with
  | none=>rfl
  | some t =>
   funext u
   simp only[ku,kF]
   by_cases hu:u=t
   ·subst hu
    rw[if_pos rfl]
    rw[if_neg,if_pos rfl]
    intro hh
    obtain⟨e,he,hb⟩:=List.any_eq_true.1 hh
    exact kK e he (by rw[Nat.eq_of_beq_eq_true hb]; exact kh hds)
   ·grind
 have fE:∀ x∈o.op.operands,qi (kF es s.1) x=qi s.1 x:=by
  intro x hx
  cases x with
  | tmp t=>exact Zv λe he ht=>kK e he (ht▸pG hx)
  | _=>rfl
 have hw:wb ops (kF es s.1) o=wb ops s.1 o:=by
  unfold wb
  cases hg:o.guard with
  | none=>rfl
  | some jw =>
   obtain⟨j,w⟩:=jw
   simp only
   cases hs:uB ops j with
   | none=>rfl
   | some t =>
    simp only
    rw[Zv λe he ht=>kK e he (ht▸oi hg hs)]
 refine⟨o,ho,z3X,?_⟩
 rcases h with⟨h1,h2,d,zt,h3,rfl⟩ | ⟨h1,h2,rfl⟩
 ·refine .inl ⟨hw.trans h1,?_,d,zt,?_,?_⟩
  ·rw[show qF c (qi (kF es s.1)) o=qF c (qi s.1) o from th o fE]; exact h2
  ·rw[show qF c (qi (kF es s.1)) o=qF c (qi s.1) o from th o fE]; exact h3
  ·rw[zaG]
 ·grind
theorem Nc{κ:KS}{a:Act}{i k:Nat}{s s':F×St}(hC:∀ g,Bb c.P g (c.fn g))(hI:Inv κ)(hR:Rel κ n s.1 a)(xK:κ.st=s.2)(h:yK c n ops i s s' k){K:Act->World->Prop}{Q:Exit->Act->World->Prop}
  (hK:∀ (a':Act) (κ':KS),κ'.st=s'.2->Inv κ'->Ext κ κ'->Rel κ' n s'.1 a'->dX ops a a'->(∀ u:Nat,(∀ o,ops[i]? = some o->o.dst≠some u)->a'.tmps[u]? = a.tmps[u]?)->K a' κ'.w):wpOp c.P ops Q i K a κ.w:=by
 obtain⟨o,ho,hd,h⟩:=h
 have hu:∀ (v:Value) (u:Nat),(∀ o,ops[i]? = some o->o.dst≠some u)->(a.put o.dst v).tmps[u]? = a.tmps[u]? := by
  intro v u hn
  have:=hn o ho
  cases hds:o.dst with
  | none=>rfl
  | some t =>
   rw[hds]at this
   have vM:t≠u:=λe=>this (by rw[e])
   simp[Act.put,Array.getElem?_setIfInBounds_ne vM]
 unfold wpOp
 rw[ho]
 simp only
 rcases h with⟨hw,_,d,zt,hl,rfl⟩ | ⟨hw,_,rfl⟩
 ·rw[if_pos (lT hR hw)]
  refine .inl (Di hC hI hR (xK▸hl) λv κ' h1 h2 h3 h4=>hK _ κ' h1 h2 h3 ((hR.mono h3).put hd h4) (pE ho) (hu v))
 ·rw[if_neg (by rw[lT hR hw]; exact Bool.false_ne_true)]
  exact hK _ κ xK hI (Ext.refl κ) (hR.put hd λd' kN=>by cases kN; exact Tz (v:=undef)) (pE ho) (hu undef)
def kd3(kd:Nat->Nat)(o:Oper)(i:Nat):Nat:=bif WI o then 3 else kd i
def z2t(ops:Array Oper)(kd:Nat->Nat)(p i:Nat):Prop:=∀ x y,ops[p]? = some x->ops[i]? = some y ->
 (∀ d,x.dst=some d->d ∉ tmpsOf ops y)/\(∀ d,y.dst=some d->d ∉ tmpsOf ops x)/\pL (kd3 kd x p) (kd3 kd y i)=false
theorem TW{k l:Nat}(hk:k<=2)(hl:l<=2)(h:pL k l=false):uw k l=false:=by
 have h1:Nat.beq k 3=false:=nq (by omega)
 have h2:Nat.beq l 3=false:=nq (by omega)
 simpa[pL,h1,h2]using h
theorem z3K{k l:Nat}(hl:l<=2)(h:pL 3 l=false):uw k l=false:=by
 have h2:Nat.beq l 3=false:=nq (by omega)
 have h3:uw 2 l=false:=by simpa[pL,h2]using h
 have h0:l=0:=by
  match l,hl,h3 with
  | 0,_,_=>rfl
  | 1,_,h3=>cases h3
  | 2,_,h3=>cases h3
 subst h0
 simp[uw]
theorem z4j{k l:Nat}(hk:k<=2)(h:pL k 3=false):uw k l=false:=by
 have h2:Nat.beq k 3=false:=nq (by omega)
 have h3:uw k 2=false:=by simpa[pL,h2]using h
 have h0:k=0:=by
  match k,hk,h3 with
  | 0,_,_=>rfl
  | 1,_,h3=>cases h3
  | 2,_,h3=>cases h3
 subst h0
 simp[uw]
theorem H8{kd:Nat->Nat}{p i:Nat}(h:z2t ops kd p i)(hp:kd p<=2)(hi:kd i<=2)(hn:¬ (eG ops p/\eG ops i)):Ind ops kd p i:=by
 intro x y hx hy
 obtain⟨h1,h2,h3⟩:=h x y hx hy
 refine⟨h1,h2,?_⟩
 unfold kd3 at h3
 cases hax:WI x with
 | true =>
  cases hay:WI y with
  | true=>exact(hn ⟨⟨x,hx,hax⟩,y,hy,hay⟩).elim
  | false=>rw[hax,hay]at h3; exact z3K hi h3
 | false =>
  cases hay:WI y with
  | true=>rw[hax,hay]at h3; exact z4j hp h3
  | false=>rw[hax,hay]at h3; exact TW hp hi h3
theorem least{es:List Em}(h:es≠[]):∃ e∈es,∀ f∈es,e.i<=f.i:=by
 induction es with
 | nil=>grind
 | cons e r ih =>
  by_cases hr:r=[]
  ·subst hr; exact⟨e,List.mem_cons_self,λf hf=>by grind⟩
  ·grind
def Dis(e f:Em):Prop:=e.i≠f.i/\e.blk≠f.blk/\e.d≠f.d
theorem Dis.symm{e f:Em}(h:Dis e f):Dis f e:=⟨h.1.symm,h.2.1.symm,h.2.2.symm⟩
theorem flush{kd:Nat->Nat}{κ0:KS}(kC:∀ p i,p<i->i<ops.size->ordered (xc ops.toList []) p i=true\/z2t ops kd p i)(cC:∀ i,i<ops.size->kd i<=2)
  {listed:Array Bool} (WS:Z2 ops listed) (o8:∀ q,q<ops.size->eG ops q->listed.getD q true=true) {a:Act} {sf:F×St} :
  ∀ (m:Nat) (es:List Em) (qt:Array Bool) (κ:KS) (s:F×St),es.length=m->qt.size=ops.size->(∀ j,j<ops.size->qt.getD j true=true->listed.getD j true=true) ->
  (∀ j,j<ops.size->listed.getD j true=true->qt.getD j true=false->∃ e∈es,e.i=j)->(∀ e∈es,e.i<ops.size/\listed.getD e.i true=true/\qt.getD e.i true=false)->es.Pairwise Dis ->
  Inv κ->Rel κ n (kF es s.1) a->κ.st=s.2->Ext κ0 κ->(∀ e∈es,Fz c ops κ0 κ a e)->nJ c n ops kd (rest ops qt) s sf ->
  ∃ (κ':KS) (s':F×St),κ'.w=κ.w/\κ'.st=s'.2/\Inv κ'/\Ext κ0 κ'/\Rel κ' n s'.1 a/\nJ c n ops kd (rest ops listed) s' sf:=by
 intro m
 induction m with
 | zero =>
  intro es qt κ s hl _ h1 h2 _ _ hI hR xK hx _ vK
  obtain rfl:es=[]:=List.eq_nil_of_length_eq_zero hl
  refine⟨κ,s,rfl,xK,hI,hx,hR,?_⟩
  have:rest ops qt=rest ops listed:=by
   unfold rest
   refine List.filter_congr λi hi => ?_
   grind
  grind
 | succ m ih =>
  intro es qt κ s hl uH h1 h2 h3 Ez hI hR xK hx hem vK
  obtain⟨e,he,z6V⟩:=least (es:=es) (λh=>by rw[h]at hl; cases hl)
  obtain⟨l1,l2,rfl⟩:=List.append_of_mem he
  obtain⟨hei,hel,hea⟩:=h3 e he
  have Q9:∀ f,f∈l1++l2->f∈l1++e::l2:=λf hf=>by
   grind
  have z5d:∀ f,f∈l1++e::l2->f=e\/f∈l1++l2:=λf hf=>by
   rcases List.mem_append.1 hf with hf | hf
   ·exact .inr (List.mem_append_left _ hf)
   ·rcases List.mem_cons.1 hf with rfl | hf
    ·exact .inl rfl
    ·exact .inr (List.mem_append_right _ hf)
  have hde:∀ f∈l1++l2,Dis e f:=by
   intro f hf
   rw[List.pairwise_append]at Ez
   obtain⟨_,d2,d3⟩:=Ez
   rcases List.mem_append.1 hf with hf | hf
   ·exact(d3 f hf e List.mem_cons_self).symm
   ·exact(List.pairwise_cons.1 d2).1 f hf
  have MP:(l1++l2).Pairwise Dis:=Ez.sublist (List.Sublist.append_left (List.sublist_cons_self e l2) l1)
  obtain⟨pre,post,g1,g2,g3⟩:=gK (p:=λi => !qt.getD i true) (q:=λj => !(qt.setIfInBounds e.i true).getD j true) (i:=e.i) (List.range ops.size) List.pairwise_lt_range
   (List.mem_range.2 hei) (by simp[hea]) (λj=>by
    rw[uX (by omega)]
    by_cases h:j=e.i
    ·subst h; simp
    ·simp[h])
  have Te:∀ p∈pre,Ind ops kd p e.i:=by
   intro p hp
   obtain⟨q1,q2,q3⟩:=g3 p hp
   have q2:=List.mem_range.1 q2
   have hpa:qt.getD p true=false:=by simpa using q1
   have W4:listed.getD p true=false:=by
    cases hb:listed.getD p true with
    | false=>rfl
    | true =>
     obtain⟨f,hf,C0⟩:=h2 p q2 hb hpa
     have:=z6V f hf
     omega
   have hna:¬ eG ops p:=λh=>by rw[o8 p q2 h]at W4; cases W4
   rcases kC p e.i q3 hei with h | h
   ·have:=WS e.i hei hel p h q2
    rw[this]at W4; cases W4
   ·exact H8 h (cC p q2) (cC e.i hei) λhh=>hna hh.1
  have CG:nJ c n ops kd (pre++e.i::post) s sf:=by
   have:rest ops qt=pre++e.i::post:=g1
   rw[<- this]; exact vK
  obtain⟨s1,k1,k2⟩:=JN Te CG
  have hE:=hem e he
  obtain⟨o,o1,o2,o3,o4⟩:=hE.op
  obtain⟨D,d1,d2,rfl⟩:=UN o1 o2 o3 o4 k1
  obtain rfl:D=e.D:=Option.some.inj (d1.symm.trans hE.zero)
  obtain⟨iz,z1,z2,z3⟩:=hE.z
  obtain⟨p1,p2,p3⟩:=z3c hI hx hE.nob hE.new (z3.rd κ) z3.yq z3.ty hE.heap
  have hup:=IY hI e.blk e.z.cells.size e.D
  refine ih (l1++l2) (qt.setIfInBounds e.i true) (κ.push e.blk e.z.cells.size e.D) (ku s.1 (some e.d) (some (.ptr s.2.length 0)),s.2++[.var e.D]) (by simp at hl ⊢; omega) (by simp[uH]) (λj hj ha => ?_) (λj hj hb ha => ?_) (λf hf => ?_) MP p1 ?_ (by show κ.st++_=s.2++_; rw[xK]) p2 (λf hf => ?_) ?_
  ·rw[uX (by omega)]at ha
   split at ha
   ·rename_i h; subst h; exact hel
   ·exact h1 j hj ha
  ·rw[uX (by omega)]at ha
   split at ha
   ·cases ha
   ·rename_i vM
    obtain⟨f,hf,C0⟩:=h2 j hj hb ha
    rcases z5d f hf with rfl | hf
    ·exact absurd C0.symm vM
    ·exact⟨f,hf,C0⟩
  ·obtain⟨f1,f2,f3⟩:=h3 f (Q9 f hf)
   refine⟨f1,f2,?_⟩
   rw[uX (by omega),if_neg (hde f hf).1.symm]
   exact f3
  ·refine⟨hR.size,hR.defers,λu d0 hu => ?_⟩
   obtain⟨u1,u2⟩:=G9 hu
   simp only[ku]at u1
   by_cases hue:u=e.d
   ·subst hue
    rw[if_pos rfl]at u1
    cases u1
    rw[<- xK]
    exact⟨_,hE.val,p3⟩
   ·rw[if_neg hue]at u1
    have:kF (l1++e::l2) s.1 u=some d0:=by
     rw[Zv λf hf hfu => ?_]
     ·exact u1
     ·rcases z5d f hf with rfl | hf
      ·exact hue hfu.symm
      ·exact u2 f hf hfu
    obtain⟨v,v1,v2⟩:=hR.get u d0 this
    exact⟨v,v1,v2.up hup⟩
  ·have hF:=hem f (Q9 f hf)
   refine⟨hF.op,hF.zero,hF.z,hF.val,hF.heap,⟨hF.nob.lt,hF.nob.ok,λb m hb => ?_⟩,hF.new⟩
   rcases rG hb with hb | ⟨_,hb⟩
   ·exact hF.nob.ph b m hb
   ·exact(hde f hf).2.1 (congrArg Prod.fst (Option.some.inj hb)).symm
  ·have:rest ops (qt.setIfInBounds e.i true)=pre++post:=g2
   rw[this]; exact k2
theorem z05{listed:Array Bool}{i:Nat}(uH:listed.size=ops.size)(h1:i<ops.size)(h2:listed.getD i true=false):(rest ops listed).length=(rest ops (listed.setIfInBounds i true)).length+1:=by
 obtain⟨pre,post,g1,g2,_⟩:=gK (p:=λi => !listed.getD i true) (q:=λj => !(listed.setIfInBounds i true).getD j true) (i:=i) (List.range ops.size) List.pairwise_lt_range
  (List.mem_range.2 h1) (by grind) (λj=>by
   rw[uX (by omega)]
   by_cases h:j=i
   ·grind
   ·simp[h])
 have e1:rest ops listed=pre++i::post:=g1
 have e2:rest ops (listed.setIfInBounds i true)=pre++post:=g2
 grind
theorem E5{listed:Array Bool}{i:Nat}(Ej:gH ops.toList 0=true)(uH:listed.size=ops.size)(WS:Z2 ops listed)(h1:i<ops.size)
  (h3:∀ o,ops[i]? = some o->∀ e∈o.after.toList,Region.binds .any e=true->listed.getD e.on false=true) :
  (∀ p,ordered (xc ops.toList []) p i=true->p<ops.size->listed.getD p true=true)/\Z2 ops (listed.setIfInBounds i true):=by
 have S6:∀ p,ordered (xc ops.toList []) p i=true->p<ops.size->listed.getD p true=true:=by
  intro p hp qu
  obtain⟨r,_,_,hb⟩:=mS ops.toList []
  obtain⟨e,k1,k2,k3⟩:=hb i ops[i] (by simp) p (by simpa[ordered]using hp)
  have KL:=mb ops.toList 0 Ej i ops[i] (by simp) e k1 k2
  have KA:listed.getD e.on true=true:=by
   grind
  rcases k3 with rfl | ⟨_,k3⟩
  ·exact KA
  ·exact WS e.on (by omega) KA p k3 qu
 refine⟨S6,λq hq Oz p hp qu => ?_⟩
 rw[uX (by omega)]at Oz ⊢
 split
 ·rfl
 ·split at Oz
  ·grind
  ·exact WS q hq Oz p hp qu
theorem Gt{κ:KS}{a:Act}{es:List Em}{f:F}{e:Em}{v:Value}(hR:Rel κ n (kF es f) a):Rel κ n (kF (e::es) f) (a.put (some e.d) v):=by
 refine⟨by simp[Act.put,hR.size],hR.defers,λu d hu => ?_⟩
 obtain⟨u1,u2⟩:=G9 hu
 have vM:e.d≠u:=u2 e List.mem_cons_self
 have:kF es f u=some d:=by rw[Zv λg hg=>u2 g (List.mem_cons_of_mem _ hg)]; exact u1
 obtain⟨w,w1,w2⟩:=hR.get u d this
 exact⟨w,by simp[Act.put,Array.getElem?_setIfInBounds_ne vM]; exact w1,w2⟩
theorem tZ{kd:Nat->Nat}{Q:Exit->Act->World->Prop}(hC:∀ g,Bb c.P g (c.fn g))(Ej:gH ops.toList 0=true)
  (kC:∀ p i,p<i->i<ops.size->ordered (xc ops.toList []) p i=true\/z2t ops kd p i) (cC:∀ i,i<ops.size->kd i<=2)
  (o8:∀ p j,p<ops.size->eG ops p->j<ops.size->ordered (xc ops.toList []) p j=true->∀ q,q<ops.size->eG ops q->ordered (xc ops.toList []) q j=true)
  {κ0:KS} {a0:Act} {sf:F×St}:∀ (fuel:Nat) (listed qt:Array Bool) (es:List Em) {κ:KS} {a:Act} {s:F×St},
  listed.size=ops.size->qt.size=ops.size->fuel=(rest ops listed).length->Z2 ops listed->(∀ j,j<ops.size->qt.getD j true=true->listed.getD j true=true) ->
  (∀ j,j<ops.size->listed.getD j true=true->qt.getD j true=false->∃ e∈es,e.i=j)->(∀ e∈es,e.i<ops.size/\listed.getD e.i true=true/\qt.getD e.i true=false)->es.Pairwise Dis ->
  (∃ q,q<ops.size/\eG ops q/\listed.getD q true=false)->Inv κ->Rel κ n (kF es s.1) a->κ.st=s.2->Ext κ0 κ->(∀ e∈es,Fz c ops κ0 κ a e)->nJ c n ops kd (rest ops qt) s sf->dX ops a0 a ->
  (∀ (a':Act) (κ':KS),κ'.st=sf.2->Inv κ'->Ext κ0 κ'->Rel κ' n sf.1 a'->dX ops a0 a'->Q .normal a' κ'.w)->wpAny c.P .any ops Q fuel listed a κ.w
 | 0,listed,qt,es,κ,a,s,uH,hszA,hfuel,WS,h1,h2,h3,Ez,⟨q,q1,q2,q3⟩,hI,hR,xK,hx,hem,vK,hkp,hQ=>by
  have hre:rest ops listed=[]:=List.eq_nil_of_length_eq_zero hfuel.symm
  have:q∈rest ops listed:=by simp only[rest,List.mem_filter,List.mem_range,Bool.not_eq_true']; exact⟨q1,q3⟩
  grind
 | fuel+1,listed,qt,es,κ,a,s,uH,hszA,hfuel,WS,h1,h2,h3,Ez,⟨q,q1,q2,q3⟩,hI,hR,xK,hx,hem,vK,hkp,hQ=>by
  refine⟨λh => ?_,λi hi => ?_⟩
  ·have hre:=VF Ej uH h
   grind
  rw[mf]at hi
  obtain⟨i1,i2,i3⟩:=hi
  obtain⟨S6,Ov⟩:=E5 Ej uH WS i1 i3
  have Ec:fuel=(rest ops (listed.setIfInBounds i true)).length:=by have:=z05 uH i1 i2; omega
  have hia:qt.getD i true=false:=by
   grind
  have Ri:∀ p,p<ops.size->eG ops p->ordered (xc ops.toList []) p i=true->False:=by
   grind
  have b9:∀ j,(listed.setIfInBounds i true).getD j true=if j=i then true else listed.getD j true:=λj=>uX (by omega)
  by_cases cT:eG ops i
  ·-- a new variable is laid
   obtain⟨o,ho,hao⟩:=cT
   obtain⟨t,d,o1,o2,o3⟩:=Nj hao
   have him:i∈rest ops qt:=by simp only[rest,List.mem_filter,List.mem_range,Bool.not_eq_true']; exact⟨i1,hia⟩
   obtain⟨t1,t2,hos⟩:=CB vK him
   obtain⟨D,d1,d2,_⟩:=UN ho o1 o2 o3 hos
   obtain⟨iz,z,z1,z2,z3⟩:=fj d1
   obtain⟨w1,w2,w3,w4⟩:=z1F hI (.cells z.cells t)
   let e:Em:=⟨i,d,κ.w.heap.size,t,z,D⟩
   have zam:(execOp a.eval o).run c.P κ.w=.ok (.value (.pointer (some ⟨κ.w.heap.size,0,none⟩))) (κ.w.alloc (.cells z.cells t)):=by
    obtain⟨dst,op,ty,pos,after,guard⟩:=o
    cases o1
    simp[execOp,Instr.alloc,zeroValue,typeInfo,z1,z2,newVar,newRow]
   have zaC:Region.wanted o (yielded ops a.tmps)=true:=by unfold Region.wanted; rw[o2]
   unfold wpOp
   rw[ho]
   simp only
   rw[if_pos zaC]
   refine .inl ?_
   unfold Oper.wp
   rw[zam]
   show wpAny c.P Region.Mode.any ops Q fuel (listed.setIfInBounds i true) (a.put o.dst (Value.pointer (some { block:=κ.w.heap.size,off:=0 }))) (κ.w.alloc (Obj.cells z.cells t))
   rw[o3]
   have vM:∀ f∈es,f.d≠d:=by
    intro f hf hfd
    obtain⟨f1,f2,f3⟩:=h3 f hf
    obtain⟨fo,fo1,fo2,fo3,fo4⟩:=(hem f hf).op
    have C0:f.i≠i:=λh=>by rw[h,i2]at f2; cases f2
    rcases Nat.lt_or_gt_of_ne C0 with qu | qu
    ·rcases kC f.i i qu i1 with h | h
     ·exact Ri f.i f1 ⟨fo,fo1,B5 fo2 fo3 fo4⟩ h
     ·exact(h fo o fo1 ho).1 f.d fo4 (hfd▸kh o3)
    ·rcases kC i f.i qu f1 with h | h
     ·have:=WS f.i f1 f2 i h i1; rw[i2]at this; cases this
     ·exact(h o fo ho fo1).1 d o3 (hfd▸kh fo4)
   have zgi:Fz c ops κ0 { κ with w:=κ.w.alloc (.cells z.cells t) } (a.put (some d) (.pointer (some ⟨κ.w.heap.size,0,none⟩))) e :=
    ⟨⟨o,ho,o1,o2,o3⟩,d1,⟨iz,z1,z2,z3⟩,by simp[e,Act.put,hR.size,d2],w4,w3,hx.size⟩
   have zb9:∀ f∈e::es,Fz c ops κ0 { κ with w:=κ.w.alloc (.cells z.cells t) } (a.put (some d) (.pointer (some ⟨κ.w.heap.size,0,none⟩))) f:=by
    intro f hf
    rcases List.mem_cons.1 hf with rfl | hf
    ·exact zgi
    ·exact(hem f hf).mono w2 (by simp[Act.put,Array.getElem?_setIfInBounds_ne (λe'=>vM f hf e'.symm)])
   have hR':Rel { κ with w:=κ.w.alloc (.cells z.cells t) } n (kF (e::es) s.1) (a.put (some d) (.pointer (some ⟨κ.w.heap.size,0,none⟩))):=Gt (e:=e) (hR.mono w2)
   have hdE:∀ f∈es,Dis e f:=by
    intro f hf
    unfold Dis
    refine⟨λh => ?_,λh => ?_,λh=>vM f hf h.symm⟩
    ·have hf2:=(h3 f hf).2.1
     rw[<- h]at hf2
     have i2':listed.getD e.i true=false:=i2
     rw[i2']at hf2
     cases hf2
    ·have hl:=(hem f hf).nob.lt
     rw[<- h]at hl
     exact Nat.lt_irrefl _ hl
   have MP:(e::es).Pairwise Dis:=List.pairwise_cons.2 ⟨hdE,Ez⟩
   have zde:dX ops a0 (a.put (some d) (.pointer (some ⟨κ.w.heap.size,0,none⟩))):=hkp.trans (by have:=pE (a:=a) (v:=.pointer (some ⟨κ.w.heap.size,0,none⟩)) ho; rw[o3]at this; exact this)
   have WD:∀ j,j<ops.size->qt.getD j true=true->(listed.setIfInBounds i true).getD j true=true:=λj hj ha=>by
    rw[b9]; split
    ·rfl
    ·exact h1 j hj ha
   have h2':∀ j,j<ops.size->(listed.setIfInBounds i true).getD j true=true->qt.getD j true=false->∃ f∈e::es,f.i=j:=λj hj hb ha=>by
    rw[b9]at hb
    split at hb
    ·rename_i h; exact⟨e,List.mem_cons_self,h.symm⟩
    ·obtain⟨f,hf,C0⟩:=h2 j hj hb ha; exact⟨f,List.mem_cons_of_mem _ hf,C0⟩
   have h3':∀ f∈e::es,f.i<ops.size/\(listed.setIfInBounds i true).getD f.i true=true/\qt.getD f.i true=false:=λf hf=>by
    rcases List.mem_cons.1 hf with rfl | hf
    ·exact⟨i1,by rw[b9]; exact if_pos rfl,hia⟩
    ·obtain⟨f1,f2,f3⟩:=h3 f hf
     exact⟨f1,by rw[b9]; split<;>first | rfl | exact f2,f3⟩
   by_cases hmore:∃ q,q<ops.size/\eG ops q/\(listed.setIfInBounds i true).getD q true=false
   ·exact tZ hC Ej kC cC o8 fuel (listed.setIfInBounds i true) qt (e::es) (κ:={ κ with w:=κ.w.alloc (.cells z.cells t) }) (by simp[uH]) hszA Ec Ov WD h2' h3' MP hmore w1 hR' xK (hx.trans w2) zb9 vK zde hQ
   ·-- all are laid
    have z5x:∀ q,q<ops.size->eG ops q->(listed.setIfInBounds i true).getD q true=true:=λq q1 q2=>by
     cases hb:(listed.setIfInBounds i true).getD q true with
     | true=>rfl
     | false=>exact(hmore ⟨q,q1,q2,hb⟩).elim
    obtain⟨κ',s',f1,f2,f3,f4,f5,f6⟩:=flush (c:=c) (n:=n) kC cC Ov z5x (e::es).length (e::es) qt { κ with w:=κ.w.alloc (.cells z.cells t) } s rfl hszA WD h2' h3' MP w1 hR' xK (hx.trans w2) zb9 vK
    have hgo:=U5 (κ:=κ') hC Ej fuel (listed.setIfInBounds i true) (Q:=Q) (λp j hpj hj hp=>(kC p j hpj hj).elim .inl λh=>.inr (H8 h (cC p (by omega)) (cC j hj) λhh=>by
     rw[z5x p (by omega) hh.1]at hp; cases hp)) (by simp[uH]) Ec Ov f3 f5 f2 f6 λa' Nf e1 e2 e3 e4 e5=>hQ a' Nf e1 e2 (f4.trans e3) e4 (zde.trans e5)
    rw[f1]at hgo
    exact hgo
  ·-- another operation
   have z5U:∀ o,ops[i]? = some o->∀ e∈es,e.d ∉ tmpsOf ops o:=by
    intro o ho f hf
    obtain⟨f1,f2,f3⟩:=h3 f hf
    obtain⟨fo,fo1,fo2,fo3,fo4⟩:=(hem f hf).op
    have C0:f.i≠i:=λh=>by rw[h,i2]at f2; cases f2
    rcases Nat.lt_or_gt_of_ne C0 with qu | qu
    ·rcases kC f.i i qu i1 with h | h
     ·exact(Ri f.i f1 ⟨fo,fo1,B5 fo2 fo3 fo4⟩ h).elim
     ·exact(h fo o fo1 ho).1 f.d fo4
    ·rcases kC i f.i qu f1 with h | h
     ·have:=WS f.i f1 f2 i h i1; rw[i2]at this; cases this
     ·exact(h o fo ho fo1).2.1 f.d fo4
   obtain⟨pre,post,g1,g2,g3⟩:=gK (p:=λi => !qt.getD i true) (q:=λj => !(qt.setIfInBounds i true).getD j true) (i:=i) (List.range ops.size) List.pairwise_lt_range
    (List.mem_range.2 i1) (by simp[hia]) (λj=>by
     rw[uX (by omega)]
     by_cases h:j=i
     ·subst h; simp
     ·simp[h])
   have Te:∀ p∈pre,Ind ops kd p i:=by
    intro p hp
    obtain⟨r1,r2,r3⟩:=g3 p hp
    have r2:=List.mem_range.1 r2
    have r1:qt.getD p true=false:=by simpa using r1
    rcases kC p i r3 i1 with h | h
    ·obtain⟨f,hf,C0⟩:=h2 p r2 (S6 p h r2) r1
     obtain⟨fo,fo1,fo2,fo3,fo4⟩:=(hem f hf).op
     exact(Ri p r2 ⟨fo,by rw[<- C0]; exact fo1,B5 fo2 fo3 fo4⟩ h).elim
    ·exact H8 h (cC p r2) (cC i i1) λhh=>cT hh.2
   have CG:nJ c n ops kd (pre++i::post) s sf:=by
    have:rest ops qt=pre++i::post:=g1
    rw[<- this]; exact vK
   obtain⟨s1,k1,k2⟩:=JN Te CG
   refine Nc (s:=(kF es s.1,s.2)) (s':=(kF es s1.1,s1.2)) hC hI hR xK (E0 k1 z5U) λa1 κ1 e1 e2 e3 e4 e5 e6 => ?_
   have z0v:∀ j,(qt.setIfInBounds i true).getD j true=if j=i then true else qt.getD j true:=λj=>uX (by omega)
   refine tZ hC Ej kC cC o8 fuel (listed.setIfInBounds i true) (qt.setIfInBounds i true) es (κ:=κ1) (s:=s1) (by simp[uH]) (by simp[hszA]) Ec Ov (λj hj ha => ?_) (λj hj hb ha => ?_) (λf hf => ?_) Ez
    ⟨q,q1,q2,?_⟩ e2 e4 e1 (hx.trans e3) (λf hf=>(hem f hf).mono e3 (e6 f.d λo ho hod=>z5U o ho f hf (kh hod))) ?_ (hkp.trans e5) hQ
   ·rw[z0v]at ha; rw[b9]
    split
    ·rfl
    ·rename_i h; rw[if_neg h]at ha; exact h1 j hj ha
   ·rw[z0v]at ha; rw[b9]at hb
    split at ha
    ·cases ha
    ·rename_i h; rw[if_neg h]at hb; exact h2 j hj hb ha
   ·obtain⟨f1,f2,f3⟩:=h3 f hf
    have C0:f.i≠i:=λh=>by rw[h,i2]at f2; cases f2
    exact⟨f1,by rw[b9,if_neg C0]; exact f2,by rw[z0v,if_neg C0]; exact f3⟩
   ·have hqi:q≠i:=λh=>cT (by rw[<- h]; exact q2)
    rw[b9,if_neg hqi]; exact q3
   ·have:rest ops (qt.setIfInBounds i true)=pre++post:=g2
    rw[this]; exact k2
theorem tL{kd:Nat->Nat}:∀ {l:List Oper} {ks:List Nat} {i j:Nat} {o:Oper},l[i]? = some o->ks[i]? = some (kd j)->(Jl l ks)[i]? = some (kd3 kd o j)
 | [],_,i,_,_,h,_=>by simp at h
 | _::_,[],i,_,_,_,h=>by simp at h
 | x::l,k::ks,0,j,o,h1,h2=>by simp at h1 h2; subst h1; subst h2; rfl
 | x::l,k::ks,i+1,j,o,h1,h2=>by
  have:=tL (kd:=kd) (l:=l) (ks:=ks) (i:=i) (j:=j) (o:=o) (by grind) (by grind)
  simpa[Jl]using this
theorem Yt:∀ {l:List Oper} {k i:Nat} {o:Oper},l[i]? = some o->WI o=true->k+i∈Vp l k
 | [],_,_,_,h,_=>by simp at h
 | x::l,k,0,o,h1,h2=>by simp at h1; subst h1; simp[Vp,h2]
 | x::l,k,i+1,o,h1,h2=>by
  have:=Yt (l:=l) (k:=k+1) (i:=i) (o:=o) (by grind) h2
  simp only[Vp]
  grind
theorem XK{kd:Nat->RK}:∀ (l:List Nat) (s s':F×St) (ks:List RK),Lx c n ops l s s' ks->ks=l.map kd->J4 (λi s s'=>cN c n ops i s s' (kd i)) l s s'
 | [],s,s',ks,h,_=>h.1
 | i::l,s,s',ks,⟨s1,k,Fa,e,h1,h2⟩,hk=>by
  subst e
  simp at hk
  obtain⟨rfl,hk⟩:=hk
  exact⟨s1,h1,XK l s1 s' Fa h2 hk⟩
theorem NQ{κ:KS}{a:Act}{id:Nat}{draw:Bool}{fr:Fr}{kn:Kn}{s':du}(hm:c.P.follows .mixedOrders=true)(hC:∀ g,Bb c.P g (c.fn g))(hI:Inv κ)(hR:Rel κ n fr.get a)(hk:vA kn fr.get)
  (h:(bG c n ops draw fr kn κ.st).leads s') {Q:Exit->Act->World->Prop} (hQ:∀ (a':Act) (κ':KS),κ'.st=s'.st->Inv κ'->Ext κ κ'->Rel κ' n s'.fr.get a'->dX ops a a'->Q .normal a' κ'.w) :
  (Code.region id ops draw).wp c.P Q a κ.w/\vA s'.kn s'.fr.get:=by
 simp only[bG,T.zD]at h
 obtain⟨s1,h1,h2⟩:=h
 obtain⟨ks,g1,g2,g3⟩:=ff ops.toList 0 ⟨fr,kn,κ.st,[],[]⟩ s1 (λj=>.inl (by simp)) hk h1
 simp only[List.append_nil]at g3
 have hl:ops.toList.length=ops.size:=by simp
 rw[hl,<- List.range_eq_range']at g1
 cases hd:(!draw||tf ops s1.ks.reverse s1.bk.reverse)with
 | false=>rw[hd]at h2; exact h2.elim
 | true =>
  rw[hd,cond_true]at h2
  cases h2
  refine⟨?_,g2⟩
  cases draw with
  | false=>exact wp_region (MX hC _ hI hR rfl g1 hQ)
  | true =>
   simp only[Bool.not_true,Bool.false_or,tf,Bool.or_eq_true]at hd
   obtain⟨rks,r1,r3⟩:=XT (ops:=ops) ops.toList 0 ⟨fr,kn,κ.st,[],[]⟩ _ (λj=>.inl (by simp)) hk h1
   simp only[List.append_nil]at r3
   rw[hl,<- List.range_eq_range']at r1
   let kd:Nat->Nat:=λi=>ks.getD i 0
   have hkl:ks.length=ops.size:=by rw[Cd _ _ _ _ g1]; simp
   have hks:ks=(List.range ops.size).map kd:=by
    apply List.ext_getElem?
    intro i
    grind
   have vK:=UU (kd:=kd) _ _ _ _ g1 hks
   refine wp_region_any hm ?_
   let κd:KS:={ κ with w:=κ.w.drew }
   have hx:Ext κ κd:=⟨rfl,rfl,rfl,Nat.le_refl _,λk hk=>⟨hk,rfl⟩,λk hk=>.inl hk,λ_ _ _ h=>.inl h,λb d h=>⟨⟨d,h⟩,rfl⟩,
    λb v0 e xs h=>.inr ⟨v0,xs,h,Nat.le_refl _,λ_=>⟨rfl,rfl⟩⟩,λ_ h=>h,Nat.le_refl _,λk _ _=>rfl⟩
   have hId:Inv κd:=⟨hI.len,hI.yF,hI.apart,hI.inj,λb y hy=>(hI.blk b y hy).mono hx rfl λ_ _ _=>rfl,hI.gl.mono hx.same⟩
   have oO:rest ops (Array.replicate ops.size false)=List.range ops.size:=by
    unfold rest
    rw[List.filter_eq_self]
    intro i hi
    have:=List.mem_range.1 hi
    simp[Array.getD_eq_getD_getElem?,this]
   have KV:∀ j,j<ops.size->(Array.replicate ops.size false).getD j true=false:=λj hj=>by simp[Array.getD_eq_getD_getElem?,hj]
   have z3i:Z2 ops (Array.replicate ops.size false):=λq hq Oz=>by rw[KV q hq]at Oz; cases Oz
   have CX:∀ i,i<ops.size->ks[i]? = some (kd i):=λi hi=>by simp[kd,List.getD,List.getElem?_eq_getElem (show i<ks.length by omega)]
   have W7:∀ i (hi:i<ops.size),ops.toList[i]? = some ops[i]:=λi hi=>by simp
   rcases hd with(hd | hd) | hd
   ·simp only[Mk,Bool.and_eq_true]at hd
    obtain⟨d1,d2⟩:=hd
    rw[g3,List.reverse_reverse]at d2
    have kC:∀ p i,p<i->i<ops.size->ordered (xc ops.toList []) p i=true\/Ind ops kd p i:=by
     intro p i Bf hi
     have hp:=mL ops.toList ks 0 [] d2 i ops[i] (kd i) (W7 i hi) (CX i hi)
     have:=hp.2 p ops[p] (kd p) Bf (W7 p (by omega)) (CX p (by omega))
     simp only[Nat.zero_add]at this
     refine fg this (λh=>h) λhap x y hx hy => ?_
     rw[Array.getElem?_eq_getElem (by omega)]at hx hy
     cases hx
     cases hy
     exact hap
    exact U5 (κ:=κd) hC d1 ops.size _ (λp i h1 h2 _=>kC p i h1 h2) (by simp) (by rw[oO]; simp) z3i hId (hR.mono hx) rfl (by rw[oO]; exact vK) λa' κ' e1 e2 e3 e4 e5=>hQ a' κ' e1 e2 (hx.trans e3) e4 e5
   ·simp only[MB,Bool.and_eq_true]at hd
    obtain⟨⟨⟨d1,d0⟩,d2⟩,d3⟩:=hd
    rw[g3,List.reverse_reverse]at d0 d2
    have cC:∀ i,i<ops.size->kd i<=2:=λi hi=>Nat.le_of_ble_eq_true (List.all_eq_true.1 d0 _ (List.mem_of_getElem? (CX i hi)))
    have kC:∀ p i,p<i->i<ops.size->ordered (xc ops.toList []) p i=true\/z2t ops kd p i:=by
     intro p i Bf hi
     have hp:=mL ops.toList (Jl ops.toList ks) 0 [] d2 i ops[i] (kd3 kd ops[i] i) (W7 i hi) (tL (W7 i hi) (CX i hi))
     have:=hp.2 p ops[p] (kd3 kd ops[p] p) Bf (W7 p (by omega)) (tL (W7 p (by omega)) (CX p (by omega)))
     simp only[Nat.zero_add]at this
     refine fg this (λh=>h) λhap x y hx hy => ?_
     rw[Array.getElem?_eq_getElem (by omega)]at hx hy
     cases hx
     cases hy
     exact hap
    have o8:∀ p j,p<ops.size->eG ops p->j<ops.size->ordered (xc ops.toList []) p j=true->∀ q,q<ops.size->eG ops q->ordered (xc ops.toList []) q j=true:=by
     intro p j hp hap hj ho q hq haq
     unfold BW at d3
     have:=List.all_eq_true.1 d3 j (List.mem_range.2 (by simpa using hj))
     simp only[Bool.or_eq_true,Bool.not_eq_true',List.any_eq_false,List.all_eq_true]at this
     have hm:∀ r,eG ops r->r∈Vp ops.toList 0:=λr ⟨o,h1,h2⟩=>by
      have:=Yt (l:=ops.toList) (k:=0) (i:=r) (o:=o) (by rw[Array.getElem?_toList]; exact h1) h2
      rwa [Nat.zero_add]at this
     rcases this with h | h
     ·have:=h p (hm p hap); rw[ho]at this; exact absurd rfl this
     ·exact h q (hm q haq)
    by_cases hex:∃ q,q<ops.size/\eG ops q
    ·obtain⟨q,q1,q2⟩:=hex
     exact tZ (κ0:=κd) (κ:=κd) (a0:=a) hC d1 kC cC o8 ops.size _ (Array.replicate ops.size false) [] (by simp) (by simp) (by rw[oO]; simp) z3i (λj hj h=>by rw[KV j hj]at h; cases h)
      (λj hj h _=>by rw[KV j hj]at h; cases h) (λe he=>by cases he) .nil ⟨q,q1,q2,KV q q1⟩ hId (hR.mono hx) rfl (Ext.refl _) (λe he=>by cases he) (by rw[oO]; exact vK) (dX.refl _ _)
      λa' κ' e1 e2 e3 e4 e5=>hQ a' κ' e1 e2 (hx.trans e3) e4 e5
    ·exact U5 (κ:=κd) hC d1 ops.size _ (λp i h1 h2 _=>(kC p i h1 h2).elim .inl λh=>.inr (H8 h (cC p (by omega)) (cC i h2) λhh=>hex ⟨p,by omega,hh.1⟩)) (by simp) (by rw[oO]; simp) z3i hId (hR.mono hx) rfl (by rw[oO]; exact vK) λa' κ' e1 e2 e3 e4 e5=>hQ a' κ' e1 e2 (hx.trans e3) e4 e5
   ·simp only[Ly,Bool.and_eq_true]at hd
    obtain⟨d1,d2⟩:=hd
    rw[r3,List.reverse_reverse]at d2
    let kr:Nat->RK:=λi=>rks.getD i (.z 0)
    have hrl:rks.length=ops.size:=by rw[Ym _ _ _ _ r1]; simp
    have zh6:rks=(List.range ops.size).map kr:=by
     apply List.ext_getElem?
     intro i
     by_cases hi:i<ops.size
     ·simp[kr,hi,List.getD,List.getElem?_eq_getElem (show i<rks.length by omega)]
     ·rw[List.getElem?_eq_none (by omega),List.getElem?_eq_none (by simp; omega)]
    have z5L:∀ i,i<ops.size->rks[i]? = some (kr i):=λi hi=>by simp[kr,List.getD,List.getElem?_eq_getElem (show i<rks.length by omega)]
    have zbU:=XK (kd:=kr) _ _ _ _ r1 zh6
    have kC:∀ p i,p<i->i<ops.size->ordered (xc ops.toList []) p i=true\/z6w ops kr p i:=by
     intro p i Bf hi
     have hp:=mL ops.toList rks 0 [] d2 i ops[i] (kr i) (W7 i hi) (z5L i hi)
     have:=hp.2 p ops[p] (kr p) Bf (W7 p (by omega)) (z5L p (by omega))
     simp only[Nat.zero_add]at this
     refine fg this (λh=>h) λhap x y hx hy => ?_
     rw[Array.getElem?_eq_getElem (by omega)]at hx hy
     cases hx
     cases hy
     exact hap
    exact X8 (κ:=κd) (Stp:=λi s s'=>cN c n ops i s s' (kr i)) (In:=λp i=>z6w ops kr p i) (λi s s' h=>h.plain) (λp i hi s s1 s2 h1 h2=>FD hi h1 h2) hC d1 ops.size _ (λp i h1 h2 _=>kC p i h1 h2) (by simp) (by rw[oO]; simp) z3i hId (hR.mono hx) rfl (by rw[oO]; exact zbU) λa' κ' e1 e2 e3 e4 e5=>hQ a' κ' e1 e2 (hx.trans e3) e4 e5
end
end Go.AM
namespace Go.AM
set_option linter.unusedSectionVars false
variable [vX] [K0]
def CT(κ:KS):Ex->Exit->Prop
 | .normal,e=>e=.normal
 | .exit id,e=>e=.exit id
 | .ret,e=>e=.ret
 | .kB d,e=>∃ v,e=.panic [{ v,recovered:=false }]/\RD κ d v
section
variable {c:Ctx} {n:Nat}
def xl:Code->List (Nat×Code)
 | .seq a b=>xl a++xl b
 | .cond _ a b=>xl a++xl b
 | .block id (.loop b)=>[(id,b)]
 | .block _ a=>xl a
 | _=>[]
theorem O0{ops:Array Oper}{draw:Bool}{fr:Fr}{kn:Kn}{st:St}{s':du}(hk:vA kn fr.get)(h:(bG c n ops draw fr kn st).leads s'):vA s'.kn s'.fr.get:=by
 simp only[bG,T.zD]at h
 obtain⟨s1,h1,h2⟩:=h
 obtain⟨ks,g1,g2,g3⟩:=ff ops.toList 0 ⟨fr,kn,st,[],[]⟩ s1 (λj=>.inl (by simp)) hk h1
 cases hd:(!draw||tf ops s1.ks.reverse s1.bk.reverse)with
 | false=>rw[hd]at h2; exact h2.elim
 | true=>rw[hd,cond_true]at h2; cases h2; exact g2
theorem cq(f:F):vA [] f:=by nofun
theorem Cc{id:Nat}{b:Code}(hb:∀ b',b≠.loop b'):xl (.block id b)=xl b:=by
 cases b<;>first | rfl | exact absurd rfl (hb _)
end
end Go.AM
namespace Go.AM
set_option linter.unusedSectionVars false
variable [vX] [K0]
section
variable {c:Ctx} {n:Nat}
theorem G8:∀ (ds:List D) (i s:Nat),(wm ds i).get s=if i<=s then ds[s-i]? else none
 | [],i,s=>by simp[wm,Fr.get]
 | d::r,i,s=>by
  simp only[wm,Fr.get]
  by_cases h:i=s
  ·subst h; simp
  ·rw[nq h,cond_false,G8 r (i+1) s]
   grind
theorem Qi{κ:KS}{args:List D}{zy:List Value}(h:qE κ args zy)(hn:args.length<=n) :
  Rel κ n (wm args 0).get { tmps:=zy.toArray++Array.replicate (n-zy.toArray.size) undef,defers:=K0.df }:=by
 have hl:=h.1
 refine⟨by grind,rfl,λs d hd => ?_⟩
 rw[G8]at hd
 obtain⟨v,h1,h2⟩:=h.get hd
 grind
theorem tC{κ:KS}{fr:Fr}{a:Act}(hI:Inv κ)(hR:Rel κ n fr.get a):∀ (rvs:List ResultVar) (ds:List D),(bh c fr κ.st rvs).leads ds ->
  ∃ vs:List Value,Sem.run c.P (rvs.mapM λr=>match r with | ResultVar.tmp t=>(Pure.pure (a.tmps.getD t undef):Sem Value) | ResultVar.cell p t=>do loadVar t (<- asAddr (a.tmps.getD p undef))) κ.w=Result.ok vs κ.w/\qE κ ds vs
 | [],ds,h=>by cases h; exact⟨[],by simp,.nil⟩
 | .tmp t::r,ds,h=>by
  simp only[bh]at h
  split at h
  ·rename_i d hd
   simp only[T.zD]at h
   obtain⟨l,hl,rfl⟩:=h
   obtain⟨v,h1,h2⟩:=hR.get t d hd
   obtain⟨vs,h3,h4⟩:=tC hI hR r l hl
   refine⟨v::vs,?_,.cons h2 h4⟩
   simp only[List.mapM_cons,Sem.run_bind,Sem.run_pure,Result.andThen_ok,h3]
   simp[h1]
  ·exact h.elim
 | .cell p t::r,ds,h=>by
  simp only[bh]at h
  split at h
  ·rename_i b off hd
   split at h
   ·rename_i d hb
    split at h
    ·rename_i x hx
     simp only[T.zD]at h
     obtain⟨l,hl,rfl⟩:=h
     obtain⟨v,h1,h2⟩:=hR.get p _ hd
     obtain⟨vs,h3,h4⟩:=tC hI hR r l hl
     cases h2 with
     | ptr _ _ blk m d1 Fb hp =>
      obtain⟨lW,n',cs,T,g1,g2,g3,g4,g5⟩:=hI.blk b _ hb
      rw[hp]at g1
      cases g1
      obtain⟨u,e1,e2⟩:=UL (c:=c) (blk:=blk) 0 hx g4 g5.1 (λj v hj=>by rw[rq g2]; simpa using hj)
      rw[Nat.zero_add]at e1
      refine⟨u::vs,?_,.cons e2 h4⟩
      have hA:(asAddr (a.tmps.getD p undef)).run c.P κ.w=.ok ⟨blk,off,none⟩ κ.w:=by simp[h1,asAddr]
      simp only[List.mapM_cons,Sem.run_bind,hA,Result.andThen_ok,e1,h3,Sem.run_pure]
    ·exact h.elim
   ·exact h.elim
  ·exact h.elim
def SV:List Value->Value
 | [v]=>v
 | vs=>.tuple vs.toArray
theorem mh{κ:KS}{fr:Fr}{a:Act}{fn:Func}{ds:List D}(hI:Inv κ)(hR:Rel κ n fr.get a)(h:(bh c fr κ.st fn.results.toList).leads ds) :
  ∃ vs:List Value,(results fn a.tmps).run c.P κ.w=.ok (SV vs) κ.w/\qE κ ds vs:=by
 obtain⟨vs,h1,h2⟩:=tC hI hR _ _ h
 simp only[results,Array.mapM_eq_mapM_toList,Sem.run_bind,Sem.run_map]
 have key:∀ r:Result (List Value),r=.ok vs κ.w->((r.andThen λa w'=>.ok a.toArray w').andThen λa w'=>(Pure.pure (if h:a.size=1 then a[0]else .tuple a):Sem Value).run c.P w')=.ok (SV vs) κ.w:=by
  rintro _ rfl
  match vs with
  | []=>rfl
  | [v]=>rfl
  | _::_::_=>rfl
 grind
theorem tz{κ:KS}{ds:List D}{vs:List Value}(h:qE κ ds vs):RD κ (yh ds) (SV vs):=by
 match ds,vs,h with
 | [],vs,h=>rw[h.qg]; exact .yq [] [] rfl (λi h=>absurd h (Nat.not_lt_zero i))
 | [d],vs,h =>
  obtain⟨v,r,rfl,h1,h2⟩:=h.cons_inv
  rw[h2.qg]
  exact h1
 | d::e::r,vs,h =>
  obtain⟨v,us,rfl,h1,h2⟩:=h.cons_inv
  obtain⟨u,ws,rfl,h3,h4⟩:=h2.cons_inv
  exact .yq _ _ h.1 h.2
def KS.cut(κ:KS)(m:Nat):KS:={ κ with ph:=κ.ph.take m,st:=κ.st.take m }
theorem qe{α:Type}{l:List α}{m i:Nat}{a:α}(h:l[i]? = some a)(hi:i<m):(l.take m)[i]? = some a:=by grind
theorem gu{α:Type}{l:List α}{m i:Nat}{a:α}(h:(l.take m)[i]? = some a):l[i]? = some a/\i<m:=by grind
theorem dt{κ:KS}{m:Nat}{d:D}{v:Value}(h:RD κ d v)(hd:vN m d=true):RD (κ.cut m) d v:=by
 cases h with
 | zI τ y cs h=>exact .zI τ y cs h
 | xd e a=>exact .xd e a
 | tight e l ne blk off f vM wg h hc=>exact .tight e l ne blk off f vM wg h hc
 | xr=>exact .xr
 | yd=>exact .yd
 | qV=>exact .qV
 | vW=>exact .vW
 | vV=>exact .vV
 | td v h=>exact .td v h
 | cA T=>exact .cA T
 | cd b T d hb=>exact .cd b T d (qe hb (Nat.le_of_ble_eq_true hd))
 | cB b T blk n d hb h=>exact .cB b T blk n d (qe hb (Nat.le_of_ble_eq_true hd)) (qe h (Nat.le_of_ble_eq_true hd))
 | ptr b off blk n d hb h=>exact .ptr b off blk n d (qe hb (Nat.le_of_ble_eq_true hd)) (qe h (Nat.le_of_ble_eq_true hd))
 | qR τ y cs blk off wg h hc=>exact .qR τ y cs blk off wg h hc
 | uo b qA e idx off blk o hb h =>
  have qu:b<m:=Nat.le_of_ble_eq_true hd
  refine .uo b qA e idx off blk o (fg hb (λh=>qe h qu) ?_) λxs hx hi => ?_
  ·rintro⟨v0,e0,x0,h1,h2⟩; exact⟨v0,e0,x0,qe h1 qu,h2⟩
  ·obtain⟨n,h1,h2⟩:=h xs (gu hx).1 hi
   exact⟨n,qe h1 qu,h2⟩
 | ms b qA e off len cap a hb vc ha pR h =>
  have qu:b<m:=Nat.le_of_ble_eq_true hd
  refine .ms b qA e off len cap a (fg hb (λh=>qe h qu) ?_) vc ha pR λxs hx => ?_
  ·rintro⟨v0,e0,x0,h1,h2⟩; exact⟨v0,e0,x0,qe h1 qu,h2⟩
  ·obtain⟨h1,h2⟩:=h xs (gu hx).1
   refine⟨h1,fg h2 ?_ ?_⟩
   ·rintro⟨g1,g2,g3,g4⟩; exact⟨g1,g2,g3,qe g4 qu⟩
   ·rintro⟨blk,n,o,Ew,g1,g2⟩; exact⟨blk,n,o,Ew,qe g1 qu,g2⟩
 | qW=>cases hd
 | agg=>cases hd
 | yq=>cases hd
 | iface=>cases hd
theorem I3{κ:KS}{m:Nat}{d:D}{v:Value}(h:RD κ d v)(hd:gC m d=true):RD (κ.cut m) d v:=by
 cases d with
 | qW f l =>
  cases h with
  | qW _ _ vs hl hh =>
   simp only[gC,List.all_eq_true]at hd
   exact .qW f l vs hl λi h1 h2=>dt (hh i h1 h2) (hd _ (List.getElem_mem h1))
 | agg l =>
  cases h with
  | agg _ vs hl ho hh =>
   simp only[gC,List.all_eq_true]at hd
   exact .agg l vs hl ho λi h1 h2=>dt (hh i h1 h2) (hd _ (List.getElem_mem h1))
 | yq l=>cases hd
 | iface t d =>
  cases h with
  | iface _ _ v h=>exact .iface t _ v (dt h hd)
 | _=>exact dt h hd
theorem IE{κ:KS}{m:Nat}{l:List D}{vs:List Value}(h:qE κ l vs)(hd:∀ d∈l,gC m d=true):qE (κ.cut m) l vs:=⟨h.1,λi h1 h2=>I3 (h.2 i h1 h2) (hd _ (List.getElem_mem h1))⟩
theorem HA{m:Nat}{d:D}(h:gC m d=true):∀ x∈qh d,gC m x=true:=by
 have Bc:∀ (τ:Ty) (x:den τ),∀ y∈flat τ x,gC m y=true:=by
  intro τ x y hy
  have:∃ σ z,y=.zI σ z:=by
   induction τ with
   | cons a b ia ib =>
    simp only[flat]at hy
    grind
   | nil=>simp[flat]at hy
   | expr=>simp[flat]at hy; rcases hy with rfl | rfl | rfl | rfl | rfl | rfl<;>exact⟨_,_,rfl⟩
   | _=>simp[flat]at hy; subst hy; exact⟨_,_,rfl⟩
  obtain⟨σ,z,rfl⟩:=this
  rfl
 cases d with
 | zI τ x=>exact Bc τ x
 | agg l =>
  intro x hx
  simp only[gC,List.all_eq_true]at h
  have:=h x hx
  cases x<;>first | exact this | cases this
 | yq l=>cases h
 | _=>intro x hx; simp[qh]at hx; subst hx; exact h
theorem z1V{κ:KS}{m:Nat}(hI:Inv κ)(hc:∀ x∈κ.st.take m,Gn m x=true):Inv (κ.cut m):=by
 refine⟨by simp[KS.cut,hI.len],hI.yF,λb blk n h=>hI.apart b blk n (gu h).1,λb b' blk n n' h h'=>hI.inj b b' blk n n' (gu h).1 (gu h').1,λb x h => ?_,hI.gl⟩
 obtain⟨h1,h2⟩:=gu h
 have hb:=hI.blk b x h1
 have hcx:=hc x (List.mem_of_getElem? h)
 cases x with
 | dead=>trivial
 | var d =>
  obtain⟨blk,n,cs,t,g1,g2,g3,g4,g5⟩:=hb
  exact⟨blk,n,cs,t,qe g1 h2,g2,g3,IE g4 (HA hcx),g5⟩
 | arr qA e xs =>
  obtain⟨h0,hb⟩:=hb
  refine⟨h0,fg hb (λh=>⟨h.1,qe h.2 h2⟩) ?_⟩
  rintro⟨blk,n,cs,t,g1,g2⟩
  exact⟨blk,n,cs,t,qe g1 h2,g2⟩
end
end Go.AM
namespace Go.AM
set_option linter.unusedSectionVars false
variable [vX]
section
variable {c:Ctx}
theorem wL{P:Program}{f:Nat}{fn:Func}{args:Array Value}(hf:P.funcs[f]? = some fn) (hn:(fn.name == "runtime.NumGoroutine")=false) (hb:fn.body.isNone=false) (w:World) :
  (callFunc f args).run P w=.ok (.enter f args) w:=by
 simp only[callFunc,Sem.run_bind,run_program,Result.andThen_ok,hf,hn,hb,Bool.false_eq_true,if_false,Sem.run_pure]
theorem Ox{κ κe:KS}(hI:Inv κ)(xK:κ.st=[])(hIe:Inv κe)(hx:Ext κ κe):Inv (κe.bare (Pb κe))/\Ext κ (κe.bare (Pb κe)):=by
 have qu:∀ k,Pb κe k->k<κe.w.heap.size:=by
  rintro k (hk | ⟨b,n,hk⟩)
  ·exact hIe.yF k hk
  ·exact(hIe.apart b k n hk).1
 refine⟨JK hIe (λ_ h=>.inl h) qu,hx.os,hx.tape,hx.output,hx.size,λk hk=>⟨.inl (hx.same k hk).1,(hx.same k hk).2⟩,?_,λb blk n h=>by simp[KS.bare]at h,λb d h=>by grind,
  λb v0 e xs h=>by grind,λb h=>by grind,by grind,hx.frame⟩
 rintro k (hk | ⟨b,n,hk⟩)
 ·exact hx.fresh k hk
 ·rcases hx.phs b k n hk with h | h
  ·grind
  ·grind
end
end Go.AM
namespace Go.AM
set_option linter.unusedSectionVars false
variable [vX] [K0]
open Go.RowKit
def z2Z(s:Nat)(fr:Fr)(st:St):T (Fr×St):=match fr.get s with
 | some (.ms b qA e off len)=>match st[b]? with
  | some (.arr jQ e' xs)=>match(wP (a:=.sl e') (b:=.sl e) xs:Option (List (den e)))with
   | some ys=>.zL (qA=jQ) (.ret ((s,some (.zI (.sl e) ((ys.take (off+len)).drop off)))::fr,st.set b .dead))
   | none=>.fail
  | _=>.fail
 | _=>.ret (fr,st)
def z2u(j i:Nat)(fr:Fr)(st:St):T (Fr×St):=match st[j]? with
 | some (.var (.agg ds))=>match ds[i]? with
  | some (.ms b qA e off len)=>match st[b]? with
   | some (.arr jQ e' xs)=>match(wP (a:=.sl e') (b:=.sl e) xs:Option (List (den e)))with
    | some ys=>.zL (qA=jQ) (.ret (fr,(st.set b .dead).set j (.var (.agg (ds.set i (.zI (.sl e) ((ys.take (off+len)).drop off)))))))
    | none=>.fail
   | _=>.fail
  | _=>.ret (fr,st)
 | _=>.ret (fr,st)
def z2f(s:Nat)(fr:Fr)(st:St):T (Fr×St):=bif Nat.ble 1000000 s then z2u ((s-1000000) / 1000) ((s-1000000) % 1000) fr st else z2Z s fr st
def frz:List Nat->Fr->St->T (Fr×St)
 | [],fr,st=>.ret (fr,st)
 | s::r,fr,st=>(z2f s fr st).bind λx=>frz r x.1 x.2
section
variable {c:Ctx} {κ:KS} {n:Nat}
theorem zd6{b qA off len:Nat}{e:Ty}{xs:List (den e)}{v:Value}(hI:Inv κ)(h:RD κ (.ms b qA e off len) v)(hb:κ.st[b]? = some (.arr qA e xs)){Wa:Nat->Prop}(h1:∀ k,κ.ok k->Wa k)(h2:∀ k n,κ.ph[b]? = some (some (k,n))->Wa k) :
  Rc κ.w Wa (.sl e) ((xs.take (off+len)).drop off) [v]:=by
 obtain⟨HE,_⟩:=Ev hI h hb
 obtain⟨a,cap,f,hve,vc,hn,g1,g2⟩:=HE.ex
 have SK:∀ blk o:Nat,v=.slice (some ⟨blk,o,none⟩) ((xs.take (off+len)).drop off).length cap->Wa blk:=by
  intro blk o he
  cases h with
  | ms _ _ _ _ _ Ew a' hold zcc ha pR hm =>
   obtain⟨_,hm⟩:=hm xs hb
   grind
 rw[hve]
 cases a with
 | none=>obtain⟨k1,k2⟩:=hn rfl; rw[k1,k2]; exact .fO e none
 | some p =>
  rcases g2 p rfl with⟨k1,k2⟩ | ⟨hp,_,hc⟩
  ·rw[k1,k2]; exact .fO e _
  ·obtain⟨blk,o,sp⟩:=p
   subst hp
   exact .sl e _ blk o cap f (SK blk o hve) vc (λi hi=>(g1 i hi).mono λk hk=>⟨h1 k hk,rfl⟩) hc
theorem LM{b qA:Nat}{e:Ty}{xs:List (den e)}(hb:κ.st[b]? = some (.arr qA e xs))(hI:Inv κ):∃ κ':KS,κ'.w=κ.w/\κ'.st=κ.st.set b .dead/\Inv κ'/\Ext κ κ' /\
  ∀ (off len:Nat) (v:Value),RD κ (.ms b qA e off len) v->RD κ' (.zI (.sl e) ((xs.take (off+len)).drop off)) v:=by
 have qu:b<κ.st.length:=(List.getElem?_eq_some_iff.1 hb).1
 let κ':KS:=⟨κ.w,λk=>κ.ok k\/∃ n,κ.ph[b]? = some (some (k,n)),κ.ph.set b none,κ.st.set b .dead⟩
 have xK:∀ i,i≠b->κ'.st[i]? = κ.st[i]? := λi hi=>by show(κ.st.set b .dead)[i]? = _; rw[List.getElem?_set_ne (λe=>hi e.symm)]
 have Yv:∀ i,i≠b->κ'.ph[i]? = κ.ph[i]? := λi hi=>by show(κ.ph.set b none)[i]? = _; rw[List.getElem?_set_ne (λe=>hi e.symm)]
 have z2B:∀ (i blk m:Nat),κ'.ph[i]? = some (some (blk,m))->i≠b/\κ.ph[i]? = some (some (blk,m)):=by
  grind
 have hx:Ext κ κ':=by
  refine⟨rfl,rfl,rfl,Nat.le_refl _,λk hk=>⟨.inl hk,rfl⟩,?_,λi blk m hi=>.inl (z2B i blk m hi).2,?_,?_,?_,by show _<=(κ.st.set b .dead).length; simp,λ_ _ _=>rfl⟩
  ·grind
  ·grind
  ·grind
  ·grind
 have hI':Inv κ':=by
  refine⟨by show(κ.ph.set b none).length=(κ.st.set b .dead).length; simp[hI.len],?_,?_,?_,?_,hI.gl.mono hx.same⟩
  ·rintro k (hk | ⟨m,hk⟩)
   ·exact hI.yF k hk
   ·exact(hI.apart b k m hk).1
  ·intro i blk m hi
   obtain⟨hib,KB⟩:=z2B i blk m hi
   obtain⟨g1,g2⟩:=hI.apart i blk m KB
   refine⟨g1,?_⟩
   rintro(hk | ⟨m',hk⟩)
   ·exact g2 hk
   ·exact hib (hI.inj i b blk m m' KB hk)
  ·intro i i' blk m m' hi KB
   exact hI.inj i i' blk m m' (z2B i blk m hi).2 (z2B i' blk m' KB).2
  ·intro i B hB
   by_cases hib:i=b
   ·subst hib
    have:(κ.st.set i .dead)[i]? = some B:=hB
    rw[List.getElem?_set_self qu]at this
    cases this
    trivial
   ·rw[xK i hib]at hB
    exact(hI.blk i B hB).mono hx (Yv i hib) λ_ _ _=>rfl
 exact⟨κ',rfl,rfl,hI',hx,λoff len v hd=>RD.nB rfl (zd6 hI hd hb (λk hk=>.inl hk) λk m hk=>.inr ⟨m,hk⟩)⟩
theorem z2n{s:Nat}{fr:Fr}{a:Act}{r:Fr×St}(h:(z2Z s fr κ.st).leads r)(hI:Inv κ)(hR:Rel κ n fr.get a):∃ κ':KS,κ'.w=κ.w/\κ'.st=r.2/\Inv κ'/\Ext κ κ'/\Rel κ' n r.1.get a:=by
 unfold z2Z at h
 split at h
 ·rename_i b qA e off len hs
  split at h
  ·rename_i jQ e' xs hb
   split at h
   ·rename_i ys hy
    obtain⟨he,hx⟩:=qk hy
    obtain⟨rfl,h⟩:=h
    cases h
    obtain⟨v,hv,hd⟩:=hR.get s _ hs
    obtain⟨κ',e1,e2,hI',hx,hk⟩:=LM hb hI
    refine⟨κ',e1,e2,hI',hx,hR.size,hR.defers,λt d kN => ?_⟩
    simp only[Fr.get]at kN
    cases ht:Nat.beq s t with
    | true =>
     rw[<- Nat.eq_of_beq_eq_true ht]
     grind
    | false =>
     rw[ht,cond_false]at kN
     obtain⟨u,g1,g2⟩:=hR.get t d kN
     exact⟨u,g1,g2.mono hx⟩
   ·exact h.elim
  ·exact h.elim
 ·cases h; exact⟨κ,rfl,rfl,hI,Ext.refl κ,hR⟩
theorem O5{ds:List D}{i b qA off len:Nat}{e:Ty}{d':D}(hd:ds[i]? = some (.ms b qA e off len))(hn:gB [d']=none){T:Nat}(h:gB (ds.set i d')=some T):gB ds=some T:=by
 cases ds with
 | nil=>cases hd
 | cons x r =>
  cases i with
  | zero =>
   have:gB (d'::r)=gB [d']:=by cases d'<;>rfl
   grind
  | succ i =>
   have:∀ r':List D,gB (x::r')=gB [x]:=by intro r'; cases x<;>rfl
   grind
theorem z2H{j i:Nat}{fr:Fr}{a:Act}{r:Fr×St}(h:(z2u j i fr κ.st).leads r)(hI:Inv κ)(hR:Rel κ n fr.get a):∃ κ':KS,κ'.w=κ.w/\κ'.st=r.2/\Inv κ'/\Ext κ κ'/\Rel κ' n r.1.get a:=by
 unfold z2u at h
 split at h
 ·rename_i ds hj
  split at h
  ·rename_i b qA e off len hi
   split at h
   ·rename_i jQ e' xs hb
    split at h
    ·rename_i ys hy
     obtain⟨he,hx⟩:=qk hy
     cases he
     cases hx
     obtain⟨rfl,h⟩:=h
     cases h
     obtain⟨κ1,e1,e2,QT,hx1,hk⟩:=LM hb hI
     have hjb:j≠b:=λq=>by subst q; rw[hb]at hj; cases hj
     have hj1:κ1.st[j]? = some (.var (.agg ds)):=by rw[e2,List.getElem?_set_ne (λq=>hjb q.symm)]; exact hj
     have Pf:j<κ1.st.length:=(List.getElem?_eq_some_iff.1 hj1).1
     let d':D:=.zI (.sl e) ((xs.take (off+len)).drop off)
     let κ2:KS:={ κ1 with st:=κ1.st.set j (.var (.agg (ds.set i d'))) }
     have xK:∀ k,k≠j->κ2.st[k]? = κ1.st[k]? := λk hk=>by show(κ1.st.set j _)[k]? = _; rw[List.getElem?_set_ne (λq=>hk q.symm)]
     have zeW:κ2.st[j]? = some (.var (.agg (ds.set i d'))):=by show(κ1.st.set j _)[j]? = _; rw[List.getElem?_set_self Pf]
     have FI:Ext κ1 κ2:=by
      refine⟨rfl,rfl,rfl,Nat.le_refl _,λk hk=>⟨hk,rfl⟩,λk hk=>.inl hk,λk blk m hk=>.inl hk,?_,?_,?_,by show _<=(κ1.st.set j _).length; simp,λ_ _ _=>rfl⟩
      ·grind
      ·grind
      ·grind
     have hI2:Inv κ2:=by
      refine⟨by show κ1.ph.length=(κ1.st.set j _).length; simp[QT.len],QT.yF,QT.apart,QT.inj,?_,QT.gl⟩
      intro k B hB
      by_cases q:k=j
      ·subst q
       rw[zeW]at hB
       cases hB
       obtain⟨blk,m,cs,t,g1,g2,g3,g4,g5,g6⟩:=hI.blk k _ hj
       obtain⟨lW,m',bS,t',p1,p2,p3,p4,p5,p6⟩:=QT.blk k _ hj1
       have Yv:κ1.ph[k]? = κ.ph[k]? := (hx1.var k _ hj).2
       rw[Yv,g1]at p1
       cases p1
       rw[e1,g2]at p2
       cases p2
       refine⟨blk,m,cs,t,Yv.trans g1,by show κ1.w.heap[blk]? = _; rw[e1]; exact g2,g3,?_,?_,λT hT=>g6 T (O5 hi rfl hT)⟩
       ·have p4':qE κ2 ds cs.toList:=qE.mono FI p4
        refine⟨by show(ds.set i d').length=_; rw[List.length_set]; exact p4'.1,λk' h1 h2 => ?_⟩
        have WD:k'<(ds.set i d').length:=h1
        rw[List.length_set]at WD
        show RD κ2 ((ds.set i d')[k']) _
        by_cases q:i=k'
        ·subst q
         have hdi:ds[i]'WD=.ms b qA e off len:=Option.some.inj ((List.getElem?_eq_getElem WD).symm.trans hi)
         have:=g4.2 i WD h2
         have C0:(qh (D.agg ds))[i]'WD=.ms b qA e off len:=hdi
         rw[C0]at this
         have e3:(ds.set i d')[i]'h1=d':=List.getElem_set_self _
         rw[e3]
         exact(hk _ _ _ this).mono FI
        ·have e3:(ds.set i d')[k']'h1=ds[k']'WD:=List.getElem_set_ne q _
         rw[e3]
         exact p4'.2 k' WD h2
       ·intro x hx
        rcases List.mem_or_eq_of_mem_set hx with hx | rfl
        ·exact g5 x hx
        ·rfl
      ·rw[xK k q]at hB
       exact(QT.blk k B hB).mono FI rfl λ_ _ _=>rfl
     refine⟨κ2,e1,by show κ1.st.set j _=_; rw[e2],hI2,hx1.trans FI,hR.size,hR.defers,λt d kN => ?_⟩
     obtain⟨u,q1,q2⟩:=hR.get t d kN
     exact⟨u,q1,(q2.mono hx1).mono FI⟩
    ·exact h.elim
   ·exact h.elim
  ·cases h; exact⟨κ,rfl,rfl,hI,Ext.refl κ,hR⟩
 ·cases h; exact⟨κ,rfl,rfl,hI,Ext.refl κ,hR⟩
theorem z3N{s:Nat}{fr:Fr}{a:Act}{r:Fr×St}(h:(z2f s fr κ.st).leads r)(hI:Inv κ)(hR:Rel κ n fr.get a):∃ κ':KS,κ'.w=κ.w/\κ'.st=r.2/\Inv κ'/\Ext κ κ'/\Rel κ' n r.1.get a:=by
 unfold z2f at h
 cases hb:Nat.ble 1000000 s with
 | true=>rw[hb,cond_true]at h; exact z2H h hI hR
 | false=>rw[hb,cond_false]at h; exact z2n h hI hR
theorem z0o:∀ (l:List Nat) {fr:Fr} {κ:KS} {a:Act} {r:Fr×St},(frz l fr κ.st).leads r->Inv κ->Rel κ n fr.get a->∃ κ':KS,κ'.w=κ.w/\κ'.st=r.2/\Inv κ'/\Ext κ κ'/\Rel κ' n r.1.get a
 | [],fr,κ,a,r,h,hI,hR=>by cases h; exact⟨κ,rfl,rfl,hI,Ext.refl κ,hR⟩
 | s::l,fr,κ,a,r,h,hI,hR=>by
  simp only[frz,T.zD]at h
  obtain⟨x,h1,h2⟩:=h
  obtain⟨κ1,e1,e2,e3,e4,e5⟩:=z3N h1 hI hR
  rw[<- e2]at h2
  obtain⟨κ2,g1,g2,g3,g4,g5⟩:=z0o l h2 e3 e5
  exact⟨κ2,g1.trans e1,g2,g3,e4.trans g4,g5⟩
end
end Go.AM