/-
  The abstract machine, part C: texts of our own, the same for each claim.
-/
import Derived.Test.YthhgaidlooddpaaGreatDoorAmB
import Derived.Deep.LoopGhost
set_option linter.unusedVariables false
namespace Go.AM
set_option linter.unusedSectionVars false
variable [vU]
abbrev F:=Nat->Option D
def qh(f:F):Operand->Option D
 | .tmp t=>f t
 | .const v=>XZ v
 | .global _=>none
 | .func g=>bif Nat.blt g 1000000 then some (.qN g [])else none
theorem gz(fr:Fr):uI fr=qh fr.get:=by rfl
def kA(f:F)(dst:Option Nat)(d:Option D):F:=match dst with
 | some t=>λs=>if s=t then d else f s
 | none=>f
theorem lW{a b:Nat}(h:a≠b):Nat.beq a b=false:=by
 cases hb:Nat.beq a b with
 | false=>rfl
 | true=>exact absurd (Nat.eq_of_beq_eq_true hb) h
theorem lQ(fr:Fr)(dst:Option Nat)(d:Option D):(fr.put dst d).get=kA fr.get dst d:=by
 cases dst with
 | none=>rfl
 | some t =>
  funext s
  simp only[Fr.put,Fr.get,kA]
  by_cases h:s=t
  ·subst h; simp
  ·rw[if_neg h,lW (λe=>h e.symm),cond_false]
section
variable (c:Ctx) (n:Nat) (ops:Array Oper)
def wi(f:F)(o:Oper):Option Bool:=match o.guard with
 | none=>some true
 | some (j,w)=>match uH ops j with
  | none=>none
  | some t=>match f t with
   | some (.zI .bool b)=>some (b==w)
   | some (.yH [])=>some false
   | _=>none
def yN(i:Nat)(s s':F×St)(k:Nat):Prop:=∃ o,ops[i]? = some o/\vS n o.dst=true /\
 ((wi ops s.1 o=some true/\k=(qI c (qh s.1) o).kind/\∃ d zr,(zH (qI c (qh s.1) o) s.2).leads (d,zr)/\s'=(kA s.1 o.dst d,zr)) \/
  (wi ops s.1 o=some false/\k=0/\s'=(kA s.1 o.dst (some M4),s.2)))
def MS:List Nat->F×St->F×St->List Nat->Prop
 | [],s,s',ks=>s'=s/\ks=[]
 | i::l,s,s',ks=>∃ s1 k Dd,ks=k::Dd/\yN c n ops i s s1 k/\MS l s1 s' Dd
end
section
variable {c:Ctx} {n:Nat} {ops:Array Oper}
def vA(kn:Kn)(f:F):Prop:=∀ t b,kn.get t=some b->f t=some (.zI .bool b)
theorem U1(t:Nat)(b:Option Bool)(kn:Kn)(s:Nat):Kn.get ((t,b)::kn) s=if s=t then b else kn.get s:=by
 simp only[Kn.get]
 by_cases h:s=t
 ·subst h; simp
 ·rw[if_neg h,lW (λe=>h e.symm),cond_false]
theorem bu{kn:Kn}{f:F}(h:vA kn f){x:Operand}{b:Bool}(hx:cU kn x=some b):qh f x=some (.zI .bool b):=by
 unfold cU at hx
 split at hx
 ·exact h _ _ hx
 ·cases hx; rfl
 ·cases hx
theorem HY{kn:Kn}{fr:Fr}{o:Oper}(hk:vA kn fr.get){st:St}{r:Option D×St}(h:(zH (nj c kn fr o) st).leads r) :
  (zH (qI c (qh fr.get) o) st).leads r/\(nj c kn fr o).kind=(qI c (qh fr.get) o).kind/\∀ b,JI kn o.op=some b->r.1=some (.zI .bool b):=by
 obtain⟨dst,op,ty,pos,after,guard⟩:=o
 rw[<- gz]
 cases op with
 | pick x a b =>
  simp only[nj]at h ⊢
  cases hx:cU kn x with
  | none =>
   rw[hx]at h
   refine⟨h,rfl,λb' hb => ?_⟩
   simp[JI,hx]at hb
  | some bx =>
   rw[hx]at h
   have Ji:=bu hk hx
   rw[<- gz]at Ji
   have z9J:qI c (uI fr) ⟨dst,.pick x a b,ty,pos,after,guard⟩=.val (.ite bx (.ret (uI fr a)) (.ret (uI fr b))):=by
    simp only[qI,Eb,Ji,asBool]
   rw[z9J]
   obtain⟨d,zr⟩:=r
   cases bx with
   | true =>
    simp only[wV,T.leads]at h ⊢
    refine⟨⟨.inl ⟨by first | rfl | trivial,h.1⟩,h.2⟩,rfl,λb' hb => ?_⟩
    simp only[JI,hx]at hb
    have:=bu hk hb
    rw[<- gz]at this
    grind
   | false =>
    simp only[wV,T.leads]at h ⊢
    refine⟨⟨.inr ⟨by first | rfl | trivial,h.1⟩,h.2⟩,rfl,λb' hb => ?_⟩
    simp only[JI,hx]at hb
    have:=bu hk hb
    rw[<- gz]at this
    grind
 | move x =>
  refine⟨h,rfl,λb hb => ?_⟩
  obtain⟨d,zr⟩:=r
  simp only[nj,qI,wV,T.leads]at h
  have:=bu hk (show cU kn x=some b from hb)
  rw[<- gz]at this
  grind
 | assign x =>
  refine⟨h,rfl,λb hb => ?_⟩
  obtain⟨d,zr⟩:=r
  simp only[nj,qI,wV,T.leads]at h
  have:=bu hk (show cU kn x=some b from hb)
  rw[<- gz]at this
  grind
 | _=>exact⟨h,rfl,λb hb=>by simp[JI]at hb⟩
theorem FC{kn:Kn}{f:F}(hk:vA kn f){dst:Option Nat}{d:Option D}{b:Option Bool}(hb:∀ b',b=some b'->d=some (.zI .bool b')):vA (Jx kn dst b) (kA f dst d):=by
 cases dst with
 | none=>exact hk
 | some t =>
  intro s b' h
  simp only[Jx,U1]at h
  simp only[kA]
  split at h
  ·grind
  ·rename_i e; rw[if_neg e]; exact hk s b' h
theorem rI{kn:Kn}{f:F}(hk:vA kn f){t:Nat}{b:Bool}(hb:f t=some (.zI .bool b)):vA ((t,some b)::kn) f:=by
 intro s b' h
 rw[U1]at h
 split at h
 ·grind
 ·exact hk s b' h
theorem Us{o:Oper}{s s':dr}(hk:vA s.kn s.fr.get)(h:(gX c n o s).leads s') :
  vS n o.dst=true/\(∃ d zr,(zH (qI c (qh s.fr.get) o) s.st).leads (d,zr)/\s'.fr.get=kA s.fr.get o.dst d/\s'.st=zr)/\vA s'.kn s'.fr.get/\s'.ks=(qI c (qh s.fr.get) o).kind::s.ks:=by
 unfold gX at h
 cases hd:vS n o.dst with
 | false=>rw[hd]at h; exact h.elim
 | true =>
  rw[hd,cond_true]at h
  simp only[T.zG]at h
  obtain⟨⟨d,zr⟩,h1,rfl⟩:=h
  obtain⟨h2,h3,h4⟩:=HY hk h1
  refine⟨rfl,⟨d,zr,h2,lQ _ _ _,rfl⟩,?_,by grind⟩
  rw[lQ]
  exact FC hk h4
theorem I8{o:Oper}{s:dr}(hk:vA s.kn s.fr.get):vA (jm o s).kn (jm o s).fr.get:=by
 show vA (Jx s.kn o.dst none) (s.fr.put o.dst (some M4)).get
 rw[lQ]
 exact FC hk nofun
theorem Kx{i:Nat}{o:Oper}{s s':dr}(ho:ops[i]? = some o)(hk:vA s.kn s.fr.get)(h:(stepG c n ops o s).leads s') :
  ∃ k,yN c n ops i (s.fr.get,s.st) (s'.fr.get,s'.st) k/\vA s'.kn s'.fr.get/\s'.ks=k::s.ks:=by
 have run:∀ (s0:dr),s0.fr=s.fr->s0.st=s.st->s0.ks=s.ks->vA s0.kn s0.fr.get->wi ops s.fr.get o=some true->(gX c n o s0).leads s' ->
   ∃ k,yN c n ops i (s.fr.get,s.st) (s'.fr.get,s'.st) k/\vA s'.kn s'.fr.get/\s'.ks=k::s.ks:=by
  intro s0 e1 e2 e3 YM hw h
  obtain⟨h1,⟨d,zr,h2,h3,h4⟩,h5,h6⟩:=Us YM h
  rw[e1]at h2 h3 h6
  rw[e2]at h2
  rw[e3]at h6
  exact⟨_,⟨o,ho,h1,.inl ⟨hw,rfl,d,zr,h2,by rw[h3,h4]⟩⟩,h5,h6⟩
 have skip:∀ (s0:dr),s0.fr=s.fr->s0.st=s.st->s0.ks=s.ks->vA s0.kn s0.fr.get->wi ops s.fr.get o=some false->vS n o.dst=true->jm o s0=s' ->
   ∃ k,yN c n ops i (s.fr.get,s.st) (s'.fr.get,s'.st) k/\vA s'.kn s'.fr.get/\s'.ks=k::s.ks:=by
  intro s0 e1 e2 e3 YM hw hd h
  subst h
  refine⟨0,⟨o,ho,hd,.inr ⟨hw,rfl,?_⟩⟩,I8 YM,by simp[jm,e3]⟩
  simp only[jm,lQ,e1,e2]
 unfold stepG at h
 split at h
 ·rename_i hg
  exact run s rfl rfl rfl hk (by simp[wi,hg]) h
 ·rename_i j w hg
  split at h
  ·exact h.elim
  ·rename_i t ht
   split at h
   ·rename_i b hb
    have hf:=hk t b hb
    have hw:wi ops s.fr.get o=some (b==w):=by simp[wi,hg,ht,hf]
    cases Nv:(b==w)with
    | true=>grind
    | false =>
     rw[Nv,cond_false]at h
     cases hd:vS n o.dst with
     | false=>rw[hd]at h; exact h.elim
     | true=>rw[hd,cond_true]at h; exact skip s rfl rfl rfl hk (by rw[hw,Nv]) hd h
   ·split at h
    ·rename_i x hx
     have hw:wi ops s.fr.get o=some (x==w):=by simp[wi,hg,ht,hx]
     cases hd:vS n o.dst with
     | false=>rw[hd]at h; exact h.elim
     | true =>
      rw[hd,cond_true]at h
      rcases h with⟨rfl,h⟩ | ⟨rfl,h⟩
      ·have Yj:vA (s.bh t true).kn (s.bh t true).fr.get:=rI hk hx
       cases w with
       | true=>exact run (s.bh t true) rfl rfl rfl Yj hw h
       | false=>exact skip (s.bh t true) rfl rfl rfl Yj hw hd h
      ·have Yj:vA (s.bh t false).kn (s.bh t false).fr.get:=rI hk hx
       cases w with
       | true=>exact skip (s.bh t false) rfl rfl rfl Yj hw hd h
       | false=>exact run (s.bh t false) rfl rfl rfl Yj hw h
    ·rename_i hx
     have hw:wi ops s.fr.get o=some false:=by simp[wi,hg,ht,hx]
     cases hd:vS n o.dst with
     | false=>rw[hd]at h; exact h.elim
     | true=>rw[hd,cond_true]at h; exact skip s rfl rfl rfl hk hw hd h
    ·exact h.elim
theorem eS:∀ (l:List Oper) (k0:Nat) (s s':dr),(∀ j,l[j]? = ops[k0+j]? \/ l.length<=j)->vA s.kn s.fr.get->(iw c n ops l s).leads s' ->
  ∃ ks,MS c n ops (List.range' k0 l.length) (s.fr.get,s.st) (s'.fr.get,s'.st) ks/\vA s'.kn s'.fr.get/\s'.ks=ks.reverse++s.ks
 | [],k0,s,s',_,hk,h=>by cases h; exact⟨[],⟨rfl,rfl⟩,hk,rfl⟩
 | o::l,k0,s,s',hl,hk,h=>by
  simp only[iw,T.zG]at h
  obtain⟨s1,h1,h2⟩:=h
  have ho:ops[k0]? = some o:=by rcases hl 0 with h | h<;>simp at h; exact h.symm
  obtain⟨k,g1,g2,g3⟩:=Kx ho hk h1
  obtain⟨ks,g4,g5,g6⟩:=eS l (k0+1) s1 s' (λj=>by have:=hl (j+1); simpa[Nat.add_assoc,Nat.add_comm 1 j]using this) g2 h2
  refine⟨k::ks,?_,g5,by grind⟩
  exact⟨_,k,ks,rfl,g1,g4⟩
end
end Go.AM
namespace Go.AM
set_option linter.unusedSectionVars false
variable [vU]
section
variable {c:Ctx} {n:Nat} {ops:Array Oper}
theorem om{α:Type}{ρ ρ':α->Option D}(L:List (Nat×α))(h:∀ p∈L,ρ p.2=ρ' p.2):(L.map λp=>(p.1,ρ p.2))=L.map λp=>(p.1,ρ' p.2) :=
 List.map_congr_left λp hp=>by rw[h p hp]
theorem tb{ρ ρ':Operand->Option D}(o:Oper)(h:∀ x∈o.op.operands,ρ x=ρ' x):qI c ρ o=qI c ρ' o:=by
 obtain⟨dst,op,ty,pos,after,guard⟩:=o
 cases op with
 | move x=>simp only[qI]; rw[h x (by simp[Op.operands])]
 | assign x=>simp only[qI]; rw[h x (by simp[Op.operands])]
 | pick x a b=>simp only[qI]; rw[h x (by simp[Op.operands]),h a (by simp[Op.operands]),h b (by simp[Op.operands])]
 | box t x=>simp only[qI]; rw[h x (by simp[Op.operands])]
 | load t x=>simp only[qI]; rw[h x (by simp[Op.operands])]
 | store t x y=>simp only[qI]; rw[h x (by simp[Op.operands]),h y (by simp[Op.operands])]
 | nilCheck x=>simp only[qI]; rw[h x (by simp[Op.operands])]
 | binOp op t x y _=>simp only[qI]; rw[h x (by simp[Op.operands]),h y (by simp[Op.operands])]
 | typeAssert x xt t ok=>simp only[qI]; rw[h x (by simp[Op.operands])]
 | unOp op t x=>simp only[qI]; rw[h x (by simp[Op.operands])]
 | convert s t x=>simp only[qI]; rw[h x (by simp[Op.operands])]
 | makeInterface t x=>simp only[qI]; rw[h x (by simp[Op.operands])]
 | makeFunc fn first cap =>
  cases fn<;>simp only[qI]
  rw[List.map_congr_left (l:=cap.toList) (λx hx=>h x (by simp[Op.operands,Array.mem_toList_iff.1 hx])),List.map_congr_left (l:=first.toList) (λx hx=>h x (by simp[Op.operands,Array.mem_toList_iff.1 hx]))]
 | makeSlice t x y=>simp only[qI]; rw[h x (by simp[Op.operands]),h y (by simp[Op.operands])]
 | slice t x lo hi mx =>
  simp only[qI]
  have ho:∀ o:Option Operand,(∀ y,o=some y->ρ y=ρ' y)->o.map ρ=o.map ρ':=λo ho=>by
   cases o with
   | none=>rfl
   | some y=>grind
  rw[h x (by simp[Op.operands]),ho lo (λy hy=>h y (by simp[Op.operands,hy])),ho hi (λy hy=>h y (by simp[Op.operands,hy])),ho mx (λy hy=>h y (by simp[Op.operands,hy]))]
 | fieldAddr s x f=>simp only[qI]; rw[h x (by simp[Op.operands])]
 | field s x f=>simp only[qI]; rw[h x (by simp[Op.operands])]
 | indexAddr t x y=>simp only[qI]; rw[h x (by simp[Op.operands]),h y (by simp[Op.operands])]
 | index t x y=>simp only[qI]; rw[h x (by simp[Op.operands]),h y (by simp[Op.operands])]
 | extract x i=>simp only[qI]; rw[h x (by simp[Op.operands])]
 | build t ps=>simp only[qI]; rw[om ps.toList λp hp=>h p.2 (by simp[Op.operands]; exact⟨p.1,Array.mem_toList_iff.1 hp⟩)]
 | buildSlice t k ps=>simp only[qI]; rw[om ps.toList λp hp=>h p.2 (by simp[Op.operands]; exact⟨p.1,Array.mem_toList_iff.1 hp⟩)]
 | call cl =>
  obtain⟨callee,args,nz⟩:=cl
  have bq:args.toList.map ρ=args.toList.map ρ':=List.map_congr_left λx hx=>h x (by simp[Op.operands,Call.operands,Array.mem_toList_iff.1 hx])
  cases callee with
  | builtin b=>simp only[qI]; rw[bq]
  | value f=>simp only[qI]; rw[bq,h f (by simp[Op.operands,Call.operands])]
  | invoke r m=>rfl
 | _=>rfl
theorem Y8{f:F}{dst:Option Nat}{d:Option D}{x:Operand}(h:∀ t,dst=some t->x≠.tmp t):qh (kA f dst d) x=qh f x:=by
 cases dst with
 | none=>rfl
 | some t=>cases x with
  | tmp s=>simp only[qh,kA]; rw[if_neg (λe=>h t rfl (by rw[e]))]
  | _=>rfl
theorem yS(f:F){a b:Option Nat}(d e:Option D)(h:∀ t,a=some t->b≠some t):kA (kA f a d) b e=kA (kA f b e) a d:=by
 cases a with
 | none=>rfl
 | some s=>cases b with
  | none=>rfl
  | some t =>
   simp only[kA]
   grind
def Ind(ops:Array Oper)(kd:Nat->Nat)(p i:Nat):Prop:=∀ x y,ops[p]? = some x->ops[i]? = some y ->
 (∀ d,x.dst=some d->d ∉ tmpsOf ops y)/\(∀ d,y.dst=some d->d ∉ tmpsOf ops x)/\uw (kd p) (kd i)=false
theorem kl{o:Oper}{d:Nat}(h:o.dst=some d):d∈tmpsOf ops o:=by simp[tmpsOf,h]
theorem oQ{o:Oper}{d:Nat}(h:Operand.tmp d∈o.op.operands):d∈tmpsOf ops o:=by
 simp only[tmpsOf,List.mem_append,List.mem_filterMap]
 exact .inr ⟨.tmp d,by grind,rfl⟩
theorem nT{o:Oper}{j:Nat}{w:Bool}{d:Nat}(h:o.guard=some (j,w))(hg:uH ops j=some d):d∈tmpsOf ops o:=by
 simp[tmpsOf,h,hg]
theorem wb{f:F}{o:Oper}{dst:Option Nat}{d:Option D}(h:∀ t,dst=some t->t ∉ tmpsOf ops o):wi ops (kA f dst d) o=wi ops f o:=by
 unfold wi
 cases hg:o.guard with
 | none=>rfl
 | some jw =>
  obtain⟨j,w⟩:=jw
  simp only
  cases hs:uH ops j with
  | none=>rfl
  | some t =>
   simp only
   have:kA f dst d t=f t:=by
    cases dst with
    | none=>rfl
    | some s=>simp only[kA]; rw[if_neg]; intro e; exact h s rfl (e▸nT hg hs)
   rw[this]
theorem jI{f:F}{o:Oper}{dst:Option Nat}{d:Option D}(h:∀ t,dst=some t->t ∉ tmpsOf ops o):qI c (qh (kA f dst d)) o=qI c (qh f) o :=
 tb o λx hx=>Y8 λt ht e=>h t ht (oQ (ops:=ops) (e▸hx))
theorem fS{cl:bM}(h:cl.kind=0){st zr:St}{d:Option D}(hl:(zH cl st).leads (d,zr)):zr=st/\∀ jr,(zH cl jr).leads (d,jr):=by
 cases cl with
 | val t=>rw[wV]at hl; exact⟨hl.2,λjr=>by rw[wV]; exact⟨hl.1,rfl⟩⟩
 | rd k=>cases h
 | wr k=>cases h
theorem cD{cl:bM}(h:cl.kind<=1){st zr:St}{d:Option D}(hl:(zH cl st).leads (d,zr)):zr=st:=by
 cases cl with
 | val t=>rw[wV]at hl; exact hl.2
 | rd k=>rw[lg]at hl; exact hl.2
 | wr k=>simp[bM.kind]at h
theorem Z3(cl:bM):cl.kind<=2:=by cases cl<;>simp[bM.kind]
theorem Yb{kd:Nat->Nat}{p i:Nat}(hi:Ind ops kd p i){s s1 s2:F×St}(h1:yN c n ops p s s1 (kd p))(h2:yN c n ops i s1 s2 (kd i)) :
  ∃ s',yN c n ops i s s' (kd i)/\yN c n ops p s' s2 (kd p):=by
 obtain⟨x,hx,hdx,Gw⟩:=h1
 obtain⟨y,hy,hdy,hy'⟩:=h2
 obtain⟨a1,a2,a3⟩:=hi x y hx hy
 have FR:∀ t,x.dst=some t->y.dst≠some t:=λt ht e=>a1 t ht (kl e)
 obtain⟨f,st⟩:=s
 rcases Gw with⟨hw,hk,d,hO,hl,rfl⟩ | ⟨hw,hk,rfl⟩
 ·rcases hy' with⟨Ql,cH,e,jr,fh,rfl⟩ | ⟨Ql,cH,rfl⟩
  ·simp only[wb a1,jI (c:=c) a1]at Ql cH fh
   simp only at hw hk hl
   -- the two meet nowhere in the store
   have key:(zH (qI c (qh f) y) st).leads (e,(if(qI c (qh f) y).kind=2 then jr else st))/\(zH (qI c (qh f) x) (if(qI c (qh f) y).kind=2 then jr else st)).leads (d,jr):=by
    rw[hk,cH]at a3
    rcases Nat.lt_or_ge (qI c (qh f) y).kind 2 with Tu | Tu
    ·rw[if_neg (by omega)]
     have e2:=cD (by omega) fh
     subst e2
     rcases Nat.lt_or_ge (qI c (qh f) x).kind 2 with Df | Df
     ·have e1:=cD (by omega) hl
      grind
     ·have hx3:(qI c (qh f) x).kind=2:=Nat.le_antisymm (Z3 _) Df
      have hy0:(qI c (qh f) y).kind=0:=by
       rw[hx3]at a3
       cases hy0:(qI c (qh f) y).kind with
       | zero=>rfl
       | succ m=>rw[hy0]at a3; simp[uw]at a3
      exact⟨(fS hy0 fh).2 st,hl⟩
    ·have TF:(qI c (qh f) y).kind=2:=Nat.le_antisymm (Z3 _) Tu
     rw[if_pos TF]
     have WO:(qI c (qh f) x).kind=0:=by
      rw[TF]at a3
      cases WO:(qI c (qh f) x).kind with
      | zero=>rfl
      | succ m=>rw[WO]at a3; simp[uw]at a3
     obtain⟨e1,h3⟩:=fS WO hl
     grind
   refine⟨_,⟨y,hy,hdy,.inl ⟨Ql,cH,e,_,key.1,rfl⟩⟩,x,hx,hdx,.inl ⟨?_,?_,d,jr,?_,?_⟩⟩
   ·rw[wb a2]; exact hw
   ·rw[jI (c:=c) a2]; exact hk
   ·rw[jI (c:=c) a2]; exact key.2
   ·simp only[yS f d e FR]
  ·simp only[wb a1]at Ql
   refine⟨_,⟨y,hy,hdy,.inr ⟨Ql,cH,rfl⟩⟩,x,hx,hdx,.inl ⟨?_,?_,d,hO,?_,?_⟩⟩
   ·rw[wb a2]; exact hw
   ·rw[jI (c:=c) a2]; exact hk
   ·rw[jI (c:=c) a2]; exact hl
   ·simp only[yS f d (some M4) FR]
 ·rcases hy' with⟨Ql,cH,e,jr,fh,rfl⟩ | ⟨Ql,cH,rfl⟩
  ·simp only[wb a1,jI (c:=c) a1]at Ql cH fh
   refine⟨_,⟨y,hy,hdy,.inl ⟨Ql,cH,e,jr,fh,rfl⟩⟩,x,hx,hdx,.inr ⟨?_,hk,?_⟩⟩
   ·rw[wb a2]; exact hw
   ·simp only[yS f (some M4) e FR]
  ·simp only[wb a1]at Ql
   refine⟨_,⟨y,hy,hdy,.inr ⟨Ql,cH,rfl⟩⟩,x,hx,hdx,.inr ⟨?_,hk,?_⟩⟩
   ·rw[wb a2]; exact hw
   ·simp only[yS f (some M4) (some M4) FR]
def nd(c:Ctx)(n:Nat)(ops:Array Oper)(kd:Nat->Nat):List Nat->F×St->F×St->Prop
 | [],s,s'=>s'=s
 | i::l,s,s'=>∃ s1,yN c n ops i s s1 (kd i)/\nd c n ops kd l s1 s'
theorem WR{kd:Nat->Nat}{i:Nat}{post:List Nat}{s':F×St}:∀ {pre:List Nat} {s:F×St},(∀ p∈pre,Ind ops kd p i)->nd c n ops kd (pre++i::post) s s' ->
  ∃ s1,yN c n ops i s s1 (kd i)/\nd c n ops kd (pre++post) s1 s'
 | [],s,_,h=>h
 | p::pre,s,hp,⟨sp,h1,h2⟩=>by
  obtain⟨s1,h3,h4⟩:=WR (λq hq=>hp q (List.mem_cons_of_mem _ hq)) h2
  obtain⟨s2,h5,h6⟩:=Yb (hp p List.mem_cons_self) h1 h3
  exact⟨s2,h5,s1,h6,h4⟩
end
end Go.AM
namespace Go.AM
set_option linter.unusedSectionVars false
variable [vU]
section
variable (c:Ctx) (n:Nat) (ops:Array Oper)
def cL(i:Nat)(s s':F×St)(k:RK):Prop:=∃ o,ops[i]? = some o/\vS n o.dst=true /\
 ((wi ops s.1 o=some true/\k=wh c (qh s.1) s.2 o/\∃ d zr,(zH (qI c (qh s.1) o) s.2).leads (d,zr)/\s'=(kA s.1 o.dst d,zr)) \/
  (wi ops s.1 o=some false/\k=.z 0/\s'=(kA s.1 o.dst (some M4),s.2)))
def IF:List Nat->F×St->F×St->List RK->Prop
 | [],s,s',ks=>s'=s/\ks=[]
 | i::l,s,s',ks=>∃ s1 k Dd,ks=k::Dd/\cL c n ops i s s1 k/\IF l s1 s' Dd
end
section
variable {c:Ctx} {n:Nat} {ops:Array Oper}
theorem cL.plain{i:Nat}{s s':F×St}{k:RK}(h:cL c n ops i s s' k):∃ k',yN c n ops i s s' k':=by
 obtain⟨o,h1,h2,h3⟩:=h
 rcases h3 with⟨g1,_,g3⟩ | ⟨g1,_,g3⟩
 ·exact⟨_,o,h1,h2,.inl ⟨g1,rfl,g3⟩⟩
 ·exact⟨_,o,h1,h2,.inr ⟨g1,rfl,g3⟩⟩
theorem D3{i:Nat}{o:Oper}{s s':dr}(ho:ops[i]? = some o)(hk:vA s.kn s.fr.get)(h:(stepG c n ops o s).leads s') :
  ∃ k,cL c n ops i (s.fr.get,s.st) (s'.fr.get,s'.st) k/\vA s'.kn s'.fr.get/\s'.bk=k::s.bk:=by
 have bkS:∀ {s0:dr},(gX c n o s0).leads s'->s'.bk=wh c (uI s0.fr) s0.st o::s0.bk:=by
  intro s0 h
  unfold gX at h
  cases hd:vS n o.dst with
  | false=>rw[hd]at h; exact h.elim
  | true =>
   rw[hd,cond_true]at h
   simp only[T.zG]at h
   obtain⟨⟨d,zr⟩,h1,rfl⟩:=h
   rfl
 have run:∀ (s0:dr),s0.fr=s.fr->s0.st=s.st->s0.bk=s.bk->vA s0.kn s0.fr.get->wi ops s.fr.get o=some true->(gX c n o s0).leads s' ->
   ∃ k,cL c n ops i (s.fr.get,s.st) (s'.fr.get,s'.st) k/\vA s'.kn s'.fr.get/\s'.bk=k::s.bk:=by
  intro s0 e1 e2 e3 YM hw h
  obtain⟨h1,⟨d,zr,h2,h3,h4⟩,h5,h6⟩:=Us YM h
  have hb:=bkS h
  rw[e1]at h2 h3 hb
  rw[e2]at h2 hb
  rw[e3]at hb
  rw[gz]at hb
  exact⟨_,⟨o,ho,h1,.inl ⟨hw,rfl,d,zr,h2,by rw[h3,h4]⟩⟩,h5,hb⟩
 have skip:∀ (s0:dr),s0.fr=s.fr->s0.st=s.st->s0.bk=s.bk->vA s0.kn s0.fr.get->wi ops s.fr.get o=some false->vS n o.dst=true->jm o s0=s' ->
   ∃ k,cL c n ops i (s.fr.get,s.st) (s'.fr.get,s'.st) k/\vA s'.kn s'.fr.get/\s'.bk=k::s.bk:=by
  intro s0 e1 e2 e3 YM hw hd h
  subst h
  refine⟨.z 0,⟨o,ho,hd,.inr ⟨hw,rfl,?_⟩⟩,I8 YM,by simp[jm,e3]⟩
  simp only[jm,lQ,e1,e2]
 unfold stepG at h
 split at h
 ·rename_i hg
  exact run s rfl rfl rfl hk (by simp[wi,hg]) h
 ·rename_i j w hg
  split at h
  ·exact h.elim
  ·rename_i t ht
   split at h
   ·rename_i b hb
    have hf:=hk t b hb
    have hw:wi ops s.fr.get o=some (b==w):=by simp[wi,hg,ht,hf]
    cases Nv:(b==w)with
    | true=>grind
    | false =>
     rw[Nv,cond_false]at h
     cases hd:vS n o.dst with
     | false=>rw[hd]at h; exact h.elim
     | true=>rw[hd,cond_true]at h; exact skip s rfl rfl rfl hk (by rw[hw,Nv]) hd h
   ·split at h
    ·rename_i x hx
     have hw:wi ops s.fr.get o=some (x==w):=by simp[wi,hg,ht,hx]
     cases hd:vS n o.dst with
     | false=>rw[hd]at h; exact h.elim
     | true =>
      rw[hd,cond_true]at h
      rcases h with⟨rfl,h⟩ | ⟨rfl,h⟩
      ·have Yj:vA (s.bh t true).kn (s.bh t true).fr.get:=rI hk hx
       cases w with
       | true=>exact run (s.bh t true) rfl rfl rfl Yj hw h
       | false=>exact skip (s.bh t true) rfl rfl rfl Yj hw hd h
      ·have Yj:vA (s.bh t false).kn (s.bh t false).fr.get:=rI hk hx
       cases w with
       | true=>exact skip (s.bh t false) rfl rfl rfl Yj hw hd h
       | false=>exact run (s.bh t false) rfl rfl rfl Yj hw h
    ·rename_i hx
     have hw:wi ops s.fr.get o=some false:=by simp[wi,hg,ht,hx]
     cases hd:vS n o.dst with
     | false=>rw[hd]at h; exact h.elim
     | true=>rw[hd,cond_true]at h; exact skip s rfl rfl rfl hk hw hd h
    ·exact h.elim
theorem Xd:∀ (l:List Oper) (k0:Nat) (s s':dr),(∀ j,l[j]? = ops[k0+j]? \/ l.length<=j)->vA s.kn s.fr.get->(iw c n ops l s).leads s' ->
  ∃ ks,IF c n ops (List.range' k0 l.length) (s.fr.get,s.st) (s'.fr.get,s'.st) ks/\s'.bk=ks.reverse++s.bk
 | [],k0,s,s',_,hk,h=>by cases h; exact⟨[],⟨rfl,rfl⟩,rfl⟩
 | o::l,k0,s,s',hl,hk,h=>by
  simp only[iw,T.zG]at h
  obtain⟨s1,h1,h2⟩:=h
  have ho:ops[k0]? = some o:=by rcases hl 0 with h | h<;>simp at h; exact h.symm
  obtain⟨k,g1,g2,g3⟩:=D3 ho hk h1
  obtain⟨ks,g4,g6⟩:=Xd l (k0+1) s1 s' (λj=>by have:=hl (j+1); simpa[Nat.add_assoc,Nat.add_comm 1 j]using this) g2 h2
  refine⟨k::ks,?_,by grind⟩
  exact⟨_,k,ks,rfl,g1,g4⟩
theorem CK{m b:Nat}{l:List Nat}:b∈others m l↔b<m/\∀ x∈l,b≠x:=by
 simp only[others]
 simp
theorem Fz{d:Option D}{b:Nat}(h:z4X d=some b):(∃ off,d=some (.ptr b off))\/∃ v e i off,d=some (.uk b v e i off):=by
 cases d with
 | none=>cases h
 | some d=>cases d<;>first | (cases h; exact .inl ⟨_,rfl⟩) | (cases h; exact .inr ⟨_,_,_,_,rfl⟩) | cases h
theorem ZH{bi:Builtin}{l:List (Option D)}:Li bi l=.z 2\/∃ b v e off len x,bi=.append/\l=[some (.ms b v e off len),some x]/\JZ x=false/\Li bi l=.up b:=by
 unfold Li
 grind
theorem WZ(ρ:Operand->Option D)(st:St)(o:Oper):(wh c ρ st o).base=(qI c ρ o).kind:=by
 unfold wh
 split
 ·rename_i h
  rw[h]
  cases o.op with
  | load t a=>simp only; split<;>rfl
  | _=>rfl
 ·rename_i h
  rw[h]
  cases o.op with
  | call cl =>
   cases hc:cl.callee with
   | builtin bi =>
    simp only[hc]
    rcases ZH (bi:=bi) (l:=cl.args.toList.map ρ)with e | ⟨b,v,e,off,len,x,_,_,_,e⟩<;>rw[e]<;>rfl
   | value f=>simp only[hc]; split<;>rfl
   | _=>simp only[hc]; rfl
  | store t a v=>simp only; split<;>rfl
  | _=>rfl
 ·rfl
theorem Xh{ρ:Operand->Option D}{o:Oper}(h:(qI c ρ o).kind<=1)(st zr:St):wh c ρ st o=wh c ρ zr o:=by
 unfold wh
 grind
theorem Q2{ρ:Operand->Option D}{st:St}{o:Oper}{b:Nat}(h:wh c ρ st o=.rd b){hO jr BX:St}{d:Option D}(hl:(zH (qI c ρ o) hO).leads (d,BX))(hb:jr[b]? = hO[b]?):(zH (qI c ρ o) jr).leads (d,jr):=by
 obtain⟨dst,op,ty,pos,after,guard⟩:=o
 cases op with
 | load t a =>
  have h':(∃ off,ρ a=some (.ptr b off))\/∃ v e i off,ρ a=some (.uk b v e i off):=by
   unfold wh at h
   simp only at h
   split at h
   ·split at h
    ·rename_i b' ha; cases h; exact Fz ha
    ·cases h
   ·cases h
   ·cases h
  have he:qI c ρ ⟨dst,.load t a,ty,pos,after,guard⟩=UO c t (ρ a):=rfl
  rcases h' with⟨off,ha⟩ | ⟨v,e,i,off,ha⟩
  all_goals
   rw[he,ha]at hl ⊢
   simp only[UO]at hl ⊢
   rw[lg]at hl ⊢
   grind
 | call cl =>
  obtain⟨callee,args,nz⟩:=cl
  unfold wh at h
  split at h
  ·cases h
  ·cases callee with
   | builtin bi =>
    simp only at h
    rcases ZH (bi:=bi) (l:=args.toList.map ρ)with e | ⟨b,v,e,off,len,x,_,_,_,e⟩<;>rw[e]at h<;>cases h
   | value f=>grind
   | _=>cases h
  ·cases h
 | _ =>
  unfold wh at h
  grind
theorem HX{ρ:Operand->Option D}{st:St}{o:Oper}{A:List Nat}(h:wh c ρ st o=.wr A){zr:St}{d:Option D}(hl:(zH (qI c ρ o) st).leads (d,zr)):∀ b∈A,zr[b]? = st[b]? := by
 obtain⟨dst,op,ty,pos,after,guard⟩:=o
 cases op with
 | alloc t =>
  have h':A=others st.length []:=by
   unfold wh at h
   grind
  subst h'
  intro b hb
  obtain⟨hb,_⟩:=CK.1 hb
  have hl:(zH (ma c t) st).leads (d,zr):=hl
  unfold ma at hl
  split at hl
  ·rename_i z hz
   have hl:(some (D.ptr st.length 0),st++[kE.var z])=(d,zr):=hl
   grind
  ·exact absurd hl ze
 | store t a v =>
  exfalso
  unfold wh at h
  grind
 | call cl =>
  obtain⟨callee,args,nz⟩:=cl
  cases callee with
  | value f =>
   have h':(qI c ρ ⟨dst,.call ⟨.value f,args,nz⟩,ty,pos,after,guard⟩).kind=2/\∃ g caps l,ρ f=some (.qN g caps)/\uB (args.toList.map ρ)=some l/\A=c.free (yu g) (jj g l caps) st:=by
    unfold wh at h
    grind
   obtain⟨hk,g,caps,l,hg,Tp,rfl⟩:=h'
   intro b hb
   have he:qI c ρ ⟨dst,.call ⟨.value f,args,nz⟩,ty,pos,after,guard⟩=cP c (ρ f) (args.toList.map ρ):=rfl
   rw[he,hg]at hl hk
   simp only[cP,Tp]at hl hk
   split at hl
   ·rename_i s hs
    rw[hs]at hk
    simp only[gw]at hk
    cases hn:(!(jj g l caps).any Vk)<;>rw[hn]at hk<;>simp[bM.kind]at hk
   ·simp only[pL,zH,T.zG]at hl
    obtain⟨⟨rs,hO⟩,h1,h2⟩:=hl
    cases rs with
    | ret ds=>cases h2; exact c.Ri _ _ _ _ _ b h1 hb
    | kM p=>exact h2.elim
  | builtin bi =>
   exfalso
   unfold wh at h
   simp only at h
   split at h
   ·cases h
   ·rcases ZH (bi:=bi) (l:=args.toList.map ρ)with e | ⟨b,v,e,off,len,x,_,_,_,e⟩<;>rw[e]at h<;>cases h
   ·cases h
  | invoke r m =>
   exfalso
   unfold wh at h
   simp only at h
   split at h<;>cases h
 | _ =>
  exfalso
  unfold wh at h
  simp only at h
  split at h
  ·first
    | cases h
    | (split at h<;>cases h)
  ·cases h
  ·cases h
theorem Qq{ρ:Operand->Option D}{st:St}{o:Oper}{b:Nat}(h:wh c ρ st o=.up b){hO BX:St}{d:Option D}(hl:(zH (qI c ρ o) hO).leads (d,BX)) :
  ∃ y,BX=hO.set b y/\∀ jr:St,jr[b]? = hO[b]? -> (zH (qI c ρ o) jr).leads (d,jr.set b y):=by
 obtain⟨dst,op,ty,pos,after,guard⟩:=o
 cases op with
 | store t a v =>
  have h':(∃ off,ρ a=some (.ptr b off))\/∃ v e i off,ρ a=some (.uk b v e i off):=by
   unfold wh at h
   simp only at h
   split at h
   ·cases h
   ·split at h
    ·rename_i b ha; cases h; exact Fz ha
    ·cases h
   ·cases h
  have he:qI c ρ ⟨dst,.store t a v,ty,pos,after,guard⟩=Wj c t (ρ a) (ρ v):=rfl
  rw[he]at hl ⊢
  cases hv:ρ v with
  | none =>
   rw[hv]at hl
   rcases h' with⟨off,ha⟩ | ⟨w,e,i,off,ha⟩<;>(rw[ha]at hl; exact absurd hl ze)
  | some x =>
   rw[hv]at hl
   rcases h' with⟨off,ha⟩ | ⟨w,e,i,off,ha⟩
   ·rw[ha]at hl ⊢
    have hl:(match hO[b]? with
     | some (.var d)=>match HB c t d off x with | some r=>bif mr d r then T.ret ((none:Option D),hO.set b (.var r))else .fail | none=>.fail
     | _=>.fail:T (Option D×St)).leads (d,BX):=hl
    split at hl
    ·rename_i d0 hb
     split at hl
     ·rename_i r hr
      cases ho:mr d0 r with
      | false=>rw[ho]at hl; exact hl.elim
      | true =>
       rw[ho]at hl
       cases hl
       refine⟨.var r,rfl,λjr h2 => ?_⟩
       show(match jr[b]? with
        | some (.var d)=>match HB c t d off x with | some r=>bif mr d r then T.ret ((none:Option D),jr.set b (.var r))else .fail | none=>.fail
        | _=>.fail:T (Option D×St)).leads _
       rw[h2,hb]
       simp only[hr,ho,cond_true]
       rfl
     ·exact hl.elim
    ·exact hl.elim
   ·rw[ha]at hl ⊢
    have hl:(match hO[b]? with
     | some (.arr jK e' xs)=>bif decide (e'=e)then
       .zM (w=jK/\i<xs.length) (match HB c t (.zI e' (xs.getD i (zj e'))) off x with
        | some r=>match eG e' r with | some y=>T.ret ((none:Option D),hO.set b (.arr jK e' (xs.set i y))) | none=>.fail
        | none=>.fail)
      else .fail
     | _=>.fail:T (Option D×St)).leads (d,BX):=hl
    split at hl
    ·rename_i jK e' xs hb
     cases hd:decide (e'=e)with
     | false=>rw[hd]at hl; exact hl.elim
     | true =>
      rw[hd,cond_true]at hl
      obtain⟨ho,hl⟩:=hl
      split at hl
      ·rename_i r hr
       split at hl
       ·rename_i y hy
        cases hl
        refine⟨.arr jK e' (xs.set i y),rfl,λjr h2 => ?_⟩
        show(match jr[b]? with
         | some (.arr jK e' xs)=>bif decide (e'=e)then
           .zM (w=jK/\i<xs.length) (match HB c t (.zI e' (xs.getD i (zj e'))) off x with
            | some r=>match eG e' r with | some y=>T.ret ((none:Option D),jr.set b (.arr jK e' (xs.set i y))) | none=>.fail
            | none=>.fail)
          else .fail
         | _=>.fail:T (Option D×St)).leads _
        rw[h2,hb]
        simp only[hd,cond_true,hr,hy]
        exact⟨ho,rfl⟩
       ·exact hl.elim
      ·exact hl.elim
    ·exact hl.elim
 | call cl =>
  obtain⟨callee,args,nz⟩:=cl
  cases callee with
  | builtin bi =>
   have h':bi=.append/\∃ v e off len x,args.toList.map ρ=[some (.ms b v e off len),some x]/\JZ x=false:=by
    unfold wh at h
    simp only at h
    split at h
    ·cases h
    ·rcases ZH (bi:=bi) (l:=args.toList.map ρ)with e | ⟨b',v,e,off,len,x,h1,h2,h3,e'⟩
     ·grind
     ·rw[e']at h; cases h; exact⟨h1,v,e,off,len,x,h2,h3⟩
    ·cases h
   obtain⟨rfl,v,e,off,len,x,hx,hm⟩:=h'
   have he:qI c ρ ⟨dst,.call ⟨.builtin .append,args,nz⟩,ty,pos,after,guard⟩=lC c .append nz.toList (args.toList.map ρ):=rfl
   rw[he,hx]at hl ⊢
   -- what the row gets
   have one:∀ {e':Ty} {ys:List (den e')} {ne:Bool} {nA:Nat},(jL e' (.ms b v e off len) ys ne nA hO).leads (d,BX)->∃ y,BX=hO.set b y/\∀ jr:St,jr[b]? = hO[b]? -> (jL e' (.ms b v e off len) ys ne nA jr).leads (d,jr.set b y):=by
    intro e' ys ne nA hl
    simp only[jL]at hl
    split at hl
    ·rename_i jK e'' xs hb
     split at hl
     ·rename_i zs hz
      cases hd:decide (e=e')with
      | false=>rw[hd]at hl; exact hl.elim
      | true =>
       rw[hd,cond_true]at hl
       obtain⟨ho,hl⟩:=hl
       cases hl
       refine⟨_,rfl,λjr h2 => ?_⟩
       simp only[jL]
       rw[h2,hb]
       simp only[hz,hd,cond_true]
       exact⟨ho,rfl⟩
     ·exact hl.elim
    ·exact hl.elim
   have snp:∀ jr,mX jr x=.ret x:=λjr=>by cases x<;>first | rfl | cases hm
   generalize nz.toList=tl at hl ⊢
   rcases tl with _ | ⟨t,_ | ⟨t',_ | ⟨t'',tl⟩⟩⟩
   ·exact absurd hl ze
   ·exact absurd hl ze
   rotate_left
   ·exact absurd hl ze
   ·
    simp only[lC]at hl ⊢
    cases ht:Nat.beq t t' with
    | true =>
     rw[ht,cond_true]at hl
     simp only[cond_true]
     unfold Q6 at hl ⊢
     cases het:fN c t with
     | none=>rw[het]at hl; exact absurd hl ze
     | some et =>
      rw[het]at hl
      simp only at hl ⊢
      cases h1:YZ c 20 et with
      | none=>rw[h1]at hl; exact absurd hl ze
      | some ee =>
       rw[h1]at hl
       try simp only at hl ⊢
       cases h2:lS c et with
       | none=>rw[h2]at hl; exact absurd hl ze
       | some bytes =>
        rw[h2]at hl
        simp only at hl ⊢
        cases hc:ko c et ee&&Nat.blt 0 ee.size&&Nat.blt 0 bytes&&(zeroOf c et ee).isSome with
        | false=>rw[hc]at hl; exact absurd hl ze
        | true =>
         rw[hc,cond_true]at hl
         simp only[cond_true,zH,snp,T.bind]at hl ⊢
         cases x<;>simp only at hl ⊢ <;> first | exact hl.elim | exact one hl | skip
         ·split at hl
          ·exact one hl
          ·exact hl.elim
         ·split at hl
          ·exact one hl
          ·exact hl.elim
    | false =>
     rw[ht,cond_false]at hl
     simp only[cond_false]
     unfold pX at hl ⊢
     cases het:fN c t with
     | none=>rw[het]at hl; exact absurd hl ze
     | some et =>
      rw[het]at hl
      simp only at hl ⊢
      split at hl
      ·rename_i bytes h1 h2 h3
       cases hc:ko c et (.int .u8)&&Nat.blt 0 bytes&&(zeroOf c et (.int .u8)).isSome with
       | false=>rw[hc]at hl; exact absurd hl ze
       | true =>
        rw[hc,cond_true]at hl
        simp only[cond_true]
        split at hl
        ·rename_i s l e1 e2
         cases e1
         cases e2
         simp only[zH]at hl ⊢
         exact one hl
        ·exact absurd hl ze
      ·exact absurd hl ze
  | _ =>
   exfalso
   unfold wh at h
   simp only at h
   split at h
   ·cases h
   ·first | cases h | (split at h<;>cases h)
   ·cases h
 | _ =>
  exfalso
  unfold wh at h
  simp only at h
  split at h
  ·first
    | cases h
    | (split at h<;>cases h)
  ·cases h
  ·cases h
theorem Ko:∀ (l:List Nat) (s s':F×St) (ks:List RK),IF c n ops l s s' ks->ks.length=l.length
 | [],_,_,_,h=>by rw[h.2]; rfl
 | i::l,s,s',ks,⟨s1,k,Dd,e,h1,h2⟩=>by subst e; simp[Ko l s1 s' Dd h2]
theorem oF{ρ:Operand->Option D}{st:St}{o:Oper}{b:Nat}(h:wh c ρ st o=.up b)(zr:St):wh c ρ zr o=.up b:=by
 obtain⟨dst,op,ty,pos,after,guard⟩:=o
 cases op with
 | alloc t =>
  unfold wh at h
  grind
 | call cl =>
  obtain⟨callee,args,nz⟩:=cl
  cases callee with
  | value f =>
   unfold wh at h
   grind
  | builtin bi=>cases bi<;>exact h
  | _=>exact h
 | _=>exact h
def z5j(ops:Array Oper)(kd:Nat->RK)(p i:Nat):Prop:=∀ x y,ops[p]? = some x->ops[i]? = some y ->
 (∀ d,x.dst=some d->d ∉ tmpsOf ops y)/\(∀ d,y.dst=some d->d ∉ tmpsOf ops x)/\uu (kd p) (kd i)=false
theorem pK{f:F}{o:Oper}{dst:Option Nat}{d:Option D}{st:St}(h:∀ t,dst=some t->t ∉ tmpsOf ops o):wh c (qh (kA f dst d)) st o=wh c (qh f) st o:=by
 have e1:qI c (qh (kA f dst d)) o=qI c (qh f) o:=jI h
 have e2:∀ x∈o.op.operands,qh (kA f dst d) x=qh f x:=λx hx=>Y8 λt ht e=>h t ht (oQ (ops:=ops) (e▸hx))
 obtain⟨dd,op,ty,pos,after,guard⟩:=o
 unfold wh
 rw[e1]
 cases op with
 | load t a=>simp only[e2 a (by simp[Op.operands])]
 | store t a v=>simp only[e2 a (by simp[Op.operands])]
 | call cl =>
  obtain⟨callee,args,nz⟩:=cl
  cases callee with
  | value g =>
   have bq:args.toList.map (qh (kA f dst d))=args.toList.map (qh f):=List.map_congr_left λx hx=>e2 x (by simp[Op.operands,Call.operands,Array.mem_toList_iff.1 hx])
   simp only[bq,e2 g (by simp[Op.operands,Call.operands])]
  | builtin bi =>
   have bq:args.toList.map (qh (kA f dst d))=args.toList.map (qh f):=List.map_congr_left λx hx=>e2 x (by simp[Op.operands,Call.operands,Array.mem_toList_iff.1 hx])
   grind
  | _=>rfl
 | _=>rfl
theorem Dw{kd:Nat->RK}{p i:Nat}(hi:z5j ops kd p i){s s1 s2:F×St}(h1:cL c n ops p s s1 (kd p))(h2:cL c n ops i s1 s2 (kd i)) :
  ∃ s',cL c n ops i s s' (kd i)/\cL c n ops p s' s2 (kd p):=by
 obtain⟨x,hx,hdx,Gw⟩:=h1
 obtain⟨y,hy,hdy,hy'⟩:=h2
 obtain⟨a1,a2,a3⟩:=hi x y hx hy
 have FR:∀ t,x.dst=some t->y.dst≠some t:=λt ht e=>a1 t ht (kl e)
 obtain⟨f,st⟩:=s
 rcases Gw with⟨hw,hk,d,hO,hl,rfl⟩ | ⟨hw,hk,rfl⟩
 ·rcases hy' with⟨Ql,cH,e,jr,fh,rfl⟩ | ⟨Ql,cH,rfl⟩
  ·simp only[wb a1,jI (c:=c) a1,pK (c:=c) a1]at Ql cH fh
   simp only at hw hk hl
   -- the two meet nowhere in the store
   have key:∃ zr,(zH (qI c (qh f) y) st).leads (e,zr)/\(zH (qI c (qh f) x) zr).leads (d,jr)/\wh c (qh f) st y=kd i/\wh c (qh f) zr x=kd p:=by
    have bx:=WZ (c:=c) (qh f) st x
    have nA:=WZ (c:=c) (qh f) hO y
    rw[<- hk]at bx
    rw[<- cH]at nA
    rcases Nat.lt_or_ge (qI c (qh f) x).kind 2 with Df | Df
    ·-- x writes nothing
     have e1:=cD (by omega) hl
     subst e1
     refine⟨jr,fh,?_,cH.symm,(Xh (by omega) jr hO).trans hk.symm⟩
     rcases Nat.lt_or_ge (qI c (qh f) y).kind 2 with Tu | Tu
     ·have e2:=cD (by omega) fh
      grind
     ·have TF:(qI c (qh f) y).kind=2:=Nat.le_antisymm (Z3 _) Tu
      cases hp:kd p with
      | rd b =>
       cases hq:kd i with
       | wr A =>
        rw[hp,hq]at a3
        simp only[uu,Bool.not_eq_false',List.any_eq_true]at a3
        obtain⟨b',G5,hbb⟩:=a3
        have:=Nat.eq_of_beq_eq_true hbb
        subst this
        exact Q2 (by rw[<- hk]; exact hp) hl (HX (by rw[<- cH]; exact hq) fh b G5)
       | rd b'=>rw[hq]at nA; simp[RK.base]at nA; omega
       | z k=>rw[hp,hq]at a3; rw[hq,TF]at nA; simp only[RK.base]at nA; subst nA; simp[uu,uw,RK.base]at a3
       | up a =>
        rw[hp,hq]at a3
        have Y5:a≠b:=λe=>by subst e; simp[uu]at a3
        obtain⟨z,e1,_⟩:=Qq (by rw[<- cH]; exact hq) fh
        subst e1
        exact Q2 (by rw[<- hk]; exact hp) hl (by rw[List.getElem?_set_ne Y5])
      | wr A=>rw[hp]at bx; simp[RK.base]at bx; omega
      | up A=>rw[hp]at bx; simp[RK.base]at bx; omega
      | z k =>
       rw[hp]at bx
       simp only[RK.base]at bx
       have YM:k=0:=by
        cases hq:kd i with
        | wr A =>
         rw[hp,hq]at a3
         simp only[uu,RK.base,uw]at a3
         cases k with
         | zero=>rfl
         | succ m=>simp at a3
        | rd b'=>rw[hq]at nA; simp[RK.base]at nA; omega
        | z k' =>
         rw[hq,TF]at nA
         simp only[RK.base]at nA
         subst nA
         rw[hp,hq]at a3
         simp only[uu,RK.base,uw]at a3
         cases k with
         | zero=>rfl
         | succ m=>simp at a3
        | up A =>
         rw[hp,hq]at a3
         simp only[uu,RK.base,uw]at a3
         cases k with
         | zero=>rfl
         | succ m=>simp at a3
       subst YM
       exact(fS bx.symm hl).2 jr
    ·have hx3:(qI c (qh f) x).kind=2:=Nat.le_antisymm (Z3 _) Df
     -- x writes
     rcases Nat.lt_or_ge (qI c (qh f) y).kind 2 with Tu | Tu
     ·have e2:=cD (by omega) fh
      subst e2
      refine⟨st,?_,hl,(Xh (by omega) st jr).trans cH.symm,hk.symm⟩
      cases hq:kd i with
      | wr A=>rw[hq]at nA; simp[RK.base]at nA; omega
      | up A=>rw[hq]at nA; simp[RK.base]at nA; omega
      | rd b =>
       cases hp:kd p with
       | wr A =>
        rw[hp,hq]at a3
        simp only[uu,Bool.not_eq_false',List.any_eq_true]at a3
        obtain⟨b',G5,hbb⟩:=a3
        have:=Nat.eq_of_beq_eq_true hbb
        subst this
        exact Q2 (st:=jr) (by rw[<- cH]; exact hq) fh (HX (by rw[<- hk]; exact hp) hl b G5).symm
       | up a =>
        rw[hp,hq]at a3
        have Y5:a≠b:=λe=>by subst e; simp[uu]at a3
        obtain⟨z,e1,_⟩:=Qq (by rw[<- hk]; exact hp) hl
        subst e1
        exact Q2 (st:=st.set a z) (by rw[<- cH]; exact hq) fh (by rw[List.getElem?_set_ne Y5])
       | rd b'=>rw[hp]at bx; simp[RK.base]at bx; omega
       | z k=>rw[hp]at bx; simp only[RK.base]at bx; rw[hx3]at bx; subst bx; rw[hp,hq]at a3; simp[uu,RK.base,uw]at a3
      | z k =>
       rw[hq]at nA
       simp only[RK.base]at nA
       have YM:k=0:=by
        have a4:uu (kd p) (.z k)=false:=by rw[hq]at a3; exact a3
        have a5:uw 2 k=false:=by
         cases hp:kd p with
         | wr A=>rw[hp]at a4; exact a4
         | up A=>rw[hp]at a4; exact a4
         | rd b'=>rw[hp]at bx; simp[RK.base]at bx; omega
         | z k'=>rw[hp]at bx a4; simp only[RK.base]at bx; rw[hx3]at bx; subst bx; exact a4
        cases k with
        | zero=>rfl
        | succ m=>simp[uw]at a5
       subst YM
       exact(fS nA.symm fh).2 st
     ·have TF:(qI c (qh f) y).kind=2:=Nat.le_antisymm (Z3 _) Tu
      -- both write: one block each
      have hup:∃ a b,kd p=.up a/\kd i=.up b/\a≠b:=by
       cases hp:kd p with
       | rd b'=>rw[hp]at bx; simp[RK.base]at bx; omega
       | up a =>
        cases hq:kd i with
        | up b=>rw[hp,hq]at a3; exact⟨a,b,rfl,rfl,λe=>by subst e; simp[uu]at a3⟩
        | rd b'=>rw[hq]at nA; simp[RK.base]at nA; omega
        | wr A=>rw[hp,hq]at a3; simp[uu,RK.base,uw]at a3
        | z k=>rw[hq,TF]at nA; simp only[RK.base]at nA; subst nA; rw[hp,hq]at a3; simp[uu,RK.base,uw]at a3
       | wr A =>
        cases hq:kd i with
        | up b=>rw[hp,hq]at a3; simp[uu,RK.base,uw]at a3
        | rd b'=>rw[hq]at nA; simp[RK.base]at nA; omega
        | wr B=>rw[hp,hq]at a3; simp[uu,RK.base,uw]at a3
        | z k=>rw[hq,TF]at nA; simp only[RK.base]at nA; subst nA; rw[hp,hq]at a3; simp[uu,RK.base,uw]at a3
       | z k' =>
        rw[hp,hx3]at bx
        simp only[RK.base]at bx
        subst bx
        cases hq:kd i with
        | up b=>rw[hp,hq]at a3; simp[uu,RK.base,uw]at a3
        | rd b'=>rw[hq]at nA; simp[RK.base]at nA; omega
        | wr B=>rw[hp,hq]at a3; simp[uu,RK.base,uw]at a3
        | z k=>rw[hq,TF]at nA; simp only[RK.base]at nA; subst nA; rw[hp,hq]at a3; simp[uu,RK.base,uw]at a3
      obtain⟨a,b,hp,hq,Y5⟩:=hup
      obtain⟨z1,e1,w1⟩:=Qq (by rw[<- hk]; exact hp) hl
      subst e1
      obtain⟨z2,e2,w2⟩:=Qq (by rw[<- cH]; exact hq) fh
      subst e2
      refine⟨st.set b z2,w2 st (by rw[List.getElem?_set_ne Y5]),?_,(oF (by rw[<- cH]; exact hq) st).trans hq.symm,(oF (by rw[<- hk]; exact hp) _).trans hp.symm⟩
      rw[List.set_comm _ _ Y5]
      exact w1 (st.set b z2) (by rw[List.getElem?_set_ne (λe=>Y5 e.symm)])
   obtain⟨zr,k1,k2,k3,k4⟩:=key
   refine⟨_,⟨y,hy,hdy,.inl ⟨Ql,k3.symm,e,_,k1,rfl⟩⟩,x,hx,hdx,.inl ⟨?_,?_,d,jr,?_,?_⟩⟩
   ·rw[wb a2]; exact hw
   ·rw[pK (c:=c) a2]; exact k4.symm
   ·rw[jI (c:=c) a2]; exact k2
   ·simp only[yS f d e FR]
  ·simp only[wb a1]at Ql
   refine⟨_,⟨y,hy,hdy,.inr ⟨Ql,cH,rfl⟩⟩,x,hx,hdx,.inl ⟨?_,?_,d,hO,?_,?_⟩⟩
   ·rw[wb a2]; exact hw
   ·rw[pK (c:=c) a2]; exact hk
   ·rw[jI (c:=c) a2]; exact hl
   ·simp only[yS f d (some M4) FR]
 ·rcases hy' with⟨Ql,cH,e,jr,fh,rfl⟩ | ⟨Ql,cH,rfl⟩
  ·simp only[wb a1,jI (c:=c) a1,pK (c:=c) a1]at Ql cH fh
   refine⟨_,⟨y,hy,hdy,.inl ⟨Ql,cH,e,jr,fh,rfl⟩⟩,x,hx,hdx,.inr ⟨?_,hk,?_⟩⟩
   ·rw[wb a2]; exact hw
   ·simp only[yS f (some M4) e FR]
  ·simp only[wb a1]at Ql
   refine⟨_,⟨y,hy,hdy,.inr ⟨Ql,cH,rfl⟩⟩,x,hx,hdx,.inr ⟨?_,hk,?_⟩⟩
   ·rw[wb a2]; exact hw
   ·simp only[yS f (some M4) (some M4) FR]
end
end Go.AM
namespace Go.AM
set_option linter.unusedSectionVars false
variable [vU]
class J9 where
 df:List Deferred
instance UJ:J9:=⟨[]⟩
variable [J9]
structure Rel(κ:KS)(n:Nat)(f:F)(a:Act):Prop where
 size:a.tmps.size=n
 defers:a.defers=J9.df
 get:∀ (s:Nat) (d:D),f s=some d->∃ v,a.tmps[s]? = some v/\RD κ d v
section
variable {c:Ctx} {κ:KS} {n:Nat} {f:F} {a:Act}
theorem Rel.eval(h:Rel κ n f a){x:Operand}{d:D}(hx:qh f x=some d):RD κ d (a.eval x):=by
 cases x with
 | tmp t =>
  obtain⟨v,h1,h2⟩:=h.get t d hx
  simp only[Act.eval,Array.getD_eq_getD_getElem?,h1]
  exact h2
 | const v=>exact(J1 hx).1
 | global g=>cases hx
 | func g =>
  have hx:(bif Nat.blt g 1000000 then some (D.qN g [])else none)=some d:=hx
  cases hb:Nat.blt g 1000000 with
  | false=>grind
  | true =>
   rw[hb]at hx
   cases hx
   have:=RD.qN (κ:=κ) g [] [] rfl (λi h=>absurd h (Nat.not_lt_zero i))
   rwa [Gj hb]at this
theorem Rel.mono{κ':KS}(x:Ext κ κ')(h:Rel κ n f a):Rel κ' n f a:=⟨h.size,h.defers,λs d hd=>by obtain⟨v,h1,h2⟩:=h.get s d hd; exact⟨v,h1,h2.mono x⟩⟩
theorem Rel.put{dst:Option Nat}{d:Option D}{v:Value}(h:Rel κ n f a)(hd:vS n dst=true)(hv:∀ d',d=some d'->RD κ d' v):Rel κ n (kA f dst d) (a.put dst v):=by
 cases dst with
 | none=>exact h
 | some t =>
  have qy:t<n:=Nat.le_of_ble_eq_true hd
  refine⟨by simp[Act.put,h.size],h.defers,λs d' hs => ?_⟩
  simp only[kA]at hs
  simp only[Act.put]
  by_cases e:s=t
  ·subst e
   rw[if_pos rfl]at hs
   exact⟨v,by simp[h.size,qy],hv d' hs⟩
  ·rw[if_neg e]at hs
   obtain⟨u,h1,h2⟩:=h.get s d' hs
   grind
theorem T3{v:Value}:RD κ M4 undef:=.yH [] [] rfl (λi h=>absurd h (Nat.not_lt_zero i))
theorem z0a{o:Oper}{d:Option D}{zr:St}(h:qA c.P (execOp a.eval o) κ d zr){K:Act->World->Prop}{Q:Exit->Act->World->Prop}
  (hK:∀ (v:Value) (κ':KS),κ'.st=zr->Inv κ'->Ext κ κ'->(∀ d',d=some d'->RD κ' d' v)->K (a.put o.dst v) κ'.w):o.wp c.P a κ.w K Q:=by
 obtain⟨κ',nx,v,h1,h2,h3,h4,h5,h6⟩:=h
 unfold Oper.wp
 rw[h1]
 rcases h2 with rfl | ⟨rfl,rfl⟩
 ·exact hK v κ' h3 h4 h5 h6
 ·exact hK undef κ' h3 h4 h5 h6
theorem CO(h:Rel κ n f a)(x:Option Operand):X7 κ (x.map (qh f)) (x.map a.eval):=by
 cases x with
 | none=>trivial
 | some x=>exact λy hy=>h.eval hy
theorem G1(hI:Inv κ)(hR:Rel κ n f a){b:Builtin}{args:Array Operand}{nz:Array TypeId}{o:Oper}(ho:o.op=.call ⟨.builtin b,args,nz⟩){d:Option D}{zr:St}
  (h:(zH (lC c b nz.toList (args.toList.map (qh f))) κ.st).leads (d,zr)):qA c.P (execOp a.eval o) κ d zr:=by
 have two:∀ {g:Value->Value->Sem Value} {m:Int->Int->Int},(∀ k k' a b,(g (.int k a) (.int k' b)).run c.P κ.w=.ok (.int k (m a b)) κ.w)->(zH (U0 m (args.toList.map (qh f))) κ.st).leads (d,zr) ->
   (∀ p q,args = #[p,q]->execOp a.eval o=(do Pure.pure (.value (<- g (a.eval p) (a.eval q))):Sem Next))->qA c.P (execOp a.eval o) κ d zr:=by
  intro g m hg h he
  match hl:args.toList,h with
  | [p,q],h =>
   have hpq:args = #[p,q]:=by rw[<- Array.toArray_toList (xs:=args),hl]
   rw[he p q hpq]
   obtain⟨r,h1,rfl,h3⟩:=Es hg hI (λz hz=>hR.eval (x:=p) hz) (λz hz=>hR.eval (x:=q) hz) h
   exact⟨κ,.value r,r,by simp[h1],.inl rfl,rfl,hI,Ext.refl κ,h3⟩
  | [],h=>exact absurd h ze
  | [_],h=>exact absurd h ze
  | _::_::_::_,h=>exact absurd h ze
 unfold lC at h
 split at h
 ·rename_i t ts x xs h1 h2
  have ht:nz[0]? = some t:=by rw[<- Array.getElem?_toList,h1]; rfl
  obtain⟨y,hy,rfl⟩:∃ y,args[0]? = some y/\x=qh f y:=by
   cases hl:args.toList with
   | nil=>grind
   | cons y ys=>rw[hl]at h2; simp at h2; exact⟨y,by rw[<- Array.getElem?_toList,hl]; rfl,h2.1.symm⟩
  have:=z1t (c:=c) (ty:=o.type) (ts:=nz) (vs:=args.map a.eval) hI (λz hz=>hR.eval (x:=y) hz) ht (by simp[hy]) h
  simp only[execOp,ho,resolve,invoke,builtin,pure_bind]
  exact this
 ·rename_i t t' s x h1 h2
  obtain⟨p,q,rfl,rfl,hpq⟩:∃ p q,s=qh f p/\x=qh f q/\args = #[p,q]:=by
   cases hl:args.toList with
   | nil=>grind
   | cons p r=>rw[hl]at h2; cases r with
    | nil=>simp at h2
    | cons q r=>cases r with
     | nil=>grind
     | cons _ _=>simp at h2
  subst hpq
  cases hb:Nat.beq t t' with
  | false =>
   rw[hb,cond_false]at h
   have Rp:nz = #[t,t']:=by rw[<- Array.toArray_toList (xs:=nz),h1]
   subst Rp
   have:=UC (c:=c) (ty:=o.type) hI (λz hz=>hR.eval (x:=p) hz) (λz hz=>hR.eval (x:=q) hz) h
   have e2:(#[p,q]:Array Operand).map a.eval = #[a.eval p,a.eval q]:=by simp
   simp only[execOp,ho,resolve,invoke,builtin,pure_bind,e2]
   exact this
  | true =>
   rw[hb,cond_true]at h
   have e:=Nat.eq_of_beq_eq_true hb
   subst e
   have Rp:nz = #[t,t]:=by rw[<- Array.toArray_toList (xs:=nz),h1]
   subst Rp
   have:=C9 (c:=c) (ty:=o.type) hI (λz hz=>hR.eval (x:=p) hz) (λz hz=>hR.eval (x:=q) hz) h
   have e2:(#[p,q]:Array Operand).map a.eval = #[a.eval p,a.eval q]:=by simp
   simp only[execOp,ho,resolve,invoke,builtin,pure_bind,e2]
   exact this
 ·rename_i t t' s x h1 h2
  obtain⟨p,q,rfl,rfl,hpq⟩:∃ p q,s=qh f p/\x=qh f q/\args = #[p,q]:=by
   cases hl:args.toList with
   | nil=>grind
   | cons p r=>rw[hl]at h2; cases r with
    | nil=>simp at h2
    | cons q r=>cases r with
     | nil=>simp at h2; exact⟨p,q,h2.1.symm,h2.2.symm,by rw[<- Array.toArray_toList (xs:=args),hl]⟩
     | cons _ _=>simp at h2
  subst hpq
  have Rp:nz = #[t,t']:=by rw[<- Array.toArray_toList (xs:=nz),h1]
  subst Rp
  have:=MI (c:=c) (ty:=o.type) (t':=t') hI (λz hz=>hR.eval (x:=p) hz) (λz hz=>hR.eval (x:=q) hz) h
  have e2:(#[p,q]:Array Operand).map a.eval = #[a.eval p,a.eval q]:=by simp
  simp only[execOp,ho,resolve,invoke,builtin,pure_bind,e2]
  exact this
 ·rename_i h2
  exact two (g:=Builtin.min2) (λk k' a b=>by simp[Builtin.min2,G8]) h λp q hpq=>by
   subst hpq
   have e2:(#[p,q]:Array Operand).map a.eval = #[a.eval p,a.eval q]:=by simp
   simp only[execOp,ho,resolve,invoke,builtin,pure_bind,e2]
   simp[Builtin.min_]
 ·rename_i h2
  exact two (g:=Builtin.max2) (λk k' a b=>by simp[Builtin.max2,mj]) h λp q hpq=>by
   subst hpq
   have e2:(#[p,q]:Array Operand).map a.eval = #[a.eval p,a.eval q]:=by simp
   simp only[execOp,ho,resolve,invoke,builtin,pure_bind,e2]
   simp[Builtin.max_]
 ·exact absurd h ze
theorem z0P{o:Oper}{g:Nat}{caps:Array Value}{args:Array Value}{R:Ending->World->Prop}(vF:(execOp a.eval o).run c.P κ.w=(callFunc g args).run c.P κ.w)
  (h:uE c.P g args κ.w R) {K:Act->World->Prop} {Q:Exit->Act->World->Prop} (hR:∀ e w',R e w'->∃ v,e=.returned v/\K (a.put o.dst v) w'):o.wp c.P a κ.w K Q:=by
 unfold Oper.wp
 rw[vF]
 rcases h with⟨h1,h2⟩ | ⟨v,w',h1,h2⟩
 ·rw[h1]
  refine h2.mono λe w' he => ?_
  grind
 ·rw[h1]
  obtain⟨u,hu,hk⟩:=hR _ _ h2
  cases hu
  exact hk
theorem UL(g:Nat){l caps:List D}{vs us:List Value}(h1:qH κ l vs)(h2:qH κ caps us):qH κ (jj g l caps) (jj g vs us):=by
 unfold jj
 cases Nat.ble 1000000 g with
 | true=>exact h2.append h1
 | false=>exact h1.append h2
theorem Ca{dst:Option Nat}{p:Operand}{args:Array Operand}{nz:Array TypeId}{ty:TypeId}{pos:String}{after:Array Edge}{guard:Option (Nat×Bool)}{g:Nat}{us:List Value}{P:Program}{w:World}(BS:a.eval p=nq g us) :
  (execOp a.eval ⟨dst,.call ⟨.value p,args,nz⟩,ty,pos,after,guard⟩).run P w=(callFunc (yu g) (jj g (args.toList.map a.eval) us).toArray).run P w:=by
 unfold nq at BS
 unfold yu jj
 cases hb:Nat.ble 1000000 g with
 | true =>
  rw[hb]at BS
  simp at BS ⊢
  have e:us.toArray++args.map a.eval=(us++args.toList.map a.eval).toArray:=by apply Array.ext'; simp
  simp only[execOp,resolve,BS,Deferred.ofValue,pure_bind,invoke,Array.append_empty,e]
 | false =>
  rw[hb]at BS
  simp at BS ⊢
  have e:args.map a.eval++us.toArray=(args.toList.map a.eval++us).toArray:=by apply Array.ext'; simp
  simp only[execOp,resolve,BS,Deferred.ofValue,pure_bind,invoke,Array.empty_append,e]
theorem BV{o:Oper}{d:Option D}{zr:St}(hC:∀ g,GY c.P g (c.fn g))(hI:Inv κ)(hR:Rel κ n f a)(h:(zH (qI c (qh f) o) κ.st).leads (d,zr)){K:Act->World->Prop}{Q:Exit->Act->World->Prop}
  (hK:∀ (v:Value) (κ':KS),κ'.st=zr->Inv κ'->Ext κ κ'->(∀ d',d=some d'->RD κ' d' v)->K (a.put o.dst v) κ'.w):o.wp c.P a κ.w K Q:=by
 have fg:∀ (x:Operand) (z:D),qh f x=some z->RD κ z (a.eval x):=λx z hz=>hR.eval hz
 obtain⟨dst,op,ty,pos,after,guard⟩:=o
 have fin:qA c.P (execOp a.eval ⟨dst,op,ty,pos,after,guard⟩) κ d zr->Oper.wp c.P ⟨dst,op,ty,pos,after,guard⟩ a κ.w K Q:=λhd=>z0a hd hK
 cases op with
 | move x =>
  simp only[qI,wV,T.leads]at h
  obtain⟨h,rfl⟩:=h
  exact fin (qA.val hI λd' kR=>fg x d' (h.trans kR))
 | assign x =>
  simp only[qI,wV,T.leads]at h
  obtain⟨h,rfl⟩:=h
  exact fin (qA.val hI λd' kR=>fg x d' (h.trans kR))
 | pick x p q =>
  simp only[qI,Eb]at h
  split at h
  ·rename_i b hb
   have hv:=rk hb (fg x)
   rw[wV]at h
   obtain⟨h,rfl⟩:=h
   refine fin ⟨κ,.value (if b then a.eval p else a.eval q),if b then a.eval p else a.eval q,?_,.inl rfl,rfl,hI,Ext.refl κ,λd' kR => ?_⟩
   ·simp[execOp,hv,Go.asBool]
   ·rcases h with⟨rfl,h⟩ | ⟨rfl,h⟩
    ·exact fg p d' (h.trans kR)
    ·exact fg q d' (h.trans kR)
  ·exact absurd h ze
 | alloc t=>exact fin (CM hI h)
 | box t x=>exact fin (CL hI (fg x) h)
 | load t x=>exact fin (My hI (fg x) h)
 | store t x y=>exact fin (E1 hI (fg x) (fg y) h)
 | nilCheck x=>exact fin (Jo rfl hI (fg x) h)
 | binOp op t x y ty' =>
  have h:(zH (EA c op t y (qh f x) (qh f y)) κ.st).leads (d,zr):=h
  unfold EA at h
  split at h
  ·exact fin (CV hI (fg x) h)
  ·exact fin (Sj hI (fg x) (fg y) h)
 | typeAssert x xt t ok=>exact fin (Wg hI (fg x) h)
 | unOp op t x=>exact fin (z0g hI (fg x) h)
 | convert s t x=>exact fin (YR hI (fg x) h)
 | makeInterface t x=>exact fin (UD hI (fg x) h)
 | makeFunc fn first cap =>
  cases fn with
  | func g =>
   simp only[qI]at h
   cases hb:Nat.beq first.size 0&&Nat.blt g 1000000 with
   | false =>
    rw[hb,cond_false]at h
    cases By:Nat.beq cap.size 0&&Nat.blt g 1000000 with
    | false=>rw[By]at h; exact absurd h ze
    | true =>
     rw[By,cond_true]at h
     simp only[Bool.and_eq_true]at By
     have hf:cap = #[]:=Array.eq_empty_of_size_eq_zero (Nat.eq_of_beq_eq_true By.1)
     subst hf
     split at h
     ·rename_i l hl
      rw[jV]at h
      obtain⟨rfl,rfl⟩:=h
      have hr:=yO (κ:=κ) (vs:=first.toList.map a.eval) hl (by simp) (λi d v hd hv=>by
       simp only[List.getElem?_map]at hd hv
       cases hi:first.toList[i]? with
       | none=>grind
       | some x=>rw[hi]at hd hv; simp at hd hv; subst hv; exact fg x d hd)
      refine fin (qA.pure hI ?_ (.qN (g+1000000) l _ hr.1 hr.2))
      have e:(first.toList.map a.eval).toArray=first.map a.eval:=by apply Array.ext'; simp
      rw[Er By.2,e]
      simp[Instr.makeFunc]
     ·exact absurd h ze
   | true =>
    rw[hb,cond_true]at h
    simp only[Bool.and_eq_true]at hb
    have hf:first = #[]:=Array.eq_empty_of_size_eq_zero (Nat.eq_of_beq_eq_true hb.1)
    subst hf
    split at h
    ·rename_i l hl
     rw[jV]at h
     obtain⟨rfl,rfl⟩:=h
     have hr:=yO (κ:=κ) (vs:=cap.toList.map a.eval) hl (by simp) (λi d v hd hv=>by
      simp only[List.getElem?_map]at hd hv
      cases hi:cap.toList[i]? with
      | none=>grind
      | some x=>rw[hi]at hd hv; simp at hd hv; subst hv; exact fg x d hd)
     refine fin (qA.pure hI ?_ (.qN g l _ hr.1 hr.2))
     have e:(cap.toList.map a.eval).toArray=cap.map a.eval:=by apply Array.ext'; simp
     rw[Gj hb.2,e]
     simp[Instr.makeFunc]
    ·exact absurd h ze
  | _=>exact absurd h ze
 | makeSlice t x y=>exact fin (MJ hI (fg x) (fg y) h)
 | slice t x lo hi mx=>exact fin (DT hI (fg x) (CO hR lo) (CO hR hi) (CO hR mx) h)
 | fieldAddr s x fl=>exact fin (U9 hI (fg x) h)
 | field s x fl=>exact fin (Dg hI (fg x) h)
 | indexAddr t x i=>exact fin (Ve hI (fg x) (fg i) h)
 | index t x i=>exact fin (DS hI (fg x) (fg i) h)
 | extract x i=>exact fin (YA hI (fg x) h)
 | build t ps =>
  have:=Da (L:=ps.toList) (G:=a.eval) hI fg h
  refine fin ?_
  have e:(ps.toList.map λp=>(p.1,a.eval p.2)).toArray=ps.map λp=>(p.1,a.eval p.2):=by apply Array.ext'; simp
  rw[e]at this
  exact this
 | buildSlice t k ps =>
  have:=W6 (L:=ps.toList) (G:=a.eval) hI fg h
  refine fin ?_
  have e:(ps.toList.map λp=>(p.1,a.eval p.2)).toArray=ps.map λp=>(p.1,a.eval p.2):=by apply Array.ext'; simp
  rw[e]at this
  exact this
 | call cl =>
  obtain⟨callee,args,nz⟩:=cl
  cases callee with
  | builtin b=>exact fin (G1 hI hR rfl h)
  | invoke r m=>exact absurd h ze
  | value p =>
   simp only[qI,cP]at h
   split at h
   ·rename_i g caps l hp hl
    have TA:=fg p _ hp
    have hr:=yO (κ:=κ) (vs:=args.toList.map a.eval) hl (by simp) (λi d v hd hv=>by
      simp only[List.getElem?_map]at hd hv
      cases hi:args.toList[i]? with
      | none=>rw[hi]at hd; cases hd
      | some x=>rw[hi]at hd hv; simp at hd hv; subst hv; exact fg x d hd)
    generalize BS:a.eval p=pv at TA
    cases TA with
    | qN _ _ us fh hh2 =>
     have rO:=UL g hr (⟨fh,hh2⟩:qH κ caps us)
     refine z0P (c:=c) (κ:=κ) (g:=yu g) (caps := #[]) (args:=(jj g (args.toList.map a.eval) us).toArray) ?_ (LA (hC (yu g)) hI rO h) ?_
     ·exact Ca BS
     ·rintro e w' ⟨κ',v,rfl,h1,h2,h3,rfl,h4⟩
      exact⟨v,rfl,hK v κ' h1 h2 h3 h4⟩
   ·exact absurd h ze
 | _=>exact absurd h ze
end
end Go.AM
namespace Go.AM
set_option linter.unusedSectionVars false
variable [vU] [J9]
section
variable {c:Ctx} {n:Nat} {ops:Array Oper}
theorem Gg(j:Nat):uH ops j=(ops[j]?).bind (·.dst):=by
 unfold uH; cases ops[j]? <;> rfl
theorem lp{κ:KS}{f:F}{a:Act}{o:Oper}{b:Bool}(hR:Rel κ n f a)(h:wi ops f o=some b):Region.wanted o (yielded ops a.tmps)=b:=by
 unfold wi at h
 unfold Region.wanted
 split at h
 ·grind
 ·rename_i j w hg
  rw[hg]
  split at h
  ·cases h
  ·rename_i t ht
   rw[Gg]at ht
   simp only[yielded,ht,Option.bind_some]
   split at h
   ·rename_i x hx
    obtain⟨v,h1,h2⟩:=hR.get t _ hx
    have:=h2.jT
    cases h
    grind
   ·rename_i hx
    obtain⟨v,h1,h2⟩:=hR.get t _ hx
    cases h
    rw[h1]
    cases h2 with
    | yH _ vs hl hh=>rfl
   ·cases h
def dT(ops:Array Oper)(a a':Act):Prop:=∀ s:Nat,(∀ o∈ops.toList,o.dst≠some s)->a'.tmps[s]? = a.tmps[s]?
theorem dT.refl(ops:Array Oper)(a:Act):dT ops a a:=λ_ _=>rfl
theorem dT.trans{ops:Array Oper}{a b d:Act}(h:dT ops a b)(k:dT ops b d):dT ops a d:=λs hs=>(k s hs).trans (h s hs)
theorem oH{ops:Array Oper}{i:Nat}{o:Oper}{a:Act}{v:Value}(ho:ops[i]? = some o):dT ops a (a.put o.dst v):=by
 intro s hs
 have hm:o∈ops.toList:=by have:=Array.mem_of_getElem? ho; simpa using this
 have:=hs o hm
 cases hd:o.dst with
 | none=>rfl
 | some t =>
  rw[hd]at this
  have vT:t≠s:=λe=>this (by rw[e])
  simp[Act.put,Array.getElem?_setIfInBounds_ne vT]
theorem Vn{κ:KS}{a:Act}{i k:Nat}{s s':F×St}(hC:∀ g,GY c.P g (c.fn g))(hI:Inv κ)(hR:Rel κ n s.1 a)(xM:κ.st=s.2)(h:yN c n ops i s s' k){K:Act->World->Prop}{Q:Exit->Act->World->Prop}
  (hK:∀ (a':Act) (κ':KS),κ'.st=s'.2->Inv κ'->Ext κ κ'->Rel κ' n s'.1 a'->dT ops a a'->K a' κ'.w):wpOp c.P ops Q i K a κ.w:=by
 obtain⟨o,ho,hd,h⟩:=h
 unfold wpOp
 rw[ho]
 simp only
 rcases h with⟨hw,_,d,zr,hl,rfl⟩ | ⟨hw,_,rfl⟩
 ·rw[if_pos (lp hR hw)]
  refine .inl (BV hC hI hR (xM▸hl) λv κ' h1 h2 h3 h4=>hK _ κ' h1 h2 h3 ((hR.mono h3).put hd h4) (oH ho))
 ·rw[if_neg (by rw[lp hR hw]; exact Bool.false_ne_true)]
  exact hK _ κ xM hI (Ext.refl κ) (hR.put hd λd' kR=>by cases kR; exact T3 (v:=undef)) (oH ho)
theorem IJ{Q:Exit->Act->World->Prop}(hC:∀ g,GY c.P g (c.fn g)):∀ (l:List Nat) {κ:KS} {a:Act} {s s':F×St} {ks:List Nat},Inv κ->Rel κ n s.1 a->κ.st=s.2->MS c n ops l s s' ks ->
  (∀ (a':Act) (κ':KS),κ'.st=s'.2->Inv κ'->Ext κ κ'->Rel κ' n s'.1 a'->dT ops a a'->Q .normal a' κ'.w)->wpOps c.P ops Q l a κ.w
 | [],κ,a,s,s',ks,hI,hR,xM,h,hQ=>by
  obtain⟨rfl,_⟩:=h
  exact hQ a κ xM hI (Ext.refl κ) hR (dT.refl _ _)
 | i::l,κ,a,s,s',ks,hI,hR,xM,h,hQ=>by
  obtain⟨s1,k,Dd,_,h1,h2⟩:=h
  refine Vn hC hI hR xM h1 λa1 κ1 g1 g2 g3 g4 g5 => ?_
  exact IJ hC l g2 g4 g1 h2 λa' κ' e1 e2 e3 e4 e5=>hQ a' κ' e1 e2 (g3.trans e3) e4 (g5.trans e5)
theorem QX{Q:Exit->Act->World->Prop}(hC:∀ g,GY c.P g (c.fn g)):∀ (l m:List Nat) {κ:KS} {a:Act} {s s':F×St} {ks:List Nat},Inv κ->Rel κ n s.1 a->κ.st=s.2->MS c n ops l s s' ks ->
  (∀ (a':Act) (κ':KS),κ'.st=s'.2->Inv κ'->Ext κ κ'->Rel κ' n s'.1 a'->dT ops a a'->wpOps c.P ops Q m a' κ'.w)->wpOps c.P ops Q (l++m) a κ.w
 | [],m,κ,a,s,s',ks,hI,hR,xM,h,hQ=>by
  obtain⟨rfl,_⟩:=h
  exact hQ a κ xM hI (Ext.refl κ) hR (dT.refl _ _)
 | i::l,m,κ,a,s,s',ks,hI,hR,xM,h,hQ=>by
  obtain⟨s1,k,Dd,_,h1,h2⟩:=h
  refine Vn hC hI hR xM h1 λa1 κ1 g1 g2 g3 g4 g5 => ?_
  exact QX hC l m g2 g4 g1 h2 λa' κ' e1 e2 e3 e4 e5=>hQ a' κ' e1 e2 (g3.trans e3) e4 (g5.trans e5)
theorem UI{kd:Nat->Nat}:∀ (l:List Nat) (s s':F×St) (ks:List Nat),MS c n ops l s s' ks->ks=l.map kd->nd c n ops kd l s s'
 | [],s,s',ks,h,_=>h.1
 | i::l,s,s',ks,⟨s1,k,Dd,e,h1,h2⟩,hk=>by
  subst e
  simp at hk
  obtain⟨rfl,hk⟩:=hk
  exact⟨s1,h1,UI l s1 s' Dd h2 hk⟩
theorem Ch:∀ (l:List Nat) (s s':F×St) (ks:List Nat),MS c n ops l s s' ks->ks.length=l.length
 | [],_,_,_,h=>by rw[h.2]
 | i::l,s,s',ks,⟨s1,k,Dd,e,h1,h2⟩=>by subst e; simp[Ch l s1 s' Dd h2]
theorem Cr(acc:List Nat):∀ (es:List Edge) (s0 p:Nat),Nat.testBit (es.foldl (λs e=>bif Region.binds .any e then s ||| 2 ^ e.on ||| acc.getD e.on 0 else s) s0) p=true ->
  Nat.testBit s0 p=true\/∃ e∈es,Region.binds .any e=true/\(p=e.on\/Nat.testBit (acc.getD e.on 0) p=true)
 | [],s0,p,h=>.inl h
 | e::es,s0,p,h=>by
  rcases Cr acc es _ p h with h1 | ⟨e',h1,h2⟩
  ·grind
  ·grind
theorem mG:∀ (l:List Oper) (acc:List Nat),∃ r,xg l acc=acc++r/\r.length=l.length /\
  ∀ j o,l[j]? = some o->∀ p,Nat.testBit ((xg l acc).getD (acc.length+j) 0) p=true ->
   ∃ e∈o.after.toList,Region.binds .any e=true/\(p=e.on\/(e.on<acc.length+j/\Nat.testBit ((xg l acc).getD e.on 0) p=true))
 | [],acc=>⟨[],by simp[xg],rfl,λj o h=>by simp at h⟩
 | o::l,acc=>by
  let b:=o.after.toList.foldl (λs e=>bif Region.binds .any e then s ||| 2 ^ e.on ||| acc.getD e.on 0 else s) 0
  obtain⟨r,h1,h2,h3⟩:=mG l (acc++[b])
  have hb:xg (o::l) acc=xg l (acc++[b]):=rfl
  have N9:∀ i,i<acc.length->(xg l (acc++[b])).getD i 0=acc.getD i 0:=λi hi=>by
   grind
  refine⟨b::r,by rw[hb,h1]; simp,by simp[h2],?_⟩
  rw[hb]
  intro j o' ho p hp
  cases j with
  | zero =>
   simp at ho
   subst ho
   have he:(xg l (acc++[b])).getD (acc.length+0) 0=b:=by rw[h1]; simp[List.getD]
   rw[he]at hp
   rcases Cr acc _ 0 p hp with h | ⟨e,k1,k2,k3⟩
   ·simp at h
   ·grind
  | succ j =>
   have:=h3 j o' (by simpa using ho) p (by rw[show(acc++[b]).length+j=acc.length+(j+1) by simp; omega]; exact hp)
   grind
theorem mz:∀ (l:List Oper) (k:Nat),gR l k=true->∀ j o,l[j]? = some o->∀ e∈o.after.toList,Region.binds .any e=true->e.on<k+j
 | [],_,_,j,o,h,_,_,_=>by simp at h
 | o::l,k,h,j,o',ho,e,he,hb=>by
  simp only[gR,Bool.and_eq_true,List.all_eq_true]at h
  cases j with
  | zero =>
   simp at ho
   subst ho
   have:=h.1 e he
   rw[hb]at this
   exact Nat.le_of_ble_eq_true this
  | succ j =>
   have:=mz l (k+1) h.2 j o' (by grind) e he hb
   omega
def SY{K:Type}(cl:K->K->Bool)(ops:Array Oper)(x:Oper)(kx:K)(y:Oper)(ky:K):Prop:=(∀ d,x.dst=some d->d ∉ tmpsOf ops y)/\(∀ d,y.dst=some d->d ∉ tmpsOf ops x)/\cl kx ky=false
theorem Bm{K:Type}{cl:K->K->Bool}{bs:List Nat}{xs:List (Nat×Option Nat×List Nat×K)}{j:Nat}{ky:K}{y:Oper}(h:Ea cl bs xs j y.dst (tmpsOf ops y) ky=true){i:Nat}{kx:K}{x:Oper}(hx:(i,x.dst,tmpsOf ops x,kx)∈xs) :
  ordered bs i j=true\/SY cl ops x kx y ky:=by
 simp only[Ea,List.all_eq_true]at h
 have:=h _ hx
 simp at this
 rcases this with h1 | ⟨⟨h1,h2⟩,h3⟩
 ·grind
 ·refine .inr ⟨λd hd hm => ?_,λd hd hm => ?_,h3⟩
  ·grind
  ·grind
theorem mO{K:Type}{cl:K->K->Bool}{bs:List Nat}:∀ (l:List Oper) (ks:List K) (k0:Nat) (xs:List (Nat×Option Nat×List Nat×K)),mM cl ops bs l ks k0 xs=true ->
  (∀ j y ky,l[j]? = some y->ks[j]? = some ky->(∀ i x kx,(i,x.dst,tmpsOf ops x,kx)∈xs->ordered bs i (k0+j)=true\/SY cl ops x kx y ky) /\
   (∀ i x kx,i<j->l[i]? = some x->ks[i]? = some kx->ordered bs (k0+i) (k0+j)=true\/SY cl ops x kx y ky))
 | [],_,_,_,_,j,y,ky,hy,_=>by simp at hy
 | o::l,[],_,_,h,_,_,_,_,_=>by simp[mM]at h
 | o::l,k::ks,k0,xs,h,j,y,ky,hy,hk=>by
  simp only[mM,Bool.and_eq_true]at h
  obtain⟨h1,h2⟩:=h
  have ih:=mO l ks (k0+1) _ h2
  cases j with
  | zero =>
   simp at hy hk
   subst hy hk
   exact⟨λi x kx hx=>by simpa using Bm h1 hx,λi x kx hi=>absurd hi (Nat.not_lt_zero i)⟩
  | succ j =>
   obtain⟨g1,g2⟩:=ih j y ky (by simpa using hy) (by simpa using hk)
   have e:k0+1+j=k0+(j+1):=by omega
   rw[e]at g1 g2
   refine⟨λi x kx hx=>g1 i x kx (List.mem_cons_of_mem _ hx),λi x kx hi hx hkx => ?_⟩
   cases i with
   | zero =>
    grind
   | succ i =>
    grind
def rest(ops:Array Oper)(listed:Array Bool):List Nat:=(List.range ops.size).filter λi => !listed.getD i true
def tw(ops:Array Oper)(listed:Array Bool):Prop:=∀ q,q<ops.size->listed.getD q true=true->∀ p,ordered (xg ops.toList []) p q=true->p<ops.size->listed.getD p true=true
theorem j5{listed:Array Bool}{i j:Nat}(hi:i<listed.size):(listed.setIfInBounds i true).getD j true=if j=i then true else listed.getD j true:=by
 simp
 grind
theorem b7{p q:Nat->Bool}{i:Nat}:∀ (l:List Nat),l.Pairwise (· < ·)->i∈l->p i=true->(∀ j,q j=(p j && !(j==i))) ->
  ∃ pre post,l.filter p=pre++i::post/\l.filter q=pre++post/\∀ x∈pre,p x=true/\x∈l/\x<i
 | [],_,hi,_,_=>by simp at hi
 | a::l,hn,hi,hp,hq=>by
  have hn':=List.pairwise_cons.1 hn
  by_cases ha:a=i
  ·subst ha
   refine⟨[],l.filter p,by grind,?_,by simp⟩
   have hqa:q a=false:=by rw[hq]; simp
   simp only[List.filter_cons,hqa]
   refine List.filter_congr λx hx => ?_
   rw[hq]
   have:(x==a)=false:=by simp; exact λe=>absurd (hn'.1 x hx) (by omega)
   simp[this]
  ·have J6:i∈l:=by rcases List.mem_cons.1 hi with h | h; exact absurd h.symm ha; exact h
   obtain⟨pre,post,h1,h2,h3⟩:=b7 l hn'.2 J6 hp hq
   grind
theorem mm{listed:Array Bool}{i:Nat}:i∈Region.ready .any ops listed↔i<ops.size/\listed.getD i true=false/\∀ o,ops[i]? = some o->∀ e∈o.after.toList,Region.binds .any e=true->listed.getD e.on false=true:=by
 unfold Region.ready
 simp only[List.mem_filter,List.mem_range,Bool.and_eq_true,Bool.not_eq_true']
 constructor
 ·rintro⟨h1,h2,h3⟩
  refine⟨h1,h2,λo ho e he hb => ?_⟩
  rw[ho]at h3
  simp only[Option.map_some,Option.getD_some,Array.all_eq_true_iff_forall_mem]at h3
  grind
 ·grind
theorem UU(EO:gR ops.toList 0=true){listed:Array Bool}(uU:listed.size=ops.size):Region.ready .any ops listed=[]->rest ops listed=[]:=by
 intro hr
 cases hre:rest ops listed with
 | nil=>rfl
 | cons i l =>
  have hi:i∈rest ops listed:=by rw[hre]; exact List.mem_cons_self
  simp only[rest,List.mem_filter,List.mem_range,Bool.not_eq_true']at hi
  have z4f:∀ j,j<i->listed.getD j true=true:=by
   intro j hj
   cases hl:listed.getD j true with
   | true=>rfl
   | false =>
    have hpw:(rest ops listed).Pairwise (· < ·):=List.Pairwise.filter _ List.pairwise_lt_range
    have hjm:j∈rest ops listed:=by simp only[rest,List.mem_filter,List.mem_range,Bool.not_eq_true']; exact⟨by omega,hl⟩
    rw[hre]at hpw hjm
    rcases List.mem_cons.1 hjm with rfl | hjm
    ·grind
    ·have:=(List.pairwise_cons.1 hpw).1 j hjm; omega
  have:i∈Region.ready .any ops listed:=by
   rw[mm]
   refine⟨hi.1,hi.2,λo ho e he hb => ?_⟩
   have qy:=mz ops.toList 0 EO i o (by grind) e he hb
   grind
  grind
def Va(Stp:Nat->F×St->F×St->Prop):List Nat->F×St->F×St->Prop
 | [],s,s'=>s'=s
 | i::l,s,s'=>∃ s1,Stp i s s1/\Va Stp l s1 s'
theorem Yf{Stp:Nat->F×St->F×St->Prop}{In:Nat->Nat->Prop}(Hu:∀ p i,In p i->∀ s s1 s2,Stp p s s1->Stp i s1 s2->∃ s',Stp i s s'/\Stp p s' s2){i:Nat}{post:List Nat}{s':F×St}:∀ {pre:List Nat} {s:F×St},(∀ p∈pre,In p i)->Va Stp (pre++i::post) s s' ->
  ∃ s1,Stp i s s1/\Va Stp (pre++post) s1 s'
 | [],s,_,h=>h
 | p::pre,s,hp,⟨sp,h1,h2⟩=>by
  obtain⟨s1,h3,h4⟩:=Yf Hu (λq hq=>hp q (List.mem_cons_of_mem _ hq)) h2
  obtain⟨s2,h5,h6⟩:=Hu _ _ (hp p List.mem_cons_self) _ _ _ h1 h3
  exact⟨s2,h5,s1,h6,h4⟩
theorem X1{Stp:Nat->F×St->F×St->Prop}{In:Nat->Nat->Prop}(Pg:∀ i s s',Stp i s s'->∃ k,yN c n ops i s s' k)(Hu:∀ p i,In p i->∀ s s1 s2,Stp p s s1->Stp i s1 s2->∃ s',Stp i s s'/\Stp p s' s2){Q:Exit->Act->World->Prop}(hC:∀ g,GY c.P g (c.fn g))(EO:gR ops.toList 0=true)
  {sf:F×St}:∀ (fuel:Nat) (listed:Array Bool) {κ:KS} {a:Act} {s:F×St},(∀ p i,p<i->i<ops.size->listed.getD p true=false->ordered (xg ops.toList []) p i=true\/In p i) ->
  listed.size=ops.size->fuel=(rest ops listed).length->tw ops listed->Inv κ->Rel κ n s.1 a->κ.st=s.2->Va Stp (rest ops listed) s sf ->
  (∀ (a':Act) (κ':KS),κ'.st=sf.2->Inv κ'->Ext κ κ'->Rel κ' n sf.1 a'->dT ops a a'->Q .normal a' κ'.w)->wpAny c.P .any ops Q fuel listed a κ.w
 | fuel,listed,κ,a,s,kI,uU,hfuel,WC,hI,hR,xM,vF,hQ=>by
  have z4w:=UU EO (listed:=listed) uU
  have SZ:rest ops listed=[]->Q .normal a κ.w:=by
   intro h
   rw[h]at vF
   cases vF
   exact hQ a κ xM hI (Ext.refl κ) hR (dT.refl _ _)
  cases fuel with
  | zero =>
   have hre:rest ops listed=[]:=List.eq_nil_of_length_eq_zero hfuel.symm
   refine⟨?_,SZ hre⟩
   apply List.eq_nil_iff_forall_not_mem.2
   intro i hi
   rw[mm]at hi
   have:i∈rest ops listed:=by simp only[rest,List.mem_filter,List.mem_range,Bool.not_eq_true']; exact⟨hi.1,hi.2.1⟩
   grind
  | succ fuel =>
   refine⟨λh=>SZ (z4w h),λi hi => ?_⟩
   rw[mm]at hi
   obtain⟨h1,h2,h3⟩:=hi
   have ho:ops[i]? = some ops[i]:=Array.getElem?_eq_getElem h1
   obtain⟨pre,post,g1,g2,g3⟩:=b7 (p:=λi => !listed.getD i true) (q:=λj => !(listed.setIfInBounds i true).getD j true) (i:=i) (List.range ops.size) List.pairwise_lt_range
    (List.mem_range.2 h1) (by simp[h2]) (λj=>by
     rw[j5 (by omega)]
     by_cases h:j=i
     ·grind
     ·simp[h])
   have PA:∀ p,ordered (xg ops.toList []) p i=true->p<ops.size->listed.getD p true=true:=by
    intro p hp qy
    obtain⟨r,_,_,hb⟩:=mG ops.toList []
    obtain⟨e,k1,k2,k3⟩:=hb i ops[i] (by simp) p (by simpa[ordered]using hp)
    have hle:=h3 _ ho e k1 k2
    have Ja:=mz ops.toList 0 EO i ops[i] (by simp) e k1 k2
    have J8:listed.getD e.on true=true:=by
     grind
    rcases k3 with rfl | ⟨_,k3⟩
    ·exact J8
    ·exact WC e.on (by omega) J8 p k3 qy
   have T8:∀ p∈pre,In p i:=by
    grind
   have Hd:Va Stp (pre++i::post) s sf:=by
    have:rest ops listed=pre++i::post:=g1
    grind
   obtain⟨s1,k1,k2⟩:=Yf Hu T8 Hd
   have pB:rest ops (listed.setIfInBounds i true)=pre++post:=g2
   obtain⟨kk,k1⟩:=Pg _ _ _ k1
   refine Vn hC hI hR xM k1 λa1 κ1 e1 e2 e3 e4 e5 => ?_
   refine X1 Pg Hu hC EO fuel (listed.setIfInBounds i true) (λp j hpj hj hp=>kI p j hpj hj (by
    rw[j5 (by omega)]at hp
    split at hp
    ·cases hp
    ·exact hp)) (by simp[uU]) ?_ ?_ e2 e4 e1 (by rw[pB]; exact k2) λa' κ' d1 d2 d3 d4 d5=>hQ a' κ' d1 d2 (e3.trans d3) d4 (e5.trans d5)
   ·have:rest ops listed=pre++i::post:=g1
    rw[this]at hfuel
    rw[pB]
    simp only[List.length_append,List.length_cons]at hfuel ⊢
    omega
   ·intro q hq LJ p hp qy
    rw[j5 (by omega)]at LJ ⊢
    split
    ·rfl
    ·split at LJ
     ·rename_i e; subst e; exact PA p hp qy
     ·exact WC q hq LJ p hp qy
theorem Hi{kd:Nat->Nat}:∀ (l:List Nat) (s s':F×St),nd c n ops kd l s s'->Va (λi s s'=>yN c n ops i s s' (kd i)) l s s'
 | [],_,_,h=>h
 | i::l,s,s',⟨s1,h1,h2⟩=>⟨s1,h1,Hi l s1 s' h2⟩
theorem UR{kd:Nat->Nat}{Q:Exit->Act->World->Prop}(hC:∀ g,GY c.P g (c.fn g))(EO:gR ops.toList 0=true)
  {sf:F×St}:∀ (fuel:Nat) (listed:Array Bool) {κ:KS} {a:Act} {s:F×St},(∀ p i,p<i->i<ops.size->listed.getD p true=false->ordered (xg ops.toList []) p i=true\/Ind ops kd p i) ->
  listed.size=ops.size->fuel=(rest ops listed).length->tw ops listed->Inv κ->Rel κ n s.1 a->κ.st=s.2->nd c n ops kd (rest ops listed) s sf ->
  (∀ (a':Act) (κ':KS),κ'.st=sf.2->Inv κ'->Ext κ κ'->Rel κ' n sf.1 a'->dT ops a a'->Q .normal a' κ'.w)->wpAny c.P .any ops Q fuel listed a κ.w
 | fuel,listed,κ,a,s,kI,uU,hfuel,WC,hI,hR,xM,vF,hQ =>
  X1 (Stp:=λi s s'=>yN c n ops i s s' (kd i)) (In:=λp i=>Ind ops kd p i) (λi s s' h=>⟨_,h⟩) (λp i hi s s1 s2 h1 h2=>Yb hi h1 h2) hC EO fuel listed kI uU hfuel WC hI hR xM (Hi _ _ _ vF) hQ
end
end Go.AM
namespace Go.AM
set_option linter.unusedSectionVars false
variable [vU] [J9]
open Go.RowKit
structure Up(κ κ':KS):Prop where
 same:ED κ.w κ'.w κ.ok κ'.ok
 var:∀ (b:Nat) (d:D),κ.st[b]? = some (.var d)->(∃ d',κ'.st[b]? = some (.var d'))/\κ'.ph[b]? = κ.ph[b]?
 old:∀ (b qB:Nat),Old κ.st b qB->Old κ'.st b qB
 row:∀ (b v:Nat) (e:Ty) (xs:List (den e)),Old κ.st b v->κ'.st[b]? = some (.arr v e xs)->κ.st[b]? = some (.arr v e xs)/\κ'.ph[b]? = κ.ph[b]?
theorem RD.up{κ κ':KS}(x:Up κ κ'){d:D}{v:Value}(h:RD κ d v):RD κ' d v:=by
 induction h with
 | zI τ y cs h=>exact .zI τ y cs (h.mono x.same)
 | xi e a=>exact .xi e a
 | tight e l ne blk off f vT wm h hc=>exact .tight e l ne blk off f vT (x.same _ wm).1 (λi hi=>(h i hi).mono x.same) λi hi j v hv=>by rw[bH (x.same _ wm).2]; exact hc i hi j v hv
 | xy=>exact .xy
 | y9=>exact .y9
 | qX=>exact .qX
 | vW=>exact .vW
 | vX=>exact .vX
 | rZ v h=>exact .rZ v h
 | cj T=>exact .cj T
 | cq b T d hd =>
  obtain⟨⟨d',kR⟩,hp⟩:=x.var b d hd
  exact .cq b T d' kR
 | cE b T blk n d hd h =>
  obtain⟨⟨d',kR⟩,hp⟩:=x.var b d hd
  exact .cE b T blk n d' kR (hp.trans h)
 | ptr b off blk n d hd h =>
  obtain⟨⟨d',kR⟩,hp⟩:=x.var b d hd
  exact .ptr b off blk n d' kR (hp.trans h)
 | qU τ y cs blk off wm h hc=>exact .qU τ y cs blk off (x.same _ wm).1 (h.mono x.same) λj v hv=>by rw[bH (x.same _ wm).2]; exact hc j v hv
 | uk b qB e idx off blk o hb h =>
  refine .uk b qB e idx off blk o (x.old b qB hb) λxs hx hi => ?_
  obtain⟨h1,h2⟩:=x.row b qB e xs hb hx
  grind
 | ms b qB e off len cap a hb vc ha nN h =>
  refine .ms b qB e off len cap a (x.old b qB hb) vc ha nN λxs hx => ?_
  obtain⟨h1,h2⟩:=x.row b qB e xs hb hx
  have:=h xs h1
  unfold Ih at this ⊢
  grind
 | qN f l vs hl h ih=>exact .qN f l vs hl ih
 | agg l vs hl ho h ih=>exact .agg l vs hl ho ih
 | yH l vs hl h ih=>exact .yH l vs hl ih
 | iface t d v h ih=>exact .iface t d v ih
structure Nob(κ:KS)(blk:Nat):Prop where
 lt:blk<κ.w.heap.size
 ok:¬ κ.ok blk
 ph:∀ (b n:Nat),κ.ph[b]? ≠ some (some (blk,n))
theorem Nob.ext{κ κ':KS}(x:Ext κ κ'){blk:Nat}(h:Nob κ blk):Nob κ' blk/\κ'.w.heap[blk]? = κ.w.heap[blk]? := by
 refine⟨⟨Nat.lt_of_lt_of_le h.lt x.size,λhk => ?_,λb n hb => ?_⟩,x.frame blk h.lt h.ph⟩
 ·rcases x.fresh blk hk with h1 | h1 | ⟨b,n,h1⟩
  ·exact h.ok h1
  ·have:=h.lt; omega
  ·exact h.ph b n h1
 ·rcases x.Tz b blk n hb with h1 | h1
  ·exact h.ph b n h1
  ·have:=h.lt; omega
def KS.push(κ:KS)(blk n:Nat)(d:D):KS:={ κ with ph:=κ.ph++[some (blk,n)],st:=κ.st++[.var d] }
theorem iV{α:Type}{l:List α}{x y:α}{b:Nat}(h:l[b]? = some y):(l++[x])[b]? = some y:=by grind
theorem pQ{α:Type}{l:List α}{x y:α}{b:Nat}(h:(l++[x])[b]? = some y):l[b]? = some y\/(b=l.length/\y=x):=by grind
theorem IQ{κ:KS}(hI:Inv κ)(blk n:Nat)(d:D):Up κ (κ.push blk n d):=by
 have KE:∀ {b:Nat} {y:kE},κ.st[b]? = some y->(κ.ph++[some (blk,n)])[b]? = κ.ph[b]? := λh=>by
  rw[List.getElem?_append_left]; rw[hI.len]; exact(List.getElem?_eq_some_iff.1 h).1
 refine⟨λk hk=>⟨hk,rfl⟩,λb d' h=>⟨⟨d',iV h⟩,KE h⟩,λb qB h => ?_,λb v e xs ho h => ?_⟩
 ·rcases h with h | ⟨v0,e0,sJ,h,hv⟩
  ·exact .inl (iV h)
  ·exact .inr ⟨v0,e0,sJ,iV h,hv⟩
 ·rcases pQ h with h1 | ⟨_,h1⟩
  ·exact⟨h1,KE h1⟩
  ·cases h1
theorem z22{κ0 κ:KS}{blk:Nat}{d:D}{z:Value}{t:TypeId}(hI:Inv κ)(hx:Ext κ0 κ)(hb:Nob κ blk)(h0:κ0.w.heap.size<=blk)(hz:RD κ d z)(ht:d.uM=false)(IW:∀ T,d.typed=some T->t=T)(hh:κ.w.heap[blk]? = some (.cells z.cells t (0,0))) :
  Inv (κ.push blk z.cells.size d)/\Ext κ0 (κ.push blk z.cells.size d)/\RD (κ.push blk z.cells.size d) (.ptr κ.st.length 0) (.pointer (some ⟨blk,0,none⟩)):=by
 have hu:=IQ hI blk z.cells.size d
 have xM:(κ.push blk z.cells.size d).st[κ.st.length]? = some (.var d):=by simp[KS.push]
 have KE:(κ.push blk z.cells.size d).ph[κ.st.length]? = some (some (blk,z.cells.size)):=by simp[KS.push,<- hI.len]
 have Ra:∀ {b k m:Nat},(κ.push blk z.cells.size d).ph[b]? = some (some (k,m))->κ.ph[b]? = some (some (k,m))\/(b=κ.ph.length/\k=blk):=by
  intro b k m h
  rcases pQ h with h1 | ⟨h1,h2⟩
  ·grind
  ·grind
 refine⟨⟨by simp[KS.push,hI.len],hI.yr,λb k m h => ?_,λb b' k m m' h h' => ?_,λb y h => ?_,hI.gl⟩,?_,.ptr _ 0 blk _ d xM KE⟩
 ·rcases Ra h with h1 | ⟨_,rfl⟩
  ·exact hI.apart b k m h1
  ·exact⟨hb.lt,hb.ok⟩
 ·rcases Ra h with h1 | ⟨h1,rfl⟩
  ·rcases Ra h' with h2 | ⟨h2,rfl⟩
   ·exact hI.inj b b' k m m' h1 h2
   ·exact(hb.ph b m h1).elim
  ·rcases Ra h' with h2 | ⟨h2,_⟩
   ·exact(hb.ph b' m' h2).elim
   ·omega
 ·rcases pQ h with h1 | ⟨h1,h2⟩
  ·have hp:(κ.push blk z.cells.size d).ph[b]? = κ.ph[b]? := by
    show(κ.ph++[_])[b]? = _
    grind
   have hy:=hI.blk b y h1
   cases y with
   | dead=>trivial
   | var d' =>
    obtain⟨k,m,cs,T,g1,g2,g3,g4,g5⟩:=hy
    exact⟨k,m,cs,T,hp.trans g1,g2,g3,⟨g4.1,λi h1 h2=>(g4.2 i h1 h2).up hu⟩,g5⟩
   | arr qB e xs =>
    obtain⟨g0,g⟩:=hy
    refine⟨g0,eP g (λh=>⟨h.1,hp.trans h.2⟩) ?_⟩
    rintro⟨k,m,cs,T,g1,g2⟩
    exact⟨k,m,cs,T,hp.trans g1,g2⟩
  ·subst h1
   subst h2
   have hf:=j9 hz ht
   exact⟨blk,z.cells.size,z.cells,t,KE,hh,rfl,⟨hf.1,λi h1 h2=>(hf.2 i h1 h2).up hu⟩,jd hz,IW⟩
 ·refine⟨hx.os,hx.tape,hx.output,hx.size,hx.same,hx.fresh,λb k m h => ?_,λb d' h => ?_,λb v0 e xs h => ?_,λb h=>iV (hx.dead b h),Nat.le_trans hx.C1 (by simp[KS.push]),hx.frame⟩
  ·rcases Ra h with h1 | ⟨_,rfl⟩
   ·exact hx.Tz b k m h1
   ·exact .inr h0
  ·obtain⟨⟨d1,h1⟩,h2⟩:=hx.var b d' h
   obtain⟨h3,h4⟩:=hu.var b d1 h1
   exact⟨h3,h4.trans h2⟩
  ·rcases hx.arr b v0 e xs h with h1 | ⟨v1,bg,h1,h2,h3⟩
   ·exact .inl (iV h1)
   ·refine .inr ⟨v1,bg,iV h1,h2,λhe=>⟨?_,(h3 he).2⟩⟩
    have hp:(κ.push blk z.cells.size d).ph[b]? = κ.ph[b]? := by
     show(κ.ph++[_])[b]? = _
     rw[List.getElem?_append_left]; rw[hI.len]; exact(List.getElem?_eq_some_iff.1 h1).1
    exact hp.trans (h3 he).1
theorem z0T{κ:KS}(hI:Inv κ)(o:Obj):Inv { κ with w:=κ.w.alloc o }/\Ext κ { κ with w:=κ.w.alloc o }/\Nob { κ with w:=κ.w.alloc o } κ.w.heap.size/\(κ.w.alloc o).heap[κ.w.heap.size]? = some o:=by
 have hs:(κ.w.alloc o).heap.size=κ.w.heap.size+1:=by simp
 have hold:∀ k,k<κ.w.heap.size->(κ.w.alloc o).heap[k]? = κ.w.heap[k]? := λk hk=>by
  show(κ.w.heap.push o)[k]? = _
  grind
 have hx:Ext κ { κ with w:=κ.w.alloc o }:=⟨rfl,rfl,rfl,by simp,λk hk=>⟨hk,hold k (hI.yr k hk)⟩,λk hk=>.inl hk,λ_ _ _ h=>.inl h,λb d h=>⟨⟨d,h⟩,rfl⟩,
  λb v0 e xs h=>.inr ⟨v0,xs,h,Nat.le_refl _,λ_=>⟨rfl,rfl⟩⟩,λ_ h=>h,Nat.le_refl _,λk hk _=>hold k hk⟩
 refine⟨⟨hI.len,λk hk => ?_,λb blk n h => ?_,hI.inj,λb y hy=>(hI.blk b y hy).mono hx rfl λblk n h=>hold _ (hI.apart b blk n h).1,hI.gl.mono hx.same⟩,hx,⟨?_,λhk => ?_,λb n h => ?_⟩,?_⟩
 ·have:=hI.yr k hk; show k<(κ.w.alloc o).heap.size; omega
 ·have:=hI.apart b blk n h; exact⟨by grind,this.2⟩
 ·simp
 ·have:=hI.yr _ hk; omega
 ·have:=(hI.apart b _ n h).1; omega
 ·show(κ.w.heap.push o)[κ.w.heap.size]? = some o
  simp
section
variable {c:Ctx} {n:Nat} {ops:Array Oper}
structure Em where
 i:Nat
 d:Nat
 blk:Nat
 t:TypeId
 z:Value
 D:D
structure EF(c:Ctx)(ops:Array Oper)(κ0 κ:KS)(a:Act)(e:Em):Prop where
 op:∃ o,ops[e.i]? = some o/\o.op=.alloc e.t/\o.guard=none/\o.dst=some e.d
 zero:XV c e.t=some e.D
 z:∃ i,c.P.info? e.t=some i/\i.zero=some e.z/\ZD e.t e.D e.z
 val:a.tmps[e.d]? = some (.pointer (some ⟨e.blk,0,none⟩))
 heap:κ.w.heap[e.blk]? = some (.cells e.z.cells e.t (0,0))
 nob:Nob κ e.blk
 new:κ0.w.heap.size<=e.blk
theorem EF.mono{κ0 κ κ':KS}{a a':Act}{e:Em}(h:EF c ops κ0 κ a e)(x:Ext κ κ')(ha:a'.tmps[e.d]? = a.tmps[e.d]?):EF c ops κ0 κ' a' e:=by
 obtain⟨h1,h2⟩:=h.nob.ext x
 exact⟨h.op,h.zero,h.z,ha.trans h.val,h2.trans h.heap,h1,h.new⟩
def kN(es:List Em)(f:F):F:=λs=>if es.any (λe=>Nat.beq e.d s)then none else f s
theorem tW{es:List Em}{f:F}{s:Nat}(h:∀ e∈es,e.d≠s):kN es f s=f s:=by
 unfold kN
 rw[if_neg]
 intro hh
 obtain⟨e,he,hb⟩:=List.any_eq_true.1 hh
 exact h e he (Nat.eq_of_beq_eq_true hb)
theorem KH{es:List Em}{f:F}{s:Nat}{d:D}(h:kN es f s=some d):f s=some d/\∀ e∈es,e.d≠s:=by
 unfold kN at h
 split at h
 ·cases h
 ·rename_i hh
  refine⟨h,λe he hs=>hh (List.any_eq_true.2 ⟨e,he,?_⟩)⟩
  subst hs; simp
def dL(ops:Array Oper)(i:Nat):Prop:=∃ o,ops[i]? = some o/\W4 o=true
theorem Np{o:Oper}(h:W4 o=true):∃ t d,o.op=.alloc t/\o.guard=none/\o.dst=some d:=by
 unfold W4 at h
 simp only[Bool.and_eq_true]at h
 obtain⟨⟨h1,h2⟩,h3⟩:=h
 split at h1
 ·rename_i t ht
  obtain⟨d,hd⟩:=Option.isSome_iff_exists.1 h3
  exact⟨t,d,ht,Option.isNone_iff_eq_none.1 h2,hd⟩
 ·cases h1
theorem Yl{o:Oper}{t d:Nat}(h1:o.op=.alloc t)(h2:o.guard=none)(h3:o.dst=some d):W4 o=true:=by
 unfold W4; rw[h1,h2,h3]; rfl
theorem Bq{kd:Nat->Nat}:∀ {l:List Nat} {s sf:F×St} {i:Nat},nd c n ops kd l s sf->i∈l->∃ s1 s2,yN c n ops i s1 s2 (kd i)
 | [],_,_,_,_,h=>by cases h
 | j::l,s,sf,i,⟨s1,h1,h2⟩,h=>by
  rcases List.mem_cons.1 h with rfl | h
  ·grind
  ·exact Bq h2 h
theorem Vc{kd:Nat->Nat}{i t d:Nat}{o:Oper}(ho:ops[i]? = some o)(h1:o.op=.alloc t)(h2:o.guard=none)(h3:o.dst=some d){s s':F×St}(h:yN c n ops i s s' (kd i)) :
  ∃ D,XV c t=some D/\d<n/\s'=(kA s.1 (some d) (some (.ptr s.2.length 0)),s.2++[.var D]):=by
 obtain⟨o',ho',hd,h⟩:=h
 rw[ho]at ho'
 cases ho'
 rw[h3]at hd
 have qy:d<n:=Nat.le_of_ble_eq_true hd
 have hw:wi ops s.1 o=some true:=by unfold wi; rw[h2]
 rcases h with⟨_,_,D,zr,hl,rfl⟩ | ⟨hw',_,_⟩
 ·have he:qI c (qh s.1) o=ma c t:=by
   obtain⟨dst,op,ty,pos,after,guard⟩:=o
   cases h1
   rfl
  rw[he]at hl
  unfold ma at hl
  split at hl
  ·rename_i y hy
   simp only[zH,T.leads]at hl
   grind
  ·exact absurd hl ze
 ·grind
theorem Dq{es:List Em}{i k:Nat}{s s':F×St}(h:yN c n ops i s s' k)(hd:∀ o,ops[i]? = some o->∀ e∈es,e.d ∉ tmpsOf ops o) :
  yN c n ops i (kN es s.1,s.2) (kN es s'.1,s'.2) k:=by
 obtain⟨o,ho,TY,h⟩:=h
 have yA:=hd o ho
 have z9L:∀ x:Option D,kA (kN es s.1) o.dst x=kN es (kA s.1 o.dst x):=by
  intro x
  cases hds:o.dst with
  | none=>rfl
  | some t =>
   funext u
   simp only[kA,kN]
   by_cases hu:u=t
   ·subst hu
    rw[if_pos rfl]
    rw[if_neg,if_pos rfl]
    intro hh
    obtain⟨e,he,hb⟩:=List.any_eq_true.1 hh
    exact yA e he (by rw[Nat.eq_of_beq_eq_true hb]; exact kl hds)
   ·grind
 have fg:∀ x∈o.op.operands,qh (kN es s.1) x=qh s.1 x:=by
  intro x hx
  cases x with
  | tmp t=>exact tW λe he ht=>yA e he (ht▸oQ hx)
  | _=>rfl
 have hw:wi ops (kN es s.1) o=wi ops s.1 o:=by
  unfold wi
  cases hg:o.guard with
  | none=>rfl
  | some jw =>
   obtain⟨j,w⟩:=jw
   simp only
   cases hs:uH ops j with
   | none=>rfl
   | some t =>
    simp only
    rw[tW λe he ht=>yA e he (ht▸nT hg hs)]
 refine⟨o,ho,TY,?_⟩
 rcases h with⟨h1,h2,d,zr,h3,rfl⟩ | ⟨h1,h2,rfl⟩
 ·refine .inl ⟨hw.trans h1,?_,d,zr,?_,?_⟩
  ·rw[show qI c (qh (kN es s.1)) o=qI c (qh s.1) o from tb o fg]; exact h2
  ·rw[show qI c (qh (kN es s.1)) o=qI c (qh s.1) o from tb o fg]; exact h3
  ·rw[z9L]
 ·grind
theorem MW{κ:KS}{a:Act}{i k:Nat}{s s':F×St}(hC:∀ g,GY c.P g (c.fn g))(hI:Inv κ)(hR:Rel κ n s.1 a)(xM:κ.st=s.2)(h:yN c n ops i s s' k){K:Act->World->Prop}{Q:Exit->Act->World->Prop}
  (hK:∀ (a':Act) (κ':KS),κ'.st=s'.2->Inv κ'->Ext κ κ'->Rel κ' n s'.1 a'->dT ops a a'->(∀ u:Nat,(∀ o,ops[i]? = some o->o.dst≠some u)->a'.tmps[u]? = a.tmps[u]?)->K a' κ'.w):wpOp c.P ops Q i K a κ.w:=by
 obtain⟨o,ho,hd,h⟩:=h
 have hu:∀ (v:Value) (u:Nat),(∀ o,ops[i]? = some o->o.dst≠some u)->(a.put o.dst v).tmps[u]? = a.tmps[u]? := by
  intro v u hn
  have:=hn o ho
  cases hds:o.dst with
  | none=>rfl
  | some t =>
   rw[hds]at this
   have vT:t≠u:=λe=>this (by rw[e])
   simp[Act.put,Array.getElem?_setIfInBounds_ne vT]
 unfold wpOp
 rw[ho]
 simp only
 rcases h with⟨hw,_,d,zr,hl,rfl⟩ | ⟨hw,_,rfl⟩
 ·rw[if_pos (lp hR hw)]
  refine .inl (BV hC hI hR (xM▸hl) λv κ' h1 h2 h3 h4=>hK _ κ' h1 h2 h3 ((hR.mono h3).put hd h4) (oH ho) (hu v))
 ·rw[if_neg (by rw[lp hR hw]; exact Bool.false_ne_true)]
  exact hK _ κ xM hI (Ext.refl κ) (hR.put hd λd' kR=>by cases kR; exact T3 (v:=undef)) (oH ho) (hu undef)
def kd3(kd:Nat->Nat)(o:Oper)(i:Nat):Nat:=bif W4 o then 3 else kd i
def z16(ops:Array Oper)(kd:Nat->Nat)(p i:Nat):Prop:=∀ x y,ops[p]? = some x->ops[i]? = some y ->
 (∀ d,x.dst=some d->d ∉ tmpsOf ops y)/\(∀ d,y.dst=some d->d ∉ tmpsOf ops x)/\oi (kd3 kd x p) (kd3 kd y i)=false
theorem R6{k l:Nat}(hk:k<=2)(hl:l<=2)(h:oi k l=false):uw k l=false:=by
 have h1:Nat.beq k 3=false:=lW (by omega)
 have h2:Nat.beq l 3=false:=lW (by omega)
 simpa[oi,h1,h2]using h
theorem z0M{k l:Nat}(hl:l<=2)(h:oi 3 l=false):uw k l=false:=by
 have h2:Nat.beq l 3=false:=lW (by omega)
 have h3:uw 2 l=false:=by simpa[oi,h2]using h
 have h0:l=0:=by
  match l,hl,h3 with
  | 0,_,_=>rfl
  | 1,_,h3=>cases h3
  | 2,_,h3=>cases h3
 subst h0
 simp[uw]
theorem z0c{k l:Nat}(hk:k<=2)(h:oi k 3=false):uw k l=false:=by
 have h2:Nat.beq k 3=false:=lW (by omega)
 have h3:uw k 2=false:=by simpa[oi,h2]using h
 have h0:k=0:=by
  match k,hk,h3 with
  | 0,_,_=>rfl
  | 1,_,h3=>cases h3
  | 2,_,h3=>cases h3
 subst h0
 simp[uw]
theorem Gi{kd:Nat->Nat}{p i:Nat}(h:z16 ops kd p i)(hp:kd p<=2)(hi:kd i<=2)(hn:¬ (dL ops p/\dL ops i)):Ind ops kd p i:=by
 intro x y hx hy
 obtain⟨h1,h2,h3⟩:=h x y hx hy
 refine⟨h1,h2,?_⟩
 unfold kd3 at h3
 cases hax:W4 x with
 | true =>
  cases hay:W4 y with
  | true=>exact(hn ⟨⟨x,hx,hax⟩,y,hy,hay⟩).elim
  | false=>rw[hax,hay]at h3; exact z0M hi h3
 | false =>
  cases hay:W4 y with
  | true=>rw[hax,hay]at h3; exact z0c hp h3
  | false=>rw[hax,hay]at h3; exact R6 hp hi h3
theorem least{es:List Em}(h:es≠[]):∃ e∈es,∀ f∈es,e.i<=f.i:=by
 induction es with
 | nil=>grind
 | cons e r ih =>
  by_cases hr:r=[]
  ·subst hr; exact⟨e,List.mem_cons_self,λf hf=>by grind⟩
  ·grind
def TB(e f:Em):Prop:=e.i≠f.i/\e.blk≠f.blk/\e.d≠f.d
theorem TB.symm{e f:Em}(h:TB e f):TB f e:=⟨h.1.symm,h.2.1.symm,h.2.2.symm⟩
theorem flush{kd:Nat->Nat}{κ0:KS}(kI:∀ p i,p<i->i<ops.size->ordered (xg ops.toList []) p i=true\/z16 ops kd p i)(cH:∀ i,i<ops.size->kd i<=2)
  {listed:Array Bool} (WC:tw ops listed) (rO:∀ q,q<ops.size->dL ops q->listed.getD q true=true) {a:Act} {sf:F×St} :
  ∀ (m:Nat) (es:List Em) (qx:Array Bool) (κ:KS) (s:F×St),es.length=m->qx.size=ops.size->(∀ j,j<ops.size->qx.getD j true=true->listed.getD j true=true) ->
  (∀ j,j<ops.size->listed.getD j true=true->qx.getD j true=false->∃ e∈es,e.i=j)->(∀ e∈es,e.i<ops.size/\listed.getD e.i true=true/\qx.getD e.i true=false)->es.Pairwise TB ->
  Inv κ->Rel κ n (kN es s.1) a->κ.st=s.2->Ext κ0 κ->(∀ e∈es,EF c ops κ0 κ a e)->nd c n ops kd (rest ops qx) s sf ->
  ∃ (κ':KS) (s':F×St),κ'.w=κ.w/\κ'.st=s'.2/\Inv κ'/\Ext κ0 κ'/\Rel κ' n s'.1 a/\nd c n ops kd (rest ops listed) s' sf:=by
 intro m
 induction m with
 | zero =>
  intro es qx κ s hl _ h1 h2 _ _ hI hR xM hx _ vF
  obtain rfl:es=[]:=List.eq_nil_of_length_eq_zero hl
  refine⟨κ,s,rfl,xM,hI,hx,hR,?_⟩
  have:rest ops qx=rest ops listed:=by
   unfold rest
   refine List.filter_congr λi hi => ?_
   grind
  grind
 | succ m ih =>
  intro es qx κ s hl uU h1 h2 h3 Ew hI hR xM hx TC vF
  obtain⟨e,he,z4f⟩:=least (es:=es) (λh=>by rw[h]at hl; cases hl)
  obtain⟨l1,l2,rfl⟩:=List.append_of_mem he
  obtain⟨hei,hel,hea⟩:=h3 e he
  have ZK:∀ f,f∈l1++l2->f∈l1++e::l2:=λf hf=>by
   grind
  have z3R:∀ f,f∈l1++e::l2->f=e\/f∈l1++l2:=λf hf=>by
   rcases List.mem_append.1 hf with hf | hf
   ·exact .inr (List.mem_append_left _ hf)
   ·rcases List.mem_cons.1 hf with rfl | hf
    ·exact .inl rfl
    ·exact .inr (List.mem_append_right _ hf)
  have Tv:∀ f∈l1++l2,TB e f:=by
   intro f hf
   rw[List.pairwise_append]at Ew
   obtain⟨_,d2,d3⟩:=Ew
   rcases List.mem_append.1 hf with hf | hf
   ·exact(d3 f hf e List.mem_cons_self).symm
   ·exact(List.pairwise_cons.1 d2).1 f hf
  have EX:(l1++l2).Pairwise TB:=Ew.sublist (List.Sublist.append_left (List.sublist_cons_self e l2) l1)
  obtain⟨pre,post,g1,g2,g3⟩:=b7 (p:=λi => !qx.getD i true) (q:=λj => !(qx.setIfInBounds e.i true).getD j true) (i:=e.i) (List.range ops.size) List.pairwise_lt_range
   (List.mem_range.2 hei) (by simp[hea]) (λj=>by
    rw[j5 (by omega)]
    by_cases h:j=e.i
    ·subst h; simp
    ·simp[h])
  have T8:∀ p∈pre,Ind ops kd p e.i:=by
   intro p hp
   obtain⟨q1,q2,q3⟩:=g3 p hp
   have q2:=List.mem_range.1 q2
   have hpa:qx.getD p true=false:=by simpa using q1
   have XO:listed.getD p true=false:=by
    cases hb:listed.getD p true with
    | false=>rfl
    | true =>
     obtain⟨f,hf,Bo⟩:=h2 p q2 hb hpa
     have:=z4f f hf
     omega
   have hna:¬ dL ops p:=λh=>by rw[rO p q2 h]at XO; cases XO
   rcases kI p e.i q3 hei with h | h
   ·have:=WC e.i hei hel p h q2
    rw[this]at XO; cases XO
   ·exact Gi h (cH p q2) (cH e.i hei) λhh=>hna hh.1
  have Hd:nd c n ops kd (pre++e.i::post) s sf:=by
   have:rest ops qx=pre++e.i::post:=g1
   rw[<- this]; exact vF
  obtain⟨s1,k1,k2⟩:=WR T8 Hd
  have hE:=TC e he
  obtain⟨o,o1,o2,o3,o4⟩:=hE.op
  obtain⟨D,d1,d2,rfl⟩:=Vc o1 o2 o3 o4 k1
  obtain rfl:D=e.D:=Option.some.inj (d1.symm.trans hE.zero)
  obtain⟨iz,z1,z2,z3⟩:=hE.z
  obtain⟨p1,p2,p3⟩:=z22 hI hx hE.nob hE.new (z3.rd κ) z3.yH z3.ty hE.heap
  have hup:=IQ hI e.blk e.z.cells.size e.D
  refine ih (l1++l2) (qx.setIfInBounds e.i true) (κ.push e.blk e.z.cells.size e.D) (kA s.1 (some e.d) (some (.ptr s.2.length 0)),s.2++[.var e.D]) (by simp at hl ⊢; omega) (by simp[uU]) (λj hj ha => ?_) (λj hj hb ha => ?_) (λf hf => ?_) EX p1 ?_ (by show κ.st++_=s.2++_; rw[xM]) p2 (λf hf => ?_) ?_
  ·rw[j5 (by omega)]at ha
   split at ha
   ·rename_i h; subst h; exact hel
   ·exact h1 j hj ha
  ·rw[j5 (by omega)]at ha
   split at ha
   ·cases ha
   ·rename_i vT
    obtain⟨f,hf,Bo⟩:=h2 j hj hb ha
    rcases z3R f hf with rfl | hf
    ·exact absurd Bo.symm vT
    ·exact⟨f,hf,Bo⟩
  ·obtain⟨f1,f2,f3⟩:=h3 f (ZK f hf)
   refine⟨f1,f2,?_⟩
   rw[j5 (by omega),if_neg (Tv f hf).1.symm]
   exact f3
  ·refine⟨hR.size,hR.defers,λu d0 hu => ?_⟩
   obtain⟨u1,u2⟩:=KH hu
   simp only[kA]at u1
   by_cases hue:u=e.d
   ·subst hue
    rw[if_pos rfl]at u1
    cases u1
    rw[<- xM]
    exact⟨_,hE.val,p3⟩
   ·rw[if_neg hue]at u1
    have:kN (l1++e::l2) s.1 u=some d0:=by
     rw[tW λf hf hfu => ?_]
     ·exact u1
     ·rcases z3R f hf with rfl | hf
      ·exact hue hfu.symm
      ·exact u2 f hf hfu
    obtain⟨v,v1,v2⟩:=hR.get u d0 this
    exact⟨v,v1,v2.up hup⟩
  ·have hF:=TC f (ZK f hf)
   refine⟨hF.op,hF.zero,hF.z,hF.val,hF.heap,⟨hF.nob.lt,hF.nob.ok,λb m hb => ?_⟩,hF.new⟩
   rcases pQ hb with hb | ⟨_,hb⟩
   ·exact hF.nob.ph b m hb
   ·exact(Tv f hf).2.1 (congrArg Prod.fst (Option.some.inj hb)).symm
  ·have:rest ops (qx.setIfInBounds e.i true)=pre++post:=g2
   rw[this]; exact k2
theorem OQ{listed:Array Bool}{i:Nat}(uU:listed.size=ops.size)(h1:i<ops.size)(h2:listed.getD i true=false):(rest ops listed).length=(rest ops (listed.setIfInBounds i true)).length+1:=by
 obtain⟨pre,post,g1,g2,_⟩:=b7 (p:=λi => !listed.getD i true) (q:=λj => !(listed.setIfInBounds i true).getD j true) (i:=i) (List.range ops.size) List.pairwise_lt_range
  (List.mem_range.2 h1) (by grind) (λj=>by
   rw[j5 (by omega)]
   by_cases h:j=i
   ·grind
   ·simp[h])
 have e1:rest ops listed=pre++i::post:=g1
 have e2:rest ops (listed.setIfInBounds i true)=pre++post:=g2
 grind
theorem DV{listed:Array Bool}{i:Nat}(EO:gR ops.toList 0=true)(uU:listed.size=ops.size)(WC:tw ops listed)(h1:i<ops.size)
  (h3:∀ o,ops[i]? = some o->∀ e∈o.after.toList,Region.binds .any e=true->listed.getD e.on false=true) :
  (∀ p,ordered (xg ops.toList []) p i=true->p<ops.size->listed.getD p true=true)/\tw ops (listed.setIfInBounds i true):=by
 have PA:∀ p,ordered (xg ops.toList []) p i=true->p<ops.size->listed.getD p true=true:=by
  intro p hp qy
  obtain⟨r,_,_,hb⟩:=mG ops.toList []
  obtain⟨e,k1,k2,k3⟩:=hb i ops[i] (by simp) p (by simpa[ordered]using hp)
  have Ja:=mz ops.toList 0 EO i ops[i] (by simp) e k1 k2
  have J8:listed.getD e.on true=true:=by
   grind
  rcases k3 with rfl | ⟨_,k3⟩
  ·exact J8
  ·exact WC e.on (by omega) J8 p k3 qy
 refine⟨PA,λq hq LJ p hp qy => ?_⟩
 rw[j5 (by omega)]at LJ ⊢
 split
 ·rfl
 ·split at LJ
  ·grind
  ·exact WC q hq LJ p hp qy
theorem GO{κ:KS}{a:Act}{es:List Em}{f:F}{e:Em}{v:Value}(hR:Rel κ n (kN es f) a):Rel κ n (kN (e::es) f) (a.put (some e.d) v):=by
 refine⟨by simp[Act.put,hR.size],hR.defers,λu d hu => ?_⟩
 obtain⟨u1,u2⟩:=KH hu
 have vT:e.d≠u:=u2 e List.mem_cons_self
 have:kN es f u=some d:=by rw[tW λg hg=>u2 g (List.mem_cons_of_mem _ hg)]; exact u1
 obtain⟨w,w1,w2⟩:=hR.get u d this
 exact⟨w,by simp[Act.put,Array.getElem?_setIfInBounds_ne vT]; exact w1,w2⟩
theorem te{kd:Nat->Nat}{Q:Exit->Act->World->Prop}(hC:∀ g,GY c.P g (c.fn g))(EO:gR ops.toList 0=true)
  (kI:∀ p i,p<i->i<ops.size->ordered (xg ops.toList []) p i=true\/z16 ops kd p i) (cH:∀ i,i<ops.size->kd i<=2)
  (rO:∀ p j,p<ops.size->dL ops p->j<ops.size->ordered (xg ops.toList []) p j=true->∀ q,q<ops.size->dL ops q->ordered (xg ops.toList []) q j=true)
  {κ0:KS} {a0:Act} {sf:F×St}:∀ (fuel:Nat) (listed qx:Array Bool) (es:List Em) {κ:KS} {a:Act} {s:F×St},
  listed.size=ops.size->qx.size=ops.size->fuel=(rest ops listed).length->tw ops listed->(∀ j,j<ops.size->qx.getD j true=true->listed.getD j true=true) ->
  (∀ j,j<ops.size->listed.getD j true=true->qx.getD j true=false->∃ e∈es,e.i=j)->(∀ e∈es,e.i<ops.size/\listed.getD e.i true=true/\qx.getD e.i true=false)->es.Pairwise TB ->
  (∃ q,q<ops.size/\dL ops q/\listed.getD q true=false)->Inv κ->Rel κ n (kN es s.1) a->κ.st=s.2->Ext κ0 κ->(∀ e∈es,EF c ops κ0 κ a e)->nd c n ops kd (rest ops qx) s sf->dT ops a0 a ->
  (∀ (a':Act) (κ':KS),κ'.st=sf.2->Inv κ'->Ext κ0 κ'->Rel κ' n sf.1 a'->dT ops a0 a'->Q .normal a' κ'.w)->wpAny c.P .any ops Q fuel listed a κ.w
 | 0,listed,qx,es,κ,a,s,uU,hszA,hfuel,WC,h1,h2,h3,Ew,⟨q,q1,q2,q3⟩,hI,hR,xM,hx,TC,vF,hkp,hQ=>by
  have hre:rest ops listed=[]:=List.eq_nil_of_length_eq_zero hfuel.symm
  have:q∈rest ops listed:=by simp only[rest,List.mem_filter,List.mem_range,Bool.not_eq_true']; exact⟨q1,q3⟩
  grind
 | fuel+1,listed,qx,es,κ,a,s,uU,hszA,hfuel,WC,h1,h2,h3,Ew,⟨q,q1,q2,q3⟩,hI,hR,xM,hx,TC,vF,hkp,hQ=>by
  refine⟨λh => ?_,λi hi => ?_⟩
  ·have hre:=UU EO uU h
   grind
  rw[mm]at hi
  obtain⟨i1,i2,i3⟩:=hi
  obtain⟨PA,Me⟩:=DV EO uU WC i1 i3
  have DH:fuel=(rest ops (listed.setIfInBounds i true)).length:=by have:=OQ uU i1 i2; omega
  have hia:qx.getD i true=false:=by
   grind
  have OF:∀ p,p<ops.size->dL ops p->ordered (xg ops.toList []) p i=true->False:=by
   grind
  have bj:∀ j,(listed.setIfInBounds i true).getD j true=if j=i then true else listed.getD j true:=λj=>j5 (by omega)
  by_cases nB:dL ops i
  ·-- a new variable is laid
   obtain⟨o,ho,hao⟩:=nB
   obtain⟨t,d,o1,o2,o3⟩:=Np hao
   have him:i∈rest ops qx:=by simp only[rest,List.mem_filter,List.mem_range,Bool.not_eq_true']; exact⟨i1,hia⟩
   obtain⟨t1,t2,hos⟩:=Bq vF him
   obtain⟨D,d1,d2,_⟩:=Vc ho o1 o2 o3 hos
   obtain⟨iz,z,z1,z2,z3⟩:=eY d1
   obtain⟨w1,w2,w3,w4⟩:=z0T hI (.cells z.cells t)
   let e:Em:=⟨i,d,κ.w.heap.size,t,z,D⟩
   have zb0:(execOp a.eval o).run c.P κ.w=.ok (.value (.pointer (some ⟨κ.w.heap.size,0,none⟩))) (κ.w.alloc (.cells z.cells t)):=by
    obtain⟨dst,op,ty,pos,after,guard⟩:=o
    cases o1
    simp[execOp,Instr.alloc,zeroValue,typeInfo,z1,z2,newVar,newRow]
   have z9t:Region.wanted o (yielded ops a.tmps)=true:=by unfold Region.wanted; rw[o2]
   unfold wpOp
   rw[ho]
   simp only
   rw[if_pos z9t]
   refine .inl ?_
   unfold Oper.wp
   rw[zb0]
   show wpAny c.P Region.Mode.any ops Q fuel (listed.setIfInBounds i true) (a.put o.dst (Value.pointer (some { block:=κ.w.heap.size,off:=0 }))) (κ.w.alloc (Obj.cells z.cells t))
   rw[o3]
   have vT:∀ f∈es,f.d≠d:=by
    intro f hf hfd
    obtain⟨f1,f2,f3⟩:=h3 f hf
    obtain⟨fo,fo1,fo2,fo3,fo4⟩:=(TC f hf).op
    have Bo:f.i≠i:=λh=>by rw[h,i2]at f2; cases f2
    rcases Nat.lt_or_gt_of_ne Bo with qy | qy
    ·rcases kI f.i i qy i1 with h | h
     ·exact OF f.i f1 ⟨fo,fo1,Yl fo2 fo3 fo4⟩ h
     ·exact(h fo o fo1 ho).1 f.d fo4 (hfd▸kl o3)
    ·rcases kI i f.i qy f1 with h | h
     ·have:=WC f.i f1 f2 i h i1; rw[i2]at this; cases this
     ·exact(h o fo ho fo1).1 d o3 (hfd▸kl fo4)
   have zeF:EF c ops κ0 { κ with w:=κ.w.alloc (.cells z.cells t) } (a.put (some d) (.pointer (some ⟨κ.w.heap.size,0,none⟩))) e :=
    ⟨⟨o,ho,o1,o2,o3⟩,d1,⟨iz,z1,z2,z3⟩,by simp[e,Act.put,hR.size,d2],w4,w3,hx.size⟩
   have zal:∀ f∈e::es,EF c ops κ0 { κ with w:=κ.w.alloc (.cells z.cells t) } (a.put (some d) (.pointer (some ⟨κ.w.heap.size,0,none⟩))) f:=by
    intro f hf
    rcases List.mem_cons.1 hf with rfl | hf
    ·exact zeF
    ·exact(TC f hf).mono w2 (by simp[Act.put,Array.getElem?_setIfInBounds_ne (λe'=>vT f hf e'.symm)])
   have hR':Rel { κ with w:=κ.w.alloc (.cells z.cells t) } n (kN (e::es) s.1) (a.put (some d) (.pointer (some ⟨κ.w.heap.size,0,none⟩))):=GO (e:=e) (hR.mono w2)
   have hdE:∀ f∈es,TB e f:=by
    intro f hf
    unfold TB
    refine⟨λh => ?_,λh => ?_,λh=>vT f hf h.symm⟩
    ·have hf2:=(h3 f hf).2.1
     rw[<- h]at hf2
     have i2':listed.getD e.i true=false:=i2
     rw[i2']at hf2
     cases hf2
    ·have hl:=(TC f hf).nob.lt
     rw[<- h]at hl
     exact Nat.lt_irrefl _ hl
   have EX:(e::es).Pairwise TB:=List.pairwise_cons.2 ⟨hdE,Ew⟩
   have z9M:dT ops a0 (a.put (some d) (.pointer (some ⟨κ.w.heap.size,0,none⟩))):=hkp.trans (by have:=oH (a:=a) (v:=.pointer (some ⟨κ.w.heap.size,0,none⟩)) ho; rw[o3]at this; exact this)
   have W8:∀ j,j<ops.size->qx.getD j true=true->(listed.setIfInBounds i true).getD j true=true:=λj hj ha=>by
    rw[bj]; split
    ·rfl
    ·exact h1 j hj ha
   have h2':∀ j,j<ops.size->(listed.setIfInBounds i true).getD j true=true->qx.getD j true=false->∃ f∈e::es,f.i=j:=λj hj hb ha=>by
    rw[bj]at hb
    split at hb
    ·rename_i h; exact⟨e,List.mem_cons_self,h.symm⟩
    ·obtain⟨f,hf,Bo⟩:=h2 j hj hb ha; exact⟨f,List.mem_cons_of_mem _ hf,Bo⟩
   have h3':∀ f∈e::es,f.i<ops.size/\(listed.setIfInBounds i true).getD f.i true=true/\qx.getD f.i true=false:=λf hf=>by
    rcases List.mem_cons.1 hf with rfl | hf
    ·exact⟨i1,by rw[bj]; exact if_pos rfl,hia⟩
    ·obtain⟨f1,f2,f3⟩:=h3 f hf
     exact⟨f1,by rw[bj]; split<;>first | rfl | exact f2,f3⟩
   by_cases hmore:∃ q,q<ops.size/\dL ops q/\(listed.setIfInBounds i true).getD q true=false
   ·exact te hC EO kI cH rO fuel (listed.setIfInBounds i true) qx (e::es) (κ:={ κ with w:=κ.w.alloc (.cells z.cells t) }) (by simp[uU]) hszA DH Me W8 h2' h3' EX hmore w1 hR' xM (hx.trans w2) zal vF z9M hQ
   ·-- all are laid
    have z2P:∀ q,q<ops.size->dL ops q->(listed.setIfInBounds i true).getD q true=true:=λq q1 q2=>by
     cases hb:(listed.setIfInBounds i true).getD q true with
     | true=>rfl
     | false=>exact(hmore ⟨q,q1,q2,hb⟩).elim
    obtain⟨κ',s',f1,f2,f3,f4,f5,f6⟩:=flush (c:=c) (n:=n) kI cH Me z2P (e::es).length (e::es) qx { κ with w:=κ.w.alloc (.cells z.cells t) } s rfl hszA W8 h2' h3' EX w1 hR' xM (hx.trans w2) zal vF
    have hgo:=UR (κ:=κ') hC EO fuel (listed.setIfInBounds i true) (Q:=Q) (λp j hpj hj hp=>(kI p j hpj hj).elim .inl λh=>.inr (Gi h (cH p (by omega)) (cH j hj) λhh=>by
     rw[z2P p (by omega) hh.1]at hp; cases hp)) (by simp[uU]) DH Me f3 f5 f2 f6 λa' ML e1 e2 e3 e4 e5=>hQ a' ML e1 e2 (f4.trans e3) e4 (z9M.trans e5)
    rw[f1]at hgo
    exact hgo
  ·-- another operation
   have z3y:∀ o,ops[i]? = some o->∀ e∈es,e.d ∉ tmpsOf ops o:=by
    intro o ho f hf
    obtain⟨f1,f2,f3⟩:=h3 f hf
    obtain⟨fo,fo1,fo2,fo3,fo4⟩:=(TC f hf).op
    have Bo:f.i≠i:=λh=>by rw[h,i2]at f2; cases f2
    rcases Nat.lt_or_gt_of_ne Bo with qy | qy
    ·rcases kI f.i i qy i1 with h | h
     ·exact(OF f.i f1 ⟨fo,fo1,Yl fo2 fo3 fo4⟩ h).elim
     ·exact(h fo o fo1 ho).1 f.d fo4
    ·rcases kI i f.i qy f1 with h | h
     ·have:=WC f.i f1 f2 i h i1; rw[i2]at this; cases this
     ·exact(h o fo ho fo1).2.1 f.d fo4
   obtain⟨pre,post,g1,g2,g3⟩:=b7 (p:=λi => !qx.getD i true) (q:=λj => !(qx.setIfInBounds i true).getD j true) (i:=i) (List.range ops.size) List.pairwise_lt_range
    (List.mem_range.2 i1) (by simp[hia]) (λj=>by
     rw[j5 (by omega)]
     by_cases h:j=i
     ·subst h; simp
     ·simp[h])
   have T8:∀ p∈pre,Ind ops kd p i:=by
    intro p hp
    obtain⟨r1,r2,r3⟩:=g3 p hp
    have r2:=List.mem_range.1 r2
    have r1:qx.getD p true=false:=by simpa using r1
    rcases kI p i r3 i1 with h | h
    ·obtain⟨f,hf,Bo⟩:=h2 p r2 (PA p h r2) r1
     obtain⟨fo,fo1,fo2,fo3,fo4⟩:=(TC f hf).op
     exact(OF p r2 ⟨fo,by rw[<- Bo]; exact fo1,Yl fo2 fo3 fo4⟩ h).elim
    ·exact Gi h (cH p r2) (cH i i1) λhh=>nB hh.2
   have Hd:nd c n ops kd (pre++i::post) s sf:=by
    have:rest ops qx=pre++i::post:=g1
    rw[<- this]; exact vF
   obtain⟨s1,k1,k2⟩:=WR T8 Hd
   refine MW (s:=(kN es s.1,s.2)) (s':=(kN es s1.1,s1.2)) hC hI hR xM (Dq k1 z3y) λa1 κ1 e1 e2 e3 e4 e5 e6 => ?_
   have Oa:∀ j,(qx.setIfInBounds i true).getD j true=if j=i then true else qx.getD j true:=λj=>j5 (by omega)
   refine te hC EO kI cH rO fuel (listed.setIfInBounds i true) (qx.setIfInBounds i true) es (κ:=κ1) (s:=s1) (by simp[uU]) (by simp[hszA]) DH Me (λj hj ha => ?_) (λj hj hb ha => ?_) (λf hf => ?_) Ew
    ⟨q,q1,q2,?_⟩ e2 e4 e1 (hx.trans e3) (λf hf=>(TC f hf).mono e3 (e6 f.d λo ho hod=>z3y o ho f hf (kl hod))) ?_ (hkp.trans e5) hQ
   ·rw[Oa]at ha; rw[bj]
    split
    ·rfl
    ·rename_i h; rw[if_neg h]at ha; exact h1 j hj ha
   ·rw[Oa]at ha; rw[bj]at hb
    split at ha
    ·cases ha
    ·rename_i h; rw[if_neg h]at hb; exact h2 j hj hb ha
   ·obtain⟨f1,f2,f3⟩:=h3 f hf
    have Bo:f.i≠i:=λh=>by rw[h,i2]at f2; cases f2
    exact⟨f1,by rw[bj,if_neg Bo]; exact f2,by rw[Oa,if_neg Bo]; exact f3⟩
   ·have hqi:q≠i:=λh=>nB (by rw[<- h]; exact q2)
    rw[bj,if_neg hqi]; exact q3
   ·have:rest ops (qx.setIfInBounds i true)=pre++post:=g2
    rw[this]; exact k2
theorem tE{kd:Nat->Nat}:∀ {l:List Oper} {ks:List Nat} {i j:Nat} {o:Oper},l[i]? = some o->ks[i]? = some (kd j)->(Ua l ks)[i]? = some (kd3 kd o j)
 | [],_,i,_,_,h,_=>by simp at h
 | _::_,[],i,_,_,_,h=>by simp at h
 | x::l,k::ks,0,j,o,h1,h2=>by simp at h1 h2; subst h1; subst h2; rfl
 | x::l,k::ks,i+1,j,o,h1,h2=>by
  have:=tE (kd:=kd) (l:=l) (ks:=ks) (i:=i) (j:=j) (o:=o) (by grind) (by grind)
  simpa[Ua]using this
theorem Ka:∀ {l:List Oper} {k i:Nat} {o:Oper},l[i]? = some o->W4 o=true->k+i∈Vo l k
 | [],_,_,_,h,_=>by simp at h
 | x::l,k,0,o,h1,h2=>by simp at h1; subst h1; simp[Vo,h2]
 | x::l,k,i+1,o,h1,h2=>by
  have:=Ka (l:=l) (k:=k+1) (i:=i) (o:=o) (by grind) h2
  simp only[Vo]
  grind
theorem Xb{kd:Nat->RK}:∀ (l:List Nat) (s s':F×St) (ks:List RK),IF c n ops l s s' ks->ks=l.map kd->Va (λi s s'=>cL c n ops i s s' (kd i)) l s s'
 | [],s,s',ks,h,_=>h.1
 | i::l,s,s',ks,⟨s1,k,Dd,e,h1,h2⟩,hk=>by
  subst e
  simp at hk
  obtain⟨rfl,hk⟩:=hk
  exact⟨s1,h1,Xb l s1 s' Dd h2 hk⟩
theorem N4{κ:KS}{a:Act}{id:Nat}{draw:Bool}{fr:Fr}{kn:Kn}{s':dr}(hm:c.P.follows .mixedOrders=true)(hC:∀ g,GY c.P g (c.fn g))(hI:Inv κ)(hR:Rel κ n fr.get a)(hk:vA kn fr.get)
  (h:(bQ c n ops draw fr kn κ.st).leads s') {Q:Exit->Act->World->Prop} (hQ:∀ (a':Act) (κ':KS),κ'.st=s'.st->Inv κ'->Ext κ κ'->Rel κ' n s'.fr.get a'->dT ops a a'->Q .normal a' κ'.w) :
  (Code.region id ops draw).wp c.P Q a κ.w/\vA s'.kn s'.fr.get:=by
 simp only[bQ,T.zG]at h
 obtain⟨s1,h1,h2⟩:=h
 obtain⟨ks,g1,g2,g3⟩:=eS ops.toList 0 ⟨fr,kn,κ.st,[],[]⟩ s1 (λj=>.inl (by simp)) hk h1
 simp only[List.append_nil]at g3
 have hl:ops.toList.length=ops.size:=by simp
 rw[hl,<- List.range_eq_range']at g1
 cases hd:(!draw||tH ops s1.ks.reverse s1.bk.reverse)with
 | false=>rw[hd]at h2; exact h2.elim
 | true =>
  rw[hd,cond_true]at h2
  cases h2
  refine⟨?_,g2⟩
  cases draw with
  | false=>exact wp_region (IJ hC _ hI hR rfl g1 hQ)
  | true =>
   simp only[Bool.not_true,Bool.false_or,tH,Bool.or_eq_true]at hd
   obtain⟨rks,r1,r3⟩:=Xd (ops:=ops) ops.toList 0 ⟨fr,kn,κ.st,[],[]⟩ _ (λj=>.inl (by simp)) hk h1
   simp only[List.append_nil]at r3
   rw[hl,<- List.range_eq_range']at r1
   let kd:Nat->Nat:=λi=>ks.getD i 0
   have hkl:ks.length=ops.size:=by rw[Ch _ _ _ _ g1]; simp
   have hks:ks=(List.range ops.size).map kd:=by
    apply List.ext_getElem?
    intro i
    grind
   have vF:=UI (kd:=kd) _ _ _ _ g1 hks
   refine wp_region_any hm ?_
   let κd:KS:={ κ with w:=κ.w.drew }
   have hx:Ext κ κd:=⟨rfl,rfl,rfl,Nat.le_refl _,λk hk=>⟨hk,rfl⟩,λk hk=>.inl hk,λ_ _ _ h=>.inl h,λb d h=>⟨⟨d,h⟩,rfl⟩,
    λb v0 e xs h=>.inr ⟨v0,xs,h,Nat.le_refl _,λ_=>⟨rfl,rfl⟩⟩,λ_ h=>h,Nat.le_refl _,λk _ _=>rfl⟩
   have hId:Inv κd:=⟨hI.len,hI.yr,hI.apart,hI.inj,λb y hy=>(hI.blk b y hy).mono hx rfl λ_ _ _=>rfl,hI.gl.mono hx.same⟩
   have pB:rest ops (Array.replicate ops.size false)=List.range ops.size:=by
    unfold rest
    rw[List.filter_eq_self]
    intro i hi
    have:=List.mem_range.1 hi
    simp[Array.getD_eq_getD_getElem?,this]
   have Ku:∀ j,j<ops.size->(Array.replicate ops.size false).getD j true=false:=λj hj=>by simp[Array.getD_eq_getD_getElem?,hj]
   have z0G:tw ops (Array.replicate ops.size false):=λq hq LJ=>by rw[Ku q hq]at LJ; cases LJ
   have Bt:∀ i,i<ops.size->ks[i]? = some (kd i):=λi hi=>by simp[kd,List.getD,List.getElem?_eq_getElem (show i<ks.length by omega)]
   have XI:∀ i (hi:i<ops.size),ops.toList[i]? = some ops[i]:=λi hi=>by simp
   rcases hd with(hd | hd) | hd
   ·simp only[Ll,Bool.and_eq_true]at hd
    obtain⟨d1,d2⟩:=hd
    rw[g3,List.reverse_reverse]at d2
    have kI:∀ p i,p<i->i<ops.size->ordered (xg ops.toList []) p i=true\/Ind ops kd p i:=by
     intro p i GQ hi
     have hp:=mO ops.toList ks 0 [] d2 i ops[i] (kd i) (XI i hi) (Bt i hi)
     have:=hp.2 p ops[p] (kd p) GQ (XI p (by omega)) (Bt p (by omega))
     simp only[Nat.zero_add]at this
     refine eP this (λh=>h) λhap x y hx hy => ?_
     rw[Array.getElem?_eq_getElem (by omega)]at hx hy
     cases hx
     cases hy
     exact hap
    exact UR (κ:=κd) hC d1 ops.size _ (λp i h1 h2 _=>kI p i h1 h2) (by simp) (by rw[pB]; simp) z0G hId (hR.mono hx) rfl (by rw[pB]; exact vF) λa' κ' e1 e2 e3 e4 e5=>hQ a' κ' e1 e2 (hx.trans e3) e4 e5
   ·simp only[FM,Bool.and_eq_true]at hd
    obtain⟨⟨⟨d1,d0⟩,d2⟩,d3⟩:=hd
    rw[g3,List.reverse_reverse]at d0 d2
    have cH:∀ i,i<ops.size->kd i<=2:=λi hi=>Nat.le_of_ble_eq_true (List.all_eq_true.1 d0 _ (List.mem_of_getElem? (Bt i hi)))
    have kI:∀ p i,p<i->i<ops.size->ordered (xg ops.toList []) p i=true\/z16 ops kd p i:=by
     intro p i GQ hi
     have hp:=mO ops.toList (Ua ops.toList ks) 0 [] d2 i ops[i] (kd3 kd ops[i] i) (XI i hi) (tE (XI i hi) (Bt i hi))
     have:=hp.2 p ops[p] (kd3 kd ops[p] p) GQ (XI p (by omega)) (tE (XI p (by omega)) (Bt p (by omega)))
     simp only[Nat.zero_add]at this
     refine eP this (λh=>h) λhap x y hx hy => ?_
     rw[Array.getElem?_eq_getElem (by omega)]at hx hy
     cases hx
     cases hy
     exact hap
    have rO:∀ p j,p<ops.size->dL ops p->j<ops.size->ordered (xg ops.toList []) p j=true->∀ q,q<ops.size->dL ops q->ordered (xg ops.toList []) q j=true:=by
     intro p j hp hap hj ho q hq haq
     unfold BQ at d3
     have:=List.all_eq_true.1 d3 j (List.mem_range.2 (by simpa using hj))
     simp only[Bool.or_eq_true,Bool.not_eq_true',List.any_eq_false,List.all_eq_true]at this
     have hm:∀ r,dL ops r->r∈Vo ops.toList 0:=λr ⟨o,h1,h2⟩=>by
      have:=Ka (l:=ops.toList) (k:=0) (i:=r) (o:=o) (by rw[Array.getElem?_toList]; exact h1) h2
      rwa [Nat.zero_add]at this
     rcases this with h | h
     ·have:=h p (hm p hap); rw[ho]at this; exact absurd rfl this
     ·exact h q (hm q haq)
    by_cases hex:∃ q,q<ops.size/\dL ops q
    ·obtain⟨q,q1,q2⟩:=hex
     exact te (κ0:=κd) (κ:=κd) (a0:=a) hC d1 kI cH rO ops.size _ (Array.replicate ops.size false) [] (by simp) (by simp) (by rw[pB]; simp) z0G (λj hj h=>by rw[Ku j hj]at h; cases h)
      (λj hj h _=>by rw[Ku j hj]at h; cases h) (λe he=>by cases he) .nil ⟨q,q1,q2,Ku q q1⟩ hId (hR.mono hx) rfl (Ext.refl _) (λe he=>by cases he) (by rw[pB]; exact vF) (dT.refl _ _)
      λa' κ' e1 e2 e3 e4 e5=>hQ a' κ' e1 e2 (hx.trans e3) e4 e5
    ·exact UR (κ:=κd) hC d1 ops.size _ (λp i h1 h2 _=>(kI p i h1 h2).elim .inl λh=>.inr (Gi h (cH p (by omega)) (cH i h2) λhh=>hex ⟨p,by omega,hh.1⟩)) (by simp) (by rw[pB]; simp) z0G hId (hR.mono hx) rfl (by rw[pB]; exact vF) λa' κ' e1 e2 e3 e4 e5=>hQ a' κ' e1 e2 (hx.trans e3) e4 e5
   ·simp only[Lo,Bool.and_eq_true]at hd
    obtain⟨d1,d2⟩:=hd
    rw[r3,List.reverse_reverse]at d2
    let kr:Nat->RK:=λi=>rks.getD i (.z 0)
    have hrl:rks.length=ops.size:=by rw[Ko _ _ _ _ r1]; simp
    have zcO:rks=(List.range ops.size).map kr:=by
     apply List.ext_getElem?
     intro i
     by_cases hi:i<ops.size
     ·simp[kr,hi,List.getD,List.getElem?_eq_getElem (show i<rks.length by omega)]
     ·rw[List.getElem?_eq_none (by omega),List.getElem?_eq_none (by simp; omega)]
    have z3g:∀ i,i<ops.size->rks[i]? = some (kr i):=λi hi=>by simp[kr,List.getD,List.getElem?_eq_getElem (show i<rks.length by omega)]
    have z9b:=Xb (kd:=kr) _ _ _ _ r1 zcO
    have kI:∀ p i,p<i->i<ops.size->ordered (xg ops.toList []) p i=true\/z5j ops kr p i:=by
     intro p i GQ hi
     have hp:=mO ops.toList rks 0 [] d2 i ops[i] (kr i) (XI i hi) (z3g i hi)
     have:=hp.2 p ops[p] (kr p) GQ (XI p (by omega)) (z3g p (by omega))
     simp only[Nat.zero_add]at this
     refine eP this (λh=>h) λhap x y hx hy => ?_
     rw[Array.getElem?_eq_getElem (by omega)]at hx hy
     cases hx
     cases hy
     exact hap
    exact X1 (κ:=κd) (Stp:=λi s s'=>cL c n ops i s s' (kr i)) (In:=λp i=>z5j ops kr p i) (λi s s' h=>h.plain) (λp i hi s s1 s2 h1 h2=>Dw hi h1 h2) hC d1 ops.size _ (λp i h1 h2 _=>kI p i h1 h2) (by simp) (by rw[pB]; simp) z0G hId (hR.mono hx) rfl (by rw[pB]; exact z9b) λa' κ' e1 e2 e3 e4 e5=>hQ a' κ' e1 e2 (hx.trans e3) e4 e5
end
end Go.AM
namespace Go.AM
set_option linter.unusedSectionVars false
variable [vU] [J9]
def Hv(κ:KS):Ex->Exit->Prop
 | .normal,e=>e=.normal
 | .exit id,e=>e=.exit id
 | .ret,e=>e=.ret
 | .kM d,e=>∃ v,e=.panic [{ v,recovered:=false }]/\RD κ d v
section
variable {c:Ctx} {n:Nat}
def xo:Code->List (Nat×Code)
 | .seq a b=>xo a++xo b
 | .cond _ a b=>xo a++xo b
 | .block id (.loop b)=>[(id,b)]
 | .block _ a=>xo a
 | _=>[]
theorem Nu{ops:Array Oper}{draw:Bool}{fr:Fr}{kn:Kn}{st:St}{s':dr}(hk:vA kn fr.get)(h:(bQ c n ops draw fr kn st).leads s'):vA s'.kn s'.fr.get:=by
 simp only[bQ,T.zG]at h
 obtain⟨s1,h1,h2⟩:=h
 obtain⟨ks,g1,g2,g3⟩:=eS ops.toList 0 ⟨fr,kn,st,[],[]⟩ s1 (λj=>.inl (by simp)) hk h1
 cases hd:(!draw||tH ops s1.ks.reverse s1.bk.reverse)with
 | false=>rw[hd]at h2; exact h2.elim
 | true=>rw[hd,cond_true]at h2; cases h2; exact g2
theorem cr(f:F):vA [] f:=by nofun
theorem Hc{id:Nat}{b:Code}(hb:∀ b',b≠.loop b'):xo (.block id b)=xo b:=by
 cases b<;>first | rfl | exact absurd rfl (hb _)
end
end Go.AM
namespace Go.AM
set_option linter.unusedSectionVars false
variable [vU] [J9]
section
variable {c:Ctx} {n:Nat}
theorem JR:∀ (ds:List D) (i s:Nat),(wu ds i).get s=if i<=s then ds[s-i]? else none
 | [],i,s=>by simp[wu,Fr.get]
 | d::r,i,s=>by
  simp only[wu,Fr.get]
  by_cases h:i=s
  ·subst h; simp
  ·rw[lW h,cond_false,JR r (i+1) s]
   grind
theorem Qp{κ:KS}{args:List D}{zA:List Value}(h:qH κ args zA)(hn:args.length<=n) :
  Rel κ n (wu args 0).get { tmps:=zA.toArray++Array.replicate (n-zA.toArray.size) undef,defers:=J9.df }:=by
 have hl:=h.1
 refine⟨by grind,rfl,λs d hd => ?_⟩
 rw[JR]at hd
 obtain⟨v,h1,h2⟩:=h.get hd
 grind
theorem sW{κ:KS}{fr:Fr}{a:Act}(hI:Inv κ)(hR:Rel κ n fr.get a):∀ (rvs:List ResultVar) (ds:List D),(bp c fr κ.st rvs).leads ds ->
  ∃ vs:List Value,Sem.run c.P (rvs.mapM λr=>match r with | ResultVar.tmp t=>(Pure.pure (a.tmps.getD t undef):Sem Value) | ResultVar.cell p t=>do loadVar t (<- asAddr (a.tmps.getD p undef))) κ.w=Result.ok vs κ.w/\qH κ ds vs
 | [],ds,h=>by cases h; exact⟨[],by simp,.nil⟩
 | .tmp t::r,ds,h=>by
  simp only[bp]at h
  split at h
  ·rename_i d hd
   simp only[T.zG]at h
   obtain⟨l,hl,rfl⟩:=h
   obtain⟨v,h1,h2⟩:=hR.get t d hd
   obtain⟨vs,h3,h4⟩:=sW hI hR r l hl
   refine⟨v::vs,?_,.cons h2 h4⟩
   simp only[List.mapM_cons,Sem.run_bind,Sem.run_pure,Result.andThen_ok,h3]
   simp[h1]
  ·exact h.elim
 | .cell p t::r,ds,h=>by
  simp only[bp]at h
  split at h
  ·rename_i b off hd
   split at h
   ·rename_i d hb
    split at h
    ·rename_i x hx
     simp only[T.zG]at h
     obtain⟨l,hl,rfl⟩:=h
     obtain⟨v,h1,h2⟩:=hR.get p _ hd
     obtain⟨vs,h3,h4⟩:=sW hI hR r l hl
     cases h2 with
     | ptr _ _ blk m d1 EB hp =>
      obtain⟨iQ,n',cs,T,g1,g2,g3,g4,g5⟩:=hI.blk b _ hb
      rw[hp]at g1
      cases g1
      obtain⟨u,e1,e2⟩:=U5 (c:=c) (blk:=blk) 0 hx g4 g5.1 (λj v hj=>by rw[pT g2]; simpa using hj)
      rw[Nat.zero_add]at e1
      refine⟨u::vs,?_,.cons e2 h4⟩
      have hA:(asAddr (a.tmps.getD p undef)).run c.P κ.w=.ok ⟨blk,off,none⟩ κ.w:=by simp[h1,asAddr]
      simp only[List.mapM_cons,Sem.run_bind,hA,Result.andThen_ok,e1,h3,Sem.run_pure]
    ·exact h.elim
   ·exact h.elim
  ·exact h.elim
def Rj:List Value->Value
 | [v]=>v
 | vs=>.tuple vs.toArray
theorem lL{κ:KS}{fr:Fr}{a:Act}{fn:Func}{ds:List D}(hI:Inv κ)(hR:Rel κ n fr.get a)(h:(bp c fr κ.st fn.results.toList).leads ds) :
  ∃ vs:List Value,(results fn a.tmps).run c.P κ.w=.ok (Rj vs) κ.w/\qH κ ds vs:=by
 obtain⟨vs,h1,h2⟩:=sW hI hR _ _ h
 simp only[results,Array.mapM_eq_mapM_toList,Sem.run_bind,Sem.run_map]
 have key:∀ r:Result (List Value),r=.ok vs κ.w->((r.andThen λa w'=>.ok a.toArray w').andThen λa w'=>(Pure.pure (if h:a.size=1 then a[0]else .tuple a):Sem Value).run c.P w')=.ok (Rj vs) κ.w:=by
  rintro _ rfl
  match vs with
  | []=>rfl
  | [v]=>rfl
  | _::_::_=>rfl
 grind
theorem tD{κ:KS}{ds:List D}{vs:List Value}(h:qH κ ds vs):RD κ (yn ds) (Rj vs):=by
 match ds,vs,h with
 | [],vs,h=>rw[h.qf]; exact .yH [] [] rfl (λi h=>absurd h (Nat.not_lt_zero i))
 | [d],vs,h =>
  obtain⟨v,r,rfl,h1,h2⟩:=h.cons_inv
  rw[h2.qf]
  exact h1
 | d::e::r,vs,h =>
  obtain⟨v,us,rfl,h1,h2⟩:=h.cons_inv
  obtain⟨u,ws,rfl,h3,h4⟩:=h2.cons_inv
  exact .yH _ _ h.1 h.2
def KS.cut(κ:KS)(m:Nat):KS:={ κ with ph:=κ.ph.take m,st:=κ.st.take m }
theorem qe{α:Type}{l:List α}{m i:Nat}{a:α}(h:l[i]? = some a)(hi:i<m):(l.take m)[i]? = some a:=by grind
theorem gO{α:Type}{l:List α}{m i:Nat}{a:α}(h:(l.take m)[i]? = some a):l[i]? = some a/\i<m:=by grind
theorem dn{κ:KS}{m:Nat}{d:D}{v:Value}(h:RD κ d v)(hd:vM m d=true):RD (κ.cut m) d v:=by
 cases h with
 | zI τ y cs h=>exact .zI τ y cs h
 | xi e a=>exact .xi e a
 | tight e l ne blk off f vT wm h hc=>exact .tight e l ne blk off f vT wm h hc
 | xy=>exact .xy
 | y9=>exact .y9
 | qX=>exact .qX
 | vW=>exact .vW
 | vX=>exact .vX
 | rZ v h=>exact .rZ v h
 | cj T=>exact .cj T
 | cq b T d hb=>exact .cq b T d (qe hb (Nat.le_of_ble_eq_true hd))
 | cE b T blk n d hb h=>exact .cE b T blk n d (qe hb (Nat.le_of_ble_eq_true hd)) (qe h (Nat.le_of_ble_eq_true hd))
 | ptr b off blk n d hb h=>exact .ptr b off blk n d (qe hb (Nat.le_of_ble_eq_true hd)) (qe h (Nat.le_of_ble_eq_true hd))
 | qU τ y cs blk off wm h hc=>exact .qU τ y cs blk off wm h hc
 | uk b qB e idx off blk o hb h =>
  have qy:b<m:=Nat.le_of_ble_eq_true hd
  refine .uk b qB e idx off blk o (eP hb (λh=>qe h qy) ?_) λxs hx hi => ?_
  ·rintro⟨v0,e0,x0,h1,h2⟩; exact⟨v0,e0,x0,qe h1 qy,h2⟩
  ·obtain⟨n,h1,h2⟩:=h xs (gO hx).1 hi
   exact⟨n,qe h1 qy,h2⟩
 | ms b qB e off len cap a hb vc ha nN h =>
  have qy:b<m:=Nat.le_of_ble_eq_true hd
  refine .ms b qB e off len cap a (eP hb (λh=>qe h qy) ?_) vc ha nN λxs hx => ?_
  ·rintro⟨v0,e0,x0,h1,h2⟩; exact⟨v0,e0,x0,qe h1 qy,h2⟩
  ·obtain⟨h1,h2⟩:=h xs (gO hx).1
   refine⟨h1,eP h2 ?_ ?_⟩
   ·rintro⟨g1,g2,g3,g4⟩; exact⟨g1,g2,g3,qe g4 qy⟩
   ·rintro⟨blk,n,o,E4,g1,g2⟩; exact⟨blk,n,o,E4,qe g1 qy,g2⟩
 | qN=>cases hd
 | agg=>cases hd
 | yH=>cases hd
 | iface=>cases hd
theorem EM{κ:KS}{m:Nat}{d:D}{v:Value}(h:RD κ d v)(hd:gZ m d=true):RD (κ.cut m) d v:=by
 cases d with
 | qN f l =>
  cases h with
  | qN _ _ vs hl hh =>
   simp only[gZ,List.all_eq_true]at hd
   exact .qN f l vs hl λi h1 h2=>dn (hh i h1 h2) (hd _ (List.getElem_mem h1))
 | agg l =>
  cases h with
  | agg _ vs hl ho hh =>
   simp only[gZ,List.all_eq_true]at hd
   exact .agg l vs hl ho λi h1 h2=>dn (hh i h1 h2) (hd _ (List.getElem_mem h1))
 | yH l=>cases hd
 | iface t d =>
  cases h with
  | iface _ _ v h=>exact .iface t _ v (dn h hd)
 | _=>exact dn h hd
theorem L3{κ:KS}{m:Nat}{l:List D}{vs:List Value}(h:qH κ l vs)(hd:∀ d∈l,gZ m d=true):qH (κ.cut m) l vs:=⟨h.1,λi h1 h2=>EM (h.2 i h1 h2) (hd _ (List.getElem_mem h1))⟩
theorem Gm{m:Nat}{d:D}(h:gZ m d=true):∀ x∈qg d,gZ m x=true:=by
 have GX:∀ (τ:Ty) (x:den τ),∀ y∈flat τ x,gZ m y=true:=by
  intro τ x y hy
  have:∃ σ z,y=.zI σ z:=by
   induction τ with
   | cons a b ia ib =>
    simp only[flat]at hy
    grind
   | nil=>simp[flat]at hy
   | expr=>simp[flat]at hy; rcases hy with rfl | rfl | rfl | rfl | rfl | rfl<;>exact⟨_,_,rfl⟩
   | _=>simp[flat]at hy; subst hy; exact⟨_,_,rfl⟩
  obtain⟨σ,z,rfl⟩:=this
  rfl
 cases d with
 | zI τ x=>exact GX τ x
 | agg l =>
  intro x hx
  simp only[gZ,List.all_eq_true]at h
  have:=h x hx
  cases x<;>first | exact this | cases this
 | yH l=>cases h
 | _=>intro x hx; simp[qg]at hx; subst hx; exact h
theorem z1a{κ:KS}{m:Nat}(hI:Inv κ)(hc:∀ x∈κ.st.take m,Yq m x=true):Inv (κ.cut m):=by
 refine⟨by simp[KS.cut,hI.len],hI.yr,λb blk n h=>hI.apart b blk n (gO h).1,λb b' blk n n' h h'=>hI.inj b b' blk n n' (gO h).1 (gO h').1,λb x h => ?_,hI.gl⟩
 obtain⟨h1,h2⟩:=gO h
 have hb:=hI.blk b x h1
 have hcx:=hc x (List.mem_of_getElem? h)
 cases x with
 | dead=>trivial
 | var d =>
  obtain⟨blk,n,cs,t,g1,g2,g3,g4,g5⟩:=hb
  exact⟨blk,n,cs,t,qe g1 h2,g2,g3,L3 g4 (Gm hcx),g5⟩
 | arr qB e xs =>
  obtain⟨h0,hb⟩:=hb
  refine⟨h0,eP hb (λh=>⟨h.1,qe h.2 h2⟩) ?_⟩
  rintro⟨blk,n,cs,t,g1,g2⟩
  exact⟨blk,n,cs,t,qe g1 h2,g2⟩
end
end Go.AM
namespace Go.AM
set_option linter.unusedSectionVars false
variable [vU]
section
variable {c:Ctx}
theorem wR{P:Program}{f:Nat}{fn:Func}{args:Array Value}(hf:P.funcs[f]? = some fn) (hn:(fn.name == "runtime.NumGoroutine")=false) (hb:fn.body.isNone=false) (w:World) :
  (callFunc f args).run P w=.ok (.enter f args) w:=by
 simp only[callFunc,Sem.run_bind,run_program,Result.andThen_ok,hf,hn,hb,Bool.false_eq_true,if_false,Sem.run_pure]
theorem LR{κ κe:KS}(hI:Inv κ)(xM:κ.st=[])(hIe:Inv κe)(hx:Ext κ κe):Inv (κe.bare (NH κe))/\Ext κ (κe.bare (NH κe)):=by
 have qy:∀ k,NH κe k->k<κe.w.heap.size:=by
  rintro k (hk | ⟨b,n,hk⟩)
  ·exact hIe.yr k hk
  ·exact(hIe.apart b k n hk).1
 refine⟨V0 hIe (λ_ h=>.inl h) qy,hx.os,hx.tape,hx.output,hx.size,λk hk=>⟨.inl (hx.same k hk).1,(hx.same k hk).2⟩,?_,λb blk n h=>by simp[KS.bare]at h,λb d h=>by grind,
  λb v0 e xs h=>by grind,λb h=>by grind,by grind,hx.frame⟩
 rintro k (hk | ⟨b,n,hk⟩)
 ·exact hx.fresh k hk
 ·rcases hx.Tz b k n hk with h | h
  ·grind
  ·grind
end
end Go.AM
namespace Go.AM
set_option linter.unusedSectionVars false
variable [vU] [J9]
open Go.RowKit
def z0l(s:Nat)(fr:Fr)(st:St):T (Fr×St):=match fr.get s with
 | some (.ms b qB e off len)=>match st[b]? with
  | some (.arr jK e' xs)=>match(wP (a:=.sl e') (b:=.sl e) xs:Option (List (den e)))with
   | some ys=>.zM (qB=jK) (.ret ((s,some (.zI (.sl e) ((ys.take (off+len)).drop off)))::fr,st.set b .dead))
   | none=>.fail
  | _=>.fail
 | _=>.ret (fr,st)
def z2u(j i:Nat)(fr:Fr)(st:St):T (Fr×St):=match st[j]? with
 | some (.var (.agg ds))=>match ds[i]? with
  | some (.ms b qB e off len)=>match st[b]? with
   | some (.arr jK e' xs)=>match(wP (a:=.sl e') (b:=.sl e) xs:Option (List (den e)))with
    | some ys=>.zM (qB=jK) (.ret (fr,(st.set b .dead).set j (.var (.agg (ds.set i (.zI (.sl e) ((ys.take (off+len)).drop off)))))))
    | none=>.fail
   | _=>.fail
  | _=>.ret (fr,st)
 | _=>.ret (fr,st)
def z2l(s:Nat)(fr:Fr)(st:St):T (Fr×St):=bif Nat.ble 1000000 s then z2u ((s-1000000) / 1000) ((s-1000000) % 1000) fr st else z0l s fr st
def Tk:List Nat->Fr->St->T (Fr×St)
 | [],fr,st=>.ret (fr,st)
 | s::r,fr,st=>(z2l s fr st).bind λx=>Tk r x.1 x.2
section
variable {c:Ctx} {κ:KS} {n:Nat}
theorem z8I{b qB off len:Nat}{e:Ty}{xs:List (den e)}{v:Value}(hI:Inv κ)(h:RD κ (.ms b qB e off len) v)(hb:κ.st[b]? = some (.arr qB e xs)){Xn:Nat->Prop}(h1:∀ k,κ.ok k->Xn k)(h2:∀ k n,κ.ph[b]? = some (some (k,n))->Xn k) :
  Rc κ.w Xn (.sl e) ((xs.take (off+len)).drop off) [v]:=by
 obtain⟨Gb,_⟩:=EH hI h hb
 obtain⟨a,cap,f,hve,vc,hn,g1,g2⟩:=Gb.ex
 have PC:∀ blk o:Nat,v=.slice (some ⟨blk,o,none⟩) ((xs.take (off+len)).drop off).length cap->Xn blk:=by
  intro blk o he
  cases h with
  | ms _ _ _ _ _ E4 a' hold z9x ha nN hm =>
   obtain⟨_,hm⟩:=hm xs hb
   grind
 rw[hve]
 cases a with
 | none=>obtain⟨k1,k2⟩:=hn rfl; rw[k1,k2]; exact .fG e none
 | some p =>
  rcases g2 p rfl with⟨k1,k2⟩ | ⟨hp,_,hc⟩
  ·rw[k1,k2]; exact .fG e _
  ·obtain⟨blk,o,sp⟩:=p
   subst hp
   exact .sl e _ blk o cap f (PC blk o hve) vc (λi hi=>(g1 i hi).mono λk hk=>⟨h1 k hk,rfl⟩) hc
theorem F1{b qB:Nat}{e:Ty}{xs:List (den e)}(hb:κ.st[b]? = some (.arr qB e xs))(hI:Inv κ):∃ κ':KS,κ'.w=κ.w/\κ'.st=κ.st.set b .dead/\Inv κ'/\Ext κ κ' /\
  ∀ (off len:Nat) (v:Value),RD κ (.ms b qB e off len) v->RD κ' (.zI (.sl e) ((xs.take (off+len)).drop off)) v:=by
 have qy:b<κ.st.length:=(List.getElem?_eq_some_iff.1 hb).1
 let κ':KS:=⟨κ.w,λk=>κ.ok k\/∃ n,κ.ph[b]? = some (some (k,n)),κ.ph.set b none,κ.st.set b .dead⟩
 have xM:∀ i,i≠b->κ'.st[i]? = κ.st[i]? := λi hi=>by show(κ.st.set b .dead)[i]? = _; rw[List.getElem?_set_ne (λe=>hi e.symm)]
 have KE:∀ i,i≠b->κ'.ph[i]? = κ.ph[i]? := λi hi=>by show(κ.ph.set b none)[i]? = _; rw[List.getElem?_set_ne (λe=>hi e.symm)]
 have z1X:∀ (i blk m:Nat),κ'.ph[i]? = some (some (blk,m))->i≠b/\κ.ph[i]? = some (some (blk,m)):=by
  grind
 have hx:Ext κ κ':=by
  refine⟨rfl,rfl,rfl,Nat.le_refl _,λk hk=>⟨.inl hk,rfl⟩,?_,λi blk m hi=>.inl (z1X i blk m hi).2,?_,?_,?_,by show _<=(κ.st.set b .dead).length; simp,λ_ _ _=>rfl⟩
  ·grind
  ·grind
  ·grind
  ·grind
 have TD:Inv κ':=by
  refine⟨by show(κ.ph.set b none).length=(κ.st.set b .dead).length; simp[hI.len],?_,?_,?_,?_,hI.gl.mono hx.same⟩
  ·rintro k (hk | ⟨m,hk⟩)
   ·exact hI.yr k hk
   ·exact(hI.apart b k m hk).1
  ·intro i blk m hi
   obtain⟨hib,J6⟩:=z1X i blk m hi
   obtain⟨g1,g2⟩:=hI.apart i blk m J6
   refine⟨g1,?_⟩
   rintro(hk | ⟨m',hk⟩)
   ·exact g2 hk
   ·exact hib (hI.inj i b blk m m' J6 hk)
  ·intro i i' blk m m' hi J6
   exact hI.inj i i' blk m m' (z1X i blk m hi).2 (z1X i' blk m' J6).2
  ·intro i B hB
   by_cases hib:i=b
   ·subst hib
    have:(κ.st.set i .dead)[i]? = some B:=hB
    rw[List.getElem?_set_self qy]at this
    cases this
    trivial
   ·rw[xM i hib]at hB
    exact(hI.blk i B hB).mono hx (KE i hib) λ_ _ _=>rfl
 exact⟨κ',rfl,rfl,TD,hx,λoff len v hd=>RD.mg rfl (z8I hI hd hb (λk hk=>.inl hk) λk m hk=>.inr ⟨m,hk⟩)⟩
theorem z0f{s:Nat}{fr:Fr}{a:Act}{r:Fr×St}(h:(z0l s fr κ.st).leads r)(hI:Inv κ)(hR:Rel κ n fr.get a):∃ κ':KS,κ'.w=κ.w/\κ'.st=r.2/\Inv κ'/\Ext κ κ'/\Rel κ' n r.1.get a:=by
 unfold z0l at h
 split at h
 ·rename_i b qB e off len hs
  split at h
  ·rename_i jK e' xs hb
   split at h
   ·rename_i ys hy
    obtain⟨he,hx⟩:=qi hy
    obtain⟨rfl,h⟩:=h
    cases h
    obtain⟨v,hv,hd⟩:=hR.get s _ hs
    obtain⟨κ',e1,e2,TD,hx,hk⟩:=F1 hb hI
    refine⟨κ',e1,e2,TD,hx,hR.size,hR.defers,λt d kR => ?_⟩
    simp only[Fr.get]at kR
    cases ht:Nat.beq s t with
    | true =>
     rw[<- Nat.eq_of_beq_eq_true ht]
     grind
    | false =>
     rw[ht,cond_false]at kR
     obtain⟨u,g1,g2⟩:=hR.get t d kR
     exact⟨u,g1,g2.mono hx⟩
   ·exact h.elim
  ·exact h.elim
 ·cases h; exact⟨κ,rfl,rfl,hI,Ext.refl κ,hR⟩
theorem N3{ds:List D}{i b qB off len:Nat}{e:Ty}{d':D}(hd:ds[i]? = some (.ms b qB e off len))(hn:gT [d']=none){T:Nat}(h:gT (ds.set i d')=some T):gT ds=some T:=by
 cases ds with
 | nil=>cases hd
 | cons x r =>
  cases i with
  | zero =>
   have:gT (d'::r)=gT [d']:=by cases d'<;>rfl
   grind
  | succ i =>
   have:∀ r':List D,gT (x::r')=gT [x]:=by intro r'; cases x<;>rfl
   grind
theorem z0R{j i:Nat}{fr:Fr}{a:Act}{r:Fr×St}(h:(z2u j i fr κ.st).leads r)(hI:Inv κ)(hR:Rel κ n fr.get a):∃ κ':KS,κ'.w=κ.w/\κ'.st=r.2/\Inv κ'/\Ext κ κ'/\Rel κ' n r.1.get a:=by
 unfold z2u at h
 split at h
 ·rename_i ds hj
  split at h
  ·rename_i b qB e off len hi
   split at h
   ·rename_i jK e' xs hb
    split at h
    ·rename_i ys hy
     obtain⟨he,hx⟩:=qi hy
     cases he
     cases hx
     obtain⟨rfl,h⟩:=h
     cases h
     obtain⟨κ1,e1,e2,Qs,hx1,hk⟩:=F1 hb hI
     have hjb:j≠b:=λq=>by subst q; rw[hb]at hj; cases hj
     have hj1:κ1.st[j]? = some (.var (.agg ds)):=by rw[e2,List.getElem?_set_ne (λq=>hjb q.symm)]; exact hj
     have NA:j<κ1.st.length:=(List.getElem?_eq_some_iff.1 hj1).1
     let d':D:=.zI (.sl e) ((xs.take (off+len)).drop off)
     let κ2:KS:={ κ1 with st:=κ1.st.set j (.var (.agg (ds.set i d'))) }
     have xM:∀ k,k≠j->κ2.st[k]? = κ1.st[k]? := λk hk=>by show(κ1.st.set j _)[k]? = _; rw[List.getElem?_set_ne (λq=>hk q.symm)]
     have zft:κ2.st[j]? = some (.var (.agg (ds.set i d'))):=by show(κ1.st.set j _)[j]? = _; rw[List.getElem?_set_self NA]
     have Df:Ext κ1 κ2:=by
      refine⟨rfl,rfl,rfl,Nat.le_refl _,λk hk=>⟨hk,rfl⟩,λk hk=>.inl hk,λk blk m hk=>.inl hk,?_,?_,?_,by show _<=(κ1.st.set j _).length; simp,λ_ _ _=>rfl⟩
      ·grind
      ·grind
      ·grind
     have hI2:Inv κ2:=by
      refine⟨by show κ1.ph.length=(κ1.st.set j _).length; simp[Qs.len],Qs.yr,Qs.apart,Qs.inj,?_,Qs.gl⟩
      intro k B hB
      by_cases q:k=j
      ·subst q
       rw[zft]at hB
       cases hB
       obtain⟨blk,m,cs,t,g1,g2,g3,g4,g5,g6⟩:=hI.blk k _ hj
       obtain⟨iQ,m',bZ,t',p1,p2,p3,p4,p5,p6⟩:=Qs.blk k _ hj1
       have KE:κ1.ph[k]? = κ.ph[k]? := (hx1.var k _ hj).2
       rw[KE,g1]at p1
       cases p1
       rw[e1,g2]at p2
       cases p2
       refine⟨blk,m,cs,t,KE.trans g1,by show κ1.w.heap[blk]? = _; rw[e1]; exact g2,g3,?_,?_,λT hT=>g6 T (N3 hi rfl hT)⟩
       ·have p4':qH κ2 ds cs.toList:=qH.mono Df p4
        refine⟨by show(ds.set i d').length=_; rw[List.length_set]; exact p4'.1,λk' h1 h2 => ?_⟩
        have W8:k'<(ds.set i d').length:=h1
        rw[List.length_set]at W8
        show RD κ2 ((ds.set i d')[k']) _
        by_cases q:i=k'
        ·subst q
         have hdi:ds[i]'W8=.ms b qB e off len:=Option.some.inj ((List.getElem?_eq_getElem W8).symm.trans hi)
         have:=g4.2 i W8 h2
         have Bo:(qg (D.agg ds))[i]'W8=.ms b qB e off len:=hdi
         rw[Bo]at this
         have e3:(ds.set i d')[i]'h1=d':=List.getElem_set_self _
         rw[e3]
         exact(hk _ _ _ this).mono Df
        ·have e3:(ds.set i d')[k']'h1=ds[k']'W8:=List.getElem_set_ne q _
         rw[e3]
         exact p4'.2 k' W8 h2
       ·intro x hx
        rcases List.mem_or_eq_of_mem_set hx with hx | rfl
        ·exact g5 x hx
        ·rfl
      ·rw[xM k q]at hB
       exact(Qs.blk k B hB).mono Df rfl λ_ _ _=>rfl
     refine⟨κ2,e1,by show κ1.st.set j _=_; rw[e2],hI2,hx1.trans Df,hR.size,hR.defers,λt d kR => ?_⟩
     obtain⟨u,q1,q2⟩:=hR.get t d kR
     exact⟨u,q1,(q2.mono hx1).mono Df⟩
    ·exact h.elim
   ·exact h.elim
  ·cases h; exact⟨κ,rfl,rfl,hI,Ext.refl κ,hR⟩
 ·cases h; exact⟨κ,rfl,rfl,hI,Ext.refl κ,hR⟩
theorem z01{s:Nat}{fr:Fr}{a:Act}{r:Fr×St}(h:(z2l s fr κ.st).leads r)(hI:Inv κ)(hR:Rel κ n fr.get a):∃ κ':KS,κ'.w=κ.w/\κ'.st=r.2/\Inv κ'/\Ext κ κ'/\Rel κ' n r.1.get a:=by
 unfold z2l at h
 cases hb:Nat.ble 1000000 s with
 | true=>rw[hb,cond_true]at h; exact z0R h hI hR
 | false=>rw[hb,cond_false]at h; exact z0f h hI hR
theorem Rd:∀ (l:List Nat) {fr:Fr} {κ:KS} {a:Act} {r:Fr×St},(Tk l fr κ.st).leads r->Inv κ->Rel κ n fr.get a->∃ κ':KS,κ'.w=κ.w/\κ'.st=r.2/\Inv κ'/\Ext κ κ'/\Rel κ' n r.1.get a
 | [],fr,κ,a,r,h,hI,hR=>by cases h; exact⟨κ,rfl,rfl,hI,Ext.refl κ,hR⟩
 | s::l,fr,κ,a,r,h,hI,hR=>by
  simp only[Tk,T.zG]at h
  obtain⟨x,h1,h2⟩:=h
  obtain⟨κ1,e1,e2,e3,e4,e5⟩:=z01 h1 hI hR
  rw[<- e2]at h2
  obtain⟨κ2,g1,g2,g3,g4,g5⟩:=Rd l h2 e3 e5
  exact⟨κ2,g1.trans e1,g2,g3,e4.trans g4,g5⟩
end
end Go.AM