/-
  The abstract machine, part C: texts of our own, the same for each claim.
-/
import Derived.Test.YthhgaidlooddpaaGreatDoorAmB
import Derived.Deep.LoopGhost
set_option linter.unusedVariables false
namespace Go.AM
set_option linter.unusedSectionVars false
variable [ur]
abbrev F:=Nat->Option D
def qt(f:F):Operand->Option D
 | .tmp t=>f t
 | .const v=>WG v
 | .global _=>none
 | .func g=>bif Nat.blt g 1000000 then some (.xk g [])else none
theorem bq(fr:Fr):jc fr=qt fr.get:=by rfl
def y7(f:F)(dst:Option Nat)(d:Option D):F:=match dst with
 | some t=>λs=>if s=t then d else f s
 | none=>f
theorem nu{a b:Nat}(h:a≠b):Nat.beq a b=false:=by
 cases hb:Nat.beq a b with
 | false=>rfl
 | true=>exact absurd (Nat.eq_of_beq_eq_true hb) h
theorem nG(fr:Fr)(dst:Option Nat)(d:Option D):(fr.put dst d).get=y7 fr.get dst d:=by
 cases dst with
 | none=>rfl
 | some t =>
  funext s
  simp only[Fr.put,Fr.get,y7]
  by_cases h:s=t
  ·subst h; simp
  ·rw[if_neg h,nu (λe=>h e.symm),cond_false]
section
variable (c:Ctx) (n:Nat) (ops:Array Oper)
def wC(f:F)(o:Oper):Option Bool:=match o.guard with
 | none=>some true
 | some (j,w)=>match jb ops j with
  | none=>none
  | some t=>match f t with
   | some (.zC .bool b)=>some (b==w)
   | some (.gz [])=>some false
   | _=>none
def gR(i:Nat)(s s':F×St)(k:Nat):Prop:=∃ o,ops[i]? = some o/\uk n o.dst=true /\
 ((wC ops s.1 o=some true/\k=(qN c (qt s.1) o).kind/\∃ d zx,(zR (qN c (qt s.1) o) s.2).leads (d,zx)/\s'=(y7 s.1 o.dst d,zx)) \/
  (wC ops s.1 o=some false/\k=0/\s'=(y7 s.1 o.dst (some Nv),s.2)))
def Oa:List Nat->F×St->F×St->List Nat->Prop
 | [],s,s',ks=>s'=s/\ks=[]
 | i::l,s,s',ks=>∃ s1 k Fs,ks=k::Fs/\gR c n ops i s s1 k/\Oa l s1 s' Fs
end
section
variable {c:Ctx} {n:Nat} {ops:Array Oper}
def vW(kn:Kn)(f:F):Prop:=∀ t b,kn.get t=some b->f t=some (.zC .bool b)
theorem Uw(t:Nat)(b:Option Bool)(kn:Kn)(s:Nat):Kn.get ((t,b)::kn) s=if s=t then b else kn.get s:=by
 simp only[Kn.get]
 by_cases h:s=t
 ·subst h; simp
 ·rw[if_neg h,nu (λe=>h e.symm),cond_false]
theorem cz{kn:Kn}{f:F}(h:vW kn f){x:Operand}{b:Bool}(hx:dH kn x=some b):qt f x=some (.zC .bool b):=by
 unfold dH at hx
 split at hx
 ·exact h _ _ hx
 ·cases hx; rfl
 ·cases hx
theorem DV{kn:Kn}{fr:Fr}{o:Oper}(hk:vW kn fr.get){st:St}{r:Option D×St}(h:(zR (nW c kn fr o) st).leads r) :
  (zR (qN c (qt fr.get) o) st).leads r/\(nW c kn fr o).kind=(qN c (qt fr.get) o).kind/\∀ b,Kc kn o.op=some b->r.1=some (.zC .bool b):=by
 obtain⟨dst,op,ty,pos,after,guard⟩:=o
 rw[<- bq]
 cases op with
 | pick x a b =>
  simp only[nW]at h ⊢
  cases hx:dH kn x with
  | none =>
   rw[hx]at h
   refine⟨h,rfl,λb' hb => ?_⟩
   simp[Kc,hx]at hb
  | some bx =>
   rw[hx]at h
   have hval:=cz hk hx
   rw[<- bq]at hval
   have zbO:qN c (jc fr) ⟨dst,.pick x a b,ty,pos,after,guard⟩=.val (.ite bx (.ret (jc fr a)) (.ret (jc fr b))):=by
    simp only[qN,I7,hval,asBool]
   rw[zbO]
   obtain⟨d,zx⟩:=r
   cases bx with
   | true =>
    simp only[vC,T.leads]at h ⊢
    refine⟨⟨.inl ⟨by first | rfl | trivial,h.1⟩,h.2⟩,rfl,λb' hb => ?_⟩
    simp only[Kc,hx]at hb
    have:=cz hk hb
    rw[<- bq]at this
    grind
   | false =>
    simp only[vC,T.leads]at h ⊢
    refine⟨⟨.inr ⟨by first | rfl | trivial,h.1⟩,h.2⟩,rfl,λb' hb => ?_⟩
    simp only[Kc,hx]at hb
    have:=cz hk hb
    rw[<- bq]at this
    grind
 | move x =>
  refine⟨h,rfl,λb hb => ?_⟩
  obtain⟨d,zx⟩:=r
  simp only[nW,qN,vC,T.leads]at h
  have:=cz hk (show dH kn x=some b from hb)
  rw[<- bq]at this
  grind
 | assign x =>
  refine⟨h,rfl,λb hb => ?_⟩
  obtain⟨d,zx⟩:=r
  simp only[nW,qN,vC,T.leads]at h
  have:=cz hk (show dH kn x=some b from hb)
  rw[<- bq]at this
  grind
 | _=>exact⟨h,rfl,λb hb=>by simp[Kc]at hb⟩
theorem IP{kn:Kn}{f:F}(hk:vW kn f){dst:Option Nat}{d:Option D}{b:Option Bool}(hb:∀ b',b=some b'->d=some (.zC .bool b')):vW (Kq kn dst b) (y7 f dst d):=by
 cases dst with
 | none=>exact hk
 | some t =>
  intro s b' h
  simp only[Kq,Uw]at h
  simp only[y7]
  split at h
  ·grind
  ·rename_i e; rw[if_neg e]; exact hk s b' h
theorem sT{kn:Kn}{f:F}(hk:vW kn f){t:Nat}{b:Bool}(hb:f t=some (.zC .bool b)):vW ((t,some b)::kn) f:=by
 intro s b' h
 rw[Uw]at h
 split at h
 ·grind
 ·exact hk s b' h
theorem JP{o:Oper}{s s':dU}(hk:vW s.kn s.fr.get)(h:(bn c n o s).leads s') :
  uk n o.dst=true/\(∃ d zx,(zR (qN c (qt s.fr.get) o) s.st).leads (d,zx)/\s'.fr.get=y7 s.fr.get o.dst d/\s'.st=zx)/\vW s'.kn s'.fr.get/\s'.ks=(qN c (qt s.fr.get) o).kind::s.ks:=by
 unfold bn at h
 cases hd:uk n o.dst with
 | false=>rw[hd]at h; exact h.elim
 | true =>
  rw[hd,cond_true]at h
  simp only[T.zM]at h
  obtain⟨⟨d,zx⟩,h1,rfl⟩:=h
  obtain⟨h2,h3,h4⟩:=DV hk h1
  refine⟨rfl,⟨d,zx,h2,nG _ _ _,rfl⟩,?_,by grind⟩
  rw[nG]
  exact IP hk h4
theorem Mh{o:Oper}{s:dU}(hk:vW s.kn s.fr.get):vW (jV o s).kn (jV o s).fr.get:=by
 show vW (Kq s.kn o.dst none) (s.fr.put o.dst (some Nv)).get
 rw[nG]
 exact IP hk nofun
theorem Yf{i:Nat}{o:Oper}{s s':dU}(ho:ops[i]? = some o)(hk:vW s.kn s.fr.get)(h:(stepG c n ops o s).leads s') :
  ∃ k,gR c n ops i (s.fr.get,s.st) (s'.fr.get,s'.st) k/\vW s'.kn s'.fr.get/\s'.ks=k::s.ks:=by
 have run:∀ (s0:dU),s0.fr=s.fr->s0.st=s.st->s0.ks=s.ks->vW s0.kn s0.fr.get->wC ops s.fr.get o=some true->(bn c n o s0).leads s' ->
   ∃ k,gR c n ops i (s.fr.get,s.st) (s'.fr.get,s'.st) k/\vW s'.kn s'.fr.get/\s'.ks=k::s.ks:=by
  intro s0 e1 e2 e3 H5 hw h
  obtain⟨h1,⟨d,zx,h2,h3,h4⟩,h5,h6⟩:=JP H5 h
  rw[e1]at h2 h3 h6
  rw[e2]at h2
  rw[e3]at h6
  exact⟨_,⟨o,ho,h1,.inl ⟨hw,rfl,d,zx,h2,by rw[h3,h4]⟩⟩,h5,h6⟩
 have skip:∀ (s0:dU),s0.fr=s.fr->s0.st=s.st->s0.ks=s.ks->vW s0.kn s0.fr.get->wC ops s.fr.get o=some false->uk n o.dst=true->jV o s0=s' ->
   ∃ k,gR c n ops i (s.fr.get,s.st) (s'.fr.get,s'.st) k/\vW s'.kn s'.fr.get/\s'.ks=k::s.ks:=by
  intro s0 e1 e2 e3 H5 hw hd h
  subst h
  refine⟨0,⟨o,ho,hd,.inr ⟨hw,rfl,?_⟩⟩,Mh H5,by simp[jV,e3]⟩
  simp only[jV,nG,e1,e2]
 unfold stepG at h
 split at h
 ·rename_i hg
  exact run s rfl rfl rfl hk (by simp[wC,hg]) h
 ·rename_i j w hg
  split at h
  ·exact h.elim
  ·rename_i t ht
   split at h
   ·rename_i b hb
    have hf:=hk t b hb
    have hw:wC ops s.fr.get o=some (b==w):=by simp[wC,hg,ht,hf]
    cases Pd:(b==w)with
    | true=>grind
    | false =>
     rw[Pd,cond_false]at h
     cases hd:uk n o.dst with
     | false=>rw[hd]at h; exact h.elim
     | true=>rw[hd,cond_true]at h; exact skip s rfl rfl rfl hk (by rw[hw,Pd]) hd h
   ·split at h
    ·rename_i x hx
     have hw:wC ops s.fr.get o=some (x==w):=by simp[wC,hg,ht,hx]
     cases hd:uk n o.dst with
     | false=>rw[hd]at h; exact h.elim
     | true =>
      rw[hd,cond_true]at h
      rcases h with⟨rfl,h⟩ | ⟨rfl,h⟩
      ·have HL:vW (s.ca t true).kn (s.ca t true).fr.get:=sT hk hx
       cases w with
       | true=>exact run (s.ca t true) rfl rfl rfl HL hw h
       | false=>exact skip (s.ca t true) rfl rfl rfl HL hw hd h
      ·have HL:vW (s.ca t false).kn (s.ca t false).fr.get:=sT hk hx
       cases w with
       | true=>exact skip (s.ca t false) rfl rfl rfl HL hw hd h
       | false=>exact run (s.ca t false) rfl rfl rfl HL hw h
    ·rename_i hx
     have hw:wC ops s.fr.get o=some false:=by simp[wC,hg,ht,hx]
     cases hd:uk n o.dst with
     | false=>rw[hd]at h; exact h.elim
     | true=>rw[hd,cond_true]at h; exact skip s rfl rfl rfl hk hw hd h
    ·exact h.elim
theorem fe:∀ (l:List Oper) (k0:Nat) (s s':dU),(∀ j,l[j]? = ops[k0+j]? \/ l.length<=j)->vW s.kn s.fr.get->(lH c n ops l s).leads s' ->
  ∃ ks,Oa c n ops (List.range' k0 l.length) (s.fr.get,s.st) (s'.fr.get,s'.st) ks/\vW s'.kn s'.fr.get/\s'.ks=ks.reverse++s.ks
 | [],k0,s,s',_,hk,h=>by cases h; exact⟨[],⟨rfl,rfl⟩,hk,rfl⟩
 | o::l,k0,s,s',hl,hk,h=>by
  simp only[lH,T.zM]at h
  obtain⟨s1,h1,h2⟩:=h
  have ho:ops[k0]? = some o:=by rcases hl 0 with h | h<;>simp at h; exact h.symm
  obtain⟨k,g1,g2,g3⟩:=Yf ho hk h1
  obtain⟨ks,g4,g5,g6⟩:=fe l (k0+1) s1 s' (λj=>by have:=hl (j+1); simpa[Nat.add_assoc,Nat.add_comm 1 j]using this) g2 h2
  refine⟨k::ks,?_,g5,by grind⟩
  exact⟨_,k,ks,rfl,g1,g4⟩
end
end Go.AM
namespace Go.AM
set_option linter.unusedSectionVars false
variable [ur]
section
variable {c:Ctx} {n:Nat} {ops:Array Oper}
theorem pq{α:Type}{ρ ρ':α->Option D}(L:List (Nat×α))(h:∀ p∈L,ρ p.2=ρ' p.2):(L.map λp=>(p.1,ρ p.2))=L.map λp=>(p.1,ρ' p.2) :=
 List.map_congr_left λp hp=>by rw[h p hp]
theorem Ze{ρ ρ':Operand->Option D}(o:Oper)(h:∀ x∈o.op.operands,ρ x=ρ' x):qN c ρ o=qN c ρ' o:=by
 obtain⟨dst,op,ty,pos,after,guard⟩:=o
 cases op with
 | move x=>simp only[qN]; rw[h x (by simp[Op.operands])]
 | assign x=>simp only[qN]; rw[h x (by simp[Op.operands])]
 | pick x a b=>simp only[qN]; rw[h x (by simp[Op.operands]),h a (by simp[Op.operands]),h b (by simp[Op.operands])]
 | box t x=>simp only[qN]; rw[h x (by simp[Op.operands])]
 | load t x=>simp only[qN]; rw[h x (by simp[Op.operands])]
 | store t x y=>simp only[qN]; rw[h x (by simp[Op.operands]),h y (by simp[Op.operands])]
 | nilCheck x=>simp only[qN]; rw[h x (by simp[Op.operands])]
 | binOp op t x y _=>simp only[qN]; rw[h x (by simp[Op.operands]),h y (by simp[Op.operands])]
 | typeAssert x xt t ok=>simp only[qN]; rw[h x (by simp[Op.operands])]
 | unOp op t x=>simp only[qN]; rw[h x (by simp[Op.operands])]
 | convert s t x=>simp only[qN]; rw[h x (by simp[Op.operands])]
 | makeInterface t x=>simp only[qN]; rw[h x (by simp[Op.operands])]
 | makeFunc fn first cap =>
  cases fn<;>simp only[qN]
  rw[List.map_congr_left (l:=cap.toList) (λx hx=>h x (by simp[Op.operands,Array.mem_toList_iff.1 hx])),List.map_congr_left (l:=first.toList) (λx hx=>h x (by simp[Op.operands,Array.mem_toList_iff.1 hx]))]
 | makeSlice t x y=>simp only[qN]; rw[h x (by simp[Op.operands]),h y (by simp[Op.operands])]
 | slice t x lo hi mx =>
  simp only[qN]
  have ho:∀ o:Option Operand,(∀ y,o=some y->ρ y=ρ' y)->o.map ρ=o.map ρ':=λo ho=>by
   cases o with
   | none=>rfl
   | some y=>grind
  rw[h x (by simp[Op.operands]),ho lo (λy hy=>h y (by simp[Op.operands,hy])),ho hi (λy hy=>h y (by simp[Op.operands,hy])),ho mx (λy hy=>h y (by simp[Op.operands,hy]))]
 | fieldAddr s x f=>simp only[qN]; rw[h x (by simp[Op.operands])]
 | field s x f=>simp only[qN]; rw[h x (by simp[Op.operands])]
 | indexAddr t x y=>simp only[qN]; rw[h x (by simp[Op.operands]),h y (by simp[Op.operands])]
 | index t x y=>simp only[qN]; rw[h x (by simp[Op.operands]),h y (by simp[Op.operands])]
 | extract x i=>simp only[qN]; rw[h x (by simp[Op.operands])]
 | build t ps=>simp only[qN]; rw[pq ps.toList λp hp=>h p.2 (by simp[Op.operands]; exact⟨p.1,Array.mem_toList_iff.1 hp⟩)]
 | buildSlice t k ps=>simp only[qN]; rw[pq ps.toList λp hp=>h p.2 (by simp[Op.operands]; exact⟨p.1,Array.mem_toList_iff.1 hp⟩)]
 | call cl =>
  obtain⟨callee,args,oq⟩:=cl
  have cg:args.toList.map ρ=args.toList.map ρ':=List.map_congr_left λx hx=>h x (by simp[Op.operands,Call.operands,Array.mem_toList_iff.1 hx])
  cases callee with
  | builtin b=>simp only[qN]; rw[cg]
  | value f=>simp only[qN]; rw[cg,h f (by simp[Op.operands,Call.operands])]
  | invoke r m=>rfl
 | _=>rfl
theorem Yo{f:F}{dst:Option Nat}{d:Option D}{x:Operand}(h:∀ t,dst=some t->x≠.tmp t):qt (y7 f dst d) x=qt f x:=by
 cases dst with
 | none=>rfl
 | some t=>cases x with
  | tmp s=>simp only[qt,y7]; rw[if_neg (λe=>h t rfl (by rw[e]))]
  | _=>rfl
theorem gQ(f:F){a b:Option Nat}(d e:Option D)(h:∀ t,a=some t->b≠some t):y7 (y7 f a d) b e=y7 (y7 f b e) a d:=by
 cases a with
 | none=>rfl
 | some s=>cases b with
  | none=>rfl
  | some t =>
   simp only[y7]
   grind
def Ind(ops:Array Oper)(kd:Nat->Nat)(p i:Nat):Prop:=∀ x y,ops[p]? = some x->ops[i]? = some y ->
 (∀ d,x.dst=some d->d ∉ tmpsOf ops y)/\(∀ d,y.dst=some d->d ∉ tmpsOf ops x)/\uV (kd p) (kd i)=false
theorem y6{o:Oper}{d:Nat}(h:o.dst=some d):d∈tmpsOf ops o:=by simp[tmpsOf,h]
theorem pn{o:Oper}{d:Nat}(h:Operand.tmp d∈o.op.operands):d∈tmpsOf ops o:=by
 simp only[tmpsOf,List.mem_append,List.mem_filterMap]
 exact .inr ⟨.tmp d,by grind,rfl⟩
theorem rM{o:Oper}{j:Nat}{w:Bool}{d:Nat}(h:o.guard=some (j,w))(hg:jb ops j=some d):d∈tmpsOf ops o:=by
 simp[tmpsOf,h,hg]
theorem wv{f:F}{o:Oper}{dst:Option Nat}{d:Option D}(h:∀ t,dst=some t->t ∉ tmpsOf ops o):wC ops (y7 f dst d) o=wC ops f o:=by
 unfold wC
 cases hg:o.guard with
 | none=>rfl
 | some jw =>
  obtain⟨j,w⟩:=jw
  simp only
  cases hs:jb ops j with
  | none=>rfl
  | some t =>
   simp only
   have:y7 f dst d t=f t:=by
    cases dst with
    | none=>rfl
    | some s=>simp only[y7]; rw[if_neg]; intro e; exact h s rfl (e▸rM hg hs)
   rw[this]
theorem kI{f:F}{o:Oper}{dst:Option Nat}{d:Option D}(h:∀ t,dst=some t->t ∉ tmpsOf ops o):qN c (qt (y7 f dst d)) o=qN c (qt f) o :=
 Ze o λx hx=>Yo λt ht e=>h t ht (pn (ops:=ops) (e▸hx))
theorem iY{cl:cp}(h:cl.kind=0){st zx:St}{d:Option D}(hl:(zR cl st).leads (d,zx)):zx=st/\∀ k9,(zR cl k9).leads (d,k9):=by
 cases cl with
 | val t=>rw[vC]at hl; exact⟨hl.2,λk9=>by rw[vC]; exact⟨hl.1,rfl⟩⟩
 | rd k=>cases h
 | wr k=>cases h
theorem dv{cl:cp}(h:cl.kind<=1){st zx:St}{d:Option D}(hl:(zR cl st).leads (d,zx)):zx=st:=by
 cases cl with
 | val t=>rw[vC]at hl; exact hl.2
 | rd k=>rw[mf]at hl; exact hl.2
 | wr k=>simp[cp.kind]at h
theorem ZY(cl:cp):cl.kind<=2:=by cases cl<;>simp[cp.kind]
theorem Yt{kd:Nat->Nat}{p i:Nat}(hi:Ind ops kd p i){s s1 s2:F×St}(h1:gR c n ops p s s1 (kd p))(h2:gR c n ops i s1 s2 (kd i)) :
  ∃ s',gR c n ops i s s' (kd i)/\gR c n ops p s' s2 (kd p):=by
 obtain⟨x,hx,hdx,Zt⟩:=h1
 obtain⟨y,hy,hdy,hy'⟩:=h2
 obtain⟨a1,a2,a3⟩:=hi x y hx hy
 have Iy:∀ t,x.dst=some t->y.dst≠some t:=λt ht e=>a1 t ht (y6 e)
 obtain⟨f,st⟩:=s
 rcases Zt with⟨hw,hk,d,b9,hl,rfl⟩ | ⟨hw,hk,rfl⟩
 ·rcases hy' with⟨sU,cq,e,k9,iU,rfl⟩ | ⟨sU,cq,rfl⟩
  ·simp only[wv a1,kI (c:=c) a1]at sU cq iU
   simp only at hw hk hl
   -- the two meet nowhere in the store
   have key:(zR (qN c (qt f) y) st).leads (e,(if(qN c (qt f) y).kind=2 then k9 else st))/\(zR (qN c (qt f) x) (if(qN c (qt f) y).kind=2 then k9 else st)).leads (d,k9):=by
    rw[hk,cq]at a3
    rcases Nat.lt_or_ge (qN c (qt f) y).kind 2 with Ie | Ie
    ·rw[if_neg (by omega)]
     have e2:=dv (by omega) iU
     subst e2
     rcases Nat.lt_or_ge (qN c (qt f) x).kind 2 with Et | Et
     ·have e1:=dv (by omega) hl
      grind
     ·have hx3:(qN c (qt f) x).kind=2:=Nat.le_antisymm (ZY _) Et
      have hy0:(qN c (qt f) y).kind=0:=by
       rw[hx3]at a3
       cases hy0:(qN c (qt f) y).kind with
       | zero=>rfl
       | succ m=>rw[hy0]at a3; simp[uV]at a3
      exact⟨(iY hy0 iU).2 st,hl⟩
    ·have hy3:(qN c (qt f) y).kind=2:=Nat.le_antisymm (ZY _) Ie
     rw[if_pos hy3]
     have Vq:(qN c (qt f) x).kind=0:=by
      rw[hy3]at a3
      cases Vq:(qN c (qt f) x).kind with
      | zero=>rfl
      | succ m=>rw[Vq]at a3; simp[uV]at a3
     obtain⟨e1,h3⟩:=iY Vq hl
     grind
   refine⟨_,⟨y,hy,hdy,.inl ⟨sU,cq,e,_,key.1,rfl⟩⟩,x,hx,hdx,.inl ⟨?_,?_,d,k9,?_,?_⟩⟩
   ·rw[wv a2]; exact hw
   ·rw[kI (c:=c) a2]; exact hk
   ·rw[kI (c:=c) a2]; exact key.2
   ·simp only[gQ f d e Iy]
  ·simp only[wv a1]at sU
   refine⟨_,⟨y,hy,hdy,.inr ⟨sU,cq,rfl⟩⟩,x,hx,hdx,.inl ⟨?_,?_,d,b9,?_,?_⟩⟩
   ·rw[wv a2]; exact hw
   ·rw[kI (c:=c) a2]; exact hk
   ·rw[kI (c:=c) a2]; exact hl
   ·simp only[gQ f d (some Nv) Iy]
 ·rcases hy' with⟨sU,cq,e,k9,iU,rfl⟩ | ⟨sU,cq,rfl⟩
  ·simp only[wv a1,kI (c:=c) a1]at sU cq iU
   refine⟨_,⟨y,hy,hdy,.inl ⟨sU,cq,e,k9,iU,rfl⟩⟩,x,hx,hdx,.inr ⟨?_,hk,?_⟩⟩
   ·rw[wv a2]; exact hw
   ·simp only[gQ f (some Nv) e Iy]
  ·simp only[wv a1]at sU
   refine⟨_,⟨y,hy,hdy,.inr ⟨sU,cq,rfl⟩⟩,x,hx,hdx,.inr ⟨?_,hk,?_⟩⟩
   ·rw[wv a2]; exact hw
   ·simp only[gQ f (some Nv) (some Nv) Iy]
def nU(c:Ctx)(n:Nat)(ops:Array Oper)(kd:Nat->Nat):List Nat->F×St->F×St->Prop
 | [],s,s'=>s'=s
 | i::l,s,s'=>∃ s1,gR c n ops i s s1 (kd i)/\nU c n ops kd l s1 s'
theorem J2{kd:Nat->Nat}{i:Nat}{post:List Nat}{s':F×St}:∀ {pre:List Nat} {s:F×St},(∀ p∈pre,Ind ops kd p i)->nU c n ops kd (pre++i::post) s s' ->
  ∃ s1,gR c n ops i s s1 (kd i)/\nU c n ops kd (pre++post) s1 s'
 | [],s,_,h=>h
 | p::pre,s,hp,⟨sp,h1,h2⟩=>by
  obtain⟨s1,h3,h4⟩:=J2 (λq hq=>hp q (List.mem_cons_of_mem _ hq)) h2
  obtain⟨s2,h5,h6⟩:=Yt (hp p List.mem_cons_self) h1 h3
  exact⟨s2,h5,s1,h6,h4⟩
end
end Go.AM
namespace Go.AM
set_option linter.unusedSectionVars false
variable [ur]
section
variable (c:Ctx) (n:Nat) (ops:Array Oper)
def dG(i:Nat)(s s':F×St)(k:RK):Prop:=∃ o,ops[i]? = some o/\uk n o.dst=true /\
 ((wC ops s.1 o=some true/\k=wz c (qt s.1) s.2 o/\∃ d zx,(zR (qN c (qt s.1) o) s.2).leads (d,zx)/\s'=(y7 s.1 o.dst d,zx)) \/
  (wC ops s.1 o=some false/\k=.z 0/\s'=(y7 s.1 o.dst (some Nv),s.2)))
def Lp:List Nat->F×St->F×St->List RK->Prop
 | [],s,s',ks=>s'=s/\ks=[]
 | i::l,s,s',ks=>∃ s1 k Fs,ks=k::Fs/\dG c n ops i s s1 k/\Lp l s1 s' Fs
end
section
variable {c:Ctx} {n:Nat} {ops:Array Oper}
theorem dG.plain{i:Nat}{s s':F×St}{k:RK}(h:dG c n ops i s s' k):∃ k',gR c n ops i s s' k':=by
 obtain⟨o,h1,h2,h3⟩:=h
 rcases h3 with⟨g1,_,g3⟩ | ⟨g1,_,g3⟩
 ·exact⟨_,o,h1,h2,.inl ⟨g1,rfl,g3⟩⟩
 ·exact⟨_,o,h1,h2,.inr ⟨g1,rfl,g3⟩⟩
theorem ED{i:Nat}{o:Oper}{s s':dU}(ho:ops[i]? = some o)(hk:vW s.kn s.fr.get)(h:(stepG c n ops o s).leads s') :
  ∃ k,dG c n ops i (s.fr.get,s.st) (s'.fr.get,s'.st) k/\vW s'.kn s'.fr.get/\s'.bk=k::s.bk:=by
 have bkS:∀ {s0:dU},(bn c n o s0).leads s'->s'.bk=wz c (jc s0.fr) s0.st o::s0.bk:=by
  intro s0 h
  unfold bn at h
  cases hd:uk n o.dst with
  | false=>rw[hd]at h; exact h.elim
  | true =>
   rw[hd,cond_true]at h
   simp only[T.zM]at h
   obtain⟨⟨d,zx⟩,h1,rfl⟩:=h
   rfl
 have run:∀ (s0:dU),s0.fr=s.fr->s0.st=s.st->s0.bk=s.bk->vW s0.kn s0.fr.get->wC ops s.fr.get o=some true->(bn c n o s0).leads s' ->
   ∃ k,dG c n ops i (s.fr.get,s.st) (s'.fr.get,s'.st) k/\vW s'.kn s'.fr.get/\s'.bk=k::s.bk:=by
  intro s0 e1 e2 e3 H5 hw h
  obtain⟨h1,⟨d,zx,h2,h3,h4⟩,h5,h6⟩:=JP H5 h
  have hb:=bkS h
  rw[e1]at h2 h3 hb
  rw[e2]at h2 hb
  rw[e3]at hb
  rw[bq]at hb
  exact⟨_,⟨o,ho,h1,.inl ⟨hw,rfl,d,zx,h2,by rw[h3,h4]⟩⟩,h5,hb⟩
 have skip:∀ (s0:dU),s0.fr=s.fr->s0.st=s.st->s0.bk=s.bk->vW s0.kn s0.fr.get->wC ops s.fr.get o=some false->uk n o.dst=true->jV o s0=s' ->
   ∃ k,dG c n ops i (s.fr.get,s.st) (s'.fr.get,s'.st) k/\vW s'.kn s'.fr.get/\s'.bk=k::s.bk:=by
  intro s0 e1 e2 e3 H5 hw hd h
  subst h
  refine⟨.z 0,⟨o,ho,hd,.inr ⟨hw,rfl,?_⟩⟩,Mh H5,by simp[jV,e3]⟩
  simp only[jV,nG,e1,e2]
 unfold stepG at h
 split at h
 ·rename_i hg
  exact run s rfl rfl rfl hk (by simp[wC,hg]) h
 ·rename_i j w hg
  split at h
  ·exact h.elim
  ·rename_i t ht
   split at h
   ·rename_i b hb
    have hf:=hk t b hb
    have hw:wC ops s.fr.get o=some (b==w):=by simp[wC,hg,ht,hf]
    cases Pd:(b==w)with
    | true=>grind
    | false =>
     rw[Pd,cond_false]at h
     cases hd:uk n o.dst with
     | false=>rw[hd]at h; exact h.elim
     | true=>rw[hd,cond_true]at h; exact skip s rfl rfl rfl hk (by rw[hw,Pd]) hd h
   ·split at h
    ·rename_i x hx
     have hw:wC ops s.fr.get o=some (x==w):=by simp[wC,hg,ht,hx]
     cases hd:uk n o.dst with
     | false=>rw[hd]at h; exact h.elim
     | true =>
      rw[hd,cond_true]at h
      rcases h with⟨rfl,h⟩ | ⟨rfl,h⟩
      ·have HL:vW (s.ca t true).kn (s.ca t true).fr.get:=sT hk hx
       cases w with
       | true=>exact run (s.ca t true) rfl rfl rfl HL hw h
       | false=>exact skip (s.ca t true) rfl rfl rfl HL hw hd h
      ·have HL:vW (s.ca t false).kn (s.ca t false).fr.get:=sT hk hx
       cases w with
       | true=>exact skip (s.ca t false) rfl rfl rfl HL hw hd h
       | false=>exact run (s.ca t false) rfl rfl rfl HL hw h
    ·rename_i hx
     have hw:wC ops s.fr.get o=some false:=by simp[wC,hg,ht,hx]
     cases hd:uk n o.dst with
     | false=>rw[hd]at h; exact h.elim
     | true=>rw[hd,cond_true]at h; exact skip s rfl rfl rfl hk hw hd h
    ·exact h.elim
theorem V7:∀ (l:List Oper) (k0:Nat) (s s':dU),(∀ j,l[j]? = ops[k0+j]? \/ l.length<=j)->vW s.kn s.fr.get->(lH c n ops l s).leads s' ->
  ∃ ks,Lp c n ops (List.range' k0 l.length) (s.fr.get,s.st) (s'.fr.get,s'.st) ks/\s'.bk=ks.reverse++s.bk
 | [],k0,s,s',_,hk,h=>by cases h; exact⟨[],⟨rfl,rfl⟩,rfl⟩
 | o::l,k0,s,s',hl,hk,h=>by
  simp only[lH,T.zM]at h
  obtain⟨s1,h1,h2⟩:=h
  have ho:ops[k0]? = some o:=by rcases hl 0 with h | h<;>simp at h; exact h.symm
  obtain⟨k,g1,g2,g3⟩:=ED ho hk h1
  obtain⟨ks,g4,g6⟩:=V7 l (k0+1) s1 s' (λj=>by have:=hl (j+1); simpa[Nat.add_assoc,Nat.add_comm 1 j]using this) g2 h2
  refine⟨k::ks,?_,by grind⟩
  exact⟨_,k,ks,rfl,g1,g4⟩
theorem Ih{m b:Nat}{l:List Nat}:b∈others m l↔b<m/\∀ x∈l,b≠x:=by
 simp only[others]
 simp
theorem L4{d:Option D}{b:Nat}(h:z7N d=some b):(∃ off,d=some (.ptr b off))\/∃ v e i off,d=some (.uQ b v e i off):=by
 cases d with
 | none=>cases h
 | some d=>cases d<;>first | (cases h; exact .inl ⟨_,rfl⟩) | (cases h; exact .inr ⟨_,_,_,_,rfl⟩) | cases h
theorem X2{bi:Builtin}{l:List (Option D)}:MQ bi l=.z 2\/∃ b v e off len x,bi=.append/\l=[some (.ms b v e off len),some x]/\YA x=false/\MQ bi l=.up b:=by
 unfold MQ
 grind
theorem JK(ρ:Operand->Option D)(st:St)(o:Oper):(wz c ρ st o).base=(qN c ρ o).kind:=by
 unfold wz
 split
 ·rename_i h
  rw[h]
  cases o.op with
  | load t a=>simp only; split<;>rfl
  | _=>rfl
 ·rename_i h
  rw[h]
  cases o.op with
  | call cl =>
   cases hc:cl.callee with
   | builtin bi =>
    simp only[hc]
    rcases X2 (bi:=bi) (l:=cl.args.toList.map ρ)with e | ⟨b,v,e,off,len,x,_,_,_,e⟩<;>rw[e]<;>rfl
   | value f=>simp only[hc]; split<;>rfl
   | _=>simp only[hc]; rfl
  | store t a v=>simp only; split<;>rfl
  | _=>rfl
 ·rfl
theorem WX{ρ:Operand->Option D}{o:Oper}(h:(qN c ρ o).kind<=1)(st zx:St):wz c ρ st o=wz c ρ zx o:=by
 unfold wz
 grind
theorem X9{ρ:Operand->Option D}{st:St}{o:Oper}{b:Nat}(h:wz c ρ st o=.rd b){b9 k9 BW:St}{d:Option D}(hl:(zR (qN c ρ o) b9).leads (d,BW))(hb:k9[b]? = b9[b]?):(zR (qN c ρ o) k9).leads (d,k9):=by
 obtain⟨dst,op,ty,pos,after,guard⟩:=o
 cases op with
 | load t a =>
  have h':(∃ off,ρ a=some (.ptr b off))\/∃ v e i off,ρ a=some (.uQ b v e i off):=by
   unfold wz at h
   simp only at h
   split at h
   ·split at h
    ·rename_i b' ha; cases h; exact L4 ha
    ·cases h
   ·cases h
   ·cases h
  have he:qN c ρ ⟨dst,.load t a,ty,pos,after,guard⟩=UT c t (ρ a):=rfl
  rcases h' with⟨off,ha⟩ | ⟨v,e,i,off,ha⟩
  all_goals
   rw[he,ha]at hl ⊢
   simp only[UT]at hl ⊢
   rw[mf]at hl ⊢
   grind
 | call cl =>
  obtain⟨callee,args,oq⟩:=cl
  unfold wz at h
  split at h
  ·cases h
  ·cases callee with
   | builtin bi =>
    simp only at h
    rcases X2 (bi:=bi) (l:=args.toList.map ρ)with e | ⟨b,v,e,off,len,x,_,_,_,e⟩<;>rw[e]at h<;>cases h
   | value f=>grind
   | _=>cases h
  ·cases h
 | _ =>
  unfold wz at h
  grind
theorem Dq{ρ:Operand->Option D}{st:St}{o:Oper}{A:List Nat}(h:wz c ρ st o=.wr A){zx:St}{d:Option D}(hl:(zR (qN c ρ o) st).leads (d,zx)):∀ b∈A,zx[b]? = st[b]? := by
 obtain⟨dst,op,ty,pos,after,guard⟩:=o
 cases op with
 | alloc t =>
  have h':A=others st.length []:=by
   unfold wz at h
   grind
  subst h'
  intro b hb
  obtain⟨hb,_⟩:=Ih.1 hb
  have hl:(zR (nE c t) st).leads (d,zx):=hl
  unfold nE at hl
  split at hl
  ·rename_i z hz
   have hl:(some (D.ptr st.length 0),st++[yj.var z])=(d,zx):=hl
   grind
  ·exact absurd hl zh
 | store t a v =>
  exfalso
  unfold wz at h
  grind
 | call cl =>
  obtain⟨callee,args,oq⟩:=cl
  cases callee with
  | value f =>
   have h':(qN c ρ ⟨dst,.call ⟨.value f,args,oq⟩,ty,pos,after,guard⟩).kind=2/\∃ g caps l,ρ f=some (.xk g caps)/\uY (args.toList.map ρ)=some l/\A=c.free (yZ g) (jT g l caps) st:=by
    unfold wz at h
    grind
   obtain⟨hk,g,caps,l,hg,PW,rfl⟩:=h'
   intro b hb
   have he:qN c ρ ⟨dst,.call ⟨.value f,args,oq⟩,ty,pos,after,guard⟩=dD c (ρ f) (args.toList.map ρ):=rfl
   rw[he,hg]at hl hk
   simp only[dD,PW]at hl hk
   split at hl
   ·rename_i s hs
    rw[hs]at hk
    simp only[bz]at hk
    cases hn:(!(jT g l caps).any Jr)<;>rw[hn]at hk<;>simp[cp.kind]at hk
   ·simp only[sY,zR,T.zM]at hl
    obtain⟨⟨rs,b9⟩,h1,h2⟩:=hl
    cases rs with
    | ret ds=>cases h2; exact c.Rg _ _ _ _ _ b h1 hb
    | ye p=>exact h2.elim
  | builtin bi =>
   exfalso
   unfold wz at h
   simp only at h
   split at h
   ·cases h
   ·rcases X2 (bi:=bi) (l:=args.toList.map ρ)with e | ⟨b,v,e,off,len,x,_,_,_,e⟩<;>rw[e]at h<;>cases h
   ·cases h
  | invoke r m =>
   exfalso
   unfold wz at h
   simp only at h
   split at h<;>cases h
 | _ =>
  exfalso
  unfold wz at h
  simp only at h
  split at h
  ·first
    | cases h
    | (split at h<;>cases h)
  ·cases h
  ·cases h
theorem X8{ρ:Operand->Option D}{st:St}{o:Oper}{b:Nat}(h:wz c ρ st o=.up b){b9 BW:St}{d:Option D}(hl:(zR (qN c ρ o) b9).leads (d,BW)) :
  ∃ y,BW=b9.set b y/\∀ k9:St,k9[b]? = b9[b]? -> (zR (qN c ρ o) k9).leads (d,k9.set b y):=by
 obtain⟨dst,op,ty,pos,after,guard⟩:=o
 cases op with
 | store t a v =>
  have h':(∃ off,ρ a=some (.ptr b off))\/∃ v e i off,ρ a=some (.uQ b v e i off):=by
   unfold wz at h
   simp only at h
   split at h
   ·cases h
   ·split at h
    ·rename_i b ha; cases h; exact L4 ha
    ·cases h
   ·cases h
  have he:qN c ρ ⟨dst,.store t a v,ty,pos,after,guard⟩=VS c t (ρ a) (ρ v):=rfl
  rw[he]at hl ⊢
  cases hv:ρ v with
  | none =>
   rw[hv]at hl
   rcases h' with⟨off,ha⟩ | ⟨w,e,i,off,ha⟩<;>(rw[ha]at hl; exact absurd hl zh)
  | some x =>
   rw[hv]at hl
   rcases h' with⟨off,ha⟩ | ⟨w,e,i,off,ha⟩
   ·rw[ha]at hl ⊢
    have hl:(match b9[b]? with
     | some (.var d)=>match DN c t d off x with | some r=>bif n4 d r then T.ret ((none:Option D),b9.set b (.var r))else .fail | none=>.fail
     | _=>.fail:T (Option D×St)).leads (d,BW):=hl
    split at hl
    ·rename_i d0 hb
     split at hl
     ·rename_i r hr
      cases ho:n4 d0 r with
      | false=>rw[ho]at hl; exact hl.elim
      | true =>
       rw[ho]at hl
       cases hl
       refine⟨.var r,rfl,λk9 h2 => ?_⟩
       show(match k9[b]? with
        | some (.var d)=>match DN c t d off x with | some r=>bif n4 d r then T.ret ((none:Option D),k9.set b (.var r))else .fail | none=>.fail
        | _=>.fail:T (Option D×St)).leads _
       rw[h2,hb]
       simp only[hr,ho,cond_true]
       rfl
     ·exact hl.elim
    ·exact hl.elim
   ·rw[ha]at hl ⊢
    have hl:(match b9[b]? with
     | some (.arr kP e' xs)=>bif decide (e'=e)then
       .zy (w=kP/\i<xs.length) (match DN c t (.zC e' (xs.getD i (zn e'))) off x with
        | some r=>match fk e' r with | some y=>T.ret ((none:Option D),b9.set b (.arr kP e' (xs.set i y))) | none=>.fail
        | none=>.fail)
      else .fail
     | _=>.fail:T (Option D×St)).leads (d,BW):=hl
    split at hl
    ·rename_i kP e' xs hb
     cases hd:decide (e'=e)with
     | false=>rw[hd]at hl; exact hl.elim
     | true =>
      rw[hd,cond_true]at hl
      obtain⟨ho,hl⟩:=hl
      split at hl
      ·rename_i r hr
       split at hl
       ·rename_i y hy
        cases hl
        refine⟨.arr kP e' (xs.set i y),rfl,λk9 h2 => ?_⟩
        show(match k9[b]? with
         | some (.arr kP e' xs)=>bif decide (e'=e)then
           .zy (w=kP/\i<xs.length) (match DN c t (.zC e' (xs.getD i (zn e'))) off x with
            | some r=>match fk e' r with | some y=>T.ret ((none:Option D),k9.set b (.arr kP e' (xs.set i y))) | none=>.fail
            | none=>.fail)
          else .fail
         | _=>.fail:T (Option D×St)).leads _
        rw[h2,hb]
        simp only[hd,cond_true,hr,hy]
        exact⟨ho,rfl⟩
       ·exact hl.elim
      ·exact hl.elim
    ·exact hl.elim
 | call cl =>
  obtain⟨callee,args,oq⟩:=cl
  cases callee with
  | builtin bi =>
   have h':bi=.append/\∃ v e off len x,args.toList.map ρ=[some (.ms b v e off len),some x]/\YA x=false:=by
    unfold wz at h
    simp only at h
    split at h
    ·cases h
    ·rcases X2 (bi:=bi) (l:=args.toList.map ρ)with e | ⟨b',v,e,off,len,x,h1,h2,h3,e'⟩
     ·grind
     ·rw[e']at h; cases h; exact⟨h1,v,e,off,len,x,h2,h3⟩
    ·cases h
   obtain⟨rfl,v,e,off,len,x,hx,hm⟩:=h'
   have he:qN c ρ ⟨dst,.call ⟨.builtin .append,args,oq⟩,ty,pos,after,guard⟩=lP c .append oq.toList (args.toList.map ρ):=rfl
   rw[he,hx]at hl ⊢
   -- what the row gets
   have one:∀ {e':Ty} {ys:List (den e')} {ne:Bool} {ot:Nat},(kl e' (.ms b v e off len) ys ne ot b9).leads (d,BW)->∃ y,BW=b9.set b y/\∀ k9:St,k9[b]? = b9[b]? -> (kl e' (.ms b v e off len) ys ne ot k9).leads (d,k9.set b y):=by
    intro e' ys ne ot hl
    simp only[kl]at hl
    split at hl
    ·rename_i kP e'' xs hb
     split at hl
     ·rename_i zs hz
      cases hd:decide (e=e')with
      | false=>rw[hd]at hl; exact hl.elim
      | true =>
       rw[hd,cond_true]at hl
       obtain⟨ho,hl⟩:=hl
       cases hl
       refine⟨_,rfl,λk9 h2 => ?_⟩
       simp only[kl]
       rw[h2,hb]
       simp only[hz,hd,cond_true]
       exact⟨ho,rfl⟩
     ·exact hl.elim
    ·exact hl.elim
   have snp:∀ k9,nY k9 x=.ret x:=λk9=>by cases x<;>first | rfl | cases hm
   generalize oq.toList=tl at hl ⊢
   rcases tl with _ | ⟨t,_ | ⟨t',_ | ⟨t'',tl⟩⟩⟩
   ·exact absurd hl zh
   ·exact absurd hl zh
   rotate_left
   ·exact absurd hl zh
   ·
    simp only[lP]at hl ⊢
    cases ht:Nat.beq t t' with
    | true =>
     rw[ht,cond_true]at hl
     simp only[cond_true]
     unfold QP at hl ⊢
     cases het:il c t with
     | none=>rw[het]at hl; exact absurd hl zh
     | some et =>
      rw[het]at hl
      simp only at hl ⊢
      cases h1:B5 c 20 et with
      | none=>rw[h1]at hl; exact absurd hl zh
      | some ee =>
       rw[h1]at hl
       try simp only at hl ⊢
       cases h2:mS c et with
       | none=>rw[h2]at hl; exact absurd hl zh
       | some bytes =>
        rw[h2]at hl
        simp only at hl ⊢
        cases hc:kX c et ee&&Nat.blt 0 ee.size&&Nat.blt 0 bytes&&(zeroOf c et ee).isSome with
        | false=>rw[hc]at hl; exact absurd hl zh
        | true =>
         rw[hc,cond_true]at hl
         simp only[cond_true,zR,snp,T.bind]at hl ⊢
         cases x<;>simp only at hl ⊢ <;> first | exact hl.elim | exact one hl | skip
         ·split at hl
          ·exact one hl
          ·exact hl.elim
         ·split at hl
          ·exact one hl
          ·exact hl.elim
    | false =>
     rw[ht,cond_false]at hl
     simp only[cond_false]
     unfold sn at hl ⊢
     cases het:il c t with
     | none=>rw[het]at hl; exact absurd hl zh
     | some et =>
      rw[het]at hl
      simp only at hl ⊢
      split at hl
      ·rename_i bytes h1 h2 h3
       cases hc:kX c et (.int .u8)&&Nat.blt 0 bytes&&(zeroOf c et (.int .u8)).isSome with
       | false=>rw[hc]at hl; exact absurd hl zh
       | true =>
        rw[hc,cond_true]at hl
        simp only[cond_true]
        split at hl
        ·rename_i s l e1 e2
         cases e1
         cases e2
         simp only[zR]at hl ⊢
         exact one hl
        ·exact absurd hl zh
      ·exact absurd hl zh
  | _ =>
   exfalso
   unfold wz at h
   simp only at h
   split at h
   ·cases h
   ·first | cases h | (split at h<;>cases h)
   ·cases h
 | _ =>
  exfalso
  unfold wz at h
  simp only at h
  split at h
  ·first
    | cases h
    | (split at h<;>cases h)
  ·cases h
  ·cases h
theorem Yi:∀ (l:List Nat) (s s':F×St) (ks:List RK),Lp c n ops l s s' ks->ks.length=l.length
 | [],_,_,_,h=>by rw[h.2]; rfl
 | i::l,s,s',ks,⟨s1,k,Fs,e,h1,h2⟩=>by subst e; simp[Yi l s1 s' Fs h2]
theorem rf{ρ:Operand->Option D}{st:St}{o:Oper}{b:Nat}(h:wz c ρ st o=.up b)(zx:St):wz c ρ zx o=.up b:=by
 obtain⟨dst,op,ty,pos,after,guard⟩:=o
 cases op with
 | alloc t =>
  unfold wz at h
  grind
 | call cl =>
  obtain⟨callee,args,oq⟩:=cl
  cases callee with
  | value f =>
   unfold wz at h
   grind
  | builtin bi=>cases bi<;>exact h
  | _=>exact h
 | _=>exact h
def z6N(ops:Array Oper)(kd:Nat->RK)(p i:Nat):Prop:=∀ x y,ops[p]? = some x->ops[i]? = some y ->
 (∀ d,x.dst=some d->d ∉ tmpsOf ops y)/\(∀ d,y.dst=some d->d ∉ tmpsOf ops x)/\uU (kd p) (kd i)=false
theorem si{f:F}{o:Oper}{dst:Option Nat}{d:Option D}{st:St}(h:∀ t,dst=some t->t ∉ tmpsOf ops o):wz c (qt (y7 f dst d)) st o=wz c (qt f) st o:=by
 have e1:qN c (qt (y7 f dst d)) o=qN c (qt f) o:=kI h
 have e2:∀ x∈o.op.operands,qt (y7 f dst d) x=qt f x:=λx hx=>Yo λt ht e=>h t ht (pn (ops:=ops) (e▸hx))
 obtain⟨dd,op,ty,pos,after,guard⟩:=o
 unfold wz
 rw[e1]
 cases op with
 | load t a=>simp only[e2 a (by simp[Op.operands])]
 | store t a v=>simp only[e2 a (by simp[Op.operands])]
 | call cl =>
  obtain⟨callee,args,oq⟩:=cl
  cases callee with
  | value g =>
   have cg:args.toList.map (qt (y7 f dst d))=args.toList.map (qt f):=List.map_congr_left λx hx=>e2 x (by simp[Op.operands,Call.operands,Array.mem_toList_iff.1 hx])
   simp only[cg,e2 g (by simp[Op.operands,Call.operands])]
  | builtin bi =>
   have cg:args.toList.map (qt (y7 f dst d))=args.toList.map (qt f):=List.map_congr_left λx hx=>e2 x (by simp[Op.operands,Call.operands,Array.mem_toList_iff.1 hx])
   grind
  | _=>rfl
 | _=>rfl
theorem Fe{kd:Nat->RK}{p i:Nat}(hi:z6N ops kd p i){s s1 s2:F×St}(h1:dG c n ops p s s1 (kd p))(h2:dG c n ops i s1 s2 (kd i)) :
  ∃ s',dG c n ops i s s' (kd i)/\dG c n ops p s' s2 (kd p):=by
 obtain⟨x,hx,hdx,Zt⟩:=h1
 obtain⟨y,hy,hdy,hy'⟩:=h2
 obtain⟨a1,a2,a3⟩:=hi x y hx hy
 have Iy:∀ t,x.dst=some t->y.dst≠some t:=λt ht e=>a1 t ht (y6 e)
 obtain⟨f,st⟩:=s
 rcases Zt with⟨hw,hk,d,b9,hl,rfl⟩ | ⟨hw,hk,rfl⟩
 ·rcases hy' with⟨sU,cq,e,k9,iU,rfl⟩ | ⟨sU,cq,rfl⟩
  ·simp only[wv a1,kI (c:=c) a1,si (c:=c) a1]at sU cq iU
   simp only at hw hk hl
   -- the two meet nowhere in the store
   have key:∃ zx,(zR (qN c (qt f) y) st).leads (e,zx)/\(zR (qN c (qt f) x) zx).leads (d,k9)/\wz c (qt f) st y=kd i/\wz c (qt f) zx x=kd p:=by
    have bx:=JK (c:=c) (qt f) st x
    have ot:=JK (c:=c) (qt f) b9 y
    rw[<- hk]at bx
    rw[<- cq]at ot
    rcases Nat.lt_or_ge (qN c (qt f) x).kind 2 with Et | Et
    ·-- x writes nothing
     have e1:=dv (by omega) hl
     subst e1
     refine⟨k9,iU,?_,cq.symm,(WX (by omega) k9 b9).trans hk.symm⟩
     rcases Nat.lt_or_ge (qN c (qt f) y).kind 2 with Ie | Ie
     ·have e2:=dv (by omega) iU
      grind
     ·have hy3:(qN c (qt f) y).kind=2:=Nat.le_antisymm (ZY _) Ie
      cases hp:kd p with
      | rd b =>
       cases hq:kd i with
       | wr A =>
        rw[hp,hq]at a3
        simp only[uU,Bool.not_eq_false',List.any_eq_true]at a3
        obtain⟨b',Bo,hbb⟩:=a3
        have:=Nat.eq_of_beq_eq_true hbb
        subst this
        exact X9 (by rw[<- hk]; exact hp) hl (Dq (by rw[<- cq]; exact hq) iU b Bo)
       | rd b'=>rw[hq]at ot; simp[RK.base]at ot; omega
       | z k=>rw[hp,hq]at a3; rw[hq,hy3]at ot; simp only[RK.base]at ot; subst ot; simp[uU,uV,RK.base]at a3
       | up a =>
        rw[hp,hq]at a3
        have Ki:a≠b:=λe=>by subst e; simp[uU]at a3
        obtain⟨z,e1,_⟩:=X8 (by rw[<- cq]; exact hq) iU
        subst e1
        exact X9 (by rw[<- hk]; exact hp) hl (by rw[List.getElem?_set_ne Ki])
      | wr A=>rw[hp]at bx; simp[RK.base]at bx; omega
      | up A=>rw[hp]at bx; simp[RK.base]at bx; omega
      | z k =>
       rw[hp]at bx
       simp only[RK.base]at bx
       have H5:k=0:=by
        cases hq:kd i with
        | wr A =>
         rw[hp,hq]at a3
         simp only[uU,RK.base,uV]at a3
         cases k with
         | zero=>rfl
         | succ m=>simp at a3
        | rd b'=>rw[hq]at ot; simp[RK.base]at ot; omega
        | z k' =>
         rw[hq,hy3]at ot
         simp only[RK.base]at ot
         subst ot
         rw[hp,hq]at a3
         simp only[uU,RK.base,uV]at a3
         cases k with
         | zero=>rfl
         | succ m=>simp at a3
        | up A =>
         rw[hp,hq]at a3
         simp only[uU,RK.base,uV]at a3
         cases k with
         | zero=>rfl
         | succ m=>simp at a3
       subst H5
       exact(iY bx.symm hl).2 k9
    ·have hx3:(qN c (qt f) x).kind=2:=Nat.le_antisymm (ZY _) Et
     -- x writes
     rcases Nat.lt_or_ge (qN c (qt f) y).kind 2 with Ie | Ie
     ·have e2:=dv (by omega) iU
      subst e2
      refine⟨st,?_,hl,(WX (by omega) st k9).trans cq.symm,hk.symm⟩
      cases hq:kd i with
      | wr A=>rw[hq]at ot; simp[RK.base]at ot; omega
      | up A=>rw[hq]at ot; simp[RK.base]at ot; omega
      | rd b =>
       cases hp:kd p with
       | wr A =>
        rw[hp,hq]at a3
        simp only[uU,Bool.not_eq_false',List.any_eq_true]at a3
        obtain⟨b',Bo,hbb⟩:=a3
        have:=Nat.eq_of_beq_eq_true hbb
        subst this
        exact X9 (st:=k9) (by rw[<- cq]; exact hq) iU (Dq (by rw[<- hk]; exact hp) hl b Bo).symm
       | up a =>
        rw[hp,hq]at a3
        have Ki:a≠b:=λe=>by subst e; simp[uU]at a3
        obtain⟨z,e1,_⟩:=X8 (by rw[<- hk]; exact hp) hl
        subst e1
        exact X9 (st:=st.set a z) (by rw[<- cq]; exact hq) iU (by rw[List.getElem?_set_ne Ki])
       | rd b'=>rw[hp]at bx; simp[RK.base]at bx; omega
       | z k=>rw[hp]at bx; simp only[RK.base]at bx; rw[hx3]at bx; subst bx; rw[hp,hq]at a3; simp[uU,RK.base,uV]at a3
      | z k =>
       rw[hq]at ot
       simp only[RK.base]at ot
       have H5:k=0:=by
        have a4:uU (kd p) (.z k)=false:=by rw[hq]at a3; exact a3
        have a5:uV 2 k=false:=by
         cases hp:kd p with
         | wr A=>rw[hp]at a4; exact a4
         | up A=>rw[hp]at a4; exact a4
         | rd b'=>rw[hp]at bx; simp[RK.base]at bx; omega
         | z k'=>rw[hp]at bx a4; simp only[RK.base]at bx; rw[hx3]at bx; subst bx; exact a4
        cases k with
        | zero=>rfl
        | succ m=>simp[uV]at a5
       subst H5
       exact(iY ot.symm iU).2 st
     ·have hy3:(qN c (qt f) y).kind=2:=Nat.le_antisymm (ZY _) Ie
      -- both write: one block each
      have hup:∃ a b,kd p=.up a/\kd i=.up b/\a≠b:=by
       cases hp:kd p with
       | rd b'=>rw[hp]at bx; simp[RK.base]at bx; omega
       | up a =>
        cases hq:kd i with
        | up b=>rw[hp,hq]at a3; exact⟨a,b,rfl,rfl,λe=>by subst e; simp[uU]at a3⟩
        | rd b'=>rw[hq]at ot; simp[RK.base]at ot; omega
        | wr A=>rw[hp,hq]at a3; simp[uU,RK.base,uV]at a3
        | z k=>rw[hq,hy3]at ot; simp only[RK.base]at ot; subst ot; rw[hp,hq]at a3; simp[uU,RK.base,uV]at a3
       | wr A =>
        cases hq:kd i with
        | up b=>rw[hp,hq]at a3; simp[uU,RK.base,uV]at a3
        | rd b'=>rw[hq]at ot; simp[RK.base]at ot; omega
        | wr B=>rw[hp,hq]at a3; simp[uU,RK.base,uV]at a3
        | z k=>rw[hq,hy3]at ot; simp only[RK.base]at ot; subst ot; rw[hp,hq]at a3; simp[uU,RK.base,uV]at a3
       | z k' =>
        rw[hp,hx3]at bx
        simp only[RK.base]at bx
        subst bx
        cases hq:kd i with
        | up b=>rw[hp,hq]at a3; simp[uU,RK.base,uV]at a3
        | rd b'=>rw[hq]at ot; simp[RK.base]at ot; omega
        | wr B=>rw[hp,hq]at a3; simp[uU,RK.base,uV]at a3
        | z k=>rw[hq,hy3]at ot; simp only[RK.base]at ot; subst ot; rw[hp,hq]at a3; simp[uU,RK.base,uV]at a3
      obtain⟨a,b,hp,hq,Ki⟩:=hup
      obtain⟨z1,e1,w1⟩:=X8 (by rw[<- hk]; exact hp) hl
      subst e1
      obtain⟨z2,e2,w2⟩:=X8 (by rw[<- cq]; exact hq) iU
      subst e2
      refine⟨st.set b z2,w2 st (by rw[List.getElem?_set_ne Ki]),?_,(rf (by rw[<- cq]; exact hq) st).trans hq.symm,(rf (by rw[<- hk]; exact hp) _).trans hp.symm⟩
      rw[List.set_comm _ _ Ki]
      exact w1 (st.set b z2) (by rw[List.getElem?_set_ne (λe=>Ki e.symm)])
   obtain⟨zx,k1,k2,k3,k4⟩:=key
   refine⟨_,⟨y,hy,hdy,.inl ⟨sU,k3.symm,e,_,k1,rfl⟩⟩,x,hx,hdx,.inl ⟨?_,?_,d,k9,?_,?_⟩⟩
   ·rw[wv a2]; exact hw
   ·rw[si (c:=c) a2]; exact k4.symm
   ·rw[kI (c:=c) a2]; exact k2
   ·simp only[gQ f d e Iy]
  ·simp only[wv a1]at sU
   refine⟨_,⟨y,hy,hdy,.inr ⟨sU,cq,rfl⟩⟩,x,hx,hdx,.inl ⟨?_,?_,d,b9,?_,?_⟩⟩
   ·rw[wv a2]; exact hw
   ·rw[si (c:=c) a2]; exact hk
   ·rw[kI (c:=c) a2]; exact hl
   ·simp only[gQ f d (some Nv) Iy]
 ·rcases hy' with⟨sU,cq,e,k9,iU,rfl⟩ | ⟨sU,cq,rfl⟩
  ·simp only[wv a1,kI (c:=c) a1,si (c:=c) a1]at sU cq iU
   refine⟨_,⟨y,hy,hdy,.inl ⟨sU,cq,e,k9,iU,rfl⟩⟩,x,hx,hdx,.inr ⟨?_,hk,?_⟩⟩
   ·rw[wv a2]; exact hw
   ·simp only[gQ f (some Nv) e Iy]
  ·simp only[wv a1]at sU
   refine⟨_,⟨y,hy,hdy,.inr ⟨sU,cq,rfl⟩⟩,x,hx,hdx,.inr ⟨?_,hk,?_⟩⟩
   ·rw[wv a2]; exact hw
   ·simp only[gQ f (some Nv) (some Nv) Iy]
end
end Go.AM
namespace Go.AM
set_option linter.unusedSectionVars false
variable [ur]
class Ku where
 df:List Deferred
instance JX:Ku:=⟨[]⟩
variable [Ku]
structure Rel(κ:KS)(n:Nat)(f:F)(a:Act):Prop where
 size:a.tmps.size=n
 defers:a.defers=Ku.df
 get:∀ (s:Nat) (d:D),f s=some d->∃ v,a.tmps[s]? = some v/\RD κ d v
section
variable {c:Ctx} {κ:KS} {n:Nat} {f:F} {a:Act}
theorem Rel.eval(h:Rel κ n f a){x:Operand}{d:D}(hx:qt f x=some d):RD κ d (a.eval x):=by
 cases x with
 | tmp t =>
  obtain⟨v,h1,h2⟩:=h.get t d hx
  simp only[Act.eval,Array.getD_eq_getD_getElem?,h1]
  exact h2
 | const v=>exact(Jz hx).1
 | global g=>cases hx
 | func g =>
  have hx:(bif Nat.blt g 1000000 then some (D.xk g [])else none)=some d:=hx
  cases hb:Nat.blt g 1000000 with
  | false=>grind
  | true =>
   rw[hb]at hx
   cases hx
   have:=RD.xk (κ:=κ) g [] [] rfl (λi h=>absurd h (Nat.not_lt_zero i))
   rwa [HE hb]at this
theorem Rel.mono{κ':KS}(x:Ext κ κ')(h:Rel κ n f a):Rel κ' n f a:=⟨h.size,h.defers,λs d hd=>by obtain⟨v,h1,h2⟩:=h.get s d hd; exact⟨v,h1,h2.mono x⟩⟩
theorem Rel.put{dst:Option Nat}{d:Option D}{v:Value}(h:Rel κ n f a)(hd:uk n dst=true)(hv:∀ d',d=some d'->RD κ d' v):Rel κ n (y7 f dst d) (a.put dst v):=by
 cases dst with
 | none=>exact h
 | some t =>
  have qD:t<n:=Nat.le_of_ble_eq_true hd
  refine⟨by simp[Act.put,h.size],h.defers,λs d' hs => ?_⟩
  simp only[y7]at hs
  simp only[Act.put]
  by_cases e:s=t
  ·subst e
   rw[if_pos rfl]at hs
   exact⟨v,by simp[h.size,qD],hv d' hs⟩
  ·rw[if_neg e]at hs
   obtain⟨u,h1,h2⟩:=h.get s d' hs
   grind
theorem Tn{v:Value}:RD κ Nv undef:=.gz [] [] rfl (λi h=>absurd h (Nat.not_lt_zero i))
theorem z3D{o:Oper}{d:Option D}{zx:St}(h:qH c.P (execOp a.eval o) κ d zx){K:Act->World->Prop}{Q:Exit->Act->World->Prop}
  (hK:∀ (v:Value) (κ':KS),κ'.st=zx->Inv κ'->Ext κ κ'->(∀ d',d=some d'->RD κ' d' v)->K (a.put o.dst v) κ'.w):o.wp c.P a κ.w K Q:=by
 obtain⟨κ',nx,v,h1,h2,h3,h4,h5,h6⟩:=h
 unfold Oper.wp
 rw[h1]
 rcases h2 with rfl | ⟨rfl,rfl⟩
 ·exact hK v κ' h3 h4 h5 h6
 ·exact hK undef κ' h3 h4 h5 h6
theorem En(h:Rel κ n f a)(x:Option Operand):WW κ (x.map (qt f)) (x.map a.eval):=by
 cases x with
 | none=>trivial
 | some x=>exact λy hy=>h.eval hy
theorem B8(hI:Inv κ)(hR:Rel κ n f a){b:Builtin}{args:Array Operand}{oq:Array TypeId}{o:Oper}(ho:o.op=.call ⟨.builtin b,args,oq⟩){d:Option D}{zx:St}
  (h:(zR (lP c b oq.toList (args.toList.map (qt f))) κ.st).leads (d,zx)):qH c.P (execOp a.eval o) κ d zx:=by
 have two:∀ {g:Value->Value->Sem Value} {m:Int->Int->Int},(∀ k k' a b,(g (.int k a) (.int k' b)).run c.P κ.w=.ok (.int k (m a b)) κ.w)->(zR (Uo m (args.toList.map (qt f))) κ.st).leads (d,zx) ->
   (∀ p q,args = #[p,q]->execOp a.eval o=(do Pure.pure (.value (<- g (a.eval p) (a.eval q))):Sem Next))->qH c.P (execOp a.eval o) κ d zx:=by
  intro g m hg h he
  match hl:args.toList,h with
  | [p,q],h =>
   have hpq:args = #[p,q]:=by rw[<- Array.toArray_toList (xs:=args),hl]
   rw[he p q hpq]
   obtain⟨r,h1,rfl,h3⟩:=EV hg hI (λz hz=>hR.eval (x:=p) hz) (λz hz=>hR.eval (x:=q) hz) h
   exact⟨κ,.value r,r,by simp[h1],.inl rfl,rfl,hI,Ext.refl κ,h3⟩
  | [],h=>exact absurd h zh
  | [_],h=>exact absurd h zh
  | _::_::_::_,h=>exact absurd h zh
 unfold lP at h
 split at h
 ·rename_i t ts x xs h1 h2
  have ht:oq[0]? = some t:=by rw[<- Array.getElem?_toList,h1]; rfl
  obtain⟨y,hy,rfl⟩:∃ y,args[0]? = some y/\x=qt f y:=by
   cases hl:args.toList with
   | nil=>grind
   | cons y ys=>rw[hl]at h2; simp at h2; exact⟨y,by rw[<- Array.getElem?_toList,hl]; rfl,h2.1.symm⟩
  have:=z2w (c:=c) (ty:=o.type) (ts:=oq) (vs:=args.map a.eval) hI (λz hz=>hR.eval (x:=y) hz) ht (by simp[hy]) h
  simp only[execOp,ho,resolve,invoke,builtin,pure_bind]
  exact this
 ·rename_i t t' s x h1 h2
  obtain⟨p,q,rfl,rfl,hpq⟩:∃ p q,s=qt f p/\x=qt f q/\args = #[p,q]:=by
   cases hl:args.toList with
   | nil=>grind
   | cons p r=>rw[hl]at h2; cases r with
    | nil=>simp at h2
    | cons q r=>cases r with
     | nil=>grind
     | cons _ _=>simp at h2
  subst hpq
  cases hb:Nat.beq t t' with
  | false =>
   rw[hb,cond_false]at h
   have TJ:oq = #[t,t']:=by rw[<- Array.toArray_toList (xs:=oq),h1]
   subst TJ
   have:=Uv (c:=c) (ty:=o.type) hI (λz hz=>hR.eval (x:=p) hz) (λz hz=>hR.eval (x:=q) hz) h
   have e2:(#[p,q]:Array Operand).map a.eval = #[a.eval p,a.eval q]:=by simp
   simp only[execOp,ho,resolve,invoke,builtin,pure_bind,e2]
   exact this
  | true =>
   rw[hb,cond_true]at h
   have e:=Nat.eq_of_beq_eq_true hb
   subst e
   have TJ:oq = #[t,t]:=by rw[<- Array.toArray_toList (xs:=oq),h1]
   subst TJ
   have:=BA (c:=c) (ty:=o.type) hI (λz hz=>hR.eval (x:=p) hz) (λz hz=>hR.eval (x:=q) hz) h
   have e2:(#[p,q]:Array Operand).map a.eval = #[a.eval p,a.eval q]:=by simp
   simp only[execOp,ho,resolve,invoke,builtin,pure_bind,e2]
   exact this
 ·rename_i t t' s x h1 h2
  obtain⟨p,q,rfl,rfl,hpq⟩:∃ p q,s=qt f p/\x=qt f q/\args = #[p,q]:=by
   cases hl:args.toList with
   | nil=>grind
   | cons p r=>rw[hl]at h2; cases r with
    | nil=>simp at h2
    | cons q r=>cases r with
     | nil=>simp at h2; exact⟨p,q,h2.1.symm,h2.2.symm,by rw[<- Array.toArray_toList (xs:=args),hl]⟩
     | cons _ _=>simp at h2
  subst hpq
  have TJ:oq = #[t,t']:=by rw[<- Array.toArray_toList (xs:=oq),h1]
  subst TJ
  have:=NN (c:=c) (ty:=o.type) (t':=t') hI (λz hz=>hR.eval (x:=p) hz) (λz hz=>hR.eval (x:=q) hz) h
  have e2:(#[p,q]:Array Operand).map a.eval = #[a.eval p,a.eval q]:=by simp
  simp only[execOp,ho,resolve,invoke,builtin,pure_bind,e2]
  exact this
 ·rename_i h2
  exact two (g:=Builtin.min2) (λk k' a b=>by simp[Builtin.min2,Vi]) h λp q hpq=>by
   subst hpq
   have e2:(#[p,q]:Array Operand).map a.eval = #[a.eval p,a.eval q]:=by simp
   simp only[execOp,ho,resolve,invoke,builtin,pure_bind,e2]
   simp[Builtin.min_]
 ·rename_i h2
  exact two (g:=Builtin.max2) (λk k' a b=>by simp[Builtin.max2,ng]) h λp q hpq=>by
   subst hpq
   have e2:(#[p,q]:Array Operand).map a.eval = #[a.eval p,a.eval q]:=by simp
   simp only[execOp,ho,resolve,invoke,builtin,pure_bind,e2]
   simp[Builtin.max_]
 ·exact absurd h zh
theorem z3b{o:Oper}{g:Nat}{caps:Array Value}{args:Array Value}{R:Ending->World->Prop}(wX:(execOp a.eval o).run c.P κ.w=(callFunc g args).run c.P κ.w)
  (h:j6 c.P g args κ.w R) {K:Act->World->Prop} {Q:Exit->Act->World->Prop} (hR:∀ e w',R e w'->∃ v,e=.returned v/\K (a.put o.dst v) w'):o.wp c.P a κ.w K Q:=by
 unfold Oper.wp
 rw[wX]
 rcases h with⟨h1,h2⟩ | ⟨v,w',h1,h2⟩
 ·rw[h1]
  refine h2.mono λe w' he => ?_
  grind
 ·rw[h1]
  obtain⟨u,hu,hk⟩:=hR _ _ h2
  cases hu
  exact hk
theorem K7(g:Nat){l caps:List D}{vs us:List Value}(h1:qM κ l vs)(h2:qM κ caps us):qM κ (jT g l caps) (jT g vs us):=by
 unfold jT
 cases Nat.ble 1000000 g with
 | true=>exact h2.append h1
 | false=>exact h1.append h2
theorem D4{dst:Option Nat}{p:Operand}{args:Array Operand}{oq:Array TypeId}{ty:TypeId}{pos:String}{after:Array Edge}{guard:Option (Nat×Bool)}{g:Nat}{us:List Value}{P:Program}{w:World}(By:a.eval p=oj g us) :
  (execOp a.eval ⟨dst,.call ⟨.value p,args,oq⟩,ty,pos,after,guard⟩).run P w=(callFunc (yZ g) (jT g (args.toList.map a.eval) us).toArray).run P w:=by
 unfold oj at By
 unfold yZ jT
 cases hb:Nat.ble 1000000 g with
 | true =>
  rw[hb]at By
  simp at By ⊢
  have e:us.toArray++args.map a.eval=(us++args.toList.map a.eval).toArray:=by apply Array.ext'; simp
  simp only[execOp,resolve,By,Deferred.ofValue,pure_bind,invoke,Array.append_empty,e]
 | false =>
  rw[hb]at By
  simp at By ⊢
  have e:args.map a.eval++us.toArray=(args.toList.map a.eval++us).toArray:=by apply Array.ext'; simp
  simp only[execOp,resolve,By,Deferred.ofValue,pure_bind,invoke,Array.empty_append,e]
theorem CW{o:Oper}{d:Option D}{zx:St}(hC:∀ g,Bu c.P g (c.fn g))(hI:Inv κ)(hR:Rel κ n f a)(h:(zR (qN c (qt f) o) κ.st).leads (d,zx)){K:Act->World->Prop}{Q:Exit->Act->World->Prop}
  (hK:∀ (v:Value) (κ':KS),κ'.st=zx->Inv κ'->Ext κ κ'->(∀ d',d=some d'->RD κ' d' v)->K (a.put o.dst v) κ'.w):o.wp c.P a κ.w K Q:=by
 have ig:∀ (x:Operand) (z:D),qt f x=some z->RD κ z (a.eval x):=λx z hz=>hR.eval hz
 obtain⟨dst,op,ty,pos,after,guard⟩:=o
 have fin:qH c.P (execOp a.eval ⟨dst,op,ty,pos,after,guard⟩) κ d zx->Oper.wp c.P ⟨dst,op,ty,pos,after,guard⟩ a κ.w K Q:=λhd=>z3D hd hK
 cases op with
 | move x =>
  simp only[qN,vC,T.leads]at h
  obtain⟨h,rfl⟩:=h
  exact fin (qH.val hI λd' yq=>ig x d' (h.trans yq))
 | assign x =>
  simp only[qN,vC,T.leads]at h
  obtain⟨h,rfl⟩:=h
  exact fin (qH.val hI λd' yq=>ig x d' (h.trans yq))
 | pick x p q =>
  simp only[qN,I7]at h
  split at h
  ·rename_i b hb
   have hv:=sj hb (ig x)
   rw[vC]at h
   obtain⟨h,rfl⟩:=h
   refine fin ⟨κ,.value (if b then a.eval p else a.eval q),if b then a.eval p else a.eval q,?_,.inl rfl,rfl,hI,Ext.refl κ,λd' yq => ?_⟩
   ·simp[execOp,hv,Go.asBool]
   ·rcases h with⟨rfl,h⟩ | ⟨rfl,h⟩
    ·exact ig p d' (h.trans yq)
    ·exact ig q d' (h.trans yq)
  ·exact absurd h zh
 | alloc t=>exact fin (EJ hI h)
 | box t x=>exact fin (Eu hI (ig x) h)
 | load t x=>exact fin (O4 hI (ig x) h)
 | store t x y=>exact fin (Fl hI (ig x) (ig y) h)
 | nilCheck x=>exact fin (KC rfl hI (ig x) h)
 | binOp op t x y ty' =>
  have h:(zR (EU c op t y (qt f x) (qt f y)) κ.st).leads (d,zx):=h
  unfold EU at h
  split at h
  ·exact fin (Ec hI (ig x) h)
  ·exact fin (SD hI (ig x) (ig y) h)
 | typeAssert x xt t ok=>exact fin (Vj hI (ig x) h)
 | unOp op t x=>exact fin (z3C hI (ig x) h)
 | convert s t x=>exact fin (GF hI (ig x) h)
 | makeInterface t x=>exact fin (K6 hI (ig x) h)
 | makeFunc fn first cap =>
  cases fn with
  | func g =>
   simp only[qN]at h
   cases hb:Nat.beq first.size 0&&Nat.blt g 1000000 with
   | false =>
    rw[hb,cond_false]at h
    cases DC:Nat.beq cap.size 0&&Nat.blt g 1000000 with
    | false=>rw[DC]at h; exact absurd h zh
    | true =>
     rw[DC,cond_true]at h
     simp only[Bool.and_eq_true]at DC
     have hf:cap = #[]:=Array.eq_empty_of_size_eq_zero (Nat.eq_of_beq_eq_true DC.1)
     subst hf
     split at h
     ·rename_i l hl
      rw[kh]at h
      obtain⟨rfl,rfl⟩:=h
      have hr:=gM (κ:=κ) (vs:=first.toList.map a.eval) hl (by simp) (λi d v hd hv=>by
       simp only[List.getElem?_map]at hd hv
       cases hi:first.toList[i]? with
       | none=>grind
       | some x=>rw[hi]at hd hv; simp at hd hv; subst hv; exact ig x d hd)
      refine fin (qH.pure hI ?_ (.xk (g+1000000) l _ hr.1 hr.2))
      have e:(first.toList.map a.eval).toArray=first.map a.eval:=by apply Array.ext'; simp
      rw[EX DC.2,e]
      simp[Instr.makeFunc]
     ·exact absurd h zh
   | true =>
    rw[hb,cond_true]at h
    simp only[Bool.and_eq_true]at hb
    have hf:first = #[]:=Array.eq_empty_of_size_eq_zero (Nat.eq_of_beq_eq_true hb.1)
    subst hf
    split at h
    ·rename_i l hl
     rw[kh]at h
     obtain⟨rfl,rfl⟩:=h
     have hr:=gM (κ:=κ) (vs:=cap.toList.map a.eval) hl (by simp) (λi d v hd hv=>by
      simp only[List.getElem?_map]at hd hv
      cases hi:cap.toList[i]? with
      | none=>grind
      | some x=>rw[hi]at hd hv; simp at hd hv; subst hv; exact ig x d hd)
     refine fin (qH.pure hI ?_ (.xk g l _ hr.1 hr.2))
     have e:(cap.toList.map a.eval).toArray=cap.map a.eval:=by apply Array.ext'; simp
     rw[HE hb.2,e]
     simp[Instr.makeFunc]
    ·exact absurd h zh
  | _=>exact absurd h zh
 | makeSlice t x y=>exact fin (NW hI (ig x) (ig y) h)
 | slice t x lo hi mx=>exact fin (El hI (ig x) (En hR lo) (En hR hi) (En hR mx) h)
 | fieldAddr s x fl=>exact fin (Ui hI (ig x) h)
 | field s x fl=>exact fin (I1 hI (ig x) h)
 | indexAddr t x i=>exact fin (U1 hI (ig x) (ig i) h)
 | index t x i=>exact fin (FH hI (ig x) (ig i) h)
 | extract x i=>exact fin (H7 hI (ig x) h)
 | build t ps =>
  have:=Ib (L:=ps.toList) (G:=a.eval) hI ig h
  refine fin ?_
  have e:(ps.toList.map λp=>(p.1,a.eval p.2)).toArray=ps.map λp=>(p.1,a.eval p.2):=by apply Array.ext'; simp
  rw[e]at this
  exact this
 | buildSlice t k ps =>
  have:=Vl (L:=ps.toList) (G:=a.eval) hI ig h
  refine fin ?_
  have e:(ps.toList.map λp=>(p.1,a.eval p.2)).toArray=ps.map λp=>(p.1,a.eval p.2):=by apply Array.ext'; simp
  rw[e]at this
  exact this
 | call cl =>
  obtain⟨callee,args,oq⟩:=cl
  cases callee with
  | builtin b=>exact fin (B8 hI hR rfl h)
  | invoke r m=>exact absurd h zh
  | value p =>
   simp only[qN,dD]at h
   split at h
   ·rename_i g caps l hp hl
    have hpv:=ig p _ hp
    have hr:=gM (κ:=κ) (vs:=args.toList.map a.eval) hl (by simp) (λi d v hd hv=>by
      simp only[List.getElem?_map]at hd hv
      cases hi:args.toList[i]? with
      | none=>rw[hi]at hd; cases hd
      | some x=>rw[hi]at hd hv; simp at hd hv; subst hv; exact ig x d hd)
    generalize By:a.eval p=pv at hpv
    cases hpv with
    | xk _ _ us iU hh2 =>
     have oJ:=K7 g hr (⟨iU,hh2⟩:qM κ caps us)
     refine z3b (c:=c) (κ:=κ) (g:=yZ g) (caps := #[]) (args:=(jT g (args.toList.map a.eval) us).toArray) ?_ (OX (hC (yZ g)) hI oJ h) ?_
     ·exact D4 By
     ·rintro e w' ⟨κ',v,rfl,h1,h2,h3,rfl,h4⟩
      exact⟨v,rfl,hK v κ' h1 h2 h3 h4⟩
   ·exact absurd h zh
 | _=>exact absurd h zh
end
end Go.AM
namespace Go.AM
set_option linter.unusedSectionVars false
variable [ur] [Ku]
section
variable {c:Ctx} {n:Nat} {ops:Array Oper}
theorem Hq(j:Nat):jb ops j=(ops[j]?).bind (·.dst):=by
 unfold jb; cases ops[j]? <;> rfl
theorem lX{κ:KS}{f:F}{a:Act}{o:Oper}{b:Bool}(hR:Rel κ n f a)(h:wC ops f o=some b):Region.wanted o (yielded ops a.tmps)=b:=by
 unfold wC at h
 unfold Region.wanted
 split at h
 ·grind
 ·rename_i j w hg
  rw[hg]
  split at h
  ·cases h
  ·rename_i t ht
   rw[Hq]at ht
   simp only[yielded,ht,Option.bind_some]
   split at h
   ·rename_i x hx
    obtain⟨v,h1,h2⟩:=hR.get t _ hx
    have:=h2.kN
    cases h
    grind
   ·rename_i hx
    obtain⟨v,h1,h2⟩:=hR.get t _ hx
    cases h
    rw[h1]
    cases h2 with
    | gz _ vs hl hh=>rfl
   ·cases h
def fW(ops:Array Oper)(a a':Act):Prop:=∀ s:Nat,(∀ o∈ops.toList,o.dst≠some s)->a'.tmps[s]? = a.tmps[s]?
theorem fW.refl(ops:Array Oper)(a:Act):fW ops a a:=λ_ _=>rfl
theorem fW.trans{ops:Array Oper}{a b d:Act}(h:fW ops a b)(k:fW ops b d):fW ops a d:=λs hs=>(k s hs).trans (h s hs)
theorem rj{ops:Array Oper}{i:Nat}{o:Oper}{a:Act}{v:Value}(ho:ops[i]? = some o):fW ops a (a.put o.dst v):=by
 intro s hs
 have hm:o∈ops.toList:=by have:=Array.mem_of_getElem? ho; simpa using this
 have:=hs o hm
 cases hd:o.dst with
 | none=>rfl
 | some t =>
  rw[hd]at this
  have uh:t≠s:=λe=>this (by rw[e])
  simp[Act.put,Array.getElem?_setIfInBounds_ne uh]
theorem JD{κ:KS}{a:Act}{i k:Nat}{s s':F×St}(hC:∀ g,Bu c.P g (c.fn g))(hI:Inv κ)(hR:Rel κ n s.1 a)(xR:κ.st=s.2)(h:gR c n ops i s s' k){K:Act->World->Prop}{Q:Exit->Act->World->Prop}
  (hK:∀ (a':Act) (κ':KS),κ'.st=s'.2->Inv κ'->Ext κ κ'->Rel κ' n s'.1 a'->fW ops a a'->K a' κ'.w):wpOp c.P ops Q i K a κ.w:=by
 obtain⟨o,ho,hd,h⟩:=h
 unfold wpOp
 rw[ho]
 simp only
 rcases h with⟨hw,_,d,zx,hl,rfl⟩ | ⟨hw,_,rfl⟩
 ·rw[if_pos (lX hR hw)]
  refine .inl (CW hC hI hR (xR▸hl) λv κ' h1 h2 h3 h4=>hK _ κ' h1 h2 h3 ((hR.mono h3).put hd h4) (rj ho))
 ·rw[if_neg (by rw[lX hR hw]; exact Bool.false_ne_true)]
  exact hK _ κ xR hI (Ext.refl κ) (hR.put hd λd' yq=>by cases yq; exact Tn (v:=undef)) (rj ho)
theorem Lt{Q:Exit->Act->World->Prop}(hC:∀ g,Bu c.P g (c.fn g)):∀ (l:List Nat) {κ:KS} {a:Act} {s s':F×St} {ks:List Nat},Inv κ->Rel κ n s.1 a->κ.st=s.2->Oa c n ops l s s' ks ->
  (∀ (a':Act) (κ':KS),κ'.st=s'.2->Inv κ'->Ext κ κ'->Rel κ' n s'.1 a'->fW ops a a'->Q .normal a' κ'.w)->wpOps c.P ops Q l a κ.w
 | [],κ,a,s,s',ks,hI,hR,xR,h,hQ=>by
  obtain⟨rfl,_⟩:=h
  exact hQ a κ xR hI (Ext.refl κ) hR (fW.refl _ _)
 | i::l,κ,a,s,s',ks,hI,hR,xR,h,hQ=>by
  obtain⟨s1,k,Fs,_,h1,h2⟩:=h
  refine JD hC hI hR xR h1 λa1 κ1 g1 g2 g3 g4 g5 => ?_
  exact Lt hC l g2 g4 g1 h2 λa' κ' e1 e2 e3 e4 e5=>hQ a' κ' e1 e2 (g3.trans e3) e4 (g5.trans e5)
theorem XS{Q:Exit->Act->World->Prop}(hC:∀ g,Bu c.P g (c.fn g)):∀ (l m:List Nat) {κ:KS} {a:Act} {s s':F×St} {ks:List Nat},Inv κ->Rel κ n s.1 a->κ.st=s.2->Oa c n ops l s s' ks ->
  (∀ (a':Act) (κ':KS),κ'.st=s'.2->Inv κ'->Ext κ κ'->Rel κ' n s'.1 a'->fW ops a a'->wpOps c.P ops Q m a' κ'.w)->wpOps c.P ops Q (l++m) a κ.w
 | [],m,κ,a,s,s',ks,hI,hR,xR,h,hQ=>by
  obtain⟨rfl,_⟩:=h
  exact hQ a κ xR hI (Ext.refl κ) hR (fW.refl _ _)
 | i::l,m,κ,a,s,s',ks,hI,hR,xR,h,hQ=>by
  obtain⟨s1,k,Fs,_,h1,h2⟩:=h
  refine JD hC hI hR xR h1 λa1 κ1 g1 g2 g3 g4 g5 => ?_
  exact XS hC l m g2 g4 g1 h2 λa' κ' e1 e2 e3 e4 e5=>hQ a' κ' e1 e2 (g3.trans e3) e4 (g5.trans e5)
theorem Ji{kd:Nat->Nat}:∀ (l:List Nat) (s s':F×St) (ks:List Nat),Oa c n ops l s s' ks->ks=l.map kd->nU c n ops kd l s s'
 | [],s,s',ks,h,_=>h.1
 | i::l,s,s',ks,⟨s1,k,Fs,e,h1,h2⟩,hk=>by
  subst e
  simp at hk
  obtain⟨rfl,hk⟩:=hk
  exact⟨s1,h1,Ji l s1 s' Fs h2 hk⟩
theorem C8:∀ (l:List Nat) (s s':F×St) (ks:List Nat),Oa c n ops l s s' ks->ks.length=l.length
 | [],_,_,_,h=>by rw[h.2]
 | i::l,s,s',ks,⟨s1,k,Fs,e,h1,h2⟩=>by subst e; simp[C8 l s1 s' Fs h2]
theorem CA(acc:List Nat):∀ (es:List Edge) (s0 p:Nat),Nat.testBit (es.foldl (λs e=>bif Region.binds .any e then s ||| 2 ^ e.on ||| acc.getD e.on 0 else s) s0) p=true ->
  Nat.testBit s0 p=true\/∃ e∈es,Region.binds .any e=true/\(p=e.on\/Nat.testBit (acc.getD e.on 0) p=true)
 | [],s0,p,h=>.inl h
 | e::es,s0,p,h=>by
  rcases CA acc es _ p h with h1 | ⟨e',h1,h2⟩
  ·grind
  ·grind
theorem nb:∀ (l:List Oper) (acc:List Nat),∃ r,xz l acc=acc++r/\r.length=l.length /\
  ∀ j o,l[j]? = some o->∀ p,Nat.testBit ((xz l acc).getD (acc.length+j) 0) p=true ->
   ∃ e∈o.after.toList,Region.binds .any e=true/\(p=e.on\/(e.on<acc.length+j/\Nat.testBit ((xz l acc).getD e.on 0) p=true))
 | [],acc=>⟨[],by simp[xz],rfl,λj o h=>by simp at h⟩
 | o::l,acc=>by
  let b:=o.after.toList.foldl (λs e=>bif Region.binds .any e then s ||| 2 ^ e.on ||| acc.getD e.on 0 else s) 0
  obtain⟨r,h1,h2,h3⟩:=nb l (acc++[b])
  have hb:xz (o::l) acc=xz l (acc++[b]):=rfl
  have Oj:∀ i,i<acc.length->(xz l (acc++[b])).getD i 0=acc.getD i 0:=λi hi=>by
   grind
  refine⟨b::r,by rw[hb,h1]; simp,by simp[h2],?_⟩
  rw[hb]
  intro j o' ho p hp
  cases j with
  | zero =>
   simp at ho
   subst ho
   have he:(xz l (acc++[b])).getD (acc.length+0) 0=b:=by rw[h1]; simp[List.getD]
   rw[he]at hp
   rcases CA acc _ 0 p hp with h | ⟨e,k1,k2,k3⟩
   ·simp at h
   ·grind
  | succ j =>
   have:=h3 j o' (by simpa using ho) p (by rw[show(acc++[b]).length+j=acc.length+(j+1) by simp; omega]; exact hp)
   grind
theorem nP:∀ (l:List Oper) (k:Nat),bO l k=true->∀ j o,l[j]? = some o->∀ e∈o.after.toList,Region.binds .any e=true->e.on<k+j
 | [],_,_,j,o,h,_,_,_=>by simp at h
 | o::l,k,h,j,o',ho,e,he,hb=>by
  simp only[bO,Bool.and_eq_true,List.all_eq_true]at h
  cases j with
  | zero =>
   simp at ho
   subst ho
   have:=h.1 e he
   rw[hb]at this
   exact Nat.le_of_ble_eq_true this
  | succ j =>
   have:=nP l (k+1) h.2 j o' (by grind) e he hb
   omega
def Si{K:Type}(cl:K->K->Bool)(ops:Array Oper)(x:Oper)(kx:K)(y:Oper)(ky:K):Prop:=(∀ d,x.dst=some d->d ∉ tmpsOf ops y)/\(∀ d,y.dst=some d->d ∉ tmpsOf ops x)/\cl kx ky=false
theorem Bz{K:Type}{cl:K->K->Bool}{bs:List Nat}{xs:List (Nat×Option Nat×List Nat×K)}{j:Nat}{ky:K}{y:Oper}(h:Fq cl bs xs j y.dst (tmpsOf ops y) ky=true){i:Nat}{kx:K}{x:Oper}(hx:(i,x.dst,tmpsOf ops x,kx)∈xs) :
  ordered bs i j=true\/Si cl ops x kx y ky:=by
 simp only[Fq,List.all_eq_true]at h
 have:=h _ hx
 simp at this
 rcases this with h1 | ⟨⟨h1,h2⟩,h3⟩
 ·grind
 ·refine .inr ⟨λd hd hm => ?_,λd hd hm => ?_,h3⟩
  ·grind
  ·grind
theorem nK{K:Type}{cl:K->K->Bool}{bs:List Nat}:∀ (l:List Oper) (ks:List K) (k0:Nat) (xs:List (Nat×Option Nat×List Nat×K)),mP cl ops bs l ks k0 xs=true ->
  (∀ j y ky,l[j]? = some y->ks[j]? = some ky->(∀ i x kx,(i,x.dst,tmpsOf ops x,kx)∈xs->ordered bs i (k0+j)=true\/Si cl ops x kx y ky) /\
   (∀ i x kx,i<j->l[i]? = some x->ks[i]? = some kx->ordered bs (k0+i) (k0+j)=true\/Si cl ops x kx y ky))
 | [],_,_,_,_,j,y,ky,hy,_=>by simp at hy
 | o::l,[],_,_,h,_,_,_,_,_=>by simp[mP]at h
 | o::l,k::ks,k0,xs,h,j,y,ky,hy,hk=>by
  simp only[mP,Bool.and_eq_true]at h
  obtain⟨h1,h2⟩:=h
  have ih:=nK l ks (k0+1) _ h2
  cases j with
  | zero =>
   simp at hy hk
   subst hy hk
   exact⟨λi x kx hx=>by simpa using Bz h1 hx,λi x kx hi=>absurd hi (Nat.not_lt_zero i)⟩
  | succ j =>
   obtain⟨g1,g2⟩:=ih j y ky (by simpa using hy) (by simpa using hk)
   have e:k0+1+j=k0+(j+1):=by omega
   rw[e]at g1 g2
   refine⟨λi x kx hx=>g1 i x kx (List.mem_cons_of_mem _ hx),λi x kx hi hx hkx => ?_⟩
   cases i with
   | zero =>
    grind
   | succ i =>
    grind
def rest(ops:Array Oper)(listed:Array Bool):List Nat:=(List.range ops.size).filter λi => !listed.getD i true
def Zx(ops:Array Oper)(listed:Array Bool):Prop:=∀ q,q<ops.size->listed.getD q true=true->∀ p,ordered (xz ops.toList []) p q=true->p<ops.size->listed.getD p true=true
theorem jE{listed:Array Bool}{i j:Nat}(hi:i<listed.size):(listed.setIfInBounds i true).getD j true=if j=i then true else listed.getD j true:=by
 simp
 grind
theorem hO{p q:Nat->Bool}{i:Nat}:∀ (l:List Nat),l.Pairwise (· < ·)->i∈l->p i=true->(∀ j,q j=(p j && !(j==i))) ->
  ∃ pre post,l.filter p=pre++i::post/\l.filter q=pre++post/\∀ x∈pre,p x=true/\x∈l/\x<i
 | [],_,hi,_,_=>by simp at hi
 | a::l,hn,hi,hp,hq=>by
  have hn':=List.pairwise_cons.1 hn
  by_cases ha:a=i
  ·subst ha
   refine⟨[],l.filter p,by grind,?_,by simp⟩
   have hqa:q a=false:=by rw[hq]; simp
   simp only[List.filter_cons,hqa]
   refine List.filter_congr λx hx => ?_
   rw[hq]
   have:(x==a)=false:=by simp; exact λe=>absurd (hn'.1 x hx) (by omega)
   simp[this]
  ·have Kk:i∈l:=by rcases List.mem_cons.1 hi with h | h; exact absurd h.symm ha; exact h
   obtain⟨pre,post,h1,h2,h3⟩:=hO l hn'.2 Kk hp hq
   grind
theorem nM{listed:Array Bool}{i:Nat}:i∈Region.ready .any ops listed↔i<ops.size/\listed.getD i true=false/\∀ o,ops[i]? = some o->∀ e∈o.after.toList,Region.binds .any e=true->listed.getD e.on false=true:=by
 unfold Region.ready
 simp only[List.mem_filter,List.mem_range,Bool.and_eq_true,Bool.not_eq_true']
 constructor
 ·rintro⟨h1,h2,h3⟩
  refine⟨h1,h2,λo ho e he hb => ?_⟩
  rw[ho]at h3
  simp only[Option.map_some,Option.getD_some,Array.all_eq_true_iff_forall_mem]at h3
  grind
 ·grind
theorem UW(FY:bO ops.toList 0=true){listed:Array Bool}(jv:listed.size=ops.size):Region.ready .any ops listed=[]->rest ops listed=[]:=by
 intro hr
 cases hre:rest ops listed with
 | nil=>rfl
 | cons i l =>
  have hi:i∈rest ops listed:=by rw[hre]; exact List.mem_cons_self
  simp only[rest,List.mem_filter,List.mem_range,Bool.not_eq_true']at hi
  have z7E:∀ j,j<i->listed.getD j true=true:=by
   intro j hj
   cases hl:listed.getD j true with
   | true=>rfl
   | false =>
    have hpw:(rest ops listed).Pairwise (· < ·):=List.Pairwise.filter _ List.pairwise_lt_range
    have hjm:j∈rest ops listed:=by simp only[rest,List.mem_filter,List.mem_range,Bool.not_eq_true']; exact⟨by omega,hl⟩
    rw[hre]at hpw hjm
    rcases List.mem_cons.1 hjm with rfl | hjm
    ·grind
    ·have:=(List.pairwise_cons.1 hpw).1 j hjm; omega
  have:i∈Region.ready .any ops listed:=by
   rw[nM]
   refine⟨hi.1,hi.2,λo ho e he hb => ?_⟩
   have qD:=nP ops.toList 0 FY i o (by grind) e he hb
   grind
  grind
def J6(Stp:Nat->F×St->F×St->Prop):List Nat->F×St->F×St->Prop
 | [],s,s'=>s'=s
 | i::l,s,s'=>∃ s1,Stp i s s1/\J6 Stp l s1 s'
theorem YU{Stp:Nat->F×St->F×St->Prop}{In:Nat->Nat->Prop}(DM:∀ p i,In p i->∀ s s1 s2,Stp p s s1->Stp i s1 s2->∃ s',Stp i s s'/\Stp p s' s2){i:Nat}{post:List Nat}{s':F×St}:∀ {pre:List Nat} {s:F×St},(∀ p∈pre,In p i)->J6 Stp (pre++i::post) s s' ->
  ∃ s1,Stp i s s1/\J6 Stp (pre++post) s1 s'
 | [],s,_,h=>h
 | p::pre,s,hp,⟨sp,h1,h2⟩=>by
  obtain⟨s1,h3,h4⟩:=YU DM (λq hq=>hp q (List.mem_cons_of_mem _ hq)) h2
  obtain⟨s2,h5,h6⟩:=DM _ _ (hp p List.mem_cons_self) _ _ _ h1 h3
  exact⟨s2,h5,s1,h6,h4⟩
theorem Xm{Stp:Nat->F×St->F×St->Prop}{In:Nat->Nat->Prop}(Sn:∀ i s s',Stp i s s'->∃ k,gR c n ops i s s' k)(DM:∀ p i,In p i->∀ s s1 s2,Stp p s s1->Stp i s1 s2->∃ s',Stp i s s'/\Stp p s' s2){Q:Exit->Act->World->Prop}(hC:∀ g,Bu c.P g (c.fn g))(FY:bO ops.toList 0=true)
  {sf:F×St}:∀ (fuel:Nat) (listed:Array Bool) {κ:KS} {a:Act} {s:F×St},(∀ p i,p<i->i<ops.size->listed.getD p true=false->ordered (xz ops.toList []) p i=true\/In p i) ->
  listed.size=ops.size->fuel=(rest ops listed).length->Zx ops listed->Inv κ->Rel κ n s.1 a->κ.st=s.2->J6 Stp (rest ops listed) s sf ->
  (∀ (a':Act) (κ':KS),κ'.st=sf.2->Inv κ'->Ext κ κ'->Rel κ' n sf.1 a'->fW ops a a'->Q .normal a' κ'.w)->wpAny c.P .any ops Q fuel listed a κ.w
 | fuel,listed,κ,a,s,yh,jv,hfuel,Xi,hI,hR,xR,wX,hQ=>by
  have z7s:=UW FY (listed:=listed) jv
  have TL:rest ops listed=[]->Q .normal a κ.w:=by
   intro h
   rw[h]at wX
   cases wX
   exact hQ a κ xR hI (Ext.refl κ) hR (fW.refl _ _)
  cases fuel with
  | zero =>
   have hre:rest ops listed=[]:=List.eq_nil_of_length_eq_zero hfuel.symm
   refine⟨?_,TL hre⟩
   apply List.eq_nil_iff_forall_not_mem.2
   intro i hi
   rw[nM]at hi
   have:i∈rest ops listed:=by simp only[rest,List.mem_filter,List.mem_range,Bool.not_eq_true']; exact⟨hi.1,hi.2.1⟩
   grind
  | succ fuel =>
   refine⟨λh=>TL (z7s h),λi hi => ?_⟩
   rw[nM]at hi
   obtain⟨h1,h2,h3⟩:=hi
   have ho:ops[i]? = some ops[i]:=Array.getElem?_eq_getElem h1
   obtain⟨pre,post,g1,g2,g3⟩:=hO (p:=λi => !listed.getD i true) (q:=λj => !(listed.setIfInBounds i true).getD j true) (i:=i) (List.range ops.size) List.pairwise_lt_range
    (List.mem_range.2 h1) (by simp[h2]) (λj=>by
     rw[jE (by omega)]
     by_cases h:j=i
     ·grind
     ·simp[h])
   have PH:∀ p,ordered (xz ops.toList []) p i=true->p<ops.size->listed.getD p true=true:=by
    intro p hp qD
    obtain⟨r,_,_,hb⟩:=nb ops.toList []
    obtain⟨e,k1,k2,k3⟩:=hb i ops[i] (by simp) p (by simpa[ordered]using hp)
    have hle:=h3 _ ho e k1 k2
    have KW:=nP ops.toList 0 FY i ops[i] (by simp) e k1 k2
    have KF:listed.getD e.on true=true:=by
     grind
    rcases k3 with rfl | ⟨_,k3⟩
    ·exact KF
    ·exact Xi e.on (by omega) KF p k3 qD
   have Sc:∀ p∈pre,In p i:=by
    grind
   have DZ:J6 Stp (pre++i::post) s sf:=by
    have:rest ops listed=pre++i::post:=g1
    grind
   obtain⟨s1,k1,k2⟩:=YU DM Sc DZ
   have pC:rest ops (listed.setIfInBounds i true)=pre++post:=g2
   obtain⟨kk,k1⟩:=Sn _ _ _ k1
   refine JD hC hI hR xR k1 λa1 κ1 e1 e2 e3 e4 e5 => ?_
   refine Xm Sn DM hC FY fuel (listed.setIfInBounds i true) (λp j hpj hj hp=>yh p j hpj hj (by
    rw[jE (by omega)]at hp
    split at hp
    ·cases hp
    ·exact hp)) (by simp[jv]) ?_ ?_ e2 e4 e1 (by rw[pC]; exact k2) λa' κ' d1 d2 d3 d4 d5=>hQ a' κ' d1 d2 (e3.trans d3) d4 (e5.trans d5)
   ·have:rest ops listed=pre++i::post:=g1
    rw[this]at hfuel
    rw[pC]
    simp only[List.length_append,List.length_cons]at hfuel ⊢
    omega
   ·intro q hq NY p hp qD
    rw[jE (by omega)]at NY ⊢
    split
    ·rfl
    ·split at NY
     ·rename_i e; subst e; exact PH p hp qD
     ·exact Xi q hq NY p hp qD
theorem CF{kd:Nat->Nat}:∀ (l:List Nat) (s s':F×St),nU c n ops kd l s s'->J6 (λi s s'=>gR c n ops i s s' (kd i)) l s s'
 | [],_,_,h=>h
 | i::l,s,s',⟨s1,h1,h2⟩=>⟨s1,h1,CF l s1 s' h2⟩
theorem UA{kd:Nat->Nat}{Q:Exit->Act->World->Prop}(hC:∀ g,Bu c.P g (c.fn g))(FY:bO ops.toList 0=true)
  {sf:F×St}:∀ (fuel:Nat) (listed:Array Bool) {κ:KS} {a:Act} {s:F×St},(∀ p i,p<i->i<ops.size->listed.getD p true=false->ordered (xz ops.toList []) p i=true\/Ind ops kd p i) ->
  listed.size=ops.size->fuel=(rest ops listed).length->Zx ops listed->Inv κ->Rel κ n s.1 a->κ.st=s.2->nU c n ops kd (rest ops listed) s sf ->
  (∀ (a':Act) (κ':KS),κ'.st=sf.2->Inv κ'->Ext κ κ'->Rel κ' n sf.1 a'->fW ops a a'->Q .normal a' κ'.w)->wpAny c.P .any ops Q fuel listed a κ.w
 | fuel,listed,κ,a,s,yh,jv,hfuel,Xi,hI,hR,xR,wX,hQ =>
  Xm (Stp:=λi s s'=>gR c n ops i s s' (kd i)) (In:=λp i=>Ind ops kd p i) (λi s s' h=>⟨_,h⟩) (λp i hi s s1 s2 h1 h2=>Yt hi h1 h2) hC FY fuel listed yh jv hfuel Xi hI hR xR (CF _ _ _ wX) hQ
end
end Go.AM
namespace Go.AM
set_option linter.unusedSectionVars false
variable [ur] [Ku]
open Go.RowKit
structure Up(κ κ':KS):Prop where
 same:Eh κ.w κ'.w κ.ok κ'.ok
 var:∀ (b:Nat) (d:D),κ.st[b]? = some (.var d)->(∃ d',κ'.st[b]? = some (.var d'))/\κ'.ph[b]? = κ.ph[b]?
 old:∀ (b qJ:Nat),Old κ.st b qJ->Old κ'.st b qJ
 row:∀ (b v:Nat) (e:Ty) (xs:List (den e)),Old κ.st b v->κ'.st[b]? = some (.arr v e xs)->κ.st[b]? = some (.arr v e xs)/\κ'.ph[b]? = κ.ph[b]?
theorem RD.up{κ κ':KS}(x:Up κ κ'){d:D}{v:Value}(h:RD κ d v):RD κ' d v:=by
 induction h with
 | zC τ y cs h=>exact .zC τ y cs (h.mono x.same)
 | xw e a=>exact .xw e a
 | tight e l ne blk off f uh wI h hc=>exact .tight e l ne blk off f uh (x.same _ wI).1 (λi hi=>(h i hi).mono x.same) λi hi j v hv=>by rw[cG (x.same _ wI).2]; exact hc i hi j v hv
 | xE=>exact .xE
 | yL=>exact .yL
 | xh=>exact .xh
 | uq=>exact .uq
 | uo=>exact .uo
 | tA v h=>exact .tA v h
 | dr T=>exact .dr T
 | cW b T d hd =>
  obtain⟨⟨d',yq⟩,hp⟩:=x.var b d hd
  exact .cW b T d' yq
 | dn b T blk n d hd h =>
  obtain⟨⟨d',yq⟩,hp⟩:=x.var b d hd
  exact .dn b T blk n d' yq (hp.trans h)
 | ptr b off blk n d hd h =>
  obtain⟨⟨d',yq⟩,hp⟩:=x.var b d hd
  exact .ptr b off blk n d' yq (hp.trans h)
 | xe τ y cs blk off wI h hc=>exact .xe τ y cs blk off (x.same _ wI).1 (h.mono x.same) λj v hv=>by rw[cG (x.same _ wI).2]; exact hc j v hv
 | uQ b qJ e idx off blk o hb h =>
  refine .uQ b qJ e idx off blk o (x.old b qJ hb) λxs hx hi => ?_
  obtain⟨h1,h2⟩:=x.row b qJ e xs hb hx
  grind
 | ms b qJ e off len cap a hb vJ ha nN h =>
  refine .ms b qJ e off len cap a (x.old b qJ hb) vJ ha nN λxs hx => ?_
  obtain⟨h1,h2⟩:=x.row b qJ e xs hb hx
  have:=h xs h1
  unfold M5 at this ⊢
  grind
 | xk f l vs hl h ih=>exact .xk f l vs hl ih
 | agg l vs hl ho h ih=>exact .agg l vs hl ho ih
 | gz l vs hl h ih=>exact .gz l vs hl ih
 | iface t d v h ih=>exact .iface t d v ih
structure Nob(κ:KS)(blk:Nat):Prop where
 lt:blk<κ.w.heap.size
 ok:¬ κ.ok blk
 ph:∀ (b n:Nat),κ.ph[b]? ≠ some (some (blk,n))
theorem Nob.ext{κ κ':KS}(x:Ext κ κ'){blk:Nat}(h:Nob κ blk):Nob κ' blk/\κ'.w.heap[blk]? = κ.w.heap[blk]? := by
 refine⟨⟨Nat.lt_of_lt_of_le h.lt x.size,λhk => ?_,λb n hb => ?_⟩,x.frame blk h.lt h.ph⟩
 ·rcases x.fresh blk hk with h1 | h1 | ⟨b,n,h1⟩
  ·exact h.ok h1
  ·have:=h.lt; omega
  ·exact h.ph b n h1
 ·rcases x.phs b blk n hb with h1 | h1
  ·exact h.ph b n h1
  ·have:=h.lt; omega
def KS.push(κ:KS)(blk n:Nat)(d:D):KS:={ κ with ph:=κ.ph++[some (blk,n)],st:=κ.st++[.var d] }
theorem lR{α:Type}{l:List α}{x y:α}{b:Nat}(h:l[b]? = some y):(l++[x])[b]? = some y:=by grind
theorem sb{α:Type}{l:List α}{x y:α}{b:Nat}(h:(l++[x])[b]? = some y):l[b]? = some y\/(b=l.length/\y=x):=by grind
theorem Mo{κ:KS}(hI:Inv κ)(blk n:Nat)(d:D):Up κ (κ.push blk n d):=by
 have Gc:∀ {b:Nat} {y:yj},κ.st[b]? = some y->(κ.ph++[some (blk,n)])[b]? = κ.ph[b]? := λh=>by
  rw[List.getElem?_append_left]; rw[hI.len]; exact(List.getElem?_eq_some_iff.1 h).1
 refine⟨λk hk=>⟨hk,rfl⟩,λb d' h=>⟨⟨d',lR h⟩,Gc h⟩,λb qJ h => ?_,λb v e xs ho h => ?_⟩
 ·rcases h with h | ⟨v0,e0,Zd,h,hv⟩
  ·exact .inl (lR h)
  ·exact .inr ⟨v0,e0,Zd,lR h,hv⟩
 ·rcases sb h with h1 | ⟨_,h1⟩
  ·exact⟨h1,Gc h1⟩
  ·cases h1
theorem z2i{κ0 κ:KS}{blk:Nat}{d:D}{z:Value}{t:TypeId}(hI:Inv κ)(hx:Ext κ0 κ)(hb:Nob κ blk)(h0:κ0.w.heap.size<=blk)(hz:RD κ d z)(ht:d.jf=false)(Lo:∀ T,d.typed=some T->t=T)(hh:κ.w.heap[blk]? = some (.cells z.cells t (0,0))) :
  Inv (κ.push blk z.cells.size d)/\Ext κ0 (κ.push blk z.cells.size d)/\RD (κ.push blk z.cells.size d) (.ptr κ.st.length 0) (.pointer (some ⟨blk,0,none⟩)):=by
 have hu:=Mo hI blk z.cells.size d
 have xR:(κ.push blk z.cells.size d).st[κ.st.length]? = some (.var d):=by simp[KS.push]
 have Gc:(κ.push blk z.cells.size d).ph[κ.st.length]? = some (some (blk,z.cells.size)):=by simp[KS.push,<- hI.len]
 have Rl:∀ {b k m:Nat},(κ.push blk z.cells.size d).ph[b]? = some (some (k,m))->κ.ph[b]? = some (some (k,m))\/(b=κ.ph.length/\k=blk):=by
  intro b k m h
  rcases sb h with h1 | ⟨h1,h2⟩
  ·grind
  ·grind
 refine⟨⟨by simp[KS.push,hI.len],hI.gm,λb k m h => ?_,λb b' k m m' h h' => ?_,λb y h => ?_,hI.gl⟩,?_,.ptr _ 0 blk _ d xR Gc⟩
 ·rcases Rl h with h1 | ⟨_,rfl⟩
  ·exact hI.apart b k m h1
  ·exact⟨hb.lt,hb.ok⟩
 ·rcases Rl h with h1 | ⟨h1,rfl⟩
  ·rcases Rl h' with h2 | ⟨h2,rfl⟩
   ·exact hI.inj b b' k m m' h1 h2
   ·exact(hb.ph b m h1).elim
  ·rcases Rl h' with h2 | ⟨h2,_⟩
   ·exact(hb.ph b' m' h2).elim
   ·omega
 ·rcases sb h with h1 | ⟨h1,h2⟩
  ·have hp:(κ.push blk z.cells.size d).ph[b]? = κ.ph[b]? := by
    show(κ.ph++[_])[b]? = _
    grind
   have hy:=hI.blk b y h1
   cases y with
   | dead=>trivial
   | var d' =>
    obtain⟨k,m,cs,T,g1,g2,g3,g4,g5⟩:=hy
    exact⟨k,m,cs,T,hp.trans g1,g2,g3,⟨g4.1,λi h1 h2=>(g4.2 i h1 h2).up hu⟩,g5⟩
   | arr qJ e xs =>
    obtain⟨g0,g⟩:=hy
    refine⟨g0,eV g (λh=>⟨h.1,hp.trans h.2⟩) ?_⟩
    rintro⟨k,m,cs,T,g1,g2⟩
    exact⟨k,m,cs,T,hp.trans g1,g2⟩
  ·subst h1
   subst h2
   have hf:=jF hz ht
   exact⟨blk,z.cells.size,z.cells,t,Gc,hh,rfl,⟨hf.1,λi h1 h2=>(hf.2 i h1 h2).up hu⟩,jN hz,Lo⟩
 ·refine⟨hx.os,hx.tape,hx.output,hx.size,hx.same,hx.fresh,λb k m h => ?_,λb d' h => ?_,λb v0 e xs h => ?_,λb h=>lR (hx.dead b h),Nat.le_trans hx.Cd (by simp[KS.push]),hx.frame⟩
  ·rcases Rl h with h1 | ⟨_,rfl⟩
   ·exact hx.phs b k m h1
   ·exact .inr h0
  ·obtain⟨⟨d1,h1⟩,h2⟩:=hx.var b d' h
   obtain⟨h3,h4⟩:=hu.var b d1 h1
   exact⟨h3,h4.trans h2⟩
  ·rcases hx.arr b v0 e xs h with h1 | ⟨v1,jC,h1,h2,h3⟩
   ·exact .inl (lR h1)
   ·refine .inr ⟨v1,jC,lR h1,h2,λhe=>⟨?_,(h3 he).2⟩⟩
    have hp:(κ.push blk z.cells.size d).ph[b]? = κ.ph[b]? := by
     show(κ.ph++[_])[b]? = _
     rw[List.getElem?_append_left]; rw[hI.len]; exact(List.getElem?_eq_some_iff.1 h1).1
    exact hp.trans (h3 he).1
theorem z1X{κ:KS}(hI:Inv κ)(o:Obj):Inv { κ with w:=κ.w.alloc o }/\Ext κ { κ with w:=κ.w.alloc o }/\Nob { κ with w:=κ.w.alloc o } κ.w.heap.size/\(κ.w.alloc o).heap[κ.w.heap.size]? = some o:=by
 have hs:(κ.w.alloc o).heap.size=κ.w.heap.size+1:=by simp
 have hold:∀ k,k<κ.w.heap.size->(κ.w.alloc o).heap[k]? = κ.w.heap[k]? := λk hk=>by
  show(κ.w.heap.push o)[k]? = _
  grind
 have hx:Ext κ { κ with w:=κ.w.alloc o }:=⟨rfl,rfl,rfl,by simp,λk hk=>⟨hk,hold k (hI.gm k hk)⟩,λk hk=>.inl hk,λ_ _ _ h=>.inl h,λb d h=>⟨⟨d,h⟩,rfl⟩,
  λb v0 e xs h=>.inr ⟨v0,xs,h,Nat.le_refl _,λ_=>⟨rfl,rfl⟩⟩,λ_ h=>h,Nat.le_refl _,λk hk _=>hold k hk⟩
 refine⟨⟨hI.len,λk hk => ?_,λb blk n h => ?_,hI.inj,λb y hy=>(hI.blk b y hy).mono hx rfl λblk n h=>hold _ (hI.apart b blk n h).1,hI.gl.mono hx.same⟩,hx,⟨?_,λhk => ?_,λb n h => ?_⟩,?_⟩
 ·have:=hI.gm k hk; show k<(κ.w.alloc o).heap.size; omega
 ·have:=hI.apart b blk n h; exact⟨by grind,this.2⟩
 ·simp
 ·have:=hI.gm _ hk; omega
 ·have:=(hI.apart b _ n h).1; omega
 ·show(κ.w.heap.push o)[κ.w.heap.size]? = some o
  simp
section
variable {c:Ctx} {n:Nat} {ops:Array Oper}
structure Em where
 i:Nat
 d:Nat
 blk:Nat
 t:TypeId
 z:Value
 D:D
structure EI(c:Ctx)(ops:Array Oper)(κ0 κ:KS)(a:Act)(e:Em):Prop where
 op:∃ o,ops[e.i]? = some o/\o.op=.alloc e.t/\o.guard=none/\o.dst=some e.d
 zero:WS c e.t=some e.D
 z:∃ i,c.P.info? e.t=some i/\i.zero=some e.z/\ZD e.t e.D e.z
 val:a.tmps[e.d]? = some (.pointer (some ⟨e.blk,0,none⟩))
 heap:κ.w.heap[e.blk]? = some (.cells e.z.cells e.t (0,0))
 nob:Nob κ e.blk
 new:κ0.w.heap.size<=e.blk
theorem EI.mono{κ0 κ κ':KS}{a a':Act}{e:Em}(h:EI c ops κ0 κ a e)(x:Ext κ κ')(ha:a'.tmps[e.d]? = a.tmps[e.d]?):EI c ops κ0 κ' a' e:=by
 obtain⟨h1,h2⟩:=h.nob.ext x
 exact⟨h.op,h.zero,h.z,ha.trans h.val,h2.trans h.heap,h1,h.new⟩
def yk(es:List Em)(f:F):F:=λs=>if es.any (λe=>Nat.beq e.d s)then none else f s
theorem QH{es:List Em}{f:F}{s:Nat}(h:∀ e∈es,e.d≠s):yk es f s=f s:=by
 unfold yk
 rw[if_neg]
 intro hh
 obtain⟨e,he,hb⟩:=List.any_eq_true.1 hh
 exact h e he (Nat.eq_of_beq_eq_true hb)
theorem YG{es:List Em}{f:F}{s:Nat}{d:D}(h:yk es f s=some d):f s=some d/\∀ e∈es,e.d≠s:=by
 unfold yk at h
 split at h
 ·cases h
 ·rename_i hh
  refine⟨h,λe he hs=>hh (List.any_eq_true.2 ⟨e,he,?_⟩)⟩
  subst hs; simp
def fu(ops:Array Oper)(i:Nat):Prop:=∃ o,ops[i]? = some o/\Vg o=true
theorem Ni{o:Oper}(h:Vg o=true):∃ t d,o.op=.alloc t/\o.guard=none/\o.dst=some d:=by
 unfold Vg at h
 simp only[Bool.and_eq_true]at h
 obtain⟨⟨h1,h2⟩,h3⟩:=h
 split at h1
 ·rename_i t ht
  obtain⟨d,hd⟩:=Option.isSome_iff_exists.1 h3
  exact⟨t,d,ht,Option.isNone_iff_eq_none.1 h2,hd⟩
 ·cases h1
theorem Bg{o:Oper}{t d:Nat}(h1:o.op=.alloc t)(h2:o.guard=none)(h3:o.dst=some d):Vg o=true:=by
 unfold Vg; rw[h1,h2,h3]; rfl
theorem CC{kd:Nat->Nat}:∀ {l:List Nat} {s sf:F×St} {i:Nat},nU c n ops kd l s sf->i∈l->∃ s1 s2,gR c n ops i s1 s2 (kd i)
 | [],_,_,_,_,h=>by cases h
 | j::l,s,sf,i,⟨s1,h1,h2⟩,h=>by
  rcases List.mem_cons.1 h with rfl | h
  ·grind
  ·exact CC h2 h
theorem JE{kd:Nat->Nat}{i t d:Nat}{o:Oper}(ho:ops[i]? = some o)(h1:o.op=.alloc t)(h2:o.guard=none)(h3:o.dst=some d){s s':F×St}(h:gR c n ops i s s' (kd i)) :
  ∃ D,WS c t=some D/\d<n/\s'=(y7 s.1 (some d) (some (.ptr s.2.length 0)),s.2++[.var D]):=by
 obtain⟨o',ho',hd,h⟩:=h
 rw[ho]at ho'
 cases ho'
 rw[h3]at hd
 have qD:d<n:=Nat.le_of_ble_eq_true hd
 have hw:wC ops s.1 o=some true:=by unfold wC; rw[h2]
 rcases h with⟨_,_,D,zx,hl,rfl⟩ | ⟨hw',_,_⟩
 ·have he:qN c (qt s.1) o=nE c t:=by
   obtain⟨dst,op,ty,pos,after,guard⟩:=o
   cases h1
   rfl
  rw[he]at hl
  unfold nE at hl
  split at hl
  ·rename_i y hy
   simp only[zR,T.leads]at hl
   grind
  ·exact absurd hl zh
 ·grind
theorem Fx{es:List Em}{i k:Nat}{s s':F×St}(h:gR c n ops i s s' k)(hd:∀ o,ops[i]? = some o->∀ e∈es,e.d ∉ tmpsOf ops o) :
  gR c n ops i (yk es s.1,s.2) (yk es s'.1,s'.2) k:=by
 obtain⟨o,ho,z2E,h⟩:=h
 have kf:=hd o ho
 have zbk:∀ x:Option D,y7 (yk es s.1) o.dst x=yk es (y7 s.1 o.dst x):=by
  intro x
  cases hds:o.dst with
  | none=>rfl
  | some t =>
   funext u
   simp only[y7,yk]
   by_cases hu:u=t
   ·subst hu
    rw[if_pos rfl]
    rw[if_neg,if_pos rfl]
    intro hh
    obtain⟨e,he,hb⟩:=List.any_eq_true.1 hh
    exact kf e he (by rw[Nat.eq_of_beq_eq_true hb]; exact y6 hds)
   ·grind
 have ig:∀ x∈o.op.operands,qt (yk es s.1) x=qt s.1 x:=by
  intro x hx
  cases x with
  | tmp t=>exact QH λe he ht=>kf e he (ht▸pn hx)
  | _=>rfl
 have hw:wC ops (yk es s.1) o=wC ops s.1 o:=by
  unfold wC
  cases hg:o.guard with
  | none=>rfl
  | some jw =>
   obtain⟨j,w⟩:=jw
   simp only
   cases hs:jb ops j with
   | none=>rfl
   | some t =>
    simp only
    rw[QH λe he ht=>kf e he (ht▸rM hg hs)]
 refine⟨o,ho,z2E,?_⟩
 rcases h with⟨h1,h2,d,zx,h3,rfl⟩ | ⟨h1,h2,rfl⟩
 ·refine .inl ⟨hw.trans h1,?_,d,zx,?_,?_⟩
  ·rw[show qN c (qt (yk es s.1)) o=qN c (qt s.1) o from Ze o ig]; exact h2
  ·rw[show qN c (qt (yk es s.1)) o=qN c (qt s.1) o from Ze o ig]; exact h3
  ·rw[zbk]
 ·grind
theorem Ng{κ:KS}{a:Act}{i k:Nat}{s s':F×St}(hC:∀ g,Bu c.P g (c.fn g))(hI:Inv κ)(hR:Rel κ n s.1 a)(xR:κ.st=s.2)(h:gR c n ops i s s' k){K:Act->World->Prop}{Q:Exit->Act->World->Prop}
  (hK:∀ (a':Act) (κ':KS),κ'.st=s'.2->Inv κ'->Ext κ κ'->Rel κ' n s'.1 a'->fW ops a a'->(∀ u:Nat,(∀ o,ops[i]? = some o->o.dst≠some u)->a'.tmps[u]? = a.tmps[u]?)->K a' κ'.w):wpOp c.P ops Q i K a κ.w:=by
 obtain⟨o,ho,hd,h⟩:=h
 have hu:∀ (v:Value) (u:Nat),(∀ o,ops[i]? = some o->o.dst≠some u)->(a.put o.dst v).tmps[u]? = a.tmps[u]? := by
  intro v u hn
  have:=hn o ho
  cases hds:o.dst with
  | none=>rfl
  | some t =>
   rw[hds]at this
   have uh:t≠u:=λe=>this (by rw[e])
   simp[Act.put,Array.getElem?_setIfInBounds_ne uh]
 unfold wpOp
 rw[ho]
 simp only
 rcases h with⟨hw,_,d,zx,hl,rfl⟩ | ⟨hw,_,rfl⟩
 ·rw[if_pos (lX hR hw)]
  refine .inl (CW hC hI hR (xR▸hl) λv κ' h1 h2 h3 h4=>hK _ κ' h1 h2 h3 ((hR.mono h3).put hd h4) (rj ho) (hu v))
 ·rw[if_neg (by rw[lX hR hw]; exact Bool.false_ne_true)]
  exact hK _ κ xR hI (Ext.refl κ) (hR.put hd λd' yq=>by cases yq; exact Tn (v:=undef)) (rj ho) (hu undef)
def kd3(kd:Nat->Nat)(o:Oper)(i:Nat):Nat:=bif Vg o then 3 else kd i
def z3d(ops:Array Oper)(kd:Nat->Nat)(p i:Nat):Prop:=∀ x y,ops[p]? = some x->ops[i]? = some y ->
 (∀ d,x.dst=some d->d ∉ tmpsOf ops y)/\(∀ d,y.dst=some d->d ∉ tmpsOf ops x)/\rF (kd3 kd x p) (kd3 kd y i)=false
theorem Tg{k l:Nat}(hk:k<=2)(hl:l<=2)(h:rF k l=false):uV k l=false:=by
 have h1:Nat.beq k 3=false:=nu (by omega)
 have h2:Nat.beq l 3=false:=nu (by omega)
 simpa[rF,h1,h2]using h
theorem z3O{k l:Nat}(hl:l<=2)(h:rF 3 l=false):uV k l=false:=by
 have h2:Nat.beq l 3=false:=nu (by omega)
 have h3:uV 2 l=false:=by simpa[rF,h2]using h
 have h0:l=0:=by
  match l,hl,h3 with
  | 0,_,_=>rfl
  | 1,_,h3=>cases h3
  | 2,_,h3=>cases h3
 subst h0
 simp[uV]
theorem z45{k l:Nat}(hk:k<=2)(h:rF k 3=false):uV k l=false:=by
 have h2:Nat.beq k 3=false:=nu (by omega)
 have h3:uV k 2=false:=by simpa[rF,h2]using h
 have h0:k=0:=by
  match k,hk,h3 with
  | 0,_,_=>rfl
  | 1,_,h3=>cases h3
  | 2,_,h3=>cases h3
 subst h0
 simp[uV]
theorem HP{kd:Nat->Nat}{p i:Nat}(h:z3d ops kd p i)(hp:kd p<=2)(hi:kd i<=2)(hn:¬ (fu ops p/\fu ops i)):Ind ops kd p i:=by
 intro x y hx hy
 obtain⟨h1,h2,h3⟩:=h x y hx hy
 refine⟨h1,h2,?_⟩
 unfold kd3 at h3
 cases hax:Vg x with
 | true =>
  cases hay:Vg y with
  | true=>exact(hn ⟨⟨x,hx,hax⟩,y,hy,hay⟩).elim
  | false=>rw[hax,hay]at h3; exact z3O hi h3
 | false =>
  cases hay:Vg y with
  | true=>rw[hax,hay]at h3; exact z45 hp h3
  | false=>rw[hax,hay]at h3; exact Tg hp hi h3
theorem least{es:List Em}(h:es≠[]):∃ e∈es,∀ f∈es,e.i<=f.i:=by
 induction es with
 | nil=>grind
 | cons e r ih =>
  by_cases hr:r=[]
  ·subst hr; exact⟨e,List.mem_cons_self,λf hf=>by grind⟩
  ·grind
def Dis(e f:Em):Prop:=e.i≠f.i/\e.blk≠f.blk/\e.d≠f.d
theorem Dis.symm{e f:Em}(h:Dis e f):Dis f e:=⟨h.1.symm,h.2.1.symm,h.2.2.symm⟩
theorem flush{kd:Nat->Nat}{κ0:KS}(yh:∀ p i,p<i->i<ops.size->ordered (xz ops.toList []) p i=true\/z3d ops kd p i)(cq:∀ i,i<ops.size->kd i<=2)
  {listed:Array Bool} (Xi:Zx ops listed) (oJ:∀ q,q<ops.size->fu ops q->listed.getD q true=true) {a:Act} {sf:F×St} :
  ∀ (m:Nat) (es:List Em) (qG:Array Bool) (κ:KS) (s:F×St),es.length=m->qG.size=ops.size->(∀ j,j<ops.size->qG.getD j true=true->listed.getD j true=true) ->
  (∀ j,j<ops.size->listed.getD j true=true->qG.getD j true=false->∃ e∈es,e.i=j)->(∀ e∈es,e.i<ops.size/\listed.getD e.i true=true/\qG.getD e.i true=false)->es.Pairwise Dis ->
  Inv κ->Rel κ n (yk es s.1) a->κ.st=s.2->Ext κ0 κ->(∀ e∈es,EI c ops κ0 κ a e)->nU c n ops kd (rest ops qG) s sf ->
  ∃ (κ':KS) (s':F×St),κ'.w=κ.w/\κ'.st=s'.2/\Inv κ'/\Ext κ0 κ'/\Rel κ' n s'.1 a/\nU c n ops kd (rest ops listed) s' sf:=by
 intro m
 induction m with
 | zero =>
  intro es qG κ s hl _ h1 h2 _ _ hI hR xR hx _ wX
  obtain rfl:es=[]:=List.eq_nil_of_length_eq_zero hl
  refine⟨κ,s,rfl,xR,hI,hx,hR,?_⟩
  have:rest ops qG=rest ops listed:=by
   unfold rest
   refine List.filter_congr λi hi => ?_
   grind
  grind
 | succ m ih =>
  intro es qG κ s hl jv h1 h2 h3 Fz hI hR xR hx hem wX
  obtain⟨e,he,z7E⟩:=least (es:=es) (λh=>by rw[h]at hl; cases hl)
  obtain⟨l1,l2,rfl⟩:=List.append_of_mem he
  obtain⟨hei,hel,hea⟩:=h3 e he
  have nO:∀ f,f∈l1++l2->f∈l1++e::l2:=λf hf=>by
   grind
  have z5c:∀ f,f∈l1++e::l2->f=e\/f∈l1++l2:=λf hf=>by
   rcases List.mem_append.1 hf with hf | hf
   ·exact .inr (List.mem_append_left _ hf)
   ·rcases List.mem_cons.1 hf with rfl | hf
    ·exact .inl rfl
    ·exact .inr (List.mem_append_right _ hf)
  have hde:∀ f∈l1++l2,Dis e f:=by
   intro f hf
   rw[List.pairwise_append]at Fz
   obtain⟨_,d2,d3⟩:=Fz
   rcases List.mem_append.1 hf with hf | hf
   ·exact(d3 f hf e List.mem_cons_self).symm
   ·exact(List.pairwise_cons.1 d2).1 f hf
  have MR:(l1++l2).Pairwise Dis:=Fz.sublist (List.Sublist.append_left (List.sublist_cons_self e l2) l1)
  obtain⟨pre,post,g1,g2,g3⟩:=hO (p:=λi => !qG.getD i true) (q:=λj => !(qG.setIfInBounds e.i true).getD j true) (i:=e.i) (List.range ops.size) List.pairwise_lt_range
   (List.mem_range.2 hei) (by simp[hea]) (λj=>by
    rw[jE (by omega)]
    by_cases h:j=e.i
    ·subst h; simp
    ·simp[h])
  have Sc:∀ p∈pre,Ind ops kd p e.i:=by
   intro p hp
   obtain⟨q1,q2,q3⟩:=g3 p hp
   have q2:=List.mem_range.1 q2
   have hpa:qG.getD p true=false:=by simpa using q1
   have V4:listed.getD p true=false:=by
    cases hb:listed.getD p true with
    | false=>rfl
    | true =>
     obtain⟨f,hf,BC⟩:=h2 p q2 hb hpa
     have:=z7E f hf
     omega
   have hna:¬ fu ops p:=λh=>by rw[oJ p q2 h]at V4; cases V4
   rcases yh p e.i q3 hei with h | h
   ·have:=Xi e.i hei hel p h q2
    rw[this]at V4; cases V4
   ·exact HP h (cq p q2) (cq e.i hei) λhh=>hna hh.1
  have DZ:nU c n ops kd (pre++e.i::post) s sf:=by
   have:rest ops qG=pre++e.i::post:=g1
   rw[<- this]; exact wX
  obtain⟨s1,k1,k2⟩:=J2 Sc DZ
  have hE:=hem e he
  obtain⟨o,o1,o2,o3,o4⟩:=hE.op
  obtain⟨D,d1,d2,rfl⟩:=JE o1 o2 o3 o4 k1
  obtain rfl:D=e.D:=Option.some.inj (d1.symm.trans hE.zero)
  obtain⟨iz,z1,z2,z3⟩:=hE.z
  obtain⟨p1,p2,p3⟩:=z2i hI hx hE.nob hE.new (z3.rd κ) z3.gz z3.ty hE.heap
  have hup:=Mo hI e.blk e.z.cells.size e.D
  refine ih (l1++l2) (qG.setIfInBounds e.i true) (κ.push e.blk e.z.cells.size e.D) (y7 s.1 (some e.d) (some (.ptr s.2.length 0)),s.2++[.var e.D]) (by simp at hl ⊢; omega) (by simp[jv]) (λj hj ha => ?_) (λj hj hb ha => ?_) (λf hf => ?_) MR p1 ?_ (by show κ.st++_=s.2++_; rw[xR]) p2 (λf hf => ?_) ?_
  ·rw[jE (by omega)]at ha
   split at ha
   ·rename_i h; subst h; exact hel
   ·exact h1 j hj ha
  ·rw[jE (by omega)]at ha
   split at ha
   ·cases ha
   ·rename_i uh
    obtain⟨f,hf,BC⟩:=h2 j hj hb ha
    rcases z5c f hf with rfl | hf
    ·exact absurd BC.symm uh
    ·exact⟨f,hf,BC⟩
  ·obtain⟨f1,f2,f3⟩:=h3 f (nO f hf)
   refine⟨f1,f2,?_⟩
   rw[jE (by omega),if_neg (hde f hf).1.symm]
   exact f3
  ·refine⟨hR.size,hR.defers,λu d0 hu => ?_⟩
   obtain⟨u1,u2⟩:=YG hu
   simp only[y7]at u1
   by_cases hue:u=e.d
   ·subst hue
    rw[if_pos rfl]at u1
    cases u1
    rw[<- xR]
    exact⟨_,hE.val,p3⟩
   ·rw[if_neg hue]at u1
    have:yk (l1++e::l2) s.1 u=some d0:=by
     rw[QH λf hf hfu => ?_]
     ·exact u1
     ·rcases z5c f hf with rfl | hf
      ·exact hue hfu.symm
      ·exact u2 f hf hfu
    obtain⟨v,v1,v2⟩:=hR.get u d0 this
    exact⟨v,v1,v2.up hup⟩
  ·have hF:=hem f (nO f hf)
   refine⟨hF.op,hF.zero,hF.z,hF.val,hF.heap,⟨hF.nob.lt,hF.nob.ok,λb m hb => ?_⟩,hF.new⟩
   rcases sb hb with hb | ⟨_,hb⟩
   ·exact hF.nob.ph b m hb
   ·exact(hde f hf).2.1 (congrArg Prod.fst (Option.some.inj hb)).symm
  ·have:rest ops (qG.setIfInBounds e.i true)=pre++post:=g2
   rw[this]; exact k2
theorem SE{listed:Array Bool}{i:Nat}(jv:listed.size=ops.size)(h1:i<ops.size)(h2:listed.getD i true=false):(rest ops listed).length=(rest ops (listed.setIfInBounds i true)).length+1:=by
 obtain⟨pre,post,g1,g2,_⟩:=hO (p:=λi => !listed.getD i true) (q:=λj => !(listed.setIfInBounds i true).getD j true) (i:=i) (List.range ops.size) List.pairwise_lt_range
  (List.mem_range.2 h1) (by grind) (λj=>by
   rw[jE (by omega)]
   by_cases h:j=i
   ·grind
   ·simp[h])
 have e1:rest ops listed=pre++i::post:=g1
 have e2:rest ops (listed.setIfInBounds i true)=pre++post:=g2
 grind
theorem Fy{listed:Array Bool}{i:Nat}(FY:bO ops.toList 0=true)(jv:listed.size=ops.size)(Xi:Zx ops listed)(h1:i<ops.size)
  (h3:∀ o,ops[i]? = some o->∀ e∈o.after.toList,Region.binds .any e=true->listed.getD e.on false=true) :
  (∀ p,ordered (xz ops.toList []) p i=true->p<ops.size->listed.getD p true=true)/\Zx ops (listed.setIfInBounds i true):=by
 have PH:∀ p,ordered (xz ops.toList []) p i=true->p<ops.size->listed.getD p true=true:=by
  intro p hp qD
  obtain⟨r,_,_,hb⟩:=nb ops.toList []
  obtain⟨e,k1,k2,k3⟩:=hb i ops[i] (by simp) p (by simpa[ordered]using hp)
  have KW:=nP ops.toList 0 FY i ops[i] (by simp) e k1 k2
  have KF:listed.getD e.on true=true:=by
   grind
  rcases k3 with rfl | ⟨_,k3⟩
  ·exact KF
  ·exact Xi e.on (by omega) KF p k3 qD
 refine⟨PH,λq hq NY p hp qD => ?_⟩
 rw[jE (by omega)]at NY ⊢
 split
 ·rfl
 ·split at NY
  ·grind
  ·exact Xi q hq NY p hp qD
theorem H3{κ:KS}{a:Act}{es:List Em}{f:F}{e:Em}{v:Value}(hR:Rel κ n (yk es f) a):Rel κ n (yk (e::es) f) (a.put (some e.d) v):=by
 refine⟨by simp[Act.put,hR.size],hR.defers,λu d hu => ?_⟩
 obtain⟨u1,u2⟩:=YG hu
 have uh:e.d≠u:=u2 e List.mem_cons_self
 have:yk es f u=some d:=by rw[QH λg hg=>u2 g (List.mem_cons_of_mem _ hg)]; exact u1
 obtain⟨w,w1,w2⟩:=hR.get u d this
 exact⟨w,by simp[Act.put,Array.getElem?_setIfInBounds_ne uh]; exact w1,w2⟩
theorem Zy{kd:Nat->Nat}{Q:Exit->Act->World->Prop}(hC:∀ g,Bu c.P g (c.fn g))(FY:bO ops.toList 0=true)
  (yh:∀ p i,p<i->i<ops.size->ordered (xz ops.toList []) p i=true\/z3d ops kd p i) (cq:∀ i,i<ops.size->kd i<=2)
  (oJ:∀ p j,p<ops.size->fu ops p->j<ops.size->ordered (xz ops.toList []) p j=true->∀ q,q<ops.size->fu ops q->ordered (xz ops.toList []) q j=true)
  {κ0:KS} {a0:Act} {sf:F×St}:∀ (fuel:Nat) (listed qG:Array Bool) (es:List Em) {κ:KS} {a:Act} {s:F×St},
  listed.size=ops.size->qG.size=ops.size->fuel=(rest ops listed).length->Zx ops listed->(∀ j,j<ops.size->qG.getD j true=true->listed.getD j true=true) ->
  (∀ j,j<ops.size->listed.getD j true=true->qG.getD j true=false->∃ e∈es,e.i=j)->(∀ e∈es,e.i<ops.size/\listed.getD e.i true=true/\qG.getD e.i true=false)->es.Pairwise Dis ->
  (∃ q,q<ops.size/\fu ops q/\listed.getD q true=false)->Inv κ->Rel κ n (yk es s.1) a->κ.st=s.2->Ext κ0 κ->(∀ e∈es,EI c ops κ0 κ a e)->nU c n ops kd (rest ops qG) s sf->fW ops a0 a ->
  (∀ (a':Act) (κ':KS),κ'.st=sf.2->Inv κ'->Ext κ0 κ'->Rel κ' n sf.1 a'->fW ops a0 a'->Q .normal a' κ'.w)->wpAny c.P .any ops Q fuel listed a κ.w
 | 0,listed,qG,es,κ,a,s,jv,hszA,hfuel,Xi,h1,h2,h3,Fz,⟨q,q1,q2,q3⟩,hI,hR,xR,hx,hem,wX,hkp,hQ=>by
  have hre:rest ops listed=[]:=List.eq_nil_of_length_eq_zero hfuel.symm
  have:q∈rest ops listed:=by simp only[rest,List.mem_filter,List.mem_range,Bool.not_eq_true']; exact⟨q1,q3⟩
  grind
 | fuel+1,listed,qG,es,κ,a,s,jv,hszA,hfuel,Xi,h1,h2,h3,Fz,⟨q,q1,q2,q3⟩,hI,hR,xR,hx,hem,wX,hkp,hQ=>by
  refine⟨λh => ?_,λi hi => ?_⟩
  ·have hre:=UW FY jv h
   grind
  rw[nM]at hi
  obtain⟨i1,i2,i3⟩:=hi
  obtain⟨PH,O3⟩:=Fy FY jv Xi i1 i3
  have Fg:fuel=(rest ops (listed.setIfInBounds i true)).length:=by have:=SE jv i1 i2; omega
  have hia:qG.getD i true=false:=by
   grind
  have z0r:∀ p,p<ops.size->fu ops p->ordered (xz ops.toList []) p i=true->False:=by
   grind
  have c9:∀ j,(listed.setIfInBounds i true).getD j true=if j=i then true else listed.getD j true:=λj=>jE (by omega)
  by_cases ou:fu ops i
  ·-- a new variable is laid
   obtain⟨o,ho,hao⟩:=ou
   obtain⟨t,d,o1,o2,o3⟩:=Ni hao
   have him:i∈rest ops qG:=by simp only[rest,List.mem_filter,List.mem_range,Bool.not_eq_true']; exact⟨i1,hia⟩
   obtain⟨t1,t2,hos⟩:=CC wX him
   obtain⟨D,d1,d2,_⟩:=JE ho o1 o2 o3 hos
   obtain⟨iz,z,z1,z2,z3⟩:=fQ d1
   obtain⟨w1,w2,w3,w4⟩:=z1X hI (.cells z.cells t)
   let e:Em:=⟨i,d,κ.w.heap.size,t,z,D⟩
   have zbq:(execOp a.eval o).run c.P κ.w=.ok (.value (.pointer (some ⟨κ.w.heap.size,0,none⟩))) (κ.w.alloc (.cells z.cells t)):=by
    obtain⟨dst,op,ty,pos,after,guard⟩:=o
    cases o1
    simp[execOp,Instr.alloc,zeroValue,typeInfo,z1,z2,newVar,newRow]
   have zcq:Region.wanted o (yielded ops a.tmps)=true:=by unfold Region.wanted; rw[o2]
   unfold wpOp
   rw[ho]
   simp only
   rw[if_pos zcq]
   refine .inl ?_
   unfold Oper.wp
   rw[zbq]
   show wpAny c.P Region.Mode.any ops Q fuel (listed.setIfInBounds i true) (a.put o.dst (Value.pointer (some { block:=κ.w.heap.size,off:=0 }))) (κ.w.alloc (Obj.cells z.cells t))
   rw[o3]
   have uh:∀ f∈es,f.d≠d:=by
    intro f hf P4
    obtain⟨f1,f2,f3⟩:=h3 f hf
    obtain⟨fo,fo1,fo2,fo3,fo4⟩:=(hem f hf).op
    have BC:f.i≠i:=λh=>by rw[h,i2]at f2; cases f2
    rcases Nat.lt_or_gt_of_ne BC with qD | qD
    ·rcases yh f.i i qD i1 with h | h
     ·exact z0r f.i f1 ⟨fo,fo1,Bg fo2 fo3 fo4⟩ h
     ·exact(h fo o fo1 ho).1 f.d fo4 (P4▸y6 o3)
    ·rcases yh i f.i qD f1 with h | h
     ·have:=Xi f.i f1 f2 i h i1; rw[i2]at this; cases this
     ·exact(h o fo ho fo1).1 d o3 (P4▸y6 fo4)
   have zhy:EI c ops κ0 { κ with w:=κ.w.alloc (.cells z.cells t) } (a.put (some d) (.pointer (some ⟨κ.w.heap.size,0,none⟩))) e :=
    ⟨⟨o,ho,o1,o2,o3⟩,d1,⟨iz,z1,z2,z3⟩,by simp[e,Act.put,hR.size,d2],w4,w3,hx.size⟩
   have za2:∀ f∈e::es,EI c ops κ0 { κ with w:=κ.w.alloc (.cells z.cells t) } (a.put (some d) (.pointer (some ⟨κ.w.heap.size,0,none⟩))) f:=by
    intro f hf
    rcases List.mem_cons.1 hf with rfl | hf
    ·exact zhy
    ·exact(hem f hf).mono w2 (by simp[Act.put,Array.getElem?_setIfInBounds_ne (λe'=>uh f hf e'.symm)])
   have hR':Rel { κ with w:=κ.w.alloc (.cells z.cells t) } n (yk (e::es) s.1) (a.put (some d) (.pointer (some ⟨κ.w.heap.size,0,none⟩))):=H3 (e:=e) (hR.mono w2)
   have hdE:∀ f∈es,Dis e f:=by
    intro f hf
    unfold Dis
    refine⟨λh => ?_,λh => ?_,λh=>uh f hf h.symm⟩
    ·have hf2:=(h3 f hf).2.1
     rw[<- h]at hf2
     have i2':listed.getD e.i true=false:=i2
     rw[i2']at hf2
     cases hf2
    ·have hl:=(hem f hf).nob.lt
     rw[<- h]at hl
     exact Nat.lt_irrefl _ hl
   have MR:(e::es).Pairwise Dis:=List.pairwise_cons.2 ⟨hdE,Fz⟩
   have zbw:fW ops a0 (a.put (some d) (.pointer (some ⟨κ.w.heap.size,0,none⟩))):=hkp.trans (by have:=rj (a:=a) (v:=.pointer (some ⟨κ.w.heap.size,0,none⟩)) ho; rw[o3]at this; exact this)
   have Vd:∀ j,j<ops.size->qG.getD j true=true->(listed.setIfInBounds i true).getD j true=true:=λj hj ha=>by
    rw[c9]; split
    ·rfl
    ·exact h1 j hj ha
   have h2':∀ j,j<ops.size->(listed.setIfInBounds i true).getD j true=true->qG.getD j true=false->∃ f∈e::es,f.i=j:=λj hj hb ha=>by
    rw[c9]at hb
    split at hb
    ·rename_i h; exact⟨e,List.mem_cons_self,h.symm⟩
    ·obtain⟨f,hf,BC⟩:=h2 j hj hb ha; exact⟨f,List.mem_cons_of_mem _ hf,BC⟩
   have h3':∀ f∈e::es,f.i<ops.size/\(listed.setIfInBounds i true).getD f.i true=true/\qG.getD f.i true=false:=λf hf=>by
    rcases List.mem_cons.1 hf with rfl | hf
    ·exact⟨i1,by rw[c9]; exact if_pos rfl,hia⟩
    ·obtain⟨f1,f2,f3⟩:=h3 f hf
     exact⟨f1,by rw[c9]; split<;>first | rfl | exact f2,f3⟩
   by_cases hmore:∃ q,q<ops.size/\fu ops q/\(listed.setIfInBounds i true).getD q true=false
   ·exact Zy hC FY yh cq oJ fuel (listed.setIfInBounds i true) qG (e::es) (κ:={ κ with w:=κ.w.alloc (.cells z.cells t) }) (by simp[jv]) hszA Fg O3 Vd h2' h3' MR hmore w1 hR' xR (hx.trans w2) za2 wX zbw hQ
   ·-- all are laid
    have z5r:∀ q,q<ops.size->fu ops q->(listed.setIfInBounds i true).getD q true=true:=λq q1 q2=>by
     cases hb:(listed.setIfInBounds i true).getD q true with
     | true=>rfl
     | false=>exact(hmore ⟨q,q1,q2,hb⟩).elim
    obtain⟨κ',s',f1,f2,f3,f4,f5,f6⟩:=flush (c:=c) (n:=n) yh cq O3 z5r (e::es).length (e::es) qG { κ with w:=κ.w.alloc (.cells z.cells t) } s rfl hszA Vd h2' h3' MR w1 hR' xR (hx.trans w2) za2 wX
    have hgo:=UA (κ:=κ') hC FY fuel (listed.setIfInBounds i true) (Q:=Q) (λp j hpj hj hp=>(yh p j hpj hj).elim .inl λh=>.inr (HP h (cq p (by omega)) (cq j hj) λhh=>by
     rw[z5r p (by omega) hh.1]at hp; cases hp)) (by simp[jv]) Fg O3 f3 f5 f2 f6 λa' Nc e1 e2 e3 e4 e5=>hQ a' Nc e1 e2 (f4.trans e3) e4 (zbw.trans e5)
    rw[f1]at hgo
    exact hgo
  ·-- another operation
   have z4H:∀ o,ops[i]? = some o->∀ e∈es,e.d ∉ tmpsOf ops o:=by
    intro o ho f hf
    obtain⟨f1,f2,f3⟩:=h3 f hf
    obtain⟨fo,fo1,fo2,fo3,fo4⟩:=(hem f hf).op
    have BC:f.i≠i:=λh=>by rw[h,i2]at f2; cases f2
    rcases Nat.lt_or_gt_of_ne BC with qD | qD
    ·rcases yh f.i i qD i1 with h | h
     ·exact(z0r f.i f1 ⟨fo,fo1,Bg fo2 fo3 fo4⟩ h).elim
     ·exact(h fo o fo1 ho).1 f.d fo4
    ·rcases yh i f.i qD f1 with h | h
     ·have:=Xi f.i f1 f2 i h i1; rw[i2]at this; cases this
     ·exact(h o fo ho fo1).2.1 f.d fo4
   obtain⟨pre,post,g1,g2,g3⟩:=hO (p:=λi => !qG.getD i true) (q:=λj => !(qG.setIfInBounds i true).getD j true) (i:=i) (List.range ops.size) List.pairwise_lt_range
    (List.mem_range.2 i1) (by simp[hia]) (λj=>by
     rw[jE (by omega)]
     by_cases h:j=i
     ·subst h; simp
     ·simp[h])
   have Sc:∀ p∈pre,Ind ops kd p i:=by
    intro p hp
    obtain⟨r1,r2,r3⟩:=g3 p hp
    have r2:=List.mem_range.1 r2
    have r1:qG.getD p true=false:=by simpa using r1
    rcases yh p i r3 i1 with h | h
    ·obtain⟨f,hf,BC⟩:=h2 p r2 (PH p h r2) r1
     obtain⟨fo,fo1,fo2,fo3,fo4⟩:=(hem f hf).op
     exact(z0r p r2 ⟨fo,by rw[<- BC]; exact fo1,Bg fo2 fo3 fo4⟩ h).elim
    ·exact HP h (cq p r2) (cq i i1) λhh=>ou hh.2
   have DZ:nU c n ops kd (pre++i::post) s sf:=by
    have:rest ops qG=pre++i::post:=g1
    rw[<- this]; exact wX
   obtain⟨s1,k1,k2⟩:=J2 Sc DZ
   refine Ng (s:=(yk es s.1,s.2)) (s':=(yk es s1.1,s1.2)) hC hI hR xR (Fx k1 z4H) λa1 κ1 e1 e2 e3 e4 e5 e6 => ?_
   have Rv:∀ j,(qG.setIfInBounds i true).getD j true=if j=i then true else qG.getD j true:=λj=>jE (by omega)
   refine Zy hC FY yh cq oJ fuel (listed.setIfInBounds i true) (qG.setIfInBounds i true) es (κ:=κ1) (s:=s1) (by simp[jv]) (by simp[hszA]) Fg O3 (λj hj ha => ?_) (λj hj hb ha => ?_) (λf hf => ?_) Fz
    ⟨q,q1,q2,?_⟩ e2 e4 e1 (hx.trans e3) (λf hf=>(hem f hf).mono e3 (e6 f.d λo ho hod=>z4H o ho f hf (y6 hod))) ?_ (hkp.trans e5) hQ
   ·rw[Rv]at ha; rw[c9]
    split
    ·rfl
    ·rename_i h; rw[if_neg h]at ha; exact h1 j hj ha
   ·rw[Rv]at ha; rw[c9]at hb
    split at ha
    ·cases ha
    ·rename_i h; rw[if_neg h]at hb; exact h2 j hj hb ha
   ·obtain⟨f1,f2,f3⟩:=h3 f hf
    have BC:f.i≠i:=λh=>by rw[h,i2]at f2; cases f2
    exact⟨f1,by rw[c9,if_neg BC]; exact f2,by rw[Rv,if_neg BC]; exact f3⟩
   ·have hqi:q≠i:=λh=>ou (by rw[<- h]; exact q2)
    rw[c9,if_neg hqi]; exact q3
   ·have:rest ops (qG.setIfInBounds i true)=pre++post:=g2
    rw[this]; exact k2
theorem Zi{kd:Nat->Nat}:∀ {l:List Oper} {ks:List Nat} {i j:Nat} {o:Oper},l[i]? = some o->ks[i]? = some (kd j)->(JH l ks)[i]? = some (kd3 kd o j)
 | [],_,i,_,_,h,_=>by simp at h
 | _::_,[],i,_,_,_,h=>by simp at h
 | x::l,k::ks,0,j,o,h1,h2=>by simp at h1 h2; subst h1; subst h2; rfl
 | x::l,k::ks,i+1,j,o,h1,h2=>by
  have:=Zi (kd:=kd) (l:=l) (ks:=ks) (i:=i) (j:=j) (o:=o) (by grind) (by grind)
  simpa[JH]using this
theorem YN:∀ {l:List Oper} {k i:Nat} {o:Oper},l[i]? = some o->Vg o=true->k+i∈Je l k
 | [],_,_,_,h,_=>by simp at h
 | x::l,k,0,o,h1,h2=>by simp at h1; subst h1; simp[Je,h2]
 | x::l,k,i+1,o,h1,h2=>by
  have:=YN (l:=l) (k:=k+1) (i:=i) (o:=o) (by grind) h2
  simp only[Je]
  grind
theorem WA{kd:Nat->RK}:∀ (l:List Nat) (s s':F×St) (ks:List RK),Lp c n ops l s s' ks->ks=l.map kd->J6 (λi s s'=>dG c n ops i s s' (kd i)) l s s'
 | [],s,s',ks,h,_=>h.1
 | i::l,s,s',ks,⟨s1,k,Fs,e,h1,h2⟩,hk=>by
  subst e
  simp at hk
  obtain⟨rfl,hk⟩:=hk
  exact⟨s1,h1,WA l s1 s' Fs h2 hk⟩
theorem OE{κ:KS}{a:Act}{id:Nat}{draw:Bool}{fr:Fr}{kn:Kn}{s':dU}(hm:c.P.follows .mixedOrders=true)(hC:∀ g,Bu c.P g (c.fn g))(hI:Inv κ)(hR:Rel κ n fr.get a)(hk:vW kn fr.get)
  (h:(cI c n ops draw fr kn κ.st).leads s') {Q:Exit->Act->World->Prop} (hQ:∀ (a':Act) (κ':KS),κ'.st=s'.st->Inv κ'->Ext κ κ'->Rel κ' n s'.fr.get a'->fW ops a a'->Q .normal a' κ'.w) :
  (Code.region id ops draw).wp c.P Q a κ.w/\vW s'.kn s'.fr.get:=by
 simp only[cI,T.zM]at h
 obtain⟨s1,h1,h2⟩:=h
 obtain⟨ks,g1,g2,g3⟩:=fe ops.toList 0 ⟨fr,kn,κ.st,[],[]⟩ s1 (λj=>.inl (by simp)) hk h1
 simp only[List.append_nil]at g3
 have hl:ops.toList.length=ops.size:=by simp
 rw[hl,<- List.range_eq_range']at g1
 cases hd:(!draw||ZB ops s1.ks.reverse s1.bk.reverse)with
 | false=>rw[hd]at h2; exact h2.elim
 | true =>
  rw[hd,cond_true]at h2
  cases h2
  refine⟨?_,g2⟩
  cases draw with
  | false=>exact wp_region (Lt hC _ hI hR rfl g1 hQ)
  | true =>
   simp only[Bool.not_true,Bool.false_or,ZB,Bool.or_eq_true]at hd
   obtain⟨rks,r1,r3⟩:=V7 (ops:=ops) ops.toList 0 ⟨fr,kn,κ.st,[],[]⟩ _ (λj=>.inl (by simp)) hk h1
   simp only[List.append_nil]at r3
   rw[hl,<- List.range_eq_range']at r1
   let kd:Nat->Nat:=λi=>ks.getD i 0
   have hkl:ks.length=ops.size:=by rw[C8 _ _ _ _ g1]; simp
   have hks:ks=(List.range ops.size).map kd:=by
    apply List.ext_getElem?
    intro i
    grind
   have wX:=Ji (kd:=kd) _ _ _ _ g1 hks
   refine wp_region_any hm ?_
   let κd:KS:={ κ with w:=κ.w.drew }
   have hx:Ext κ κd:=⟨rfl,rfl,rfl,Nat.le_refl _,λk hk=>⟨hk,rfl⟩,λk hk=>.inl hk,λ_ _ _ h=>.inl h,λb d h=>⟨⟨d,h⟩,rfl⟩,
    λb v0 e xs h=>.inr ⟨v0,xs,h,Nat.le_refl _,λ_=>⟨rfl,rfl⟩⟩,λ_ h=>h,Nat.le_refl _,λk _ _=>rfl⟩
   have hId:Inv κd:=⟨hI.len,hI.gm,hI.apart,hI.inj,λb y hy=>(hI.blk b y hy).mono hx rfl λ_ _ _=>rfl,hI.gl.mono hx.same⟩
   have pC:rest ops (Array.replicate ops.size false)=List.range ops.size:=by
    unfold rest
    rw[List.filter_eq_self]
    intro i hi
    have:=List.mem_range.1 hi
    simp[Array.getD_eq_getD_getElem?,this]
   have Gj:∀ j,j<ops.size->(Array.replicate ops.size false).getD j true=false:=λj hj=>by simp[Array.getD_eq_getD_getElem?,hj]
   have z3c:Zx ops (Array.replicate ops.size false):=λq hq NY=>by rw[Gj q hq]at NY; cases NY
   have E0:∀ i,i<ops.size->ks[i]? = some (kd i):=λi hi=>by simp[kd,List.getD,List.getElem?_eq_getElem (show i<ks.length by omega)]
   have Wb:∀ i (hi:i<ops.size),ops.toList[i]? = some ops[i]:=λi hi=>by simp
   rcases hd with(hd | hd) | hd
   ·simp only[LP,Bool.and_eq_true]at hd
    obtain⟨d1,d2⟩:=hd
    rw[g3,List.reverse_reverse]at d2
    have yh:∀ p i,p<i->i<ops.size->ordered (xz ops.toList []) p i=true\/Ind ops kd p i:=by
     intro p i Bp hi
     have hp:=nK ops.toList ks 0 [] d2 i ops[i] (kd i) (Wb i hi) (E0 i hi)
     have:=hp.2 p ops[p] (kd p) Bp (Wb p (by omega)) (E0 p (by omega))
     simp only[Nat.zero_add]at this
     refine eV this (λh=>h) λhap x y hx hy => ?_
     rw[Array.getElem?_eq_getElem (by omega)]at hx hy
     cases hx
     cases hy
     exact hap
    exact UA (κ:=κd) hC d1 ops.size _ (λp i h1 h2 _=>yh p i h1 h2) (by simp) (by rw[pC]; simp) z3c hId (hR.mono hx) rfl (by rw[pC]; exact wX) λa' κ' e1 e2 e3 e4 e5=>hQ a' κ' e1 e2 (hx.trans e3) e4 e5
   ·simp only[MM,Bool.and_eq_true]at hd
    obtain⟨⟨⟨d1,d0⟩,d2⟩,d3⟩:=hd
    rw[g3,List.reverse_reverse]at d0 d2
    have cq:∀ i,i<ops.size->kd i<=2:=λi hi=>Nat.le_of_ble_eq_true (List.all_eq_true.1 d0 _ (List.mem_of_getElem? (E0 i hi)))
    have yh:∀ p i,p<i->i<ops.size->ordered (xz ops.toList []) p i=true\/z3d ops kd p i:=by
     intro p i Bp hi
     have hp:=nK ops.toList (JH ops.toList ks) 0 [] d2 i ops[i] (kd3 kd ops[i] i) (Wb i hi) (Zi (Wb i hi) (E0 i hi))
     have:=hp.2 p ops[p] (kd3 kd ops[p] p) Bp (Wb p (by omega)) (Zi (Wb p (by omega)) (E0 p (by omega)))
     simp only[Nat.zero_add]at this
     refine eV this (λh=>h) λhap x y hx hy => ?_
     rw[Array.getElem?_eq_getElem (by omega)]at hx hy
     cases hx
     cases hy
     exact hap
    have oJ:∀ p j,p<ops.size->fu ops p->j<ops.size->ordered (xz ops.toList []) p j=true->∀ q,q<ops.size->fu ops q->ordered (xz ops.toList []) q j=true:=by
     intro p j hp hap hj ho q hq haq
     unfold DQ at d3
     have:=List.all_eq_true.1 d3 j (List.mem_range.2 (by simpa using hj))
     simp only[Bool.or_eq_true,Bool.not_eq_true',List.any_eq_false,List.all_eq_true]at this
     have hm:∀ r,fu ops r->r∈Je ops.toList 0:=λr ⟨o,h1,h2⟩=>by
      have:=YN (l:=ops.toList) (k:=0) (i:=r) (o:=o) (by rw[Array.getElem?_toList]; exact h1) h2
      rwa [Nat.zero_add]at this
     rcases this with h | h
     ·have:=h p (hm p hap); rw[ho]at this; exact absurd rfl this
     ·exact h q (hm q haq)
    by_cases hex:∃ q,q<ops.size/\fu ops q
    ·obtain⟨q,q1,q2⟩:=hex
     exact Zy (κ0:=κd) (κ:=κd) (a0:=a) hC d1 yh cq oJ ops.size _ (Array.replicate ops.size false) [] (by simp) (by simp) (by rw[pC]; simp) z3c (λj hj h=>by rw[Gj j hj]at h; cases h)
      (λj hj h _=>by rw[Gj j hj]at h; cases h) (λe he=>by cases he) .nil ⟨q,q1,q2,Gj q q1⟩ hId (hR.mono hx) rfl (Ext.refl _) (λe he=>by cases he) (by rw[pC]; exact wX) (fW.refl _ _)
      λa' κ' e1 e2 e3 e4 e5=>hQ a' κ' e1 e2 (hx.trans e3) e4 e5
    ·exact UA (κ:=κd) hC d1 ops.size _ (λp i h1 h2 _=>(yh p i h1 h2).elim .inl λh=>.inr (HP h (cq p (by omega)) (cq i h2) λhh=>hex ⟨p,by omega,hh.1⟩)) (by simp) (by rw[pC]; simp) z3c hId (hR.mono hx) rfl (by rw[pC]; exact wX) λa' κ' e1 e2 e3 e4 e5=>hQ a' κ' e1 e2 (hx.trans e3) e4 e5
   ·simp only[LX,Bool.and_eq_true]at hd
    obtain⟨d1,d2⟩:=hd
    rw[r3,List.reverse_reverse]at d2
    let kr:Nat->RK:=λi=>rks.getD i (.z 0)
    have hrl:rks.length=ops.size:=by rw[Yi _ _ _ _ r1]; simp
    have zfb:rks=(List.range ops.size).map kr:=by
     apply List.ext_getElem?
     intro i
     by_cases hi:i<ops.size
     ·simp[kr,hi,List.getD,List.getElem?_eq_getElem (show i<rks.length by omega)]
     ·rw[List.getElem?_eq_none (by omega),List.getElem?_eq_none (by simp; omega)]
    have z5v:∀ i,i<ops.size->rks[i]? = some (kr i):=λi hi=>by simp[kr,List.getD,List.getElem?_eq_getElem (show i<rks.length by omega)]
    have zcv:=WA (kd:=kr) _ _ _ _ r1 zfb
    have yh:∀ p i,p<i->i<ops.size->ordered (xz ops.toList []) p i=true\/z6N ops kr p i:=by
     intro p i Bp hi
     have hp:=nK ops.toList rks 0 [] d2 i ops[i] (kr i) (Wb i hi) (z5v i hi)
     have:=hp.2 p ops[p] (kr p) Bp (Wb p (by omega)) (z5v p (by omega))
     simp only[Nat.zero_add]at this
     refine eV this (λh=>h) λhap x y hx hy => ?_
     rw[Array.getElem?_eq_getElem (by omega)]at hx hy
     cases hx
     cases hy
     exact hap
    exact Xm (κ:=κd) (Stp:=λi s s'=>dG c n ops i s s' (kr i)) (In:=λp i=>z6N ops kr p i) (λi s s' h=>h.plain) (λp i hi s s1 s2 h1 h2=>Fe hi h1 h2) hC d1 ops.size _ (λp i h1 h2 _=>yh p i h1 h2) (by simp) (by rw[pC]; simp) z3c hId (hR.mono hx) rfl (by rw[pC]; exact zcv) λa' κ' e1 e2 e3 e4 e5=>hQ a' κ' e1 e2 (hx.trans e3) e4 e5
end
end Go.AM
namespace Go.AM
set_option linter.unusedSectionVars false
variable [ur] [Ku]
def Dp(κ:KS):Ex->Exit->Prop
 | .normal,e=>e=.normal
 | .exit id,e=>e=.exit id
 | .ret,e=>e=.ret
 | .ye d,e=>∃ v,e=.panic [{ v,recovered:=false }]/\RD κ d v
section
variable {c:Ctx} {n:Nat}
def xD:Code->List (Nat×Code)
 | .seq a b=>xD a++xD b
 | .cond _ a b=>xD a++xD b
 | .block id (.loop b)=>[(id,b)]
 | .block _ a=>xD a
 | _=>[]
theorem Nl{ops:Array Oper}{draw:Bool}{fr:Fr}{kn:Kn}{st:St}{s':dU}(hk:vW kn fr.get)(h:(cI c n ops draw fr kn st).leads s'):vW s'.kn s'.fr.get:=by
 simp only[cI,T.zM]at h
 obtain⟨s1,h1,h2⟩:=h
 obtain⟨ks,g1,g2,g3⟩:=fe ops.toList 0 ⟨fr,kn,st,[],[]⟩ s1 (λj=>.inl (by simp)) hk h1
 cases hd:(!draw||ZB ops s1.ks.reverse s1.bk.reverse)with
 | false=>rw[hd]at h2; exact h2.elim
 | true=>rw[hd,cond_true]at h2; cases h2; exact g2
theorem dA(f:F):vW [] f:=by nofun
theorem Bx{id:Nat}{b:Code}(hb:∀ b',b≠.loop b'):xD (.block id b)=xD b:=by
 cases b<;>first | rfl | exact absurd rfl (hb _)
end
end Go.AM
namespace Go.AM
set_option linter.unusedSectionVars false
variable [ur] [Ku]
section
variable {c:Ctx} {n:Nat}
theorem Ye:∀ (ds:List D) (i s:Nat),(wL ds i).get s=if i<=s then ds[s-i]? else none
 | [],i,s=>by simp[wL,Fr.get]
 | d::r,i,s=>by
  simp only[wL,Fr.get]
  by_cases h:i=s
  ·subst h; simp
  ·rw[nu h,cond_false,Ye r (i+1) s]
   grind
theorem QF{κ:KS}{args:List D}{zJ:List Value}(h:qM κ args zJ)(hn:args.length<=n) :
  Rel κ n (wL args 0).get { tmps:=zJ.toArray++Array.replicate (n-zJ.toArray.size) undef,defers:=Ku.df }:=by
 have hl:=h.1
 refine⟨by grind,rfl,λs d hd => ?_⟩
 rw[Ye]at hd
 obtain⟨v,h1,h2⟩:=h.get hd
 grind
theorem Z5{κ:KS}{fr:Fr}{a:Act}(hI:Inv κ)(hR:Rel κ n fr.get a):∀ (rvs:List ResultVar) (ds:List D),(cj c fr κ.st rvs).leads ds ->
  ∃ vs:List Value,Sem.run c.P (rvs.mapM λr=>match r with | ResultVar.tmp t=>(Pure.pure (a.tmps.getD t undef):Sem Value) | ResultVar.cell p t=>do loadVar t (<- asAddr (a.tmps.getD p undef))) κ.w=Result.ok vs κ.w/\qM κ ds vs
 | [],ds,h=>by cases h; exact⟨[],by simp,.nil⟩
 | .tmp t::r,ds,h=>by
  simp only[cj]at h
  split at h
  ·rename_i d hd
   simp only[T.zM]at h
   obtain⟨l,hl,rfl⟩:=h
   obtain⟨v,h1,h2⟩:=hR.get t d hd
   obtain⟨vs,h3,h4⟩:=Z5 hI hR r l hl
   refine⟨v::vs,?_,.cons h2 h4⟩
   simp only[List.mapM_cons,Sem.run_bind,Sem.run_pure,Result.andThen_ok,h3]
   simp[h1]
  ·exact h.elim
 | .cell p t::r,ds,h=>by
  simp only[cj]at h
  split at h
  ·rename_i b off hd
   split at h
   ·rename_i d hb
    split at h
    ·rename_i x hx
     simp only[T.zM]at h
     obtain⟨l,hl,rfl⟩:=h
     obtain⟨v,h1,h2⟩:=hR.get p _ hd
     obtain⟨vs,h3,h4⟩:=Z5 hI hR r l hl
     cases h2 with
     | ptr _ _ blk m d1 EF hp =>
      obtain⟨lN,n',cs,T,g1,g2,g3,g4,g5⟩:=hI.blk b _ hb
      rw[hp]at g1
      cases g1
      obtain⟨u,e1,e2⟩:=JY (c:=c) (blk:=blk) 0 hx g4 g5.1 (λj v hj=>by rw[sL g2]; simpa using hj)
      rw[Nat.zero_add]at e1
      refine⟨u::vs,?_,.cons e2 h4⟩
      have hA:(asAddr (a.tmps.getD p undef)).run c.P κ.w=.ok ⟨blk,off,none⟩ κ.w:=by simp[h1,asAddr]
      simp only[List.mapM_cons,Sem.run_bind,hA,Result.andThen_ok,e1,h3,Sem.run_pure]
    ·exact h.elim
   ·exact h.elim
  ·exact h.elim
def SU:List Value->Value
 | [v]=>v
 | vs=>.tuple vs.toArray
theorem nk{κ:KS}{fr:Fr}{a:Act}{fn:Func}{ds:List D}(hI:Inv κ)(hR:Rel κ n fr.get a)(h:(cj c fr κ.st fn.results.toList).leads ds) :
  ∃ vs:List Value,(results fn a.tmps).run c.P κ.w=.ok (SU vs) κ.w/\qM κ ds vs:=by
 obtain⟨vs,h1,h2⟩:=Z5 hI hR _ _ h
 simp only[results,Array.mapM_eq_mapM_toList,Sem.run_bind,Sem.run_map]
 have key:∀ r:Result (List Value),r=.ok vs κ.w->((r.andThen λa w'=>.ok a.toArray w').andThen λa w'=>(Pure.pure (if h:a.size=1 then a[0]else .tuple a):Sem Value).run c.P w')=.ok (SU vs) κ.w:=by
  rintro _ rfl
  match vs with
  | []=>rfl
  | [v]=>rfl
  | _::_::_=>rfl
 grind
theorem Zj{κ:KS}{ds:List D}{vs:List Value}(h:qM κ ds vs):RD κ (yS ds) (SU vs):=by
 match ds,vs,h with
 | [],vs,h=>rw[h.ql]; exact .gz [] [] rfl (λi h=>absurd h (Nat.not_lt_zero i))
 | [d],vs,h =>
  obtain⟨v,r,rfl,h1,h2⟩:=h.cons_inv
  rw[h2.ql]
  exact h1
 | d::e::r,vs,h =>
  obtain⟨v,us,rfl,h1,h2⟩:=h.cons_inv
  obtain⟨u,ws,rfl,h3,h4⟩:=h2.cons_inv
  exact .gz _ _ h.1 h.2
def KS.cut(κ:KS)(m:Nat):KS:={ κ with ph:=κ.ph.take m,st:=κ.st.take m }
theorem qj{α:Type}{l:List α}{m i:Nat}{a:α}(h:l[i]? = some a)(hi:i<m):(l.take m)[i]? = some a:=by grind
theorem bX{α:Type}{l:List α}{m i:Nat}{a:α}(h:(l.take m)[i]? = some a):l[i]? = some a/\i<m:=by grind
theorem dR{κ:KS}{m:Nat}{d:D}{v:Value}(h:RD κ d v)(hd:ug m d=true):RD (κ.cut m) d v:=by
 cases h with
 | zC τ y cs h=>exact .zC τ y cs h
 | xw e a=>exact .xw e a
 | tight e l ne blk off f uh wI h hc=>exact .tight e l ne blk off f uh wI h hc
 | xE=>exact .xE
 | yL=>exact .yL
 | xh=>exact .xh
 | uq=>exact .uq
 | uo=>exact .uo
 | tA v h=>exact .tA v h
 | dr T=>exact .dr T
 | cW b T d hb=>exact .cW b T d (qj hb (Nat.le_of_ble_eq_true hd))
 | dn b T blk n d hb h=>exact .dn b T blk n d (qj hb (Nat.le_of_ble_eq_true hd)) (qj h (Nat.le_of_ble_eq_true hd))
 | ptr b off blk n d hb h=>exact .ptr b off blk n d (qj hb (Nat.le_of_ble_eq_true hd)) (qj h (Nat.le_of_ble_eq_true hd))
 | xe τ y cs blk off wI h hc=>exact .xe τ y cs blk off wI h hc
 | uQ b qJ e idx off blk o hb h =>
  have qD:b<m:=Nat.le_of_ble_eq_true hd
  refine .uQ b qJ e idx off blk o (eV hb (λh=>qj h qD) ?_) λxs hx hi => ?_
  ·rintro⟨v0,e0,x0,h1,h2⟩; exact⟨v0,e0,x0,qj h1 qD,h2⟩
  ·obtain⟨n,h1,h2⟩:=h xs (bX hx).1 hi
   exact⟨n,qj h1 qD,h2⟩
 | ms b qJ e off len cap a hb vJ ha nN h =>
  have qD:b<m:=Nat.le_of_ble_eq_true hd
  refine .ms b qJ e off len cap a (eV hb (λh=>qj h qD) ?_) vJ ha nN λxs hx => ?_
  ·rintro⟨v0,e0,x0,h1,h2⟩; exact⟨v0,e0,x0,qj h1 qD,h2⟩
  ·obtain⟨h1,h2⟩:=h xs (bX hx).1
   refine⟨h1,eV h2 ?_ ?_⟩
   ·rintro⟨g1,g2,g3,g4⟩; exact⟨g1,g2,g3,qj g4 qD⟩
   ·rintro⟨blk,n,o,Fu,g1,g2⟩; exact⟨blk,n,o,Fu,qj g1 qD,g2⟩
 | xk=>cases hd
 | agg=>cases hd
 | gz=>cases hd
 | iface=>cases hd
theorem F4{κ:KS}{m:Nat}{d:D}{v:Value}(h:RD κ d v)(hd:bB m d=true):RD (κ.cut m) d v:=by
 cases d with
 | xk f l =>
  cases h with
  | xk _ _ vs hl hh =>
   simp only[bB,List.all_eq_true]at hd
   exact .xk f l vs hl λi h1 h2=>dR (hh i h1 h2) (hd _ (List.getElem_mem h1))
 | agg l =>
  cases h with
  | agg _ vs hl ho hh =>
   simp only[bB,List.all_eq_true]at hd
   exact .agg l vs hl ho λi h1 h2=>dR (hh i h1 h2) (hd _ (List.getElem_mem h1))
 | gz l=>cases hd
 | iface t d =>
  cases h with
  | iface _ _ v h=>exact .iface t _ v (dR h hd)
 | _=>exact dR h hd
theorem My{κ:KS}{m:Nat}{l:List D}{vs:List Value}(h:qM κ l vs)(hd:∀ d∈l,bB m d=true):qM (κ.cut m) l vs:=⟨h.1,λi h1 h2=>F4 (h.2 i h1 h2) (hd _ (List.getElem_mem h1))⟩
theorem HK{m:Nat}{d:D}(h:bB m d=true):∀ x∈qm d,bB m x=true:=by
 have Bq:∀ (τ:Ty) (x:den τ),∀ y∈flat τ x,bB m y=true:=by
  intro τ x y hy
  have:∃ σ z,y=.zC σ z:=by
   induction τ with
   | cons a b ia ib =>
    simp only[flat]at hy
    grind
   | nil=>simp[flat]at hy
   | expr=>simp[flat]at hy; rcases hy with rfl | rfl | rfl | rfl | rfl | rfl<;>exact⟨_,_,rfl⟩
   | _=>simp[flat]at hy; subst hy; exact⟨_,_,rfl⟩
  obtain⟨σ,z,rfl⟩:=this
  rfl
 cases d with
 | zC τ x=>exact Bq τ x
 | agg l =>
  intro x hx
  simp only[bB,List.all_eq_true]at h
  have:=h x hx
  cases x<;>first | exact this | cases this
 | gz l=>cases h
 | _=>intro x hx; simp[qm]at hx; subst hx; exact h
theorem z2f{κ:KS}{m:Nat}(hI:Inv κ)(hc:∀ x∈κ.st.take m,B0 m x=true):Inv (κ.cut m):=by
 refine⟨by simp[KS.cut,hI.len],hI.gm,λb blk n h=>hI.apart b blk n (bX h).1,λb b' blk n n' h h'=>hI.inj b b' blk n n' (bX h).1 (bX h').1,λb x h => ?_,hI.gl⟩
 obtain⟨h1,h2⟩:=bX h
 have hb:=hI.blk b x h1
 have hcx:=hc x (List.mem_of_getElem? h)
 cases x with
 | dead=>trivial
 | var d =>
  obtain⟨blk,n,cs,t,g1,g2,g3,g4,g5⟩:=hb
  exact⟨blk,n,cs,t,qj g1 h2,g2,g3,My g4 (HK hcx),g5⟩
 | arr qJ e xs =>
  obtain⟨h0,hb⟩:=hb
  refine⟨h0,eV hb (λh=>⟨h.1,qj h.2 h2⟩) ?_⟩
  rintro⟨blk,n,cs,t,g1,g2⟩
  exact⟨blk,n,cs,t,qj g1 h2,g2⟩
end
end Go.AM
namespace Go.AM
set_option linter.unusedSectionVars false
variable [ur]
section
variable {c:Ctx}
theorem vt{P:Program}{f:Nat}{fn:Func}{args:Array Value}(hf:P.funcs[f]? = some fn) (hn:(fn.name == "runtime.NumGoroutine")=false) (hb:fn.body.isNone=false) (w:World) :
  (callFunc f args).run P w=.ok (.enter f args) w:=by
 simp only[callFunc,Sem.run_bind,run_program,Result.andThen_ok,hf,hn,hb,Bool.false_eq_true,if_false,Sem.run_pure]
theorem Nr{κ κe:KS}(hI:Inv κ)(xR:κ.st=[])(hIe:Inv κe)(hx:Ext κ κe):Inv (κe.bare (P3 κe))/\Ext κ (κe.bare (P3 κe)):=by
 have qD:∀ k,P3 κe k->k<κe.w.heap.size:=by
  rintro k (hk | ⟨b,n,hk⟩)
  ·exact hIe.gm k hk
  ·exact(hIe.apart b k n hk).1
 refine⟨Ub hIe (λ_ h=>.inl h) qD,hx.os,hx.tape,hx.output,hx.size,λk hk=>⟨.inl (hx.same k hk).1,(hx.same k hk).2⟩,?_,λb blk n h=>by simp[KS.bare]at h,λb d h=>by grind,
  λb v0 e xs h=>by grind,λb h=>by grind,by grind,hx.frame⟩
 rintro k (hk | ⟨b,n,hk⟩)
 ·exact hx.fresh k hk
 ·rcases hx.phs b k n hk with h | h
  ·grind
  ·grind
end
end Go.AM
namespace Go.AM
set_option linter.unusedSectionVars false
variable [ur] [Ku]
open Go.RowKit
def z1u(s:Nat)(fr:Fr)(st:St):T (Fr×St):=match fr.get s with
 | some (.ms b qJ e off len)=>match st[b]? with
  | some (.arr kP e' xs)=>match(vN (a:=.sl e') (b:=.sl e) xs:Option (List (den e)))with
   | some ys=>.zy (qJ=kP) (.ret ((s,some (.zC (.sl e) ((ys.take (off+len)).drop off)))::fr,st.set b .dead))
   | none=>.fail
  | _=>.fail
 | _=>.ret (fr,st)
def z2g(j i:Nat)(fr:Fr)(st:St):T (Fr×St):=match st[j]? with
 | some (.var (.agg ds))=>match ds[i]? with
  | some (.ms b qJ e off len)=>match st[b]? with
   | some (.arr kP e' xs)=>match(vN (a:=.sl e') (b:=.sl e) xs:Option (List (den e)))with
    | some ys=>.zy (qJ=kP) (.ret (fr,(st.set b .dead).set j (.var (.agg (ds.set i (.zC (.sl e) ((ys.take (off+len)).drop off)))))))
    | none=>.fail
   | _=>.fail
  | _=>.ret (fr,st)
 | _=>.ret (fr,st)
def z3z(s:Nat)(fr:Fr)(st:St):T (Fr×St):=bif Nat.ble 1000000 s then z2g ((s-1000000) / 1000) ((s-1000000) % 1000) fr st else z1u s fr st
def frz:List Nat->Fr->St->T (Fr×St)
 | [],fr,st=>.ret (fr,st)
 | s::r,fr,st=>(z3z s fr st).bind λx=>frz r x.1 x.2
section
variable {c:Ctx} {κ:KS} {n:Nat}
theorem zai{b qJ off len:Nat}{e:Ty}{xs:List (den e)}{v:Value}(hI:Inv κ)(h:RD κ (.ms b qJ e off len) v)(hb:κ.st[b]? = some (.arr qJ e xs)){W9:Nat->Prop}(h1:∀ k,κ.ok k->W9 k)(h2:∀ k n,κ.ph[b]? = some (some (k,n))->W9 k) :
  Rc κ.w W9 (.sl e) ((xs.take (off+len)).drop off) [v]:=by
 obtain⟨HQ,_⟩:=F0 hI h hb
 obtain⟨a,cap,f,hve,vJ,hn,g1,g2⟩:=HQ.ex
 have z0w:∀ blk o:Nat,v=.slice (some ⟨blk,o,none⟩) ((xs.take (off+len)).drop off).length cap->W9 blk:=by
  intro blk o he
  cases h with
  | ms _ _ _ _ _ Fu a' hold z92 ha nN hm =>
   obtain⟨_,hm⟩:=hm xs hb
   grind
 rw[hve]
 cases a with
 | none=>obtain⟨k1,k2⟩:=hn rfl; rw[k1,k2]; exact .lj e none
 | some p =>
  rcases g2 p rfl with⟨k1,k2⟩ | ⟨hp,_,hc⟩
  ·rw[k1,k2]; exact .lj e _
  ·obtain⟨blk,o,sp⟩:=p
   subst hp
   exact .sl e _ blk o cap f (z0w blk o hve) vJ (λi hi=>(g1 i hi).mono λk hk=>⟨h1 k hk,rfl⟩) hc
theorem Lq{b qJ:Nat}{e:Ty}{xs:List (den e)}(hb:κ.st[b]? = some (.arr qJ e xs))(hI:Inv κ):∃ κ':KS,κ'.w=κ.w/\κ'.st=κ.st.set b .dead/\Inv κ'/\Ext κ κ' /\
  ∀ (off len:Nat) (v:Value),RD κ (.ms b qJ e off len) v->RD κ' (.zC (.sl e) ((xs.take (off+len)).drop off)) v:=by
 have qD:b<κ.st.length:=(List.getElem?_eq_some_iff.1 hb).1
 let κ':KS:=⟨κ.w,λk=>κ.ok k\/∃ n,κ.ph[b]? = some (some (k,n)),κ.ph.set b none,κ.st.set b .dead⟩
 have xR:∀ i,i≠b->κ'.st[i]? = κ.st[i]? := λi hi=>by show(κ.st.set b .dead)[i]? = _; rw[List.getElem?_set_ne (λe=>hi e.symm)]
 have Gc:∀ i,i≠b->κ'.ph[i]? = κ.ph[i]? := λi hi=>by show(κ.ph.set b none)[i]? = _; rw[List.getElem?_set_ne (λe=>hi e.symm)]
 have z0X:∀ (i blk m:Nat),κ'.ph[i]? = some (some (blk,m))->i≠b/\κ.ph[i]? = some (some (blk,m)):=by
  grind
 have hx:Ext κ κ':=by
  refine⟨rfl,rfl,rfl,Nat.le_refl _,λk hk=>⟨.inl hk,rfl⟩,?_,λi blk m hi=>.inl (z0X i blk m hi).2,?_,?_,?_,by show _<=(κ.st.set b .dead).length; simp,λ_ _ _=>rfl⟩
  ·grind
  ·grind
  ·grind
  ·grind
 have hI':Inv κ':=by
  refine⟨by show(κ.ph.set b none).length=(κ.st.set b .dead).length; simp[hI.len],?_,?_,?_,?_,hI.gl.mono hx.same⟩
  ·rintro k (hk | ⟨m,hk⟩)
   ·exact hI.gm k hk
   ·exact(hI.apart b k m hk).1
  ·intro i blk m hi
   obtain⟨hib,Kk⟩:=z0X i blk m hi
   obtain⟨g1,g2⟩:=hI.apart i blk m Kk
   refine⟨g1,?_⟩
   rintro(hk | ⟨m',hk⟩)
   ·exact g2 hk
   ·exact hib (hI.inj i b blk m m' Kk hk)
  ·intro i i' blk m m' hi Kk
   exact hI.inj i i' blk m m' (z0X i blk m hi).2 (z0X i' blk m' Kk).2
  ·intro i B hB
   by_cases hib:i=b
   ·subst hib
    have:(κ.st.set i .dead)[i]? = some B:=hB
    rw[List.getElem?_set_self qD]at this
    cases this
    trivial
   ·rw[xR i hib]at hB
    exact(hI.blk i B hB).mono hx (Gc i hib) λ_ _ _=>rfl
 exact⟨κ',rfl,rfl,hI',hx,λoff len v hd=>RD.nw rfl (zai hI hd hb (λk hk=>.inl hk) λk m hk=>.inr ⟨m,hk⟩)⟩
theorem z1e{s:Nat}{fr:Fr}{a:Act}{r:Fr×St}(h:(z1u s fr κ.st).leads r)(hI:Inv κ)(hR:Rel κ n fr.get a):∃ κ':KS,κ'.w=κ.w/\κ'.st=r.2/\Inv κ'/\Ext κ κ'/\Rel κ' n r.1.get a:=by
 unfold z1u at h
 split at h
 ·rename_i b qJ e off len hs
  split at h
  ·rename_i kP e' xs hb
   split at h
   ·rename_i ys hy
    obtain⟨he,hx⟩:=qx hy
    obtain⟨rfl,h⟩:=h
    cases h
    obtain⟨v,hv,hd⟩:=hR.get s _ hs
    obtain⟨κ',e1,e2,hI',hx,hk⟩:=Lq hb hI
    refine⟨κ',e1,e2,hI',hx,hR.size,hR.defers,λt d yq => ?_⟩
    simp only[Fr.get]at yq
    cases ht:Nat.beq s t with
    | true =>
     rw[<- Nat.eq_of_beq_eq_true ht]
     grind
    | false =>
     rw[ht,cond_false]at yq
     obtain⟨u,g1,g2⟩:=hR.get t d yq
     exact⟨u,g1,g2.mono hx⟩
   ·exact h.elim
  ·exact h.elim
 ·cases h; exact⟨κ,rfl,rfl,hI,Ext.refl κ,hR⟩
theorem OG{ds:List D}{i b qJ off len:Nat}{e:Ty}{d':D}(hd:ds[i]? = some (.ms b qJ e off len))(hn:bA [d']=none){T:Nat}(h:bA (ds.set i d')=some T):bA ds=some T:=by
 cases ds with
 | nil=>cases hd
 | cons x r =>
  cases i with
  | zero =>
   have:bA (d'::r)=bA [d']:=by cases d'<;>rfl
   grind
  | succ i =>
   have:∀ r':List D,bA (x::r')=bA [x]:=by intro r'; cases x<;>rfl
   grind
theorem z4d{j i:Nat}{fr:Fr}{a:Act}{r:Fr×St}(h:(z2g j i fr κ.st).leads r)(hI:Inv κ)(hR:Rel κ n fr.get a):∃ κ':KS,κ'.w=κ.w/\κ'.st=r.2/\Inv κ'/\Ext κ κ'/\Rel κ' n r.1.get a:=by
 unfold z2g at h
 split at h
 ·rename_i ds hj
  split at h
  ·rename_i b qJ e off len hi
   split at h
   ·rename_i kP e' xs hb
    split at h
    ·rename_i ys hy
     obtain⟨he,hx⟩:=qx hy
     cases he
     cases hx
     obtain⟨rfl,h⟩:=h
     cases h
     obtain⟨κ1,e1,e2,Xj,hx1,hk⟩:=Lq hb hI
     have hjb:j≠b:=λq=>by subst q; rw[hb]at hj; cases hj
     have hj1:κ1.st[j]? = some (.var (.agg ds)):=by rw[e2,List.getElem?_set_ne (λq=>hjb q.symm)]; exact hj
     have P9:j<κ1.st.length:=(List.getElem?_eq_some_iff.1 hj1).1
     let d':D:=.zC (.sl e) ((xs.take (off+len)).drop off)
     let κ2:KS:={ κ1 with st:=κ1.st.set j (.var (.agg (ds.set i d'))) }
     have xR:∀ k,k≠j->κ2.st[k]? = κ1.st[k]? := λk hk=>by show(κ1.st.set j _)[k]? = _; rw[List.getElem?_set_ne (λq=>hk q.symm)]
     have zer:κ2.st[j]? = some (.var (.agg (ds.set i d'))):=by show(κ1.st.set j _)[j]? = _; rw[List.getElem?_set_self P9]
     have Et:Ext κ1 κ2:=by
      refine⟨rfl,rfl,rfl,Nat.le_refl _,λk hk=>⟨hk,rfl⟩,λk hk=>.inl hk,λk blk m hk=>.inl hk,?_,?_,?_,by show _<=(κ1.st.set j _).length; simp,λ_ _ _=>rfl⟩
      ·grind
      ·grind
      ·grind
     have hI2:Inv κ2:=by
      refine⟨by show κ1.ph.length=(κ1.st.set j _).length; simp[Xj.len],Xj.gm,Xj.apart,Xj.inj,?_,Xj.gl⟩
      intro k B hB
      by_cases q:k=j
      ·subst q
       rw[zer]at hB
       cases hB
       obtain⟨blk,m,cs,t,g1,g2,g3,g4,g5,g6⟩:=hI.blk k _ hj
       obtain⟨lN,m',cV,t',p1,p2,p3,p4,p5,p6⟩:=Xj.blk k _ hj1
       have Gc:κ1.ph[k]? = κ.ph[k]? := (hx1.var k _ hj).2
       rw[Gc,g1]at p1
       cases p1
       rw[e1,g2]at p2
       cases p2
       refine⟨blk,m,cs,t,Gc.trans g1,by show κ1.w.heap[blk]? = _; rw[e1]; exact g2,g3,?_,?_,λT hT=>g6 T (OG hi rfl hT)⟩
       ·have p4':qM κ2 ds cs.toList:=qM.mono Et p4
        refine⟨by show(ds.set i d').length=_; rw[List.length_set]; exact p4'.1,λk' h1 h2 => ?_⟩
        have Vd:k'<(ds.set i d').length:=h1
        rw[List.length_set]at Vd
        show RD κ2 ((ds.set i d')[k']) _
        by_cases q:i=k'
        ·subst q
         have hdi:ds[i]'Vd=.ms b qJ e off len:=Option.some.inj ((List.getElem?_eq_getElem Vd).symm.trans hi)
         have:=g4.2 i Vd h2
         have BC:(qm (D.agg ds))[i]'Vd=.ms b qJ e off len:=hdi
         rw[BC]at this
         have e3:(ds.set i d')[i]'h1=d':=List.getElem_set_self _
         rw[e3]
         exact(hk _ _ _ this).mono Et
        ·have e3:(ds.set i d')[k']'h1=ds[k']'Vd:=List.getElem_set_ne q _
         rw[e3]
         exact p4'.2 k' Vd h2
       ·intro x hx
        rcases List.mem_or_eq_of_mem_set hx with hx | rfl
        ·exact g5 x hx
        ·rfl
      ·rw[xR k q]at hB
       exact(Xj.blk k B hB).mono Et rfl λ_ _ _=>rfl
     refine⟨κ2,e1,by show κ1.st.set j _=_; rw[e2],hI2,hx1.trans Et,hR.size,hR.defers,λt d yq => ?_⟩
     obtain⟨u,q1,q2⟩:=hR.get t d yq
     exact⟨u,q1,(q2.mono hx1).mono Et⟩
    ·exact h.elim
   ·exact h.elim
  ·cases h; exact⟨κ,rfl,rfl,hI,Ext.refl κ,hR⟩
 ·cases h; exact⟨κ,rfl,rfl,hI,Ext.refl κ,hR⟩
theorem z1v{s:Nat}{fr:Fr}{a:Act}{r:Fr×St}(h:(z3z s fr κ.st).leads r)(hI:Inv κ)(hR:Rel κ n fr.get a):∃ κ':KS,κ'.w=κ.w/\κ'.st=r.2/\Inv κ'/\Ext κ κ'/\Rel κ' n r.1.get a:=by
 unfold z3z at h
 cases hb:Nat.ble 1000000 s with
 | true=>rw[hb,cond_true]at h; exact z4d h hI hR
 | false=>rw[hb,cond_false]at h; exact z1e h hI hR
theorem Rw:∀ (l:List Nat) {fr:Fr} {κ:KS} {a:Act} {r:Fr×St},(frz l fr κ.st).leads r->Inv κ->Rel κ n fr.get a->∃ κ':KS,κ'.w=κ.w/\κ'.st=r.2/\Inv κ'/\Ext κ κ'/\Rel κ' n r.1.get a
 | [],fr,κ,a,r,h,hI,hR=>by cases h; exact⟨κ,rfl,rfl,hI,Ext.refl κ,hR⟩
 | s::l,fr,κ,a,r,h,hI,hR=>by
  simp only[frz,T.zM]at h
  obtain⟨x,h1,h2⟩:=h
  obtain⟨κ1,e1,e2,e3,e4,e5⟩:=z1v h1 hI hR
  rw[<- e2]at h2
  obtain⟨κ2,g1,g2,g3,g4,g5⟩:=Rw l h2 e3 e5
  exact⟨κ2,g1.trans e1,g2,g3,e4.trans g4,g5⟩
end
end Go.AM