/-
  The abstract machine, part C: texts of our own, the same for each claim.
-/
import Derived.Test.YtgadkkagiejlkaaGreatDoorAmB
import Derived.Deep.LoopGhost
set_option linter.unusedVariables false
namespace Go.AM
set_option linter.unusedSectionVars false
variable [vP]
abbrev F:=Nat→Option D
def q7(f:F):Operand→Option D
 | .tmp t=>f t
 | .const v=>su v
 | .global _=>none
 | .func g=>bif Nat.blt g 1000000 then some (.xg g [])else none
theorem yo(fr:Fr):vZ fr=q7 fr.get:=by funext x; cases x<;>rfl
def ja(f:F)(dst:Option Nat)(d:Option D):F:=match dst with
 | some t=>fun s=>if s=t then d else f s
 | none=>f
theorem fk{a b:Nat}(h:a≠b):Nat.beq a b=false:=by
 cases hb:Nat.beq a b with
 | false=>rfl
 | true=>exact absurd (Nat.eq_of_beq_eq_true hb) h
theorem fh(fr:Fr)(dst:Option Nat)(d:Option D):(fr.put dst d).get=ja fr.get dst d:=by
 cases dst with
 | none=>rfl
 | some t =>
  funext s
  simp only[Fr.put,Fr.get,ja]
  by_cases h:s=t
  ·subst h; simp
  ·rw[if_neg h,fk (fun e=>h e.symm),cond_false]
section
variable (c:Ctx) (n:Nat) (ops:Array Oper)
def w6(f:F)(o:Oper):Option Bool:=match o.guard with
 | none=>some true
 | some (j,w)=>match vW ops j with
  | none=>none
  | some t=>match f t with
   | some (.zi .bool b)=>some (b==w)
   | some (.jY [])=>some false
   | _=>none
def kL(i:Nat)(s s':F×St)(k:Nat):Prop:=∃ o,ops[i]? = some o∧vn n o.dst=true ∧
 ((w6 ops s.1 o=some true∧k=(qz c (q7 s.1) o).kind∧∃ d zu,(zG (qz c (q7 s.1) o) s.2).leads (d,zu)∧s'=(ja s.1 o.dst d,zu)) ∨
  (w6 ops s.1 o=some false∧k=0∧s'=(ja s.1 o.dst (some DA),s.2)))
def Dj:List Nat→F×St→F×St→List Nat→Prop
 | [],s,s',ks=>s'=s∧ks=[]
 | i::l,s,s',ks=>∃ s1 k GP,ks=k::GP∧kL c n ops i s s1 k∧Dj l s1 s' GP
end
section
variable {c:Ctx} {n:Nat} {ops:Array Oper}
def wW(kn:Kn)(f:F):Prop:=∀ t b,kn.get t=some b→f t=some (.zi .bool b)
theorem QN(t:Nat)(b:Option Bool)(kn:Kn)(s:Nat):Kn.get ((t,b)::kn) s=if s=t then b else kn.get s:=by
 simp only[Kn.get]
 by_cases h:s=t
 ·subst h; simp
 ·rw[if_neg h,fk (fun e=>h e.symm),cond_false]
theorem yN{kn:Kn}{f:F}(h:wW kn f){x:Operand}{b:Bool}(hx:gW kn x=some b):q7 f x=some (.zi .bool b):=by
 unfold gW at hx
 split at hx
 ·exact h _ _ hx
 ·cases hx; rfl
 ·cases hx
theorem Jm{kn:Kn}{fr:Fr}{o:Oper}(hk:wW kn fr.get){st:St}{r:Option D×St}(h:(zG (fW c kn fr o) st).leads r) :
  (zG (qz c (q7 fr.get) o) st).leads r∧(fW c kn fr o).kind=(qz c (q7 fr.get) o).kind∧∀ b,Zi kn o.op=some b→r.1=some (.zi .bool b):=by
 obtain⟨dst,op,ty,pos,after,guard⟩:=o
 rw[← yo]
 cases op with
 | pick x a b =>
  simp only[fW]at h ⊢
  cases hx:gW kn x with
  | none =>
   rw[hx]at h
   refine⟨h,rfl,fun b' hb => ?_⟩
   simp[Zi,hx]at hb
  | some bx =>
   rw[hx]at h
   have Xa:=yN hk hx
   rw[← yo]at Xa
   have TP:qz c (vZ fr) ⟨dst,.pick x a b,ty,pos,after,guard⟩=.val (.ite bx (.ret (vZ fr a)) (.ret (vZ fr b))):=by
    simp only[qz,GD,Xa,asBool]
   rw[TP]
   obtain⟨d,zu⟩:=r
   cases bx with
   | true =>
    simp only[we,T.leads]at h ⊢
    refine⟨⟨.inl ⟨by first | rfl | trivial,h.1⟩,h.2⟩,rfl,fun b' hb => ?_⟩
    simp only[Zi,hx]at hb
    have:=yN hk hb
    rw[← yo]at this
    exact h.1.symm.trans this
   | false =>
    simp only[we,T.leads]at h ⊢
    refine⟨⟨.inr ⟨by first | rfl | trivial,h.1⟩,h.2⟩,rfl,fun b' hb => ?_⟩
    simp only[Zi,hx]at hb
    have:=yN hk hb
    rw[← yo]at this
    exact h.1.symm.trans this
 | move x =>
  refine⟨h,rfl,fun b hb => ?_⟩
  obtain⟨d,zu⟩:=r
  simp only[fW,qz,we,T.leads]at h
  have:=yN hk (show gW kn x=some b from hb)
  rw[← yo]at this
  exact h.1.symm.trans this
 | assign x =>
  refine⟨h,rfl,fun b hb => ?_⟩
  obtain⟨d,zu⟩:=r
  simp only[fW,qz,we,T.leads]at h
  have:=yN hk (show gW kn x=some b from hb)
  rw[← yo]at this
  exact h.1.symm.trans this
 | _=>exact⟨h,rfl,fun b hb=>by simp[Zi]at hb⟩
theorem Hb{kn:Kn}{f:F}(hk:wW kn f){dst:Option Nat}{d:Option D}{b:Option Bool}(hb:∀ b',b=some b'→d=some (.zi .bool b')):wW (QD kn dst b) (ja f dst d):=by
 cases dst with
 | none=>exact hk
 | some t =>
  intro s b' h
  simp only[QD,QN]at h
  simp only[ja]
  split at h
  ·rename_i e; rw[if_pos e]; exact hb b' h
  ·rename_i e; rw[if_neg e]; exact hk s b' h
theorem mf{kn:Kn}{f:F}(hk:wW kn f){t:Nat}{b:Bool}(hb:f t=some (.zi .bool b)):wW ((t,some b)::kn) f:=by
 intro s b' h
 rw[QN]at h
 split at h
 ·rename_i e; subst e; cases h; exact hb
 ·exact hk s b' h
theorem QI{o:Oper}{s s':b4}(hk:wW s.kn s.fr.get)(h:(y6 c n o s).leads s') :
  vn n o.dst=true∧(∃ d zu,(zG (qz c (q7 s.fr.get) o) s.st).leads (d,zu)∧s'.fr.get=ja s.fr.get o.dst d∧s'.st=zu)∧wW s'.kn s'.fr.get∧s'.ks=(qz c (q7 s.fr.get) o).kind::s.ks:=by
 unfold y6 at h
 cases hd:vn n o.dst with
 | false=>rw[hd]at h; exact h.elim
 | true =>
  rw[hd,cond_true]at h
  simp only[T.zH]at h
  obtain⟨⟨d,zu⟩,h1,rfl⟩:=h
  obtain⟨h2,h3,h4⟩:=Jm hk h1
  refine⟨rfl,⟨d,zu,h2,fh _ _ _,rfl⟩,?_,by simp[h3]⟩
  show wW (QD s.kn o.dst (Zi s.kn o.op)) (s.fr.put o.dst d).get
  rw[fh]
  exact Hb hk h4
theorem HQ{o:Oper}{s:b4}(hk:wW s.kn s.fr.get):wW (uL o s).kn (uL o s).fr.get:=by
 show wW (QD s.kn o.dst none) (s.fr.put o.dst (some DA)).get
 rw[fh]
 exact Hb hk nofun
theorem WX{i:Nat}{o:Oper}{s s':b4}(ho:ops[i]? = some o)(hk:wW s.kn s.fr.get)(h:(stepG c n ops o s).leads s') :
  ∃ k,kL c n ops i (s.fr.get,s.st) (s'.fr.get,s'.st) k∧wW s'.kn s'.fr.get∧s'.ks=k::s.ks:=by
 have run:∀ (s0:b4),s0.fr=s.fr→s0.st=s.st→s0.ks=s.ks→wW s0.kn s0.fr.get→w6 ops s.fr.get o=some true→(y6 c n o s0).leads s' →
   ∃ k,kL c n ops i (s.fr.get,s.st) (s'.fr.get,s'.st) k∧wW s'.kn s'.fr.get∧s'.ks=k::s.ks:=by
  intro s0 e1 e2 e3 VJ hw h
  obtain⟨h1,⟨d,zu,h2,h3,h4⟩,h5,h6⟩:=QI VJ h
  rw[e1]at h2 h3 h6
  rw[e2]at h2
  rw[e3]at h6
  exact⟨_,⟨o,ho,h1,.inl ⟨hw,rfl,d,zu,h2,by rw[h3,h4]⟩⟩,h5,h6⟩
 have skip:∀ (s0:b4),s0.fr=s.fr→s0.st=s.st→s0.ks=s.ks→wW s0.kn s0.fr.get→w6 ops s.fr.get o=some false→vn n o.dst=true→uL o s0=s' →
   ∃ k,kL c n ops i (s.fr.get,s.st) (s'.fr.get,s'.st) k∧wW s'.kn s'.fr.get∧s'.ks=k::s.ks:=by
  intro s0 e1 e2 e3 VJ hw hd h
  subst h
  refine⟨0,⟨o,ho,hd,.inr ⟨hw,rfl,?_⟩⟩,HQ VJ,by simp[uL,e3]⟩
  simp only[uL,fh,e1,e2]
 unfold stepG at h
 split at h
 ·rename_i hg
  exact run s rfl rfl rfl hk (by simp[w6,hg]) h
 ·rename_i j w hg
  split at h
  ·exact h.elim
  ·rename_i t ht
   split at h
   ·rename_i b hb
    have hf:=hk t b hb
    have hw:w6 ops s.fr.get o=some (b==w):=by simp[w6,hg,ht,hf]
    cases DR:(b==w)with
    | true=>rw[DR,cond_true]at h; exact run s rfl rfl rfl hk (by rw[hw,DR]) h
    | false =>
     rw[DR,cond_false]at h
     cases hd:vn n o.dst with
     | false=>rw[hd]at h; exact h.elim
     | true=>rw[hd,cond_true]at h; exact skip s rfl rfl rfl hk (by rw[hw,DR]) hd h
   ·split at h
    ·rename_i x hx
     have hw:w6 ops s.fr.get o=some (x==w):=by simp[w6,hg,ht,hx]
     cases hd:vn n o.dst with
     | false=>rw[hd]at h; exact h.elim
     | true =>
      rw[hd,cond_true]at h
      rcases h with⟨rfl,h⟩ | ⟨rfl,h⟩
      ·have Wz:wW (s.yA t true).kn (s.yA t true).fr.get:=mf hk hx
       cases w with
       | true=>exact run (s.yA t true) rfl rfl rfl Wz hw h
       | false=>exact skip (s.yA t true) rfl rfl rfl Wz hw hd h
      ·have Wz:wW (s.yA t false).kn (s.yA t false).fr.get:=mf hk hx
       cases w with
       | true=>exact skip (s.yA t false) rfl rfl rfl Wz hw hd h
       | false=>exact run (s.yA t false) rfl rfl rfl Wz hw h
    ·rename_i hx
     have hw:w6 ops s.fr.get o=some false:=by simp[w6,hg,ht,hx]
     cases hd:vn n o.dst with
     | false=>rw[hd]at h; exact h.elim
     | true=>rw[hd,cond_true]at h; exact skip s rfl rfl rfl hk hw hd h
    ·exact h.elim
theorem c9:∀ (l:List Oper) (k0:Nat) (s s':b4),(∀ j,l[j]? = ops[k0+j]? ∨ l.length≤j)→wW s.kn s.fr.get→(cS c n ops l s).leads s' →
  ∃ ks,Dj c n ops (List.range' k0 l.length) (s.fr.get,s.st) (s'.fr.get,s'.st) ks∧wW s'.kn s'.fr.get∧s'.ks=ks.reverse++s.ks
 | [],k0,s,s',_,hk,h=>by cases h; exact⟨[],⟨rfl,rfl⟩,hk,rfl⟩
 | o::l,k0,s,s',hl,hk,h=>by
  simp only[cS,T.zH]at h
  obtain⟨s1,h1,h2⟩:=h
  have ho:ops[k0]? = some o:=by rcases hl 0 with h | h<;>simp at h; exact h.symm
  obtain⟨k,g1,g2,g3⟩:=WX ho hk h1
  obtain⟨ks,g4,g5,g6⟩:=c9 l (k0+1) s1 s' (fun j=>by have:=hl (j+1); simpa[Nat.add_assoc,Nat.add_comm 1 j]using this) g2 h2
  refine⟨k::ks,?_,g5,by rw[g6,g3]; simp⟩
  simp only[List.length_cons,List.range'_succ]
  exact⟨_,k,ks,rfl,g1,g4⟩
end
end Go.AM
namespace Go.AM
set_option linter.unusedSectionVars false
variable [vP]
section
variable {c:Ctx} {n:Nat} {ops:Array Oper}
theorem lJ{α:Type}{ρ ρ':α→Option D}(L:List (Nat×α))(h:∀ p∈L,ρ p.2=ρ' p.2):(L.map fun p=>(p.1,ρ p.2))=L.map fun p=>(p.1,ρ' p.2) :=
 List.map_congr_left fun p hp=>by rw[h p hp]
theorem og{ρ ρ':Operand→Option D}(o:Oper)(h:∀ x∈o.op.operands,ρ x=ρ' x):qz c ρ o=qz c ρ' o:=by
 obtain⟨dst,op,ty,pos,after,guard⟩:=o
 cases op with
 | move x=>simp only[qz]; rw[h x (by simp[Op.operands])]
 | assign x=>simp only[qz]; rw[h x (by simp[Op.operands])]
 | pick x a b=>simp only[qz]; rw[h x (by simp[Op.operands]),h a (by simp[Op.operands]),h b (by simp[Op.operands])]
 | box t x=>simp only[qz]; rw[h x (by simp[Op.operands])]
 | load t x=>simp only[qz]; rw[h x (by simp[Op.operands])]
 | store t x y=>simp only[qz]; rw[h x (by simp[Op.operands]),h y (by simp[Op.operands])]
 | nilCheck x=>simp only[qz]; rw[h x (by simp[Op.operands])]
 | binOp op t x y _=>simp only[qz]; rw[h x (by simp[Op.operands]),h y (by simp[Op.operands])]
 | typeAssert x xt t ok=>simp only[qz]; rw[h x (by simp[Op.operands])]
 | unOp op t x=>simp only[qz]; rw[h x (by simp[Op.operands])]
 | convert s t x=>simp only[qz]; rw[h x (by simp[Op.operands])]
 | makeInterface t x=>simp only[qz]; rw[h x (by simp[Op.operands])]
 | makeFunc fn first cap =>
  cases fn<;>simp only[qz]
  rw[List.map_congr_left (l:=cap.toList) (fun x hx=>h x (by simp[Op.operands,Array.mem_toList_iff.1 hx])),List.map_congr_left (l:=first.toList) (fun x hx=>h x (by simp[Op.operands,Array.mem_toList_iff.1 hx]))]
 | makeSlice t x y=>simp only[qz]; rw[h x (by simp[Op.operands]),h y (by simp[Op.operands])]
 | slice t x lo hi mx =>
  simp only[qz]
  have ho:∀ o:Option Operand,(∀ y,o=some y→ρ y=ρ' y)→o.map ρ=o.map ρ':=fun o ho=>by
   cases o with
   | none=>rfl
   | some y=>rw[Option.map_some,Option.map_some,ho y rfl]
  rw[h x (by simp[Op.operands]),ho lo (fun y hy=>h y (by simp[Op.operands,hy])),ho hi (fun y hy=>h y (by simp[Op.operands,hy])),ho mx (fun y hy=>h y (by simp[Op.operands,hy]))]
 | fieldAddr s x f=>simp only[qz]; rw[h x (by simp[Op.operands])]
 | field s x f=>simp only[qz]; rw[h x (by simp[Op.operands])]
 | indexAddr t x y=>simp only[qz]; rw[h x (by simp[Op.operands]),h y (by simp[Op.operands])]
 | index t x y=>simp only[qz]; rw[h x (by simp[Op.operands]),h y (by simp[Op.operands])]
 | extract x i=>simp only[qz]; rw[h x (by simp[Op.operands])]
 | build t ps=>simp only[qz]; rw[lJ ps.toList fun p hp=>h p.2 (by simp[Op.operands]; exact⟨p.1,Array.mem_toList_iff.1 hp⟩)]
 | buildSlice t k ps=>simp only[qz]; rw[lJ ps.toList fun p hp=>h p.2 (by simp[Op.operands]; exact⟨p.1,Array.mem_toList_iff.1 hp⟩)]
 | call cl =>
  obtain⟨callee,args,dG⟩:=cl
  have bL:args.toList.map ρ=args.toList.map ρ':=List.map_congr_left fun x hx=>h x (by simp[Op.operands,Call.operands,Array.mem_toList_iff.1 hx])
  cases callee with
  | builtin b=>simp only[qz]; rw[bL]
  | value f=>simp only[qz]; rw[bL,h f (by simp[Op.operands,Call.operands])]
  | invoke r m=>rfl
 | _=>rfl
theorem WB{f:F}{dst:Option Nat}{d:Option D}{x:Operand}(h:∀ t,dst=some t→x≠.tmp t):q7 (ja f dst d) x=q7 f x:=by
 cases dst with
 | none=>rfl
 | some t=>cases x with
  | tmp s=>simp only[q7,ja]; rw[if_neg (fun e=>h t rfl (by rw[e]))]
  | _=>rfl
theorem kA(f:F){a b:Option Nat}(d e:Option D)(h:∀ t,a=some t→b≠some t):ja (ja f a d) b e=ja (ja f b e) a d:=by
 cases a with
 | none=>rfl
 | some s=>cases b with
  | none=>rfl
  | some t =>
   have u7:s≠t:=fun e=>h s rfl (by rw[e])
   funext x
   simp only[ja]
   by_cases h1:x=t
   ·subst h1; simp[Ne.symm u7]
   ·simp[h1]
def OE(ops:Array Oper)(kd:Nat→Nat)(p i:Nat):Prop:=∀ x y,ops[p]? = some x→ops[i]? = some y →
 (∀ d,x.dst=some d→d ∉ tmpsOf ops y)∧(∀ d,y.dst=some d→d ∉ tmpsOf ops x)∧vO (kd p) (kd i)=false
theorem jc{o:Oper}{d:Nat}(h:o.dst=some d):d∈tmpsOf ops o:=by simp[tmpsOf,h]
theorem l9{o:Oper}{d:Nat}(h:Operand.tmp d∈o.op.operands):d∈tmpsOf ops o:=by
 simp only[tmpsOf,List.mem_append,List.mem_filterMap]
 exact .inr ⟨.tmp d,by simpa using h,rfl⟩
theorem iZ{o:Oper}{j:Nat}{w:Bool}{d:Nat}(h:o.guard=some (j,w))(hg:vW ops j=some d):d∈tmpsOf ops o:=by
 simp[tmpsOf,h,hg]
theorem xX{f:F}{o:Oper}{dst:Option Nat}{d:Option D}(h:∀ t,dst=some t→t ∉ tmpsOf ops o):w6 ops (ja f dst d) o=w6 ops f o:=by
 unfold w6
 cases hg:o.guard with
 | none=>rfl
 | some jw =>
  obtain⟨j,w⟩:=jw
  simp only
  cases hs:vW ops j with
  | none=>rfl
  | some t =>
   simp only
   have:ja f dst d t=f t:=by
    cases dst with
    | none=>rfl
    | some s=>simp only[ja]; rw[if_neg]; intro e; exact h s rfl (e▸iZ hg hs)
   rw[this]
theorem j1{f:F}{o:Oper}{dst:Option Nat}{d:Option D}(h:∀ t,dst=some t→t ∉ tmpsOf ops o):qz c (q7 (ja f dst d)) o=qz c (q7 f) o :=
 og o fun x hx=>WB fun t ht e=>h t ht (l9 (ops:=ops) (e▸hx))
theorem cz{cl:yW}(h:cl.kind=0){st zu:St}{d:Option D}(hl:(zG cl st).leads (d,zu)):zu=st∧∀ uF,(zG cl uF).leads (d,uF):=by
 cases cl with
 | val t=>rw[we]at hl; exact⟨hl.2,fun uF=>by rw[we]; exact⟨hl.1,rfl⟩⟩
 | rd k=>cases h
 | wr k=>cases h
theorem gq{cl:yW}(h:cl.kind≤1){st zu:St}{d:Option D}(hl:(zG cl st).leads (d,zu)):zu=st:=by
 cases cl with
 | val t=>rw[we]at hl; exact hl.2
 | rd k=>rw[dQ]at hl; exact hl.2
 | wr k=>simp[yW.kind]at h
theorem pK(cl:yW):cl.kind≤2:=by cases cl<;>simp[yW.kind]
theorem WL{kd:Nat→Nat}{p i:Nat}(hi:OE ops kd p i){s s1 s2:F×St}(h1:kL c n ops p s s1 (kd p))(h2:kL c n ops i s1 s2 (kd i)) :
  ∃ s',kL c n ops i s s' (kd i)∧kL c n ops p s' s2 (kd p):=by
 obtain⟨x,hx,Np,rA⟩:=h1
 obtain⟨y,hy,LQ,RL⟩:=h2
 obtain⟨a1,a2,a3⟩:=hi x y hx hy
 have BQ:∀ t,x.dst=some t→y.dst≠some t:=fun t ht e=>a1 t ht (jc e)
 obtain⟨f,st⟩:=s
 rcases rA with⟨hw,hk,d,y9,hl,rfl⟩ | ⟨hw,hk,rfl⟩
 ·rcases RL with⟨mW,yF,e,uF,cx,rfl⟩ | ⟨mW,yF,rfl⟩
  ·simp only[xX a1,j1 (c:=c) a1]at mW yF cx
   simp only at hw hk hl
   -- the two meet nowhere in the store
   have key:(zG (qz c (q7 f) y) st).leads (e,(if(qz c (q7 f) y).kind=2 then uF else st))∧(zG (qz c (q7 f) x) (if(qz c (q7 f) y).kind=2 then uF else st)).leads (d,uF):=by
    rw[hk,yF]at a3
    rcases Nat.lt_or_ge (qz c (q7 f) y).kind 2 with Lk | Lk
    ·rw[if_neg (by omega)]
     have e2:=gq (by omega) cx
     subst e2
     rcases Nat.lt_or_ge (qz c (q7 f) x).kind 2 with Cv | Cv
     ·have e1:=gq (by omega) hl
      subst e1
      exact⟨cx,hl⟩
     ·have Td:(qz c (q7 f) x).kind=2:=Nat.le_antisymm (pK _) Cv
      have Re:(qz c (q7 f) y).kind=0:=by
       rw[Td]at a3
       cases Re:(qz c (q7 f) y).kind with
       | zero=>rfl
       | succ m=>rw[Re]at a3; simp[vO]at a3
      exact⟨(cz Re cx).2 st,hl⟩
    ·have M8:(qz c (q7 f) y).kind=2:=Nat.le_antisymm (pK _) Lk
     rw[if_pos M8]
     have D3:(qz c (q7 f) x).kind=0:=by
      rw[M8]at a3
      cases D3:(qz c (q7 f) x).kind with
      | zero=>rfl
      | succ m=>rw[D3]at a3; simp[vO]at a3
     obtain⟨e1,h3⟩:=cz D3 hl
     subst e1
     exact⟨cx,h3 uF⟩
   refine⟨_,⟨y,hy,LQ,.inl ⟨mW,yF,e,_,key.1,rfl⟩⟩,x,hx,Np,.inl ⟨?_,?_,d,uF,?_,?_⟩⟩
   ·rw[xX a2]; exact hw
   ·rw[j1 (c:=c) a2]; exact hk
   ·rw[j1 (c:=c) a2]; exact key.2
   ·simp only[kA f d e BQ]
  ·simp only[xX a1]at mW
   refine⟨_,⟨y,hy,LQ,.inr ⟨mW,yF,rfl⟩⟩,x,hx,Np,.inl ⟨?_,?_,d,y9,?_,?_⟩⟩
   ·rw[xX a2]; exact hw
   ·rw[j1 (c:=c) a2]; exact hk
   ·rw[j1 (c:=c) a2]; exact hl
   ·simp only[kA f d (some DA) BQ]
 ·rcases RL with⟨mW,yF,e,uF,cx,rfl⟩ | ⟨mW,yF,rfl⟩
  ·simp only[xX a1,j1 (c:=c) a1]at mW yF cx
   refine⟨_,⟨y,hy,LQ,.inl ⟨mW,yF,e,uF,cx,rfl⟩⟩,x,hx,Np,.inr ⟨?_,hk,?_⟩⟩
   ·rw[xX a2]; exact hw
   ·simp only[kA f (some DA) e BQ]
  ·simp only[xX a1]at mW
   refine⟨_,⟨y,hy,LQ,.inr ⟨mW,yF,rfl⟩⟩,x,hx,Np,.inr ⟨?_,hk,?_⟩⟩
   ·rw[xX a2]; exact hw
   ·simp only[kA f (some DA) (some DA) BQ]
def fZ(c:Ctx)(n:Nat)(ops:Array Oper)(kd:Nat→Nat):List Nat→F×St→F×St→Prop
 | [],s,s'=>s'=s
 | i::l,s,s'=>∃ s1,kL c n ops i s s1 (kd i)∧fZ c n ops kd l s1 s'
theorem Qn{kd:Nat→Nat}{i:Nat}{post:List Nat}{s':F×St}:∀ {pre:List Nat} {s:F×St},(∀ p∈pre,OE ops kd p i)→fZ c n ops kd (pre++i::post) s s' →
  ∃ s1,kL c n ops i s s1 (kd i)∧fZ c n ops kd (pre++post) s1 s'
 | [],s,_,h=>h
 | p::pre,s,hp,⟨sp,h1,h2⟩=>by
  obtain⟨s1,h3,h4⟩:=Qn (fun q hq=>hp q (List.mem_cons_of_mem _ hq)) h2
  obtain⟨s2,h5,h6⟩:=WL (hp p List.mem_cons_self) h1 h3
  exact⟨s2,h5,s1,h6,h4⟩
end
end Go.AM
namespace Go.AM
set_option linter.unusedSectionVars false
variable [vP]
section
variable (c:Ctx) (n:Nat) (ops:Array Oper)
def gX(i:Nat)(s s':F×St)(k:RK):Prop:=∃ o,ops[i]? = some o∧vn n o.dst=true ∧
 ((w6 ops s.1 o=some true∧k=w7 c (q7 s.1) s.2 o∧∃ d zu,(zG (qz c (q7 s.1) o) s.2).leads (d,zu)∧s'=(ja s.1 o.dst d,zu)) ∨
  (w6 ops s.1 o=some false∧k=.z 0∧s'=(ja s.1 o.dst (some DA),s.2)))
def C0:List Nat→F×St→F×St→List RK→Prop
 | [],s,s',ks=>s'=s∧ks=[]
 | i::l,s,s',ks=>∃ s1 k GP,ks=k::GP∧gX c n ops i s s1 k∧C0 l s1 s' GP
end
section
variable {c:Ctx} {n:Nat} {ops:Array Oper}
theorem gX.plain{i:Nat}{s s':F×St}{k:RK}(h:gX c n ops i s s' k):∃ k',kL c n ops i s s' k':=by
 obtain⟨o,h1,h2,h3⟩:=h
 rcases h3 with⟨g1,_,g3⟩ | ⟨g1,_,g3⟩
 ·exact⟨_,o,h1,h2,.inl ⟨g1,rfl,g3⟩⟩
 ·exact⟨_,o,h1,h2,.inr ⟨g1,rfl,g3⟩⟩
theorem YQ{i:Nat}{o:Oper}{s s':b4}(ho:ops[i]? = some o)(hk:wW s.kn s.fr.get)(h:(stepG c n ops o s).leads s') :
  ∃ k,gX c n ops i (s.fr.get,s.st) (s'.fr.get,s'.st) k∧wW s'.kn s'.fr.get∧s'.bk=k::s.bk:=by
 have bkS:∀ {s0:b4},(y6 c n o s0).leads s'→s'.bk=w7 c (vZ s0.fr) s0.st o::s0.bk:=by
  intro s0 h
  unfold y6 at h
  cases hd:vn n o.dst with
  | false=>rw[hd]at h; exact h.elim
  | true =>
   rw[hd,cond_true]at h
   simp only[T.zH]at h
   obtain⟨⟨d,zu⟩,h1,rfl⟩:=h
   rfl
 have run:∀ (s0:b4),s0.fr=s.fr→s0.st=s.st→s0.bk=s.bk→wW s0.kn s0.fr.get→w6 ops s.fr.get o=some true→(y6 c n o s0).leads s' →
   ∃ k,gX c n ops i (s.fr.get,s.st) (s'.fr.get,s'.st) k∧wW s'.kn s'.fr.get∧s'.bk=k::s.bk:=by
  intro s0 e1 e2 e3 VJ hw h
  obtain⟨h1,⟨d,zu,h2,h3,h4⟩,h5,h6⟩:=QI VJ h
  have hb:=bkS h
  rw[e1]at h2 h3 hb
  rw[e2]at h2 hb
  rw[e3]at hb
  rw[yo]at hb
  exact⟨_,⟨o,ho,h1,.inl ⟨hw,rfl,d,zu,h2,by rw[h3,h4]⟩⟩,h5,hb⟩
 have skip:∀ (s0:b4),s0.fr=s.fr→s0.st=s.st→s0.bk=s.bk→wW s0.kn s0.fr.get→w6 ops s.fr.get o=some false→vn n o.dst=true→uL o s0=s' →
   ∃ k,gX c n ops i (s.fr.get,s.st) (s'.fr.get,s'.st) k∧wW s'.kn s'.fr.get∧s'.bk=k::s.bk:=by
  intro s0 e1 e2 e3 VJ hw hd h
  subst h
  refine⟨.z 0,⟨o,ho,hd,.inr ⟨hw,rfl,?_⟩⟩,HQ VJ,by simp[uL,e3]⟩
  simp only[uL,fh,e1,e2]
 unfold stepG at h
 split at h
 ·rename_i hg
  exact run s rfl rfl rfl hk (by simp[w6,hg]) h
 ·rename_i j w hg
  split at h
  ·exact h.elim
  ·rename_i t ht
   split at h
   ·rename_i b hb
    have hf:=hk t b hb
    have hw:w6 ops s.fr.get o=some (b==w):=by simp[w6,hg,ht,hf]
    cases DR:(b==w)with
    | true=>rw[DR,cond_true]at h; exact run s rfl rfl rfl hk (by rw[hw,DR]) h
    | false =>
     rw[DR,cond_false]at h
     cases hd:vn n o.dst with
     | false=>rw[hd]at h; exact h.elim
     | true=>rw[hd,cond_true]at h; exact skip s rfl rfl rfl hk (by rw[hw,DR]) hd h
   ·split at h
    ·rename_i x hx
     have hw:w6 ops s.fr.get o=some (x==w):=by simp[w6,hg,ht,hx]
     cases hd:vn n o.dst with
     | false=>rw[hd]at h; exact h.elim
     | true =>
      rw[hd,cond_true]at h
      rcases h with⟨rfl,h⟩ | ⟨rfl,h⟩
      ·have Wz:wW (s.yA t true).kn (s.yA t true).fr.get:=mf hk hx
       cases w with
       | true=>exact run (s.yA t true) rfl rfl rfl Wz hw h
       | false=>exact skip (s.yA t true) rfl rfl rfl Wz hw hd h
      ·have Wz:wW (s.yA t false).kn (s.yA t false).fr.get:=mf hk hx
       cases w with
       | true=>exact skip (s.yA t false) rfl rfl rfl Wz hw hd h
       | false=>exact run (s.yA t false) rfl rfl rfl Wz hw h
    ·rename_i hx
     have hw:w6 ops s.fr.get o=some false:=by simp[w6,hg,ht,hx]
     cases hd:vn n o.dst with
     | false=>rw[hd]at h; exact h.elim
     | true=>rw[hd,cond_true]at h; exact skip s rfl rfl rfl hk hw hd h
    ·exact h.elim
theorem tq:∀ (l:List Oper) (k0:Nat) (s s':b4),(∀ j,l[j]? = ops[k0+j]? ∨ l.length≤j)→wW s.kn s.fr.get→(cS c n ops l s).leads s' →
  ∃ ks,C0 c n ops (List.range' k0 l.length) (s.fr.get,s.st) (s'.fr.get,s'.st) ks∧s'.bk=ks.reverse++s.bk
 | [],k0,s,s',_,hk,h=>by cases h; exact⟨[],⟨rfl,rfl⟩,rfl⟩
 | o::l,k0,s,s',hl,hk,h=>by
  simp only[cS,T.zH]at h
  obtain⟨s1,h1,h2⟩:=h
  have ho:ops[k0]? = some o:=by rcases hl 0 with h | h<;>simp at h; exact h.symm
  obtain⟨k,g1,g2,g3⟩:=YQ ho hk h1
  obtain⟨ks,g4,g6⟩:=tq l (k0+1) s1 s' (fun j=>by have:=hl (j+1); simpa[Nat.add_assoc,Nat.add_comm 1 j]using this) g2 h2
  refine⟨k::ks,?_,by rw[g6,g3]; simp⟩
  simp only[List.length_cons,List.range'_succ]
  exact⟨_,k,ks,rfl,g1,g4⟩
theorem YJ{m b:Nat}{l:List Nat}:b∈others m l↔b<m∧∀ x∈l,b≠x:=by
 simp only[others,List.mem_filter,List.mem_range,Bool.not_eq_true',List.any_eq_false]
 refine and_congr Iff.rfl (forall_congr' fun x=>forall_congr' fun _ => ?_)
 constructor
 ·intro h e; subst e; exact h (Nat.beq_refl _)
 ·intro h e; exact h (Nat.eq_of_beq_eq_true e)
theorem HD{d:Option D}{b:Nat}(h:Rk d=some b):(∃ off,d=some (.ptr b off))∨∃ v e i off,d=some (.vM b v e i off):=by
 cases d with
 | none=>cases h
 | some d=>cases d<;>first | (cases h; exact .inl ⟨_,rfl⟩) | (cases h; exact .inr ⟨_,_,_,_,rfl⟩) | cases h
theorem oy{bi:Builtin}{l:List (Option D)}:BA bi l=.z 2∨∃ b v e off len x,bi=.append∧l=[some (.ms b v e off len),some x]∧Q9 x=false∧BA bi l=.up b:=by
 unfold BA
 cases bi<;>try exact .inl rfl
 simp only
 split
 ·rename_i b v e off len x
  cases hx:Q9 x with
  | true=>exact .inl rfl
  | false=>exact .inr ⟨b,v,e,off,len,x,trivial,rfl,hx,by rw[cond_false]⟩
 ·exact .inl rfl
theorem Q7(ρ:Operand→Option D)(st:St)(o:Oper):(w7 c ρ st o).base=(qz c ρ o).kind:=by
 unfold w7
 split
 ·rename_i h
  rw[h]
  cases o.op with
  | load t a=>simp only; split<;>rfl
  | _=>rfl
 ·rename_i h
  rw[h]
  cases o.op with
  | call cl =>
   cases hc:cl.callee with
   | builtin bi =>
    simp only[hc]
    rcases oy (bi:=bi) (l:=cl.args.toList.map ρ)with e | ⟨b,v,e,off,len,x,_,_,_,e⟩<;>rw[e]<;>rfl
   | value f=>simp only[hc]; split<;>rfl
   | _=>simp only[hc]; rfl
  | store t a v=>simp only; split<;>rfl
  | _=>rfl
 ·rfl
theorem sZ{ρ:Operand→Option D}{o:Oper}(h:(qz c ρ o).kind≤1)(st zu:St):w7 c ρ st o=w7 c ρ zu o:=by
 unfold w7
 split
 ·rfl
 ·rename_i h2; omega
 ·rfl
theorem rq{ρ:Operand→Option D}{st:St}{o:Oper}{b:Nat}(h:w7 c ρ st o=.rd b){y9 uF UM:St}{d:Option D}(hl:(zG (qz c ρ o) y9).leads (d,UM))(hb:uF[b]? = y9[b]?):(zG (qz c ρ o) uF).leads (d,uF):=by
 obtain⟨dst,op,ty,pos,after,guard⟩:=o
 cases op with
 | load t a =>
  have h':(∃ off,ρ a=some (.ptr b off))∨∃ v e i off,ρ a=some (.vM b v e i off):=by
   unfold w7 at h
   simp only at h
   split at h
   ·split at h
    ·rename_i b' ha; cases h; exact HD ha
    ·cases h
   ·cases h
   ·cases h
  have he:qz c ρ ⟨dst,.load t a,ty,pos,after,guard⟩=Qm c t (ρ a):=rfl
  rcases h' with⟨off,ha⟩ | ⟨v,e,i,off,ha⟩
  all_goals
   rw[he,ha]at hl ⊢
   simp only[Qm]at hl ⊢
   rw[dQ]at hl ⊢
   rw[hb]
   exact⟨hl.1,rfl⟩
 | call cl =>
  exfalso
  obtain⟨callee,args,dG⟩:=cl
  unfold w7 at h
  simp only at h
  split at h
  ·cases h
  ·cases callee with
   | builtin bi =>
    simp only at h
    rcases oy (bi:=bi) (l:=args.toList.map ρ)with e | ⟨b,v,e,off,len,x,_,_,_,e⟩<;>rw[e]at h<;>cases h
   | value f=>simp only at h; split at h<;>cases h
   | _=>cases h
  ·cases h
 | _ =>
  exfalso
  unfold w7 at h
  simp only at h
  split at h
  ·cases h
  ·first
    | cases h
    | (split at h<;>cases h)
  ·cases h
theorem UJ{ρ:Operand→Option D}{st:St}{o:Oper}{A:List Nat}(h:w7 c ρ st o=.wr A){zu:St}{d:Option D}(hl:(zG (qz c ρ o) st).leads (d,zu)):∀ b∈A,zu[b]? = st[b]? := by
 obtain⟨dst,op,ty,pos,after,guard⟩:=o
 cases op with
 | alloc t =>
  have h':A=others st.length []:=by
   unfold w7 at h
   simp only at h
   split at h<;>first | (cases h; rfl) | cases h
  subst h'
  intro b hb
  obtain⟨hb,_⟩:=YJ.1 hb
  have hl:(zG (fJ c t) st).leads (d,zu):=hl
  unfold fJ at hl
  split at hl
  ·rename_i z hz
   have hl:(some (D.ptr st.length 0),st++[ju.var z])=(d,zu):=hl
   cases hl
   exact List.getElem?_append_left hb
  ·exact absurd hl zg
 | store t a v =>
  exfalso
  unfold w7 at h
  simp only at h
  split at h
  ·cases h
  ·split at h<;>cases h
  ·cases h
 | call cl =>
  obtain⟨callee,args,dG⟩:=cl
  cases callee with
  | value f =>
   have h':(qz c ρ ⟨dst,.call ⟨.value f,args,dG⟩,ty,pos,after,guard⟩).kind=2∧∃ g caps l,ρ f=some (.xg g caps)∧vR (args.toList.map ρ)=some l∧A=c.free (kg g) (uK g l caps) st:=by
    unfold w7 at h
    simp only at h
    split at h
    ·cases h
    ·rename_i hk
     split at h
     ·rename_i g caps l hg Cb; cases h; exact⟨hk,g,caps,l,hg,Cb,rfl⟩
     ·cases h
    ·cases h
   obtain⟨hk,g,caps,l,hg,Cb,rfl⟩:=h'
   intro b hb
   have he:qz c ρ ⟨dst,.call ⟨.value f,args,dG⟩,ty,pos,after,guard⟩=gM c (ρ f) (args.toList.map ρ):=rfl
   rw[he,hg]at hl hk
   simp only[gM,Cb]at hl hk
   split at hl
   ·rename_i s hs
    rw[hs]at hk
    simp only[kX]at hk
    cases hn:(!(uK g l caps).any ZH)<;>rw[hn]at hk<;>simp[yW.kind]at hk
   ·simp only[mw,zG,T.zH]at hl
    obtain⟨⟨rs,y9⟩,h1,h2⟩:=hl
    cases rs with
    | ret ds=>cases h2; exact c.IH _ _ _ _ _ b h1 hb
    | jq p=>exact h2.elim
  | builtin bi =>
   exfalso
   unfold w7 at h
   simp only at h
   split at h
   ·cases h
   ·rcases oy (bi:=bi) (l:=args.toList.map ρ)with e | ⟨b,v,e,off,len,x,_,_,_,e⟩<;>rw[e]at h<;>cases h
   ·cases h
  | invoke r m =>
   exfalso
   unfold w7 at h
   simp only at h
   split at h<;>cases h
 | _ =>
  exfalso
  unfold w7 at h
  simp only at h
  split at h
  ·first
    | cases h
    | (split at h<;>cases h)
  ·cases h
  ·cases h
theorem oR{ρ:Operand→Option D}{st:St}{o:Oper}{b:Nat}(h:w7 c ρ st o=.up b){y9 UM:St}{d:Option D}(hl:(zG (qz c ρ o) y9).leads (d,UM)) :
  ∃ y,UM=y9.set b y∧∀ uF:St,uF[b]? = y9[b]? → (zG (qz c ρ o) uF).leads (d,uF.set b y):=by
 obtain⟨dst,op,ty,pos,after,guard⟩:=o
 cases op with
 | store t a v =>
  have h':(∃ off,ρ a=some (.ptr b off))∨∃ v e i off,ρ a=some (.vM b v e i off):=by
   unfold w7 at h
   simp only at h
   split at h
   ·cases h
   ·split at h
    ·rename_i b ha; cases h; exact HD ha
    ·cases h
   ·cases h
  have he:qz c ρ ⟨dst,.store t a v,ty,pos,after,guard⟩=tX c t (ρ a) (ρ v):=rfl
  rw[he]at hl ⊢
  cases hv:ρ v with
  | none =>
   rw[hv]at hl
   rcases h' with⟨off,ha⟩ | ⟨w,e,i,off,ha⟩<;>(rw[ha]at hl; exact absurd hl zg)
  | some x =>
   rw[hv]at hl
   rcases h' with⟨off,ha⟩ | ⟨w,e,i,off,ha⟩
   ·rw[ha]at hl ⊢
    have hl:(match y9[b]? with
     | some (.var d)=>match JR c t d off x with | some r=>bif eI d r then T.ret ((none:Option D),y9.set b (.var r))else .fail | none=>.fail
     | _=>.fail:T (Option D×St)).leads (d,UM):=hl
    split at hl
    ·rename_i d0 hb
     split at hl
     ·rename_i r hr
      cases ho:eI d0 r with
      | false=>rw[ho]at hl; exact hl.elim
      | true =>
       rw[ho]at hl
       cases hl
       refine⟨.var r,rfl,fun uF h2 => ?_⟩
       show(match uF[b]? with
        | some (.var d)=>match JR c t d off x with | some r=>bif eI d r then T.ret ((none:Option D),uF.set b (.var r))else .fail | none=>.fail
        | _=>.fail:T (Option D×St)).leads _
       rw[h2,hb]
       simp only[hr,ho,cond_true]
       rfl
     ·exact hl.elim
    ·exact hl.elim
   ·rw[ha]at hl ⊢
    have hl:(match y9[b]? with
     | some (.arr uZ e' xs)=>bif decide (e'=e)then
       .zj (w=uZ∧i<xs.length) (match JR c t (.zi e' (xs.getD i (zA e'))) off x with
        | some r=>match gP e' r with | some y=>T.ret ((none:Option D),y9.set b (.arr uZ e' (xs.set i y))) | none=>.fail
        | none=>.fail)
      else .fail
     | _=>.fail:T (Option D×St)).leads (d,UM):=hl
    split at hl
    ·rename_i uZ e' xs hb
     cases hd:decide (e'=e)with
     | false=>rw[hd]at hl; exact hl.elim
     | true =>
      rw[hd,cond_true]at hl
      obtain⟨ho,hl⟩:=hl
      split at hl
      ·rename_i r hr
       split at hl
       ·rename_i y hy
        cases hl
        refine⟨.arr uZ e' (xs.set i y),rfl,fun uF h2 => ?_⟩
        show(match uF[b]? with
         | some (.arr uZ e' xs)=>bif decide (e'=e)then
           .zj (w=uZ∧i<xs.length) (match JR c t (.zi e' (xs.getD i (zA e'))) off x with
            | some r=>match gP e' r with | some y=>T.ret ((none:Option D),uF.set b (.arr uZ e' (xs.set i y))) | none=>.fail
            | none=>.fail)
          else .fail
         | _=>.fail:T (Option D×St)).leads _
        rw[h2,hb]
        simp only[hd,cond_true,hr,hy]
        exact⟨ho,rfl⟩
       ·exact hl.elim
      ·exact hl.elim
    ·exact hl.elim
 | call cl =>
  obtain⟨callee,args,dG⟩:=cl
  cases callee with
  | builtin bi =>
   have h':bi=.append∧∃ v e off len x,args.toList.map ρ=[some (.ms b v e off len),some x]∧Q9 x=false:=by
    unfold w7 at h
    simp only at h
    split at h
    ·cases h
    ·rcases oy (bi:=bi) (l:=args.toList.map ρ)with e | ⟨b',v,e,off,len,x,h1,h2,h3,e'⟩
     ·rw[e]at h; cases h
     ·rw[e']at h; cases h; exact⟨h1,v,e,off,len,x,h2,h3⟩
    ·cases h
   obtain⟨rfl,v,e,off,len,x,hx,hm⟩:=h'
   have he:qz c ρ ⟨dst,.call ⟨.builtin .append,args,dG⟩,ty,pos,after,guard⟩=dq c .append dG.toList (args.toList.map ρ):=rfl
   rw[he,hx]at hl ⊢
   -- what the row gets
   have one:∀ {e':Ty} {ys:List (den e')} {ne:Bool} {ic:Nat},(uT e' (.ms b v e off len) ys ne ic y9).leads (d,UM)→∃ y,UM=y9.set b y∧∀ uF:St,uF[b]? = y9[b]? → (uT e' (.ms b v e off len) ys ne ic uF).leads (d,uF.set b y):=by
    intro e' ys ne ic hl
    simp only[uT]at hl
    split at hl
    ·rename_i uZ e'' xs hb
     split at hl
     ·rename_i zs hz
      cases hd:decide (e=e')with
      | false=>rw[hd]at hl; exact hl.elim
      | true =>
       rw[hd,cond_true]at hl
       obtain⟨ho,hl⟩:=hl
       cases hl
       refine⟨_,rfl,fun uF h2 => ?_⟩
       simp only[uT]
       rw[h2,hb]
       simp only[hz,hd,cond_true]
       exact⟨ho,rfl⟩
     ·exact hl.elim
    ·exact hl.elim
   have snp:∀ uF,fY uF x=.ret x:=fun uF=>by cases x<;>first | rfl | cases hm
   generalize dG.toList=tl at hl ⊢
   rcases tl with _ | ⟨t,_ | ⟨t',_ | ⟨t'',tl⟩⟩⟩
   ·exact absurd hl zg
   ·exact absurd hl zg
   rotate_left
   ·exact absurd hl zg
   ·
    simp only[dq]at hl ⊢
    cases ht:Nat.beq t t' with
    | true =>
     rw[ht,cond_true]at hl
     simp only[cond_true]
     unfold oQ at hl ⊢
     cases het:cu c t with
     | none=>rw[het]at hl; exact absurd hl zg
     | some et =>
      rw[het]at hl
      simp only at hl ⊢
      cases h1:Vz c 20 et with
      | none=>rw[h1]at hl; exact absurd hl zg
      | some ee =>
       rw[h1]at hl
       try simp only at hl ⊢
       cases h2:fp c et with
       | none=>rw[h2]at hl; exact absurd hl zg
       | some bytes =>
        rw[h2]at hl
        simp only at hl ⊢
        cases hc:jb c et ee&&Nat.blt 0 ee.size&&Nat.blt 0 bytes&&(zeroOf c et ee).isSome with
        | false=>rw[hc]at hl; exact absurd hl zg
        | true =>
         rw[hc,cond_true]at hl
         simp only[cond_true,zG,snp,T.bind]at hl ⊢
         cases x<;>simp only at hl ⊢ <;> first | exact hl.elim | exact one hl | skip
         ·split at hl
          ·exact one hl
          ·exact hl.elim
         ·split at hl
          ·exact one hl
          ·exact hl.elim
    | false =>
     rw[ht,cond_false]at hl
     simp only[cond_false]
     unfold mP at hl ⊢
     cases het:cu c t with
     | none=>rw[het]at hl; exact absurd hl zg
     | some et =>
      rw[het]at hl
      simp only at hl ⊢
      split at hl
      ·rename_i bytes h1 h2 h3
       cases hc:jb c et (.int .u8)&&Nat.blt 0 bytes&&(zeroOf c et (.int .u8)).isSome with
       | false=>rw[hc]at hl; exact absurd hl zg
       | true =>
        rw[hc,cond_true]at hl
        simp only[cond_true]
        split at hl
        ·rename_i s l e1 e2
         cases e1
         cases e2
         simp only[zG]at hl ⊢
         exact one hl
        ·exact absurd hl zg
      ·exact absurd hl zg
  | _ =>
   exfalso
   unfold w7 at h
   simp only at h
   split at h
   ·cases h
   ·first | cases h | (split at h<;>cases h)
   ·cases h
 | _ =>
  exfalso
  unfold w7 at h
  simp only at h
  split at h
  ·first
    | cases h
    | (split at h<;>cases h)
  ·cases h
  ·cases h
theorem Wy:∀ (l:List Nat) (s s':F×St) (ks:List RK),C0 c n ops l s s' ks→ks.length=l.length
 | [],_,_,_,h=>by rw[h.2]; rfl
 | i::l,s,s',ks,⟨s1,k,GP,e,h1,h2⟩=>by subst e; simp[Wy l s1 s' GP h2]
theorem iN{ρ:Operand→Option D}{st:St}{o:Oper}{b:Nat}(h:w7 c ρ st o=.up b)(zu:St):w7 c ρ zu o=.up b:=by
 obtain⟨dst,op,ty,pos,after,guard⟩:=o
 cases op with
 | alloc t =>
  exfalso
  unfold w7 at h
  simp only at h
  split at h<;>cases h
 | call cl =>
  obtain⟨callee,args,dG⟩:=cl
  cases callee with
  | value f =>
   exfalso
   unfold w7 at h
   simp only at h
   split at h
   ·cases h
   ·split at h<;>cases h
   ·cases h
  | builtin bi=>cases bi<;>exact h
  | _=>exact h
 | _=>exact h
def Rd(ops:Array Oper)(kd:Nat→RK)(p i:Nat):Prop:=∀ x y,ops[p]? = some x→ops[i]? = some y →
 (∀ d,x.dst=some d→d ∉ tmpsOf ops y)∧(∀ d,y.dst=some d→d ∉ tmpsOf ops x)∧vL (kd p) (kd i)=false
theorem mK{f:F}{o:Oper}{dst:Option Nat}{d:Option D}{st:St}(h:∀ t,dst=some t→t ∉ tmpsOf ops o):w7 c (q7 (ja f dst d)) st o=w7 c (q7 f) st o:=by
 have e1:qz c (q7 (ja f dst d)) o=qz c (q7 f) o:=j1 h
 have e2:∀ x∈o.op.operands,q7 (ja f dst d) x=q7 f x:=fun x hx=>WB fun t ht e=>h t ht (l9 (ops:=ops) (e▸hx))
 obtain⟨dd,op,ty,pos,after,guard⟩:=o
 unfold w7
 rw[e1]
 cases op with
 | load t a=>simp only[e2 a (by simp[Op.operands])]
 | store t a v=>simp only[e2 a (by simp[Op.operands])]
 | call cl =>
  obtain⟨callee,args,dG⟩:=cl
  cases callee with
  | value g =>
   have bL:args.toList.map (q7 (ja f dst d))=args.toList.map (q7 f):=List.map_congr_left fun x hx=>e2 x (by simp[Op.operands,Call.operands,Array.mem_toList_iff.1 hx])
   simp only[bL,e2 g (by simp[Op.operands,Call.operands])]
  | builtin bi =>
   have bL:args.toList.map (q7 (ja f dst d))=args.toList.map (q7 f):=List.map_congr_left fun x hx=>e2 x (by simp[Op.operands,Call.operands,Array.mem_toList_iff.1 hx])
   cases bi<;>first | rfl | simp only[bL]
  | _=>rfl
 | _=>rfl
theorem Yc{kd:Nat→RK}{p i:Nat}(hi:Rd ops kd p i){s s1 s2:F×St}(h1:gX c n ops p s s1 (kd p))(h2:gX c n ops i s1 s2 (kd i)) :
  ∃ s',gX c n ops i s s' (kd i)∧gX c n ops p s' s2 (kd p):=by
 obtain⟨x,hx,Np,rA⟩:=h1
 obtain⟨y,hy,LQ,RL⟩:=h2
 obtain⟨a1,a2,a3⟩:=hi x y hx hy
 have BQ:∀ t,x.dst=some t→y.dst≠some t:=fun t ht e=>a1 t ht (jc e)
 obtain⟨f,st⟩:=s
 rcases rA with⟨hw,hk,d,y9,hl,rfl⟩ | ⟨hw,hk,rfl⟩
 ·rcases RL with⟨mW,yF,e,uF,cx,rfl⟩ | ⟨mW,yF,rfl⟩
  ·simp only[xX a1,j1 (c:=c) a1,mK (c:=c) a1]at mW yF cx
   simp only at hw hk hl
   -- the two meet nowhere in the store
   have key:∃ zu,(zG (qz c (q7 f) y) st).leads (e,zu)∧(zG (qz c (q7 f) x) zu).leads (d,uF)∧w7 c (q7 f) st y=kd i∧w7 c (q7 f) zu x=kd p:=by
    have bx:=Q7 (c:=c) (q7 f) st x
    have ic:=Q7 (c:=c) (q7 f) y9 y
    rw[← hk]at bx
    rw[← yF]at ic
    rcases Nat.lt_or_ge (qz c (q7 f) x).kind 2 with Cv | Cv
    ·-- x writes nothing
     have e1:=gq (by omega) hl
     subst e1
     refine⟨uF,cx,?_,yF.symm,(sZ (by omega) uF y9).trans hk.symm⟩
     rcases Nat.lt_or_ge (qz c (q7 f) y).kind 2 with Lk | Lk
     ·have e2:=gq (by omega) cx
      subst e2; exact hl
     ·have M8:(qz c (q7 f) y).kind=2:=Nat.le_antisymm (pK _) Lk
      cases hp:kd p with
      | rd b =>
       cases hq:kd i with
       | wr A =>
        rw[hp,hq]at a3
        simp only[vL,Bool.not_eq_false',List.any_eq_true]at a3
        obtain⟨b',X3,FK⟩:=a3
        have:=Nat.eq_of_beq_eq_true FK
        subst this
        exact rq (by rw[← hk]; exact hp) hl (UJ (by rw[← yF]; exact hq) cx b X3)
       | rd b'=>rw[hq]at ic; simp[RK.base]at ic; omega
       | z k=>rw[hp,hq]at a3; rw[hq,M8]at ic; simp only[RK.base]at ic; subst ic; simp[vL,vO,RK.base]at a3
       | up a =>
        rw[hp,hq]at a3
        have Wu:a≠b:=fun e=>by subst e; simp[vL]at a3
        obtain⟨z,e1,_⟩:=oR (by rw[← yF]; exact hq) cx
        subst e1
        exact rq (by rw[← hk]; exact hp) hl (by rw[List.getElem?_set_ne Wu])
      | wr A=>rw[hp]at bx; simp[RK.base]at bx; omega
      | up A=>rw[hp]at bx; simp[RK.base]at bx; omega
      | z k =>
       rw[hp]at bx
       simp only[RK.base]at bx
       have VJ:k=0:=by
        cases hq:kd i with
        | wr A =>
         rw[hp,hq]at a3
         simp only[vL,RK.base,vO]at a3
         cases k with
         | zero=>rfl
         | succ m=>simp at a3
        | rd b'=>rw[hq]at ic; simp[RK.base]at ic; omega
        | z k' =>
         rw[hq,M8]at ic
         simp only[RK.base]at ic
         subst ic
         rw[hp,hq]at a3
         simp only[vL,RK.base,vO]at a3
         cases k with
         | zero=>rfl
         | succ m=>simp at a3
        | up A =>
         rw[hp,hq]at a3
         simp only[vL,RK.base,vO]at a3
         cases k with
         | zero=>rfl
         | succ m=>simp at a3
       subst VJ
       exact(cz bx.symm hl).2 uF
    ·have Td:(qz c (q7 f) x).kind=2:=Nat.le_antisymm (pK _) Cv
     -- x writes
     rcases Nat.lt_or_ge (qz c (q7 f) y).kind 2 with Lk | Lk
     ·have e2:=gq (by omega) cx
      subst e2
      refine⟨st,?_,hl,(sZ (by omega) st uF).trans yF.symm,hk.symm⟩
      cases hq:kd i with
      | wr A=>rw[hq]at ic; simp[RK.base]at ic; omega
      | up A=>rw[hq]at ic; simp[RK.base]at ic; omega
      | rd b =>
       cases hp:kd p with
       | wr A =>
        rw[hp,hq]at a3
        simp only[vL,Bool.not_eq_false',List.any_eq_true]at a3
        obtain⟨b',X3,FK⟩:=a3
        have:=Nat.eq_of_beq_eq_true FK
        subst this
        exact rq (st:=uF) (by rw[← yF]; exact hq) cx (UJ (by rw[← hk]; exact hp) hl b X3).symm
       | up a =>
        rw[hp,hq]at a3
        have Wu:a≠b:=fun e=>by subst e; simp[vL]at a3
        obtain⟨z,e1,_⟩:=oR (by rw[← hk]; exact hp) hl
        subst e1
        exact rq (st:=st.set a z) (by rw[← yF]; exact hq) cx (by rw[List.getElem?_set_ne Wu])
       | rd b'=>rw[hp]at bx; simp[RK.base]at bx; omega
       | z k=>rw[hp]at bx; simp only[RK.base]at bx; rw[Td]at bx; subst bx; rw[hp,hq]at a3; simp[vL,RK.base,vO]at a3
      | z k =>
       rw[hq]at ic
       simp only[RK.base]at ic
       have VJ:k=0:=by
        have a4:vL (kd p) (.z k)=false:=by rw[hq]at a3; exact a3
        have a5:vO 2 k=false:=by
         cases hp:kd p with
         | wr A=>rw[hp]at a4; exact a4
         | up A=>rw[hp]at a4; exact a4
         | rd b'=>rw[hp]at bx; simp[RK.base]at bx; omega
         | z k'=>rw[hp]at bx a4; simp only[RK.base]at bx; rw[Td]at bx; subst bx; exact a4
        cases k with
        | zero=>rfl
        | succ m=>simp[vO]at a5
       subst VJ
       exact(cz ic.symm cx).2 st
     ·have M8:(qz c (q7 f) y).kind=2:=Nat.le_antisymm (pK _) Lk
      -- both write: one block each
      have hup:∃ a b,kd p=.up a∧kd i=.up b∧a≠b:=by
       cases hp:kd p with
       | rd b'=>rw[hp]at bx; simp[RK.base]at bx; omega
       | up a =>
        cases hq:kd i with
        | up b=>rw[hp,hq]at a3; exact⟨a,b,rfl,rfl,fun e=>by subst e; simp[vL]at a3⟩
        | rd b'=>rw[hq]at ic; simp[RK.base]at ic; omega
        | wr A=>rw[hp,hq]at a3; simp[vL,RK.base,vO]at a3
        | z k=>rw[hq,M8]at ic; simp only[RK.base]at ic; subst ic; rw[hp,hq]at a3; simp[vL,RK.base,vO]at a3
       | wr A =>
        cases hq:kd i with
        | up b=>rw[hp,hq]at a3; simp[vL,RK.base,vO]at a3
        | rd b'=>rw[hq]at ic; simp[RK.base]at ic; omega
        | wr B=>rw[hp,hq]at a3; simp[vL,RK.base,vO]at a3
        | z k=>rw[hq,M8]at ic; simp only[RK.base]at ic; subst ic; rw[hp,hq]at a3; simp[vL,RK.base,vO]at a3
       | z k' =>
        rw[hp,Td]at bx
        simp only[RK.base]at bx
        subst bx
        cases hq:kd i with
        | up b=>rw[hp,hq]at a3; simp[vL,RK.base,vO]at a3
        | rd b'=>rw[hq]at ic; simp[RK.base]at ic; omega
        | wr B=>rw[hp,hq]at a3; simp[vL,RK.base,vO]at a3
        | z k=>rw[hq,M8]at ic; simp only[RK.base]at ic; subst ic; rw[hp,hq]at a3; simp[vL,RK.base,vO]at a3
      obtain⟨a,b,hp,hq,Wu⟩:=hup
      obtain⟨z1,e1,w1⟩:=oR (by rw[← hk]; exact hp) hl
      subst e1
      obtain⟨z2,e2,w2⟩:=oR (by rw[← yF]; exact hq) cx
      subst e2
      refine⟨st.set b z2,w2 st (by rw[List.getElem?_set_ne Wu]),?_,(iN (by rw[← yF]; exact hq) st).trans hq.symm,(iN (by rw[← hk]; exact hp) _).trans hp.symm⟩
      rw[List.set_comm _ _ Wu]
      exact w1 (st.set b z2) (by rw[List.getElem?_set_ne (fun e=>Wu e.symm)])
   obtain⟨zu,k1,k2,k3,k4⟩:=key
   refine⟨_,⟨y,hy,LQ,.inl ⟨mW,k3.symm,e,_,k1,rfl⟩⟩,x,hx,Np,.inl ⟨?_,?_,d,uF,?_,?_⟩⟩
   ·rw[xX a2]; exact hw
   ·rw[mK (c:=c) a2]; exact k4.symm
   ·rw[j1 (c:=c) a2]; exact k2
   ·simp only[kA f d e BQ]
  ·simp only[xX a1]at mW
   refine⟨_,⟨y,hy,LQ,.inr ⟨mW,yF,rfl⟩⟩,x,hx,Np,.inl ⟨?_,?_,d,y9,?_,?_⟩⟩
   ·rw[xX a2]; exact hw
   ·rw[mK (c:=c) a2]; exact hk
   ·rw[j1 (c:=c) a2]; exact hl
   ·simp only[kA f d (some DA) BQ]
 ·rcases RL with⟨mW,yF,e,uF,cx,rfl⟩ | ⟨mW,yF,rfl⟩
  ·simp only[xX a1,j1 (c:=c) a1,mK (c:=c) a1]at mW yF cx
   refine⟨_,⟨y,hy,LQ,.inl ⟨mW,yF,e,uF,cx,rfl⟩⟩,x,hx,Np,.inr ⟨?_,hk,?_⟩⟩
   ·rw[xX a2]; exact hw
   ·simp only[kA f (some DA) e BQ]
  ·simp only[xX a1]at mW
   refine⟨_,⟨y,hy,LQ,.inr ⟨mW,yF,rfl⟩⟩,x,hx,Np,.inr ⟨?_,hk,?_⟩⟩
   ·rw[xX a2]; exact hw
   ·simp only[kA f (some DA) (some DA) BQ]
end
end Go.AM
namespace Go.AM
set_option linter.unusedSectionVars false
variable [vP]
class Xl where
 df:List Deferred
instance Zz:Xl:=⟨[]⟩
variable [Xl]
structure Rel(κ:KS)(n:Nat)(f:F)(a:Act):Prop where
 size:a.tmps.size=n
 defers:a.defers=Xl.df
 get:∀ (s:Nat) (d:D),f s=some d→∃ v,a.tmps[s]? = some v∧RD κ d v
section
variable {c:Ctx} {κ:KS} {n:Nat} {f:F} {a:Act}
theorem Rel.eval(h:Rel κ n f a){x:Operand}{d:D}(hx:q7 f x=some d):RD κ d (a.eval x):=by
 cases x with
 | tmp t =>
  obtain⟨v,h1,h2⟩:=h.get t d hx
  simp only[Act.eval,Array.getD_eq_getD_getElem?,h1,Option.getD_some]
  exact h2
 | const v=>exact(Qr hx).1
 | global g=>cases hx
 | func g =>
  have hx:(bif Nat.blt g 1000000 then some (D.xg g [])else none)=some d:=hx
  cases hb:Nat.blt g 1000000 with
  | false=>rw[hb]at hx; cases hx
  | true =>
   rw[hb]at hx
   cases hx
   have:=RD.xg (κ:=κ) g [] [] rfl (fun i h=>absurd h (Nat.not_lt_zero i))
   rwa [Bh hb]at this
theorem Rel.mono{κ':KS}(x:Ext κ κ')(h:Rel κ n f a):Rel κ' n f a:=⟨h.size,h.defers,fun s d hd=>by obtain⟨v,h1,h2⟩:=h.get s d hd; exact⟨v,h1,h2.mono x⟩⟩
theorem Rel.put{dst:Option Nat}{d:Option D}{v:Value}(h:Rel κ n f a)(hd:vn n dst=true)(hv:∀ d',d=some d'→RD κ d' v):Rel κ n (ja f dst d) (a.put dst v):=by
 cases dst with
 | none=>exact h
 | some t =>
  have qh:t<n:=Nat.le_of_ble_eq_true hd
  refine⟨by simp[Act.put,h.size],h.defers,fun s d' hs => ?_⟩
  simp only[ja]at hs
  simp only[Act.put]
  by_cases e:s=t
  ·subst e
   rw[if_pos rfl]at hs
   exact⟨v,by simp[h.size,qh],hv d' hs⟩
  ·rw[if_neg e]at hs
   obtain⟨u,h1,h2⟩:=h.get s d' hs
   exact⟨u,by rw[Array.getElem?_setIfInBounds_ne (fun e'=>e e'.symm)]; exact h1,h2⟩
theorem Fm{v:Value}:RD κ DA undef:=.jY [] [] rfl (fun i h=>absurd h (Nat.not_lt_zero i))
theorem Lx{o:Oper}{d:Option D}{zu:St}(h:qy c.P (execOp a.eval o) κ d zu){K:Act→World→Prop}{Q:Exit→Act→World→Prop}
  (hK:∀ (v:Value) (κ':KS),κ'.st=zu→Inv κ'→Ext κ κ'→(∀ d',d=some d'→RD κ' d' v)→K (a.put o.dst v) κ'.w):o.wp c.P a κ.w K Q:=by
 obtain⟨κ',nx,v,h1,h2,h3,h4,h5,h6⟩:=h
 unfold Oper.wp
 rw[h1]
 rcases h2 with rfl | ⟨rfl,rfl⟩
 ·exact hK v κ' h3 h4 h5 h6
 ·exact hK undef κ' h3 h4 h5 h6
theorem YH(h:Rel κ n f a)(x:Option Operand):sS κ (x.map (q7 f)) (x.map a.eval):=by
 cases x with
 | none=>trivial
 | some x=>exact fun y hy=>h.eval hy
theorem Vc(hI:Inv κ)(hR:Rel κ n f a){b:Builtin}{args:Array Operand}{dG:Array TypeId}{o:Oper}(ho:o.op=.call ⟨.builtin b,args,dG⟩){d:Option D}{zu:St}
  (h:(zG (dq c b dG.toList (args.toList.map (q7 f))) κ.st).leads (d,zu)):qy c.P (execOp a.eval o) κ d zu:=by
 have two:∀ {g:Value→Value→Sem Value} {m:Int→Int→Int},(∀ k k' a b,(g (.int k a) (.int k' b)).run c.P κ.w=.ok (.int k (m a b)) κ.w)→(zG (ZA m (args.toList.map (q7 f))) κ.st).leads (d,zu) →
   (∀ p q,args = #[p,q]→execOp a.eval o=(do Pure.pure (.value (← g (a.eval p) (a.eval q))):Sem Next))→qy c.P (execOp a.eval o) κ d zu:=by
  intro g m hg h he
  match hl:args.toList,h with
  | [p,q],h =>
   have Oc:args = #[p,q]:=by rw[← Array.toArray_toList (xs:=args),hl]
   rw[he p q Oc]
   obtain⟨r,h1,rfl,h3⟩:=Gl hg hI (fun z hz=>hR.eval (x:=p) hz) (fun z hz=>hR.eval (x:=q) hz) h
   exact⟨κ,.value r,r,by simp[h1],.inl rfl,rfl,hI,Ext.refl κ,h3⟩
  | [],h=>exact absurd h zg
  | [_],h=>exact absurd h zg
  | _::_::_::_,h=>exact absurd h zg
 unfold dq at h
 split at h
 ·rename_i t ts x xs h1 h2
  have ht:dG[0]? = some t:=by rw[← Array.getElem?_toList,h1]; rfl
  obtain⟨y,hy,rfl⟩:∃ y,args[0]? = some y∧x=q7 f y:=by
   cases hl:args.toList with
   | nil=>rw[hl]at h2; cases h2
   | cons y ys=>rw[hl]at h2; simp at h2; exact⟨y,by rw[← Array.getElem?_toList,hl]; rfl,h2.1.symm⟩
  have:=Mg (c:=c) (ty:=o.type) (ts:=dG) (vs:=args.map a.eval) hI (fun z hz=>hR.eval (x:=y) hz) ht (by simp[hy]) h
  simp only[execOp,ho,resolve,invoke,builtin,pure_bind]
  exact this
 ·rename_i t t' s x h1 h2
  obtain⟨p,q,rfl,rfl,Oc⟩:∃ p q,s=q7 f p∧x=q7 f q∧args = #[p,q]:=by
   cases hl:args.toList with
   | nil=>rw[hl]at h2; cases h2
   | cons p r=>rw[hl]at h2; cases r with
    | nil=>simp at h2
    | cons q r=>cases r with
     | nil=>simp at h2; exact⟨p,q,h2.1.symm,h2.2.symm,by rw[← Array.toArray_toList (xs:=args),hl]⟩
     | cons _ _=>simp at h2
  subst Oc
  cases hb:Nat.beq t t' with
  | false =>
   rw[hb,cond_false]at h
   have E7:dG = #[t,t']:=by rw[← Array.toArray_toList (xs:=dG),h1]
   subst E7
   have:=Zq (c:=c) (ty:=o.type) hI (fun z hz=>hR.eval (x:=p) hz) (fun z hz=>hR.eval (x:=q) hz) h
   have e2:(#[p,q]:Array Operand).map a.eval = #[a.eval p,a.eval q]:=by simp
   simp only[execOp,ho,resolve,invoke,builtin,pure_bind,e2]
   exact this
  | true =>
   rw[hb,cond_true]at h
   have e:=Nat.eq_of_beq_eq_true hb
   subst e
   have E7:dG = #[t,t]:=by rw[← Array.toArray_toList (xs:=dG),h1]
   subst E7
   have:=JB (c:=c) (ty:=o.type) hI (fun z hz=>hR.eval (x:=p) hz) (fun z hz=>hR.eval (x:=q) hz) h
   have e2:(#[p,q]:Array Operand).map a.eval = #[a.eval p,a.eval q]:=by simp
   simp only[execOp,ho,resolve,invoke,builtin,pure_bind,e2]
   exact this
 ·rename_i t t' s x h1 h2
  obtain⟨p,q,rfl,rfl,Oc⟩:∃ p q,s=q7 f p∧x=q7 f q∧args = #[p,q]:=by
   cases hl:args.toList with
   | nil=>rw[hl]at h2; cases h2
   | cons p r=>rw[hl]at h2; cases r with
    | nil=>simp at h2
    | cons q r=>cases r with
     | nil=>simp at h2; exact⟨p,q,h2.1.symm,h2.2.symm,by rw[← Array.toArray_toList (xs:=args),hl]⟩
     | cons _ _=>simp at h2
  subst Oc
  have E7:dG = #[t,t']:=by rw[← Array.toArray_toList (xs:=dG),h1]
  subst E7
  have:=D4 (c:=c) (ty:=o.type) (t':=t') hI (fun z hz=>hR.eval (x:=p) hz) (fun z hz=>hR.eval (x:=q) hz) h
  have e2:(#[p,q]:Array Operand).map a.eval = #[a.eval p,a.eval q]:=by simp
  simp only[execOp,ho,resolve,invoke,builtin,pure_bind,e2]
  exact this
 ·rename_i h2
  exact two (g:=Builtin.min2) (fun k k' a b=>by simp[Builtin.min2,wk]) h fun p q Oc=>by
   subst Oc
   have e2:(#[p,q]:Array Operand).map a.eval = #[a.eval p,a.eval q]:=by simp
   simp only[execOp,ho,resolve,invoke,builtin,pure_bind,e2]
   simp[Builtin.min_]
 ·rename_i h2
  exact two (g:=Builtin.max2) (fun k k' a b=>by simp[Builtin.max2,xL]) h fun p q Oc=>by
   subst Oc
   have e2:(#[p,q]:Array Operand).map a.eval = #[a.eval p,a.eval q]:=by simp
   simp only[execOp,ho,resolve,invoke,builtin,pure_bind,e2]
   simp[Builtin.max_]
 ·exact absurd h zg
theorem O6{o:Oper}{g:Nat}{caps:Array Value}{args:Array Value}{R:Ending→World→Prop}(xQ:(execOp a.eval o).run c.P κ.w=(callFunc g args).run c.P κ.w)
  (h:um c.P g args κ.w R) {K:Act→World→Prop} {Q:Exit→Act→World→Prop} (hR:∀ e w',R e w'→∃ v,e=.returned v∧K (a.put o.dst v) w'):o.wp c.P a κ.w K Q:=by
 unfold Oper.wp
 rw[xQ]
 rcases h with⟨h1,h2⟩ | ⟨v,w',h1,h2⟩
 ·rw[h1]
  refine h2.mono fun e w' he => ?_
  obtain⟨v,rfl,hk⟩:=hR e w' he
  exact hk
 ·rw[h1]
  obtain⟨u,hu,hk⟩:=hR _ _ h2
  cases hu
  exact hk
theorem Ze(g:Nat){l caps:List D}{vs us:List Value}(h1:qG κ l vs)(h2:qG κ caps us):qG κ (uK g l caps) (uK g vs us):=by
 unfold uK
 cases Nat.ble 1000000 g with
 | true=>exact h2.append h1
 | false=>exact h1.append h2
theorem J0{dst:Option Nat}{p:Operand}{args:Array Operand}{dG:Array TypeId}{ty:TypeId}{pos:String}{after:Array Edge}{guard:Option (Nat×Bool)}{g:Nat}{us:List Value}{P:Program}{w:World}(UG:a.eval p=ik g us) :
  (execOp a.eval ⟨dst,.call ⟨.value p,args,dG⟩,ty,pos,after,guard⟩).run P w=(callFunc (kg g) (uK g (args.toList.map a.eval) us).toArray).run P w:=by
 unfold ik at UG
 unfold kg uK
 cases hb:Nat.ble 1000000 g with
 | true =>
  rw[hb]at UG
  simp only[cond_true]at UG ⊢
  have e:us.toArray++args.map a.eval=(us++args.toList.map a.eval).toArray:=by apply Array.ext'; simp
  simp only[execOp,resolve,UG,Deferred.ofValue,pure_bind,invoke,Array.append_empty,e]
 | false =>
  rw[hb]at UG
  simp only[cond_false]at UG ⊢
  have e:args.map a.eval++us.toArray=(args.toList.map a.eval++us).toArray:=by apply Array.ext'; simp
  simp only[execOp,resolve,UG,Deferred.ofValue,pure_bind,invoke,Array.empty_append,e]
theorem UW{o:Oper}{d:Option D}{zu:St}(hC:∀ g,Uu c.P g (c.fn g))(hI:Inv κ)(hR:Rel κ n f a)(h:(zG (qz c (q7 f) o) κ.st).leads (d,zu)){K:Act→World→Prop}{Q:Exit→Act→World→Prop}
  (hK:∀ (v:Value) (κ':KS),κ'.st=zu→Inv κ'→Ext κ κ'→(∀ d',d=some d'→RD κ' d' v)→K (a.put o.dst v) κ'.w):o.wp c.P a κ.w K Q:=by
 have cp:∀ (x:Operand) (z:D),q7 f x=some z→RD κ z (a.eval x):=fun x z hz=>hR.eval hz
 obtain⟨dst,op,ty,pos,after,guard⟩:=o
 have fin:qy c.P (execOp a.eval ⟨dst,op,ty,pos,after,guard⟩) κ d zu→Oper.wp c.P ⟨dst,op,ty,pos,after,guard⟩ a κ.w K Q:=fun hd=>Lx hd hK
 cases op with
 | move x =>
  simp only[qz,we,T.leads]at h
  obtain⟨h,rfl⟩:=h
  exact fin (qy.val hI fun d' j9=>cp x d' (h.trans j9))
 | assign x =>
  simp only[qz,we,T.leads]at h
  obtain⟨h,rfl⟩:=h
  exact fin (qy.val hI fun d' j9=>cp x d' (h.trans j9))
 | pick x p q =>
  simp only[qz,GD]at h
  split at h
  ·rename_i b hb
   have hv:=mF hb (cp x)
   rw[we]at h
   obtain⟨h,rfl⟩:=h
   refine fin ⟨κ,.value (if b then a.eval p else a.eval q),if b then a.eval p else a.eval q,?_,.inl rfl,rfl,hI,Ext.refl κ,fun d' j9 => ?_⟩
   ·simp[execOp,hv,Go.asBool]
   ·rcases h with⟨rfl,h⟩ | ⟨rfl,h⟩
    ·exact cp p d' (h.trans j9)
    ·exact cp q d' (h.trans j9)
  ·exact absurd h zg
 | alloc t=>exact fin (Ge hI h)
 | box t x=>exact fin (GQ hI (cp x) h)
 | load t x=>exact fin (CU hI (cp x) h)
 | store t x y=>exact fin (GJ hI (cp x) (cp y) h)
 | nilCheck x=>exact fin (X9 rfl hI (cp x) h)
 | binOp op t x y ty' =>
  have h:(zG (Ym c op t y (q7 f x) (q7 f y)) κ.st).leads (d,zu):=h
  unfold Ym at h
  split at h
  ·exact fin (Yi hI (cp x) h)
  ·exact fin (EB hI (cp x) (cp y) h)
 | typeAssert x xt t ok=>exact fin (tD hI (cp x) h)
 | unOp op t x=>exact fin (MB hI (cp x) h)
 | convert s t x=>exact fin (Vl hI (cp x) h)
 | makeInterface t x=>exact fin (Zb hI (cp x) h)
 | makeFunc fn first cap =>
  cases fn with
  | func g =>
   simp only[qz]at h
   cases hb:Nat.beq first.size 0&&Nat.blt g 1000000 with
   | false =>
    rw[hb,cond_false]at h
    cases Uq:Nat.beq cap.size 0&&Nat.blt g 1000000 with
    | false=>rw[Uq]at h; exact absurd h zg
    | true =>
     rw[Uq,cond_true]at h
     simp only[Bool.and_eq_true]at Uq
     have hf:cap = #[]:=Array.eq_empty_of_size_eq_zero (Nat.eq_of_beq_eq_true Uq.1)
     subst hf
     split at h
     ·rename_i l hl
      rw[xD]at h
      obtain⟨rfl,rfl⟩:=h
      have hr:=kJ (κ:=κ) (vs:=first.toList.map a.eval) hl (by simp) (fun i d v hd hv=>by
       simp only[List.getElem?_map]at hd hv
       cases hi:first.toList[i]? with
       | none=>rw[hi]at hd; cases hd
       | some x=>rw[hi]at hd hv; simp at hd hv; subst hv; exact cp x d hd)
      refine fin (qy.pure hI ?_ (.xg (g+1000000) l _ hr.1 hr.2))
      have e:(first.toList.map a.eval).toArray=first.map a.eval:=by apply Array.ext'; simp
      rw[GF Uq.2,e]
      simp[Instr.makeFunc]
     ·exact absurd h zg
   | true =>
    rw[hb,cond_true]at h
    simp only[Bool.and_eq_true]at hb
    have hf:first = #[]:=Array.eq_empty_of_size_eq_zero (Nat.eq_of_beq_eq_true hb.1)
    subst hf
    split at h
    ·rename_i l hl
     rw[xD]at h
     obtain⟨rfl,rfl⟩:=h
     have hr:=kJ (κ:=κ) (vs:=cap.toList.map a.eval) hl (by simp) (fun i d v hd hv=>by
      simp only[List.getElem?_map]at hd hv
      cases hi:cap.toList[i]? with
      | none=>rw[hi]at hd; cases hd
      | some x=>rw[hi]at hd hv; simp at hd hv; subst hv; exact cp x d hd)
     refine fin (qy.pure hI ?_ (.xg g l _ hr.1 hr.2))
     have e:(cap.toList.map a.eval).toArray=cap.map a.eval:=by apply Array.ext'; simp
     rw[Bh hb.2,e]
     simp[Instr.makeFunc]
    ·exact absurd h zg
  | _=>exact absurd h zg
 | makeSlice t x y=>exact fin (C8 hI (cp x) (cp y) h)
 | slice t x lo hi mx=>exact fin (YV hI (cp x) (YH hR lo) (YH hR hi) (YH hR mx) h)
 | fieldAddr s x fl=>exact fin (ZW hI (cp x) h)
 | field s x fl=>exact fin (YZ hI (cp x) h)
 | indexAddr t x i=>exact fin (QU hI (cp x) (cp i) h)
 | index t x i=>exact fin (Yl hI (cp x) (cp i) h)
 | extract x i=>exact fin (VL hI (cp x) h)
 | build t ps =>
  have:=G0 (L:=ps.toList) (G:=a.eval) hI cp h
  refine fin ?_
  have e:(ps.toList.map fun p=>(p.1,a.eval p.2)).toArray=ps.map fun p=>(p.1,a.eval p.2):=by apply Array.ext'; simp
  rw[e]at this
  exact this
 | buildSlice t k ps =>
  have:=tB (L:=ps.toList) (G:=a.eval) hI cp h
  refine fin ?_
  have e:(ps.toList.map fun p=>(p.1,a.eval p.2)).toArray=ps.map fun p=>(p.1,a.eval p.2):=by apply Array.ext'; simp
  rw[e]at this
  exact this
 | call cl =>
  obtain⟨callee,args,dG⟩:=cl
  cases callee with
  | builtin b=>exact fin (Vc hI hR rfl h)
  | invoke r m=>exact absurd h zg
  | value p =>
   simp only[qz,gM]at h
   split at h
   ·rename_i g caps l hp hl
    have OV:=cp p _ hp
    have hr:=kJ (κ:=κ) (vs:=args.toList.map a.eval) hl (by simp) (fun i d v hd hv=>by
      simp only[List.getElem?_map]at hd hv
      cases hi:args.toList[i]? with
      | none=>rw[hi]at hd; cases hd
      | some x=>rw[hi]at hd hv; simp at hd hv; subst hv; exact cp x d hd)
    generalize UG:a.eval p=pv at OV
    cases OV with
    | xg _ _ us cx hh2 =>
     have lz:=Ze g hr (⟨cx,hh2⟩:qG κ caps us)
     refine O6 (c:=c) (κ:=κ) (g:=kg g) (caps := #[]) (args:=(uK g (args.toList.map a.eval) us).toArray) ?_ (D1 (hC (kg g)) hI lz h) ?_
     ·exact J0 UG
     ·rintro e w' ⟨κ',v,rfl,h1,h2,h3,rfl,h4⟩
      exact⟨v,rfl,hK v κ' h1 h2 h3 h4⟩
   ·exact absurd h zg
 | _=>exact absurd h zg
end
end Go.AM
namespace Go.AM
set_option linter.unusedSectionVars false
variable [vP] [Xl]
section
variable {c:Ctx} {n:Nat} {ops:Array Oper}
theorem Un(j:Nat):vW ops j=(ops[j]?).bind (·.dst):=by
 unfold vW; cases ops[j]? <;> rfl
theorem dI{κ:KS}{f:F}{a:Act}{o:Oper}{b:Bool}(hR:Rel κ n f a)(h:w6 ops f o=some b):Region.wanted o (yielded ops a.tmps)=b:=by
 unfold w6 at h
 unfold Region.wanted
 split at h
 ·rename_i hg; rw[hg]; cases h; rfl
 ·rename_i j w hg
  rw[hg]
  simp only
  split at h
  ·cases h
  ·rename_i t ht
   rw[Un]at ht
   simp only[yielded,ht,Option.bind_some]
   split at h
   ·rename_i x hx
    obtain⟨v,h1,h2⟩:=hR.get t _ hx
    have:=h2.ya
    subst this
    cases h
    rw[h1]
    cases x<;>cases w<;>rfl
   ·rename_i hx
    obtain⟨v,h1,h2⟩:=hR.get t _ hx
    cases h
    rw[h1]
    cases h2 with
    | jY _ vs hl hh=>rfl
   ·cases h
def c8(ops:Array Oper)(a a':Act):Prop:=∀ s:Nat,(∀ o∈ops.toList,o.dst≠some s)→a'.tmps[s]? = a.tmps[s]?
theorem c8.refl(ops:Array Oper)(a:Act):c8 ops a a:=fun _ _=>rfl
theorem c8.trans{ops:Array Oper}{a b d:Act}(h:c8 ops a b)(k:c8 ops b d):c8 ops a d:=fun s hs=>(k s hs).trans (h s hs)
theorem iW{ops:Array Oper}{i:Nat}{o:Oper}{a:Act}{v:Value}(ho:ops[i]? = some o):c8 ops a (a.put o.dst v):=by
 intro s hs
 have hm:o∈ops.toList:=by have:=Array.mem_of_getElem? ho; simpa using this
 have:=hs o hm
 cases hd:o.dst with
 | none=>rfl
 | some t =>
  rw[hd]at this
  have u7:t≠s:=fun e=>this (by rw[e])
  simp[Act.put,Array.getElem?_setIfInBounds_ne u7]
theorem QM{κ:KS}{a:Act}{i k:Nat}{s s':F×St}(hC:∀ g,Uu c.P g (c.fn g))(hI:Inv κ)(hR:Rel κ n s.1 a)(xh:κ.st=s.2)(h:kL c n ops i s s' k){K:Act→World→Prop}{Q:Exit→Act→World→Prop}
  (hK:∀ (a':Act) (κ':KS),κ'.st=s'.2→Inv κ'→Ext κ κ'→Rel κ' n s'.1 a'→c8 ops a a'→K a' κ'.w):wpOp c.P ops Q i K a κ.w:=by
 obtain⟨o,ho,hd,h⟩:=h
 unfold wpOp
 rw[ho]
 simp only
 rcases h with⟨hw,_,d,zu,hl,rfl⟩ | ⟨hw,_,rfl⟩
 ·rw[if_pos (dI hR hw)]
  refine .inl (UW hC hI hR (xh▸hl) fun v κ' h1 h2 h3 h4=>hK _ κ' h1 h2 h3 ((hR.mono h3).put hd h4) (iW ho))
 ·rw[if_neg (by rw[dI hR hw]; exact Bool.false_ne_true)]
  exact hK _ κ xh hI (Ext.refl κ) (hR.put hd fun d' j9=>by cases j9; exact Fm (v:=undef)) (iW ho)
theorem BE{Q:Exit→Act→World→Prop}(hC:∀ g,Uu c.P g (c.fn g)):∀ (l:List Nat) {κ:KS} {a:Act} {s s':F×St} {ks:List Nat},Inv κ→Rel κ n s.1 a→κ.st=s.2→Dj c n ops l s s' ks →
  (∀ (a':Act) (κ':KS),κ'.st=s'.2→Inv κ'→Ext κ κ'→Rel κ' n s'.1 a'→c8 ops a a'→Q .normal a' κ'.w)→wpOps c.P ops Q l a κ.w
 | [],κ,a,s,s',ks,hI,hR,xh,h,hQ=>by
  obtain⟨rfl,_⟩:=h
  exact hQ a κ xh hI (Ext.refl κ) hR (c8.refl _ _)
 | i::l,κ,a,s,s',ks,hI,hR,xh,h,hQ=>by
  obtain⟨s1,k,GP,_,h1,h2⟩:=h
  rw[wpOps_cons]
  refine QM hC hI hR xh h1 fun a1 κ1 g1 g2 g3 g4 g5 => ?_
  exact BE hC l g2 g4 g1 h2 fun a' κ' e1 e2 e3 e4 e5=>hQ a' κ' e1 e2 (g3.trans e3) e4 (g5.trans e5)
theorem rI{Q:Exit→Act→World→Prop}(hC:∀ g,Uu c.P g (c.fn g)):∀ (l m:List Nat) {κ:KS} {a:Act} {s s':F×St} {ks:List Nat},Inv κ→Rel κ n s.1 a→κ.st=s.2→Dj c n ops l s s' ks →
  (∀ (a':Act) (κ':KS),κ'.st=s'.2→Inv κ'→Ext κ κ'→Rel κ' n s'.1 a'→c8 ops a a'→wpOps c.P ops Q m a' κ'.w)→wpOps c.P ops Q (l++m) a κ.w
 | [],m,κ,a,s,s',ks,hI,hR,xh,h,hQ=>by
  obtain⟨rfl,_⟩:=h
  exact hQ a κ xh hI (Ext.refl κ) hR (c8.refl _ _)
 | i::l,m,κ,a,s,s',ks,hI,hR,xh,h,hQ=>by
  obtain⟨s1,k,GP,_,h1,h2⟩:=h
  rw[List.cons_append,wpOps_cons]
  refine QM hC hI hR xh h1 fun a1 κ1 g1 g2 g3 g4 g5 => ?_
  exact rI hC l m g2 g4 g1 h2 fun a' κ' e1 e2 e3 e4 e5=>hQ a' κ' e1 e2 (g3.trans e3) e4 (g5.trans e5)
theorem Q6{kd:Nat→Nat}:∀ (l:List Nat) (s s':F×St) (ks:List Nat),Dj c n ops l s s' ks→ks=l.map kd→fZ c n ops kd l s s'
 | [],s,s',ks,h,_=>h.1
 | i::l,s,s',ks,⟨s1,k,GP,e,h1,h2⟩,hk=>by
  subst e
  simp only[List.map_cons,List.cons.injEq]at hk
  obtain⟨rfl,hk⟩:=hk
  exact⟨s1,h1,Q6 l s1 s' GP h2 hk⟩
theorem Ko:∀ (l:List Nat) (s s':F×St) (ks:List Nat),Dj c n ops l s s' ks→ks.length=l.length
 | [],_,_,_,h=>by rw[h.2]
 | i::l,s,s',ks,⟨s1,k,GP,e,h1,h2⟩=>by subst e; simp[Ko l s1 s' GP h2]
theorem J7(acc:List Nat):∀ (es:List Edge) (s0 p:Nat),Nat.testBit (es.foldl (fun s e=>bif Region.binds .any e then s ||| 2 ^ e.on ||| acc.getD e.on 0 else s) s0) p=true →
  Nat.testBit s0 p=true∨∃ e∈es,Region.binds .any e=true∧(p=e.on∨Nat.testBit (acc.getD e.on 0) p=true)
 | [],s0,p,h=>.inl h
 | e::es,s0,p,h=>by
  simp only[List.foldl_cons]at h
  rcases J7 acc es _ p h with h1 | ⟨e',h1,h2⟩
  ·cases hb:Region.binds .any e with
   | false=>rw[hb,cond_false]at h1; exact .inl h1
   | true =>
    rw[hb,cond_true,Nat.testBit_or,Nat.testBit_or,Nat.testBit_two_pow,Bool.or_eq_true,Bool.or_eq_true]at h1
    rcases h1 with(h1 | h1) | h1
    ·exact .inl h1
    ·exact .inr ⟨e,List.mem_cons_self,hb,.inl (of_decide_eq_true h1).symm⟩
    ·exact .inr ⟨e,List.mem_cons_self,hb,.inr h1⟩
  ·exact .inr ⟨e',List.mem_cons_of_mem _ h1,h2⟩
theorem fK:∀ (l:List Oper) (acc:List Nat),∃ r,qV l acc=acc++r∧r.length=l.length ∧
  ∀ j o,l[j]? = some o→∀ p,Nat.testBit ((qV l acc).getD (acc.length+j) 0) p=true →
   ∃ e∈o.after.toList,Region.binds .any e=true∧(p=e.on∨(e.on<acc.length+j∧Nat.testBit ((qV l acc).getD e.on 0) p=true))
 | [],acc=>⟨[],by simp[qV],rfl,fun j o h=>by simp at h⟩
 | o::l,acc=>by
  let b:=o.after.toList.foldl (fun s e=>bif Region.binds .any e then s ||| 2 ^ e.on ||| acc.getD e.on 0 else s) 0
  obtain⟨r,h1,h2,h3⟩:=fK l (acc++[b])
  have hb:qV (o::l) acc=qV l (acc++[b]):=rfl
  have VI:∀ i,i<acc.length→(qV l (acc++[b])).getD i 0=acc.getD i 0:=fun i hi=>by
   rw[h1,List.getD,List.getD,List.append_assoc,List.getElem?_append_left hi]
  refine⟨b::r,by rw[hb,h1]; simp,by simp[h2],?_⟩
  rw[hb]
  intro j o' ho p hp
  cases j with
  | zero =>
   simp at ho
   subst ho
   have he:(qV l (acc++[b])).getD (acc.length+0) 0=b:=by rw[h1]; simp[List.getD]
   rw[he]at hp
   rcases J7 acc _ 0 p hp with h | ⟨e,k1,k2,k3⟩
   ·simp at h
   ·refine⟨e,k1,k2,yE k3 id fun k3 => ?_⟩
    have qh:e.on<acc.length:=by
     rcases Nat.lt_or_ge e.on acc.length with h | h
     ·exact h
     ·rw[List.getD,List.getElem?_eq_none h]at k3; simp at k3
    exact⟨by omega,by rw[VI _ qh]; exact k3⟩
  | succ j =>
   have:=h3 j o' (by simpa using ho) p (by rw[show(acc++[b]).length+j=acc.length+(j+1) by simp; omega]; exact hp)
   obtain⟨e,k1,k2,k3⟩:=this
   refine⟨e,k1,k2,yE k3 id fun k3=>⟨?_,k3.2⟩⟩
   have:=k3.1
   simp only[List.length_append,List.length_singleton]at this
   omega
theorem ff:∀ (l:List Oper) (k:Nat),kZ l k=true→∀ j o,l[j]? = some o→∀ e∈o.after.toList,Region.binds .any e=true→e.on<k+j
 | [],_,_,j,o,h,_,_,_=>by simp at h
 | o::l,k,h,j,o',ho,e,he,hb=>by
  simp only[kZ,Bool.and_eq_true,List.all_eq_true]at h
  cases j with
  | zero =>
   simp at ho
   subst ho
   have:=h.1 e he
   rw[hb]at this
   simp only[Bool.not_true,Bool.false_or]at this
   exact Nat.le_of_ble_eq_true this
  | succ j =>
   have:=ff l (k+1) h.2 j o' (by simpa using ho) e he hb
   omega
def E1{K:Type}(cl:K→K→Bool)(ops:Array Oper)(x:Oper)(kx:K)(y:Oper)(ky:K):Prop:=(∀ d,x.dst=some d→d ∉ tmpsOf ops y)∧(∀ d,y.dst=some d→d ∉ tmpsOf ops x)∧cl kx ky=false
theorem K5{K:Type}{cl:K→K→Bool}{bs:List Nat}{xs:List (Nat×Option Nat×List Nat×K)}{j:Nat}{ky:K}{y:Oper}(h:Yv cl bs xs j y.dst (tmpsOf ops y) ky=true){i:Nat}{kx:K}{x:Oper}(hx:(i,x.dst,tmpsOf ops x,kx)∈xs) :
  ordered bs i j=true∨E1 cl ops x kx y ky:=by
 simp only[Yv,List.all_eq_true]at h
 have:=h _ hx
 simp only[Bool.or_eq_true,Bool.and_eq_true,Bool.not_eq_true']at this
 rcases this with h1 | ⟨⟨h1,h2⟩,h3⟩
 ·exact .inl h1
 ·refine .inr ⟨fun d hd hm => ?_,fun d hd hm => ?_,h3⟩
  ·rw[hd]at h1; simp at h1; exact h1 hm
  ·rw[hd]at h2; simp at h2; exact h2 hm
theorem fI{K:Type}{cl:K→K→Bool}{bs:List Nat}:∀ (l:List Oper) (ks:List K) (k0:Nat) (xs:List (Nat×Option Nat×List Nat×K)),eF cl ops bs l ks k0 xs=true →
  (∀ j y ky,l[j]? = some y→ks[j]? = some ky→(∀ i x kx,(i,x.dst,tmpsOf ops x,kx)∈xs→ordered bs i (k0+j)=true∨E1 cl ops x kx y ky) ∧
   (∀ i x kx,i<j→l[i]? = some x→ks[i]? = some kx→ordered bs (k0+i) (k0+j)=true∨E1 cl ops x kx y ky))
 | [],_,_,_,_,j,y,ky,hy,_=>by simp at hy
 | o::l,[],_,_,h,_,_,_,_,_=>by simp[eF]at h
 | o::l,k::ks,k0,xs,h,j,y,ky,hy,hk=>by
  simp only[eF,Bool.and_eq_true]at h
  obtain⟨h1,h2⟩:=h
  have ih:=fI l ks (k0+1) _ h2
  cases j with
  | zero =>
   simp at hy hk
   subst hy hk
   exact⟨fun i x kx hx=>by simpa using K5 h1 hx,fun i x kx hi=>absurd hi (Nat.not_lt_zero i)⟩
  | succ j =>
   obtain⟨g1,g2⟩:=ih j y ky (by simpa using hy) (by simpa using hk)
   have e:k0+1+j=k0+(j+1):=by omega
   rw[e]at g1 g2
   refine⟨fun i x kx hx=>g1 i x kx (List.mem_cons_of_mem _ hx),fun i x kx hi hx hkx => ?_⟩
   cases i with
   | zero =>
    simp at hx hkx
    subst hx hkx
    exact g1 k0 o k List.mem_cons_self
   | succ i =>
    have:=g2 i x kx (by omega) (by simpa using hx) (by simpa using hkx)
    rwa [show k0+1+i=k0+(i+1) by omega]at this
def rest(ops:Array Oper)(listed:Array Bool):List Nat:=(List.range ops.size).filter fun i => !listed.getD i true
def oi(ops:Array Oper)(listed:Array Bool):Prop:=∀ q,q<ops.size→listed.getD q true=true→∀ p,ordered (qV ops.toList []) p q=true→p<ops.size→listed.getD p true=true
theorem ur{listed:Array Bool}{i j:Nat}(hi:i<listed.size):(listed.setIfInBounds i true).getD j true=if j=i then true else listed.getD j true:=by
 simp only[Array.getD_eq_getD_getElem?]
 by_cases h:j=i
 ·subst h; simp[hi]
 ·rw[if_neg h,Array.getElem?_setIfInBounds_ne (fun e=>h e.symm)]
theorem yb{p q:Nat→Bool}{i:Nat}:∀ (l:List Nat),l.Pairwise (· < ·)→i∈l→p i=true→(∀ j,q j=(p j && !(j==i))) →
  ∃ pre post,l.filter p=pre++i::post∧l.filter q=pre++post∧∀ x∈pre,p x=true∧x∈l∧x<i
 | [],_,hi,_,_=>by simp at hi
 | a::l,hn,hi,hp,hq=>by
  have Rl:=List.pairwise_cons.1 hn
  by_cases ha:a=i
  ·subst ha
   refine⟨[],l.filter p,by simp[hp],?_,by simp⟩
   have hqa:q a=false:=by rw[hq]; simp
   simp only[List.filter_cons,hqa,Bool.false_eq_true,if_false,List.nil_append]
   refine List.filter_congr fun x hx => ?_
   rw[hq]
   have:(x==a)=false:=by simp; exact fun e=>absurd (Rl.1 x hx) (by omega)
   simp[this]
  ·have X0:i∈l:=by rcases List.mem_cons.1 hi with h | h; exact absurd h.symm ha; exact h
   obtain⟨pre,post,h1,h2,h3⟩:=yb l Rl.2 X0 hp hq
   have hqa:q a=p a:=by rw[hq]; simp[ha]
   refine⟨if p a then a::pre else pre,post,?_,?_,?_⟩
   ·simp only[List.filter_cons]; split<;>simp[h1]
   ·simp only[List.filter_cons,hqa]; split<;>simp[h2]
   ·intro x hx
    split at hx
    ·rename_i hpa
     rcases List.mem_cons.1 hx with rfl | hx
     ·exact⟨hpa,List.mem_cons_self,Rl.1 i X0⟩
     ·exact⟨(h3 x hx).1,List.mem_cons_of_mem _ (h3 x hx).2.1,(h3 x hx).2.2⟩
    ·exact⟨(h3 x hx).1,List.mem_cons_of_mem _ (h3 x hx).2.1,(h3 x hx).2.2⟩
theorem fx{listed:Array Bool}{i:Nat}:i∈Region.ready .any ops listed↔i<ops.size∧listed.getD i true=false∧∀ o,ops[i]? = some o→∀ e∈o.after.toList,Region.binds .any e=true→listed.getD e.on false=true:=by
 unfold Region.ready
 simp only[List.mem_filter,List.mem_range,Bool.and_eq_true,Bool.not_eq_true']
 constructor
 ·rintro⟨h1,h2,h3⟩
  refine⟨h1,h2,fun o ho e he hb => ?_⟩
  rw[ho]at h3
  simp only[Option.map_some,Option.getD_some,Array.all_eq_true_iff_forall_mem]at h3
  have:=h3 e (by simpa using he)
  rw[hb]at this
  simpa using this
 ·rintro⟨h1,h2,h3⟩
  refine⟨h1,h2,?_⟩
  have ho:ops[i]? = some ops[i]:=Array.getElem?_eq_getElem h1
  rw[ho]
  simp only[Option.map_some,Option.getD_some,Array.all_eq_true_iff_forall_mem]
  intro e he
  cases hb:Region.binds .any e with
  | false=>rfl
  | true=>simpa using h3 _ ho e (by simpa using he) hb
theorem Qg(G5:kZ ops.toList 0=true){listed:Array Bool}(uj:listed.size=ops.size):Region.ready .any ops listed=[]→rest ops listed=[]:=by
 intro hr
 cases CG:rest ops listed with
 | nil=>rfl
 | cons i l =>
  exfalso
  have hi:i∈rest ops listed:=by rw[CG]; exact List.mem_cons_self
  simp only[rest,List.mem_filter,List.mem_range,Bool.not_eq_true']at hi
  have NT:∀ j,j<i→listed.getD j true=true:=by
   intro j hj
   cases hl:listed.getD j true with
   | true=>rfl
   | false =>
    have hpw:(rest ops listed).Pairwise (· < ·):=List.Pairwise.filter _ List.pairwise_lt_range
    have hjm:j∈rest ops listed:=by simp only[rest,List.mem_filter,List.mem_range,Bool.not_eq_true']; exact⟨by omega,hl⟩
    rw[CG]at hpw hjm
    rcases List.mem_cons.1 hjm with rfl | hjm
    ·exact absurd hj (Nat.lt_irrefl _)
    ·have:=(List.pairwise_cons.1 hpw).1 j hjm; omega
  have:i∈Region.ready .any ops listed:=by
   rw[fx]
   refine⟨hi.1,hi.2,fun o ho e he hb => ?_⟩
   have qh:=ff ops.toList 0 G5 i o (by simpa using ho) e he hb
   have:=NT e.on (by omega)
   rw[Array.getD_eq_getD_getElem?]at this ⊢
   rw[Array.getElem?_eq_getElem (by omega)]at this ⊢
   exact this
  rw[hr]at this
  cases this
def Zf(Stp:Nat→F×St→F×St→Prop):List Nat→F×St→F×St→Prop
 | [],s,s'=>s'=s
 | i::l,s,s'=>∃ s1,Stp i s s1∧Zf Stp l s1 s'
theorem WJ{Stp:Nat→F×St→F×St→Prop}{In:Nat→Nat→Prop}(Ka:∀ p i,In p i→∀ s s1 s2,Stp p s s1→Stp i s1 s2→∃ s',Stp i s s'∧Stp p s' s2){i:Nat}{post:List Nat}{s':F×St}:∀ {pre:List Nat} {s:F×St},(∀ p∈pre,In p i)→Zf Stp (pre++i::post) s s' →
  ∃ s1,Stp i s s1∧Zf Stp (pre++post) s1 s'
 | [],s,_,h=>h
 | p::pre,s,hp,⟨sp,h1,h2⟩=>by
  obtain⟨s1,h3,h4⟩:=WJ Ka (fun q hq=>hp q (List.mem_cons_of_mem _ hq)) h2
  obtain⟨s2,h5,h6⟩:=Ka _ _ (hp p List.mem_cons_self) _ _ _ h1 h3
  exact⟨s2,h5,s1,h6,h4⟩
theorem sg{Stp:Nat→F×St→F×St→Prop}{In:Nat→Nat→Prop}(Fx:∀ i s s',Stp i s s'→∃ k,kL c n ops i s s' k)(Ka:∀ p i,In p i→∀ s s1 s2,Stp p s s1→Stp i s1 s2→∃ s',Stp i s s'∧Stp p s' s2){Q:Exit→Act→World→Prop}(hC:∀ g,Uu c.P g (c.fn g))(G5:kZ ops.toList 0=true)
  {sf:F×St}:∀ (fuel:Nat) (listed:Array Bool) {κ:KS} {a:Act} {s:F×St},(∀ p i,p<i→i<ops.size→listed.getD p true=false→ordered (qV ops.toList []) p i=true∨In p i) →
  listed.size=ops.size→fuel=(rest ops listed).length→oi ops listed→Inv κ→Rel κ n s.1 a→κ.st=s.2→Zf Stp (rest ops listed) s sf →
  (∀ (a':Act) (κ':KS),κ'.st=sf.2→Inv κ'→Ext κ κ'→Rel κ' n sf.1 a'→c8 ops a a'→Q .normal a' κ'.w)→wpAny c.P .any ops Q fuel listed a κ.w
 | fuel,listed,κ,a,s,uY,uj,hfuel,Z1,hI,hR,xh,xQ,hQ=>by
  have PA:=Qg G5 (listed:=listed) uj
  have z2F:rest ops listed=[]→Q .normal a κ.w:=by
   intro h
   rw[h]at xQ
   cases xQ
   exact hQ a κ xh hI (Ext.refl κ) hR (c8.refl _ _)
  cases fuel with
  | zero =>
   have CG:rest ops listed=[]:=List.eq_nil_of_length_eq_zero hfuel.symm
   refine⟨?_,z2F CG⟩
   apply List.eq_nil_iff_forall_not_mem.2
   intro i hi
   rw[fx]at hi
   have:i∈rest ops listed:=by simp only[rest,List.mem_filter,List.mem_range,Bool.not_eq_true']; exact⟨hi.1,hi.2.1⟩
   rw[CG]at this
   cases this
  | succ fuel =>
   refine⟨fun h=>z2F (PA h),fun i hi => ?_⟩
   rw[fx]at hi
   obtain⟨h1,h2,h3⟩:=hi
   have ho:ops[i]? = some ops[i]:=Array.getElem?_eq_getElem h1
   obtain⟨pre,post,g1,g2,g3⟩:=yb (p:=fun i => !listed.getD i true) (q:=fun j => !(listed.setIfInBounds i true).getD j true) (i:=i) (List.range ops.size) List.pairwise_lt_range
    (List.mem_range.2 h1) (by simp[h2]) (fun j=>by
     rw[ur (by omega)]
     by_cases h:j=i
     ·subst h; simp
     ·simp[h])
   have JA:∀ p,ordered (qV ops.toList []) p i=true→p<ops.size→listed.getD p true=true:=by
    intro p hp qh
    obtain⟨r,_,_,hb⟩:=fK ops.toList []
    obtain⟨e,k1,k2,k3⟩:=hb i ops[i] (by simp) p (by simpa[ordered]using hp)
    have hle:=h3 _ ho e k1 k2
    have tK:=ff ops.toList 0 G5 i ops[i] (by simp) e k1 k2
    have Xz:listed.getD e.on true=true:=by
     rw[Array.getD_eq_getD_getElem?]at hle ⊢
     rw[Array.getElem?_eq_getElem (by omega)]at hle ⊢
     exact hle
    rcases k3 with rfl | ⟨_,k3⟩
    ·exact Xz
    ·exact Z1 e.on (by omega) Xz p k3 qh
   have E6:∀ p∈pre,In p i:=by
    intro p hp
    obtain⟨q1,q2,q3⟩:=g3 p hp
    rcases uY p i q3 h1 (by simpa using q1)with h | h
    ·have:=JA p h (by simpa using q2)
     simp[this]at q1
    ·exact h
   have KE:Zf Stp (pre++i::post) s sf:=by
    have:rest ops listed=pre++i::post:=g1
    rw[← this]; exact xQ
   obtain⟨s1,k1,k2⟩:=WJ Ka E6 KE
   have lW:rest ops (listed.setIfInBounds i true)=pre++post:=g2
   obtain⟨kk,k1⟩:=Fx _ _ _ k1
   refine QM hC hI hR xh k1 fun a1 κ1 e1 e2 e3 e4 e5 => ?_
   refine sg Fx Ka hC G5 fuel (listed.setIfInBounds i true) (fun p j hpj hj hp=>uY p j hpj hj (by
    rw[ur (by omega)]at hp
    split at hp
    ·cases hp
    ·exact hp)) (by simp[uj]) ?_ ?_ e2 e4 e1 (by rw[lW]; exact k2) fun a' κ' d1 d2 d3 d4 d5=>hQ a' κ' d1 d2 (e3.trans d3) d4 (e5.trans d5)
   ·have:rest ops listed=pre++i::post:=g1
    rw[this]at hfuel
    rw[lW]
    simp only[List.length_append,List.length_cons]at hfuel ⊢
    omega
   ·intro q hq Ci p hp qh
    rw[ur (by omega)]at Ci ⊢
    split
    ·rfl
    ·split at Ci
     ·rename_i e; subst e; exact JA p hp qh
     ·exact Z1 q hq Ci p hp qh
theorem UX{kd:Nat→Nat}:∀ (l:List Nat) (s s':F×St),fZ c n ops kd l s s'→Zf (fun i s s'=>kL c n ops i s s' (kd i)) l s s'
 | [],_,_,h=>h
 | i::l,s,s',⟨s1,h1,h2⟩=>⟨s1,h1,UX l s1 s' h2⟩
theorem QO{kd:Nat→Nat}{Q:Exit→Act→World→Prop}(hC:∀ g,Uu c.P g (c.fn g))(G5:kZ ops.toList 0=true)
  {sf:F×St}:∀ (fuel:Nat) (listed:Array Bool) {κ:KS} {a:Act} {s:F×St},(∀ p i,p<i→i<ops.size→listed.getD p true=false→ordered (qV ops.toList []) p i=true∨OE ops kd p i) →
  listed.size=ops.size→fuel=(rest ops listed).length→oi ops listed→Inv κ→Rel κ n s.1 a→κ.st=s.2→fZ c n ops kd (rest ops listed) s sf →
  (∀ (a':Act) (κ':KS),κ'.st=sf.2→Inv κ'→Ext κ κ'→Rel κ' n sf.1 a'→c8 ops a a'→Q .normal a' κ'.w)→wpAny c.P .any ops Q fuel listed a κ.w
 | fuel,listed,κ,a,s,uY,uj,hfuel,Z1,hI,hR,xh,xQ,hQ =>
  sg (Stp:=fun i s s'=>kL c n ops i s s' (kd i)) (In:=fun p i=>OE ops kd p i) (fun i s s' h=>⟨_,h⟩) (fun p i hi s s1 s2 h1 h2=>WL hi h1 h2) hC G5 fuel listed uY uj hfuel Z1 hI hR xh (UX _ _ _ xQ) hQ
end
end Go.AM
namespace Go.AM
set_option linter.unusedSectionVars false
variable [vP] [Xl]
open Go.RowKit
structure Up(κ κ':KS):Prop where
 same:Dl κ.w κ'.w κ.ok κ'.ok
 var:∀ (b:Nat) (d:D),κ.st[b]? = some (.var d)→(∃ d',κ'.st[b]? = some (.var d'))∧κ'.ph[b]? = κ.ph[b]?
 old:∀ (b qs:Nat),Old κ.st b qs→Old κ'.st b qs
 row:∀ (b v:Nat) (e:Ty) (xs:List (den e)),Old κ.st b v→κ'.st[b]? = some (.arr v e xs)→κ.st[b]? = some (.arr v e xs)∧κ'.ph[b]? = κ.ph[b]?
theorem RD.up{κ κ':KS}(x:Up κ κ'){d:D}{v:Value}(h:RD κ d v):RD κ' d v:=by
 induction h with
 | zi τ y cs h=>exact .zi τ y cs (h.mono x.same)
 | qW e a=>exact .qW e a
 | tight e l ne blk off f u7 w8 h hc=>exact .tight e l ne blk off f u7 (x.same _ w8).1 (fun i hi=>(h i hi).mono x.same) fun i hi j v hv=>by rw[yL (x.same _ w8).2]; exact hc i hi j v hv
 | xb=>exact .xb
 | jE=>exact .jE
 | qQ=>exact .qQ
 | vr=>exact .vr
 | vq=>exact .vq
 | pn v h=>exact .pn v h
 | gz T=>exact .gz T
 | h9 b T d hd =>
  obtain⟨⟨d',j9⟩,hp⟩:=x.var b d hd
  exact .h9 b T d' j9
 | bC b T blk n d hd h =>
  obtain⟨⟨d',j9⟩,hp⟩:=x.var b d hd
  exact .bC b T blk n d' j9 (hp.trans h)
 | ptr b off blk n d hd h =>
  obtain⟨⟨d',j9⟩,hp⟩:=x.var b d hd
  exact .ptr b off blk n d' j9 (hp.trans h)
 | qK τ y cs blk off w8 h hc=>exact .qK τ y cs blk off (x.same _ w8).1 (h.mono x.same) fun j v hv=>by rw[yL (x.same _ w8).2]; exact hc j v hv
 | vM b qs e idx off blk o hb h =>
  refine .vM b qs e idx off blk o (x.old b qs hb) fun xs hx hi => ?_
  obtain⟨h1,h2⟩:=x.row b qs e xs hb hx
  rw[h2]
  exact h xs h1 hi
 | ms b qs e off len cap a hb vx ha mZ h =>
  refine .ms b qs e off len cap a (x.old b qs hb) vx ha mZ fun xs hx => ?_
  obtain⟨h1,h2⟩:=x.row b qs e xs hb hx
  have:=h xs h1
  unfold Hm at this ⊢
  rw[h2]
  exact this
 | xg f l vs hl h ih=>exact .xg f l vs hl ih
 | agg l vs hl ho h ih=>exact .agg l vs hl ho ih
 | jY l vs hl h ih=>exact .jY l vs hl ih
 | iface t d v h ih=>exact .iface t d v ih
structure Se(κ:KS)(blk:Nat):Prop where
 lt:blk<κ.w.heap.size
 ok:¬ κ.ok blk
 ph:∀ (b n:Nat),κ.ph[b]? ≠ some (some (blk,n))
theorem Se.ext{κ κ':KS}(x:Ext κ κ'){blk:Nat}(h:Se κ blk):Se κ' blk∧κ'.w.heap[blk]? = κ.w.heap[blk]? := by
 refine⟨⟨Nat.lt_of_lt_of_le h.lt x.size,fun hk => ?_,fun b n hb => ?_⟩,x.frame blk h.lt h.ph⟩
 ·rcases x.fresh blk hk with h1 | h1 | ⟨b,n,h1⟩
  ·exact h.ok h1
  ·have:=h.lt; omega
  ·exact h.ph b n h1
 ·rcases x.Li b blk n hb with h1 | h1
  ·exact h.ph b n h1
  ·have:=h.lt; omega
def KS.push(κ:KS)(blk n:Nat)(d:D):KS:={ κ with ph:=κ.ph++[some (blk,n)],st:=κ.st++[.var d] }
theorem dp{α:Type}{l:List α}{x y:α}{b:Nat}(h:l[b]? = some y):(l++[x])[b]? = some y:=by
 rw[List.getElem?_append_left (List.getElem?_eq_some_iff.1 h).1]; exact h
theorem mQ{α:Type}{l:List α}{x y:α}{b:Nat}(h:(l++[x])[b]? = some y):l[b]? = some y∨(b=l.length∧y=x):=by
 by_cases hb:b<l.length
 ·rw[List.getElem?_append_left hb]at h; exact .inl h
 ·have hl:=(List.getElem?_eq_some_iff.1 h).1
  simp at hl
  have:b=l.length:=by omega
  subst this
  simp at h
  exact .inr ⟨rfl,h.symm⟩
theorem HJ{κ:KS}(hI:Inv κ)(blk n:Nat)(d:D):Up κ (κ.push blk n d):=by
 have sP:∀ {b:Nat} {y:ju},κ.st[b]? = some y→(κ.ph++[some (blk,n)])[b]? = κ.ph[b]? := fun h=>by
  rw[List.getElem?_append_left]; rw[hI.len]; exact(List.getElem?_eq_some_iff.1 h).1
 refine⟨fun k hk=>⟨hk,rfl⟩,fun b d' h=>⟨⟨d',dp h⟩,sP h⟩,fun b qs h => ?_,fun b v e xs ho h => ?_⟩
 ·rcases h with h | ⟨v0,e0,iA,h,hv⟩
  ·exact .inl (dp h)
  ·exact .inr ⟨v0,e0,iA,dp h,hv⟩
 ·rcases mQ h with h1 | ⟨_,h1⟩
  ·exact⟨h1,sP h1⟩
  ·cases h1
theorem Mj{κ0 κ:KS}{blk:Nat}{d:D}{z:Value}{t:TypeId}(hI:Inv κ)(hx:Ext κ0 κ)(hb:Se κ blk)(h0:κ0.w.heap.size≤blk)(hz:RD κ d z)(ht:d.vN=false)(DN:∀ T,d.typed=some T→t=T)(hh:κ.w.heap[blk]? = some (.cells z.cells t (0,0))) :
  Inv (κ.push blk z.cells.size d)∧Ext κ0 (κ.push blk z.cells.size d)∧RD (κ.push blk z.cells.size d) (.ptr κ.st.length 0) (.pointer (some ⟨blk,0,none⟩)):=by
 have hu:=HJ hI blk z.cells.size d
 have xh:(κ.push blk z.cells.size d).st[κ.st.length]? = some (.var d):=by simp[KS.push]
 have sP:(κ.push blk z.cells.size d).ph[κ.st.length]? = some (some (blk,z.cells.size)):=by simp[KS.push,← hI.len]
 have ES:∀ {b k m:Nat},(κ.push blk z.cells.size d).ph[b]? = some (some (k,m))→κ.ph[b]? = some (some (k,m))∨(b=κ.ph.length∧k=blk):=by
  intro b k m h
  rcases mQ h with h1 | ⟨h1,h2⟩
  ·exact .inl h1
  ·cases h2; exact .inr ⟨h1,rfl⟩
 refine⟨⟨by simp[KS.push,hI.len],hI.kY,fun b k m h => ?_,fun b b' k m m' h h' => ?_,fun b y h => ?_,hI.gl⟩,?_,.ptr _ 0 blk _ d xh sP⟩
 ·rcases ES h with h1 | ⟨_,rfl⟩
  ·exact hI.apart b k m h1
  ·exact⟨hb.lt,hb.ok⟩
 ·rcases ES h with h1 | ⟨h1,rfl⟩
  ·rcases ES h' with h2 | ⟨h2,rfl⟩
   ·exact hI.inj b b' k m m' h1 h2
   ·exact(hb.ph b m h1).elim
  ·rcases ES h' with h2 | ⟨h2,_⟩
   ·exact(hb.ph b' m' h2).elim
   ·omega
 ·rcases mQ h with h1 | ⟨h1,h2⟩
  ·have hp:(κ.push blk z.cells.size d).ph[b]? = κ.ph[b]? := by
    show(κ.ph++[_])[b]? = _
    rw[List.getElem?_append_left]; rw[hI.len]; exact(List.getElem?_eq_some_iff.1 h1).1
   have hy:=hI.blk b y h1
   cases y with
   | dead=>trivial
   | var d' =>
    obtain⟨k,m,cs,T,g1,g2,g3,g4,g5⟩:=hy
    exact⟨k,m,cs,T,hp.trans g1,g2,g3,⟨g4.1,fun i h1 h2=>(g4.2 i h1 h2).up hu⟩,g5⟩
   | arr qs e xs =>
    obtain⟨g0,g⟩:=hy
    refine⟨g0,yE g (fun h=>⟨h.1,hp.trans h.2⟩) ?_⟩
    rintro⟨k,m,cs,T,g1,g2⟩
    exact⟨k,m,cs,T,hp.trans g1,g2⟩
  ·subst h1
   subst h2
   have hf:=uD hz ht
   exact⟨blk,z.cells.size,z.cells,t,sP,hh,rfl,⟨hf.1,fun i h1 h2=>(hf.2 i h1 h2).up hu⟩,uz hz,DN⟩
 ·refine⟨hx.os,hx.tape,hx.output,hx.size,hx.same,hx.fresh,fun b k m h => ?_,fun b d' h => ?_,fun b v0 e xs h => ?_,fun b h=>dp (hx.dead b h),Nat.le_trans hx.Jk (by simp[KS.push]),hx.frame⟩
  ·rcases ES h with h1 | ⟨_,rfl⟩
   ·exact hx.Li b k m h1
   ·exact .inr h0
  ·obtain⟨⟨d1,h1⟩,h2⟩:=hx.var b d' h
   obtain⟨h3,h4⟩:=hu.var b d1 h1
   exact⟨h3,h4.trans h2⟩
  ·rcases hx.arr b v0 e xs h with h1 | ⟨v1,qp,h1,h2,h3⟩
   ·exact .inl (dp h1)
   ·refine .inr ⟨v1,qp,dp h1,h2,fun he=>⟨?_,(h3 he).2⟩⟩
    have hp:(κ.push blk z.cells.size d).ph[b]? = κ.ph[b]? := by
     show(κ.ph++[_])[b]? = _
     rw[List.getElem?_append_left]; rw[hI.len]; exact(List.getElem?_eq_some_iff.1 h1).1
    exact hp.trans (h3 he).1
theorem MQ{κ:KS}(hI:Inv κ)(o:Obj):Inv { κ with w:=κ.w.alloc o }∧Ext κ { κ with w:=κ.w.alloc o }∧Se { κ with w:=κ.w.alloc o } κ.w.heap.size∧(κ.w.alloc o).heap[κ.w.heap.size]? = some o:=by
 have hs:(κ.w.alloc o).heap.size=κ.w.heap.size+1:=by simp
 have hold:∀ k,k<κ.w.heap.size→(κ.w.alloc o).heap[k]? = κ.w.heap[k]? := fun k hk=>by
  show(κ.w.heap.push o)[k]? = _
  rw[Array.getElem?_push]
  rw[if_neg (by omega)]
 have hx:Ext κ { κ with w:=κ.w.alloc o }:=⟨rfl,rfl,rfl,by show κ.w.heap.size≤(κ.w.alloc o).heap.size; omega,fun k hk=>⟨hk,hold k (hI.kY k hk)⟩,fun k hk=>.inl hk,fun _ _ _ h=>.inl h,fun b d h=>⟨⟨d,h⟩,rfl⟩,
  fun b v0 e xs h=>.inr ⟨v0,xs,h,Nat.le_refl _,fun _=>⟨rfl,rfl⟩⟩,fun _ h=>h,Nat.le_refl _,fun k hk _=>hold k hk⟩
 refine⟨⟨hI.len,fun k hk => ?_,fun b blk n h => ?_,hI.inj,fun b y hy=>(hI.blk b y hy).mono hx rfl fun blk n h=>hold _ (hI.apart b blk n h).1,hI.gl.mono hx.same⟩,hx,⟨?_,fun hk => ?_,fun b n h => ?_⟩,?_⟩
 ·have:=hI.kY k hk; show k<(κ.w.alloc o).heap.size; omega
 ·have:=hI.apart b blk n h; exact⟨by show blk<(κ.w.alloc o).heap.size; omega,this.2⟩
 ·show κ.w.heap.size<(κ.w.alloc o).heap.size; omega
 ·have:=hI.kY _ hk; omega
 ·have:=(hI.apart b _ n h).1; omega
 ·show(κ.w.heap.push o)[κ.w.heap.size]? = some o
  simp
section
variable {c:Ctx} {n:Nat} {ops:Array Oper}
structure Em where
 i:Nat
 d:Nat
 blk:Nat
 t:TypeId
 z:Value
 D:D
structure G6(c:Ctx)(ops:Array Oper)(κ0 κ:KS)(a:Act)(e:Em):Prop where
 op:∃ o,ops[e.i]? = some o∧o.op=.alloc e.t∧o.guard=none∧o.dst=some e.d
 zero:ta c e.t=some e.D
 z:∃ i,c.P.info? e.t=some i∧i.zero=some e.z∧ZD e.t e.D e.z
 val:a.tmps[e.d]? = some (.pointer (some ⟨e.blk,0,none⟩))
 heap:κ.w.heap[e.blk]? = some (.cells e.z.cells e.t (0,0))
 Sp:Se κ e.blk
 new:κ0.w.heap.size≤e.blk
theorem G6.mono{κ0 κ κ':KS}{a a':Act}{e:Em}(h:G6 c ops κ0 κ a e)(x:Ext κ κ')(ha:a'.tmps[e.d]? = a.tmps[e.d]?):G6 c ops κ0 κ' a' e:=by
 obtain⟨h1,h2⟩:=h.Sp.ext x
 exact⟨h.op,h.zero,h.z,ha.trans h.val,h2.trans h.heap,h1,h.new⟩
def jn(es:List Em)(f:F):F:=fun s=>if es.any (fun e=>Nat.beq e.d s)then none else f s
theorem oJ{es:List Em}{f:F}{s:Nat}(h:∀ e∈es,e.d≠s):jn es f s=f s:=by
 unfold jn
 rw[if_neg]
 intro hh
 obtain⟨e,he,hb⟩:=List.any_eq_true.1 hh
 exact h e he (Nat.eq_of_beq_eq_true hb)
theorem WC{es:List Em}{f:F}{s:Nat}{d:D}(h:jn es f s=some d):f s=some d∧∀ e∈es,e.d≠s:=by
 unfold jn at h
 split at h
 ·cases h
 ·rename_i hh
  refine⟨h,fun e he hs=>hh (List.any_eq_true.2 ⟨e,he,?_⟩)⟩
  subst hs; simp
def bP(ops:Array Oper)(i:Nat):Prop:=∃ o,ops[i]? = some o∧se o=true
theorem Dt{o:Oper}(h:se o=true):∃ t d,o.op=.alloc t∧o.guard=none∧o.dst=some d:=by
 unfold se at h
 simp only[Bool.and_eq_true]at h
 obtain⟨⟨h1,h2⟩,h3⟩:=h
 split at h1
 ·rename_i t ht
  obtain⟨d,hd⟩:=Option.isSome_iff_exists.1 h3
  exact⟨t,d,ht,Option.isNone_iff_eq_none.1 h2,hd⟩
 ·cases h1
theorem VX{o:Oper}{t d:Nat}(h1:o.op=.alloc t)(h2:o.guard=none)(h3:o.dst=some d):se o=true:=by
 unfold se; rw[h1,h2,h3]; rfl
theorem Jd{kd:Nat→Nat}:∀ {l:List Nat} {s sf:F×St} {i:Nat},fZ c n ops kd l s sf→i∈l→∃ s1 s2,kL c n ops i s1 s2 (kd i)
 | [],_,_,_,_,h=>by cases h
 | j::l,s,sf,i,⟨s1,h1,h2⟩,h=>by
  rcases List.mem_cons.1 h with rfl | h
  ·exact⟨s,s1,h1⟩
  ·exact Jd h2 h
theorem ZR{kd:Nat→Nat}{i t d:Nat}{o:Oper}(ho:ops[i]? = some o)(h1:o.op=.alloc t)(h2:o.guard=none)(h3:o.dst=some d){s s':F×St}(h:kL c n ops i s s' (kd i)) :
  ∃ D,ta c t=some D∧d<n∧s'=(ja s.1 (some d) (some (.ptr s.2.length 0)),s.2++[.var D]):=by
 obtain⟨o',Sc,hd,h⟩:=h
 rw[ho]at Sc
 cases Sc
 rw[h3]at hd
 have qh:d<n:=Nat.le_of_ble_eq_true hd
 have hw:w6 ops s.1 o=some true:=by unfold w6; rw[h2]
 rcases h with⟨_,_,D,zu,hl,rfl⟩ | ⟨hw',_,_⟩
 ·have he:qz c (q7 s.1) o=fJ c t:=by
   obtain⟨dst,op,ty,pos,after,guard⟩:=o
   cases h1
   rfl
  rw[he]at hl
  unfold fJ at hl
  split at hl
  ·rename_i y hy
   simp only[zG,T.leads,Prod.mk.injEq]at hl
   obtain⟨rfl,rfl⟩:=hl
   exact⟨y,hy,qh,by rw[h3]⟩
  ·exact absurd hl zg
 ·rw[hw]at hw'; cases hw'
theorem G8{es:List Em}{i k:Nat}{s s':F×St}(h:kL c n ops i s s' k)(hd:∀ o,ops[i]? = some o→∀ e∈es,e.d ∉ tmpsOf ops o) :
  kL c n ops i (jn es s.1,s.2) (jn es s'.1,s'.2) k:=by
 obtain⟨o,ho,ND,h⟩:=h
 have uq:=hd o ho
 have GA:∀ x:Option D,ja (jn es s.1) o.dst x=jn es (ja s.1 o.dst x):=by
  intro x
  cases R9:o.dst with
  | none=>rfl
  | some t =>
   funext u
   simp only[ja,jn]
   by_cases hu:u=t
   ·subst hu
    rw[if_pos rfl]
    rw[if_neg,if_pos rfl]
    intro hh
    obtain⟨e,he,hb⟩:=List.any_eq_true.1 hh
    exact uq e he (by rw[Nat.eq_of_beq_eq_true hb]; exact jc R9)
   ·rw[if_neg hu]
    split<;>rfl
 have cp:∀ x∈o.op.operands,q7 (jn es s.1) x=q7 s.1 x:=by
  intro x hx
  cases x with
  | tmp t=>exact oJ fun e he ht=>uq e he (ht▸l9 hx)
  | _=>rfl
 have hw:w6 ops (jn es s.1) o=w6 ops s.1 o:=by
  unfold w6
  cases hg:o.guard with
  | none=>rfl
  | some jw =>
   obtain⟨j,w⟩:=jw
   simp only
   cases hs:vW ops j with
   | none=>rfl
   | some t =>
    simp only
    rw[oJ fun e he ht=>uq e he (ht▸iZ hg hs)]
 refine⟨o,ho,ND,?_⟩
 rcases h with⟨h1,h2,d,zu,h3,rfl⟩ | ⟨h1,h2,rfl⟩
 ·refine .inl ⟨hw.trans h1,?_,d,zu,?_,?_⟩
  ·rw[show qz c (q7 (jn es s.1)) o=qz c (q7 s.1) o from og o cp]; exact h2
  ·rw[show qz c (q7 (jn es s.1)) o=qz c (q7 s.1) o from og o cp]; exact h3
  ·rw[GA]
 ·exact .inr ⟨hw.trans h1,h2,by rw[GA]⟩
theorem CV{κ:KS}{a:Act}{i k:Nat}{s s':F×St}(hC:∀ g,Uu c.P g (c.fn g))(hI:Inv κ)(hR:Rel κ n s.1 a)(xh:κ.st=s.2)(h:kL c n ops i s s' k){K:Act→World→Prop}{Q:Exit→Act→World→Prop}
  (hK:∀ (a':Act) (κ':KS),κ'.st=s'.2→Inv κ'→Ext κ κ'→Rel κ' n s'.1 a'→c8 ops a a'→(∀ u:Nat,(∀ o,ops[i]? = some o→o.dst≠some u)→a'.tmps[u]? = a.tmps[u]?)→K a' κ'.w):wpOp c.P ops Q i K a κ.w:=by
 obtain⟨o,ho,hd,h⟩:=h
 have hu:∀ (v:Value) (u:Nat),(∀ o,ops[i]? = some o→o.dst≠some u)→(a.put o.dst v).tmps[u]? = a.tmps[u]? := by
  intro v u hn
  have:=hn o ho
  cases R9:o.dst with
  | none=>rfl
  | some t =>
   rw[R9]at this
   have u7:t≠u:=fun e=>this (by rw[e])
   simp[Act.put,Array.getElem?_setIfInBounds_ne u7]
 unfold wpOp
 rw[ho]
 simp only
 rcases h with⟨hw,_,d,zu,hl,rfl⟩ | ⟨hw,_,rfl⟩
 ·rw[if_pos (dI hR hw)]
  refine .inl (UW hC hI hR (xh▸hl) fun v κ' h1 h2 h3 h4=>hK _ κ' h1 h2 h3 ((hR.mono h3).put hd h4) (iW ho) (hu v))
 ·rw[if_neg (by rw[dI hR hw]; exact Bool.false_ne_true)]
  exact hK _ κ xh hI (Ext.refl κ) (hR.put hd fun d' j9=>by cases j9; exact Fm (v:=undef)) (iW ho) (hu undef)
def Ss(kd:Nat→Nat)(o:Oper)(i:Nat):Nat:=bif se o then 3 else kd i
def Nl(ops:Array Oper)(kd:Nat→Nat)(p i:Nat):Prop:=∀ x y,ops[p]? = some x→ops[i]? = some y →
 (∀ d,x.dst=some d→d ∉ tmpsOf ops y)∧(∀ d,y.dst=some d→d ∉ tmpsOf ops x)∧iE (Ss kd x p) (Ss kd y i)=false
theorem E2{k l:Nat}(hk:k≤2)(hl:l≤2)(h:iE k l=false):vO k l=false:=by
 have h1:Nat.beq k 3=false:=fk (by omega)
 have h2:Nat.beq l 3=false:=fk (by omega)
 simpa[iE,h1,h2]using h
theorem NN{k l:Nat}(hl:l≤2)(h:iE 3 l=false):vO k l=false:=by
 have h2:Nat.beq l 3=false:=fk (by omega)
 have h3:vO 2 l=false:=by simpa[iE,h2]using h
 have h0:l=0:=by
  match l,hl,h3 with
  | 0,_,_=>rfl
  | 1,_,h3=>cases h3
  | 2,_,h3=>cases h3
 subst h0
 simp[vO]
theorem Nf{k l:Nat}(hk:k≤2)(h:iE k 3=false):vO k l=false:=by
 have h2:Nat.beq k 3=false:=fk (by omega)
 have h3:vO k 2=false:=by simpa[iE,h2]using h
 have h0:k=0:=by
  match k,hk,h3 with
  | 0,_,_=>rfl
  | 1,_,h3=>cases h3
  | 2,_,h3=>cases h3
 subst h0
 simp[vO]
theorem Vi{kd:Nat→Nat}{p i:Nat}(h:Nl ops kd p i)(hp:kd p≤2)(hi:kd i≤2)(hn:¬ (bP ops p∧bP ops i)):OE ops kd p i:=by
 intro x y hx hy
 obtain⟨h1,h2,h3⟩:=h x y hx hy
 refine⟨h1,h2,?_⟩
 unfold Ss at h3
 cases hax:se x with
 | true =>
  cases hay:se y with
  | true=>exact(hn ⟨⟨x,hx,hax⟩,y,hy,hay⟩).elim
  | false=>rw[hax,hay]at h3; exact NN hi h3
 | false =>
  cases hay:se y with
  | true=>rw[hax,hay]at h3; exact Nf hp h3
  | false=>rw[hax,hay]at h3; exact E2 hp hi h3
theorem least{es:List Em}(h:es≠[]):∃ e∈es,∀ f∈es,e.i≤f.i:=by
 induction es with
 | nil=>exact absurd rfl h
 | cons e r ih =>
  by_cases hr:r=[]
  ·subst hr; exact⟨e,List.mem_cons_self,fun f hf=>by simp at hf; subst hf; exact Nat.le_refl _⟩
  ·obtain⟨g,hg,hm⟩:=ih hr
   by_cases hle:e.i≤g.i
   ·exact⟨e,List.mem_cons_self,fun f hf=>by
     rcases List.mem_cons.1 hf with rfl | hf
     ·exact Nat.le_refl _
     ·exact Nat.le_trans hle (hm f hf)⟩
   ·exact⟨g,List.mem_cons_of_mem _ hg,fun f hf=>by
     rcases List.mem_cons.1 hf with rfl | hf
     ·omega
     ·exact hm f hf⟩
def Lj(e f:Em):Prop:=e.i≠f.i∧e.blk≠f.blk∧e.d≠f.d
theorem Lj.symm{e f:Em}(h:Lj e f):Lj f e:=⟨h.1.symm,h.2.1.symm,h.2.2.symm⟩
theorem flush{kd:Nat→Nat}{κ0:KS}(uY:∀ p i,p<i→i<ops.size→ordered (qV ops.toList []) p i=true∨Nl ops kd p i)(yF:∀ i,i<ops.size→kd i≤2)
  {listed:Array Bool} (Z1:oi ops listed) (lz:∀ q,q<ops.size→bP ops q→listed.getD q true=true) {a:Act} {sf:F×St} :
  ∀ (m:Nat) (es:List Em) (qj:Array Bool) (κ:KS) (s:F×St),es.length=m→qj.size=ops.size→(∀ j,j<ops.size→qj.getD j true=true→listed.getD j true=true) →
  (∀ j,j<ops.size→listed.getD j true=true→qj.getD j true=false→∃ e∈es,e.i=j)→(∀ e∈es,e.i<ops.size∧listed.getD e.i true=true∧qj.getD e.i true=false)→es.Pairwise Lj →
  Inv κ→Rel κ n (jn es s.1) a→κ.st=s.2→Ext κ0 κ→(∀ e∈es,G6 c ops κ0 κ a e)→fZ c n ops kd (rest ops qj) s sf →
  ∃ (κ':KS) (s':F×St),κ'.w=κ.w∧κ'.st=s'.2∧Inv κ'∧Ext κ0 κ'∧Rel κ' n s'.1 a∧fZ c n ops kd (rest ops listed) s' sf:=by
 intro m
 induction m with
 | zero =>
  intro es qj κ s hl _ h1 h2 _ _ hI hR xh hx _ xQ
  obtain rfl:es=[]:=List.eq_nil_of_length_eq_zero hl
  refine⟨κ,s,rfl,xh,hI,hx,hR,?_⟩
  have:rest ops qj=rest ops listed:=by
   unfold rest
   refine List.filter_congr fun i hi => ?_
   have hi:=List.mem_range.1 hi
   cases ha:qj.getD i true with
   | true=>rw[h1 i hi ha]
   | false =>
    cases hb:listed.getD i true with
    | false=>rfl
    | true=>obtain⟨e,he,_⟩:=h2 i hi hb ha; cases he
  rw[← this]; exact xQ
 | succ m ih =>
  intro es qj κ s hl uj h1 h2 h3 Yr hI hR xh hx Lq xQ
  obtain⟨e,he,NT⟩:=least (es:=es) (fun h=>by rw[h]at hl; cases hl)
  obtain⟨l1,l2,rfl⟩:=List.append_of_mem he
  obtain⟨hei,Ov,hea⟩:=h3 e he
  have tF:∀ f,f∈l1++l2→f∈l1++e::l2:=fun f hf=>by
   rcases List.mem_append.1 hf with hf | hf
   ·exact List.mem_append_left _ hf
   ·exact List.mem_append_right _ (List.mem_cons_of_mem _ hf)
  have OX:∀ f,f∈l1++e::l2→f=e∨f∈l1++l2:=fun f hf=>by
   rcases List.mem_append.1 hf with hf | hf
   ·exact .inr (List.mem_append_left _ hf)
   ·rcases List.mem_cons.1 hf with rfl | hf
    ·exact .inl rfl
    ·exact .inr (List.mem_append_right _ hf)
  have Ln:∀ f∈l1++l2,Lj e f:=by
   intro f hf
   rw[List.pairwise_append]at Yr
   obtain⟨_,d2,d3⟩:=Yr
   rcases List.mem_append.1 hf with hf | hf
   ·exact(d3 f hf e List.mem_cons_self).symm
   ·exact(List.pairwise_cons.1 d2).1 f hf
  have BM:(l1++l2).Pairwise Lj:=Yr.sublist (List.Sublist.append_left (List.sublist_cons_self e l2) l1)
  obtain⟨pre,post,g1,g2,g3⟩:=yb (p:=fun i => !qj.getD i true) (q:=fun j => !(qj.setIfInBounds e.i true).getD j true) (i:=e.i) (List.range ops.size) List.pairwise_lt_range
   (List.mem_range.2 hei) (by simp[hea]) (fun j=>by
    rw[ur (by omega)]
    by_cases h:j=e.i
    ·subst h; simp
    ·simp[h])
  have E6:∀ p∈pre,OE ops kd p e.i:=by
   intro p hp
   obtain⟨q1,q2,q3⟩:=g3 p hp
   have q2:=List.mem_range.1 q2
   have hpa:qj.getD p true=false:=by simpa using q1
   have rD:listed.getD p true=false:=by
    cases hb:listed.getD p true with
    | false=>rfl
    | true =>
     obtain⟨f,hf,Kb⟩:=h2 p q2 hb hpa
     have:=NT f hf
     omega
   have hna:¬ bP ops p:=fun h=>by rw[lz p q2 h]at rD; cases rD
   rcases uY p e.i q3 hei with h | h
   ·have:=Z1 e.i hei Ov p h q2
    rw[this]at rD; cases rD
   ·exact Vi h (yF p q2) (yF e.i hei) fun hh=>hna hh.1
  have KE:fZ c n ops kd (pre++e.i::post) s sf:=by
   have:rest ops qj=pre++e.i::post:=g1
   rw[← this]; exact xQ
  obtain⟨s1,k1,k2⟩:=Qn E6 KE
  have hE:=Lq e he
  obtain⟨o,o1,o2,o3,o4⟩:=hE.op
  obtain⟨D,d1,d2,rfl⟩:=ZR o1 o2 o3 o4 k1
  obtain rfl:D=e.D:=Option.some.inj (d1.symm.trans hE.zero)
  obtain⟨iz,z1,z2,z3⟩:=hE.z
  obtain⟨p1,p2,p3⟩:=Mj hI hx hE.Sp hE.new (z3.rd κ) z3.jY z3.ty hE.heap
  have hup:=HJ hI e.blk e.z.cells.size e.D
  refine ih (l1++l2) (qj.setIfInBounds e.i true) (κ.push e.blk e.z.cells.size e.D) (ja s.1 (some e.d) (some (.ptr s.2.length 0)),s.2++[.var e.D]) (by simp at hl ⊢; omega) (by simp[uj]) (fun j hj ha => ?_) (fun j hj hb ha => ?_) (fun f hf => ?_) BM p1 ?_ (by show κ.st++_=s.2++_; rw[xh]) p2 (fun f hf => ?_) ?_
  ·rw[ur (by omega)]at ha
   split at ha
   ·rename_i h; subst h; exact Ov
   ·exact h1 j hj ha
  ·rw[ur (by omega)]at ha
   split at ha
   ·cases ha
   ·rename_i u7
    obtain⟨f,hf,Kb⟩:=h2 j hj hb ha
    rcases OX f hf with rfl | hf
    ·exact absurd Kb.symm u7
    ·exact⟨f,hf,Kb⟩
  ·obtain⟨f1,f2,f3⟩:=h3 f (tF f hf)
   refine⟨f1,f2,?_⟩
   rw[ur (by omega),if_neg (Ln f hf).1.symm]
   exact f3
  ·refine⟨hR.size,hR.defers,fun u d0 hu => ?_⟩
   obtain⟨u1,u2⟩:=WC hu
   simp only[ja]at u1
   by_cases Sg:u=e.d
   ·subst Sg
    rw[if_pos rfl]at u1
    cases u1
    rw[← xh]
    exact⟨_,hE.val,p3⟩
   ·rw[if_neg Sg]at u1
    have:jn (l1++e::l2) s.1 u=some d0:=by
     rw[oJ fun f hf hfu => ?_]
     ·exact u1
     ·rcases OX f hf with rfl | hf
      ·exact Sg hfu.symm
      ·exact u2 f hf hfu
    obtain⟨v,v1,v2⟩:=hR.get u d0 this
    exact⟨v,v1,v2.up hup⟩
  ·have hF:=Lq f (tF f hf)
   refine⟨hF.op,hF.zero,hF.z,hF.val,hF.heap,⟨hF.Sp.lt,hF.Sp.ok,fun b m hb => ?_⟩,hF.new⟩
   rcases mQ hb with hb | ⟨_,hb⟩
   ·exact hF.Sp.ph b m hb
   ·exact(Ln f hf).2.1 (congrArg Prod.fst (Option.some.inj hb)).symm
  ·have:rest ops (qj.setIfInBounds e.i true)=pre++post:=g2
   rw[this]; exact k2
theorem I4{listed:Array Bool}{i:Nat}(uj:listed.size=ops.size)(h1:i<ops.size)(h2:listed.getD i true=false):(rest ops listed).length=(rest ops (listed.setIfInBounds i true)).length+1:=by
 obtain⟨pre,post,g1,g2,_⟩:=yb (p:=fun i => !listed.getD i true) (q:=fun j => !(listed.setIfInBounds i true).getD j true) (i:=i) (List.range ops.size) List.pairwise_lt_range
  (List.mem_range.2 h1) (by simp[h2]) (fun j=>by
   rw[ur (by omega)]
   by_cases h:j=i
   ·subst h; simp
   ·simp[h])
 have e1:rest ops listed=pre++i::post:=g1
 have e2:rest ops (listed.setIfInBounds i true)=pre++post:=g2
 rw[e1,e2]
 simp only[List.length_append,List.length_cons]
 omega
theorem YB{listed:Array Bool}{i:Nat}(G5:kZ ops.toList 0=true)(uj:listed.size=ops.size)(Z1:oi ops listed)(h1:i<ops.size)
  (h3:∀ o,ops[i]? = some o→∀ e∈o.after.toList,Region.binds .any e=true→listed.getD e.on false=true) :
  (∀ p,ordered (qV ops.toList []) p i=true→p<ops.size→listed.getD p true=true)∧oi ops (listed.setIfInBounds i true):=by
 have JA:∀ p,ordered (qV ops.toList []) p i=true→p<ops.size→listed.getD p true=true:=by
  intro p hp qh
  obtain⟨r,_,_,hb⟩:=fK ops.toList []
  obtain⟨e,k1,k2,k3⟩:=hb i ops[i] (by simp) p (by simpa[ordered]using hp)
  have hle:=h3 _ (Array.getElem?_eq_getElem h1) e k1 k2
  have tK:=ff ops.toList 0 G5 i ops[i] (by simp) e k1 k2
  have Xz:listed.getD e.on true=true:=by
   rw[Array.getD_eq_getD_getElem?]at hle ⊢
   rw[Array.getElem?_eq_getElem (by omega)]at hle ⊢
   exact hle
  rcases k3 with rfl | ⟨_,k3⟩
  ·exact Xz
  ·exact Z1 e.on (by omega) Xz p k3 qh
 refine⟨JA,fun q hq Ci p hp qh => ?_⟩
 rw[ur (by omega)]at Ci ⊢
 split
 ·rfl
 ·split at Ci
  ·rename_i e; subst e; exact JA p hp qh
  ·exact Z1 q hq Ci p hp qh
theorem Ub{κ:KS}{a:Act}{es:List Em}{f:F}{e:Em}{v:Value}(hR:Rel κ n (jn es f) a):Rel κ n (jn (e::es) f) (a.put (some e.d) v):=by
 refine⟨by simp[Act.put,hR.size],hR.defers,fun u d hu => ?_⟩
 obtain⟨u1,u2⟩:=WC hu
 have u7:e.d≠u:=u2 e List.mem_cons_self
 have:jn es f u=some d:=by rw[oJ fun g hg=>u2 g (List.mem_cons_of_mem _ hg)]; exact u1
 obtain⟨w,w1,w2⟩:=hR.get u d this
 exact⟨w,by simp[Act.put,Array.getElem?_setIfInBounds_ne u7]; exact w1,w2⟩
theorem nR{kd:Nat→Nat}{Q:Exit→Act→World→Prop}(hC:∀ g,Uu c.P g (c.fn g))(G5:kZ ops.toList 0=true)
  (uY:∀ p i,p<i→i<ops.size→ordered (qV ops.toList []) p i=true∨Nl ops kd p i) (yF:∀ i,i<ops.size→kd i≤2)
  (lz:∀ p j,p<ops.size→bP ops p→j<ops.size→ordered (qV ops.toList []) p j=true→∀ q,q<ops.size→bP ops q→ordered (qV ops.toList []) q j=true)
  {κ0:KS} {a0:Act} {sf:F×St}:∀ (fuel:Nat) (listed qj:Array Bool) (es:List Em) {κ:KS} {a:Act} {s:F×St},
  listed.size=ops.size→qj.size=ops.size→fuel=(rest ops listed).length→oi ops listed→(∀ j,j<ops.size→qj.getD j true=true→listed.getD j true=true) →
  (∀ j,j<ops.size→listed.getD j true=true→qj.getD j true=false→∃ e∈es,e.i=j)→(∀ e∈es,e.i<ops.size∧listed.getD e.i true=true∧qj.getD e.i true=false)→es.Pairwise Lj →
  (∃ q,q<ops.size∧bP ops q∧listed.getD q true=false)→Inv κ→Rel κ n (jn es s.1) a→κ.st=s.2→Ext κ0 κ→(∀ e∈es,G6 c ops κ0 κ a e)→fZ c n ops kd (rest ops qj) s sf→c8 ops a0 a →
  (∀ (a':Act) (κ':KS),κ'.st=sf.2→Inv κ'→Ext κ0 κ'→Rel κ' n sf.1 a'→c8 ops a0 a'→Q .normal a' κ'.w)→wpAny c.P .any ops Q fuel listed a κ.w
 | 0,listed,qj,es,κ,a,s,uj,hszA,hfuel,Z1,h1,h2,h3,Yr,⟨q,q1,q2,q3⟩,hI,hR,xh,hx,Lq,xQ,hkp,hQ=>by
  have CG:rest ops listed=[]:=List.eq_nil_of_length_eq_zero hfuel.symm
  have:q∈rest ops listed:=by simp only[rest,List.mem_filter,List.mem_range,Bool.not_eq_true']; exact⟨q1,q3⟩
  rw[CG]at this; cases this
 | fuel+1,listed,qj,es,κ,a,s,uj,hszA,hfuel,Z1,h1,h2,h3,Yr,⟨q,q1,q2,q3⟩,hI,hR,xh,hx,Lq,xQ,hkp,hQ=>by
  refine⟨fun h => ?_,fun i hi => ?_⟩
  ·have CG:=Qg G5 uj h
   have:q∈rest ops listed:=by simp only[rest,List.mem_filter,List.mem_range,Bool.not_eq_true']; exact⟨q1,q3⟩
   rw[CG]at this; cases this
  rw[fx]at hi
  obtain⟨i1,i2,i3⟩:=hi
  obtain⟨JA,CM⟩:=YB G5 uj Z1 i1 i3
  have Gd:fuel=(rest ops (listed.setIfInBounds i true)).length:=by have:=I4 uj i1 i2; omega
  have hia:qj.getD i true=false:=by
   cases hb:qj.getD i true with
   | false=>rfl
   | true=>rw[h1 i i1 hb]at i2; cases i2
  have Ic:∀ p,p<ops.size→bP ops p→ordered (qV ops.toList []) p i=true→False:=by
   intro p p1 p2 p3
   have:=JA q (lz p i p1 p2 i1 p3 q q1 q2) q1
   rw[q3]at this; cases this
  have yy:∀ j,(listed.setIfInBounds i true).getD j true=if j=i then true else listed.getD j true:=fun j=>ur (by omega)
  by_cases ir:bP ops i
  ·-- a new variable is laid
   obtain⟨o,ho,hao⟩:=ir
   obtain⟨t,d,o1,o2,o3⟩:=Dt hao
   have him:i∈rest ops qj:=by simp only[rest,List.mem_filter,List.mem_range,Bool.not_eq_true']; exact⟨i1,hia⟩
   obtain⟨t1,t2,hos⟩:=Jd xQ him
   obtain⟨D,d1,d2,_⟩:=ZR ho o1 o2 o3 hos
   obtain⟨iz,z,z1,z2,z3⟩:=bZ d1
   obtain⟨w1,w2,w3,w4⟩:=MQ hI (.cells z.cells t)
   let e:Em:=⟨i,d,κ.w.heap.size,t,z,D⟩
   have z0k:(execOp a.eval o).run c.P κ.w=.ok (.value (.pointer (some ⟨κ.w.heap.size,0,none⟩))) (κ.w.alloc (.cells z.cells t)):=by
    obtain⟨dst,op,ty,pos,after,guard⟩:=o
    cases o1
    simp[execOp,Instr.alloc,zeroValue,typeInfo,z1,z2,newVar,newRow]
   have T6:Region.wanted o (yielded ops a.tmps)=true:=by unfold Region.wanted; rw[o2]
   unfold wpOp
   rw[ho]
   simp only
   rw[if_pos T6]
   refine .inl ?_
   unfold Oper.wp
   rw[z0k]
   show wpAny c.P Region.Mode.any ops Q fuel (listed.setIfInBounds i true) (a.put o.dst (Value.pointer (some { block:=κ.w.heap.size,off:=0 }))) (κ.w.alloc (Obj.cells z.cells t))
   rw[o3]
   have u7:∀ f∈es,f.d≠d:=by
    intro f hf ON
    obtain⟨f1,f2,f3⟩:=h3 f hf
    obtain⟨fo,NZ,fo2,TR,Oa⟩:=(Lq f hf).op
    have Kb:f.i≠i:=fun h=>by rw[h,i2]at f2; cases f2
    rcases Nat.lt_or_gt_of_ne Kb with qh | qh
    ·rcases uY f.i i qh i1 with h | h
     ·exact Ic f.i f1 ⟨fo,NZ,VX fo2 TR Oa⟩ h
     ·exact(h fo o NZ ho).1 f.d Oa (ON▸jc o3)
    ·rcases uY i f.i qh f1 with h | h
     ·have:=Z1 f.i f1 f2 i h i1; rw[i2]at this; cases this
     ·exact(h o fo ho NZ).1 d o3 (ON▸jc Oa)
   have z4R:G6 c ops κ0 { κ with w:=κ.w.alloc (.cells z.cells t) } (a.put (some d) (.pointer (some ⟨κ.w.heap.size,0,none⟩))) e :=
    ⟨⟨o,ho,o1,o2,o3⟩,d1,⟨iz,z1,z2,z3⟩,by simp[e,Act.put,hR.size,d2],w4,w3,hx.size⟩
   have z2a:∀ f∈e::es,G6 c ops κ0 { κ with w:=κ.w.alloc (.cells z.cells t) } (a.put (some d) (.pointer (some ⟨κ.w.heap.size,0,none⟩))) f:=by
    intro f hf
    rcases List.mem_cons.1 hf with rfl | hf
    ·exact z4R
    ·exact(Lq f hf).mono w2 (by simp[Act.put,Array.getElem?_setIfInBounds_ne (fun e'=>u7 f hf e'.symm)])
   have Nr:Rel { κ with w:=κ.w.alloc (.cells z.cells t) } n (jn (e::es) s.1) (a.put (some d) (.pointer (some ⟨κ.w.heap.size,0,none⟩))):=Ub (e:=e) (hR.mono w2)
   have hdE:∀ f∈es,Lj e f:=by
    intro f hf
    unfold Lj
    refine⟨fun h => ?_,fun h => ?_,fun h=>u7 f hf h.symm⟩
    ·have hf2:=(h3 f hf).2.1
     rw[← h]at hf2
     have i2':listed.getD e.i true=false:=i2
     rw[i2']at hf2
     cases hf2
    ·have hl:=(Lq f hf).Sp.lt
     rw[← h]at hl
     exact Nat.lt_irrefl _ hl
   have BM:(e::es).Pairwise Lj:=List.pairwise_cons.2 ⟨hdE,Yr⟩
   have T1:c8 ops a0 (a.put (some d) (.pointer (some ⟨κ.w.heap.size,0,none⟩))):=hkp.trans (by have:=iW (a:=a) (v:=.pointer (some ⟨κ.w.heap.size,0,none⟩)) ho; rw[o3]at this; exact this)
   have sF:∀ j,j<ops.size→qj.getD j true=true→(listed.setIfInBounds i true).getD j true=true:=fun j hj ha=>by
    rw[yy]; split
    ·rfl
    ·exact h1 j hj ha
   have Ni:∀ j,j<ops.size→(listed.setIfInBounds i true).getD j true=true→qj.getD j true=false→∃ f∈e::es,f.i=j:=fun j hj hb ha=>by
    rw[yy]at hb
    split at hb
    ·rename_i h; exact⟨e,List.mem_cons_self,h.symm⟩
    ·obtain⟨f,hf,Kb⟩:=h2 j hj hb ha; exact⟨f,List.mem_cons_of_mem _ hf,Kb⟩
   have h3':∀ f∈e::es,f.i<ops.size∧(listed.setIfInBounds i true).getD f.i true=true∧qj.getD f.i true=false:=fun f hf=>by
    rcases List.mem_cons.1 hf with rfl | hf
    ·exact⟨i1,by rw[yy]; exact if_pos rfl,hia⟩
    ·obtain⟨f1,f2,f3⟩:=h3 f hf
     exact⟨f1,by rw[yy]; split<;>first | rfl | exact f2,f3⟩
   by_cases hmore:∃ q,q<ops.size∧bP ops q∧(listed.setIfInBounds i true).getD q true=false
   ·exact nR hC G5 uY yF lz fuel (listed.setIfInBounds i true) qj (e::es) (κ:={ κ with w:=κ.w.alloc (.cells z.cells t) }) (by simp[uj]) hszA Gd CM sF Ni h3' BM hmore w1 Nr xh (hx.trans w2) z2a xQ T1 hQ
   ·-- all are laid
    have OM:∀ q,q<ops.size→bP ops q→(listed.setIfInBounds i true).getD q true=true:=fun q q1 q2=>by
     cases hb:(listed.setIfInBounds i true).getD q true with
     | true=>rfl
     | false=>exact(hmore ⟨q,q1,q2,hb⟩).elim
    obtain⟨κ',s',f1,f2,f3,f4,f5,f6⟩:=flush (c:=c) (n:=n) uY yF CM OM (e::es).length (e::es) qj { κ with w:=κ.w.alloc (.cells z.cells t) } s rfl hszA sF Ni h3' BM w1 Nr xh (hx.trans w2) z2a xQ
    have hgo:=QO (κ:=κ') hC G5 fuel (listed.setIfInBounds i true) (Q:=Q) (fun p j hpj hj hp=>(uY p j hpj hj).elim .inl fun h=>.inr (Vi h (yF p (by omega)) (yF j hj) fun hh=>by
     rw[OM p (by omega) hh.1]at hp; cases hp)) (by simp[uj]) Gd CM f3 f5 f2 f6 fun a' Cg e1 e2 e3 e4 e5=>hQ a' Cg e1 e2 (f4.trans e3) e4 (T1.trans e5)
    rw[f1]at hgo
    exact hgo
  ·-- another operation
   have OS:∀ o,ops[i]? = some o→∀ e∈es,e.d ∉ tmpsOf ops o:=by
    intro o ho f hf
    obtain⟨f1,f2,f3⟩:=h3 f hf
    obtain⟨fo,NZ,fo2,TR,Oa⟩:=(Lq f hf).op
    have Kb:f.i≠i:=fun h=>by rw[h,i2]at f2; cases f2
    rcases Nat.lt_or_gt_of_ne Kb with qh | qh
    ·rcases uY f.i i qh i1 with h | h
     ·exact(Ic f.i f1 ⟨fo,NZ,VX fo2 TR Oa⟩ h).elim
     ·exact(h fo o NZ ho).1 f.d Oa
    ·rcases uY i f.i qh f1 with h | h
     ·have:=Z1 f.i f1 f2 i h i1; rw[i2]at this; cases this
     ·exact(h o fo ho NZ).2.1 f.d Oa
   obtain⟨pre,post,g1,g2,g3⟩:=yb (p:=fun i => !qj.getD i true) (q:=fun j => !(qj.setIfInBounds i true).getD j true) (i:=i) (List.range ops.size) List.pairwise_lt_range
    (List.mem_range.2 i1) (by simp[hia]) (fun j=>by
     rw[ur (by omega)]
     by_cases h:j=i
     ·subst h; simp
     ·simp[h])
   have E6:∀ p∈pre,OE ops kd p i:=by
    intro p hp
    obtain⟨r1,r2,r3⟩:=g3 p hp
    have r2:=List.mem_range.1 r2
    have r1:qj.getD p true=false:=by simpa using r1
    rcases uY p i r3 i1 with h | h
    ·obtain⟨f,hf,Kb⟩:=h2 p r2 (JA p h r2) r1
     obtain⟨fo,NZ,fo2,TR,Oa⟩:=(Lq f hf).op
     exact(Ic p r2 ⟨fo,by rw[← Kb]; exact NZ,VX fo2 TR Oa⟩ h).elim
    ·exact Vi h (yF p r2) (yF i i1) fun hh=>ir hh.2
   have KE:fZ c n ops kd (pre++i::post) s sf:=by
    have:rest ops qj=pre++i::post:=g1
    rw[← this]; exact xQ
   obtain⟨s1,k1,k2⟩:=Qn E6 KE
   refine CV (s:=(jn es s.1,s.2)) (s':=(jn es s1.1,s1.2)) hC hI hR xh (G8 k1 OS) fun a1 κ1 e1 e2 e3 e4 e5 e6 => ?_
   have EA:∀ j,(qj.setIfInBounds i true).getD j true=if j=i then true else qj.getD j true:=fun j=>ur (by omega)
   refine nR hC G5 uY yF lz fuel (listed.setIfInBounds i true) (qj.setIfInBounds i true) es (κ:=κ1) (s:=s1) (by simp[uj]) (by simp[hszA]) Gd CM (fun j hj ha => ?_) (fun j hj hb ha => ?_) (fun f hf => ?_) Yr
    ⟨q,q1,q2,?_⟩ e2 e4 e1 (hx.trans e3) (fun f hf=>(Lq f hf).mono e3 (e6 f.d fun o ho hod=>OS o ho f hf (jc hod))) ?_ (hkp.trans e5) hQ
   ·rw[EA]at ha; rw[yy]
    split
    ·rfl
    ·rename_i h; rw[if_neg h]at ha; exact h1 j hj ha
   ·rw[EA]at ha; rw[yy]at hb
    split at ha
    ·cases ha
    ·rename_i h; rw[if_neg h]at hb; exact h2 j hj hb ha
   ·obtain⟨f1,f2,f3⟩:=h3 f hf
    have Kb:f.i≠i:=fun h=>by rw[h,i2]at f2; cases f2
    exact⟨f1,by rw[yy,if_neg Kb]; exact f2,by rw[EA,if_neg Kb]; exact f3⟩
   ·have hqi:q≠i:=fun h=>ir (by rw[← h]; exact q2)
    rw[yy,if_neg hqi]; exact q3
   ·have:rest ops (qj.setIfInBounds i true)=pre++post:=g2
    rw[this]; exact k2
theorem nO{kd:Nat→Nat}:∀ {l:List Oper} {ks:List Nat} {i j:Nat} {o:Oper},l[i]? = some o→ks[i]? = some (kd j)→(ZN l ks)[i]? = some (Ss kd o j)
 | [],_,i,_,_,h,_=>by simp at h
 | _::_,[],i,_,_,_,h=>by simp at h
 | x::l,k::ks,0,j,o,h1,h2=>by simp at h1 h2; subst h1; subst h2; rfl
 | x::l,k::ks,i+1,j,o,h1,h2=>by
  have:=nO (kd:=kd) (l:=l) (ks:=ks) (i:=i) (j:=j) (o:=o) (by simpa using h1) (by simpa using h2)
  simpa[ZN]using this
theorem XJ:∀ {l:List Oper} {k i:Nat} {o:Oper},l[i]? = some o→se o=true→k+i∈Zy l k
 | [],_,_,_,h,_=>by simp at h
 | x::l,k,0,o,h1,h2=>by simp at h1; subst h1; simp[Zy,h2]
 | x::l,k,i+1,o,h1,h2=>by
  have:=XJ (l:=l) (k:=k+1) (i:=i) (o:=o) (by simpa using h1) h2
  rw[show k+1+i=k+(i+1) by omega]at this
  simp only[Zy]
  cases se x with
  | true=>exact List.mem_cons_of_mem _ this
  | false=>exact this
theorem sC{kd:Nat→RK}:∀ (l:List Nat) (s s':F×St) (ks:List RK),C0 c n ops l s s' ks→ks=l.map kd→Zf (fun i s s'=>gX c n ops i s s' (kd i)) l s s'
 | [],s,s',ks,h,_=>h.1
 | i::l,s,s',ks,⟨s1,k,GP,e,h1,h2⟩,hk=>by
  subst e
  simp only[List.map_cons,List.cons.injEq]at hk
  obtain⟨rfl,hk⟩:=hk
  exact⟨s1,h1,sC l s1 s' GP h2 hk⟩
theorem Cd{κ:KS}{a:Act}{id:Nat}{draw:Bool}{fr:Fr}{kn:Kn}{s':b4}(hm:c.P.follows .mixedOrders=true)(hC:∀ g,Uu c.P g (c.fn g))(hI:Inv κ)(hR:Rel κ n fr.get a)(hk:wW kn fr.get)
  (h:(yO c n ops draw fr kn κ.st).leads s') {Q:Exit→Act→World→Prop} (hQ:∀ (a':Act) (κ':KS),κ'.st=s'.st→Inv κ'→Ext κ κ'→Rel κ' n s'.fr.get a'→c8 ops a a'→Q .normal a' κ'.w) :
  (Code.region id ops draw).wp c.P Q a κ.w∧wW s'.kn s'.fr.get:=by
 simp only[yO,T.zH]at h
 obtain⟨s1,h1,h2⟩:=h
 obtain⟨ks,g1,g2,g3⟩:=c9 ops.toList 0 ⟨fr,kn,κ.st,[],[]⟩ s1 (fun j=>.inl (by simp)) hk h1
 simp only[List.append_nil]at g3
 have hl:ops.toList.length=ops.size:=by simp
 rw[hl,← List.range_eq_range']at g1
 cases hd:(!draw||oc ops s1.ks.reverse s1.bk.reverse)with
 | false=>rw[hd]at h2; exact h2.elim
 | true =>
  rw[hd,cond_true]at h2
  cases h2
  refine⟨?_,g2⟩
  cases draw with
  | false=>exact wp_region (BE hC _ hI hR rfl g1 hQ)
  | true =>
   simp only[Bool.not_true,Bool.false_or,oc,Bool.or_eq_true]at hd
   obtain⟨Pr,r1,r3⟩:=tq (ops:=ops) ops.toList 0 ⟨fr,kn,κ.st,[],[]⟩ _ (fun j=>.inl (by simp)) hk h1
   simp only[List.append_nil]at r3
   rw[hl,← List.range_eq_range']at r1
   let kd:Nat→Nat:=fun i=>ks.getD i 0
   have hkl:ks.length=ops.size:=by rw[Ko _ _ _ _ g1]; simp
   have hks:ks=(List.range ops.size).map kd:=by
    apply List.ext_getElem?
    intro i
    by_cases hi:i<ops.size
    ·simp[kd,hi,List.getD,List.getElem?_eq_getElem (show i<ks.length by omega)]
    ·rw[List.getElem?_eq_none (by omega),List.getElem?_eq_none (by simp; omega)]
   have xQ:=Q6 (kd:=kd) _ _ _ _ g1 hks
   refine wp_region_any hm ?_
   let κd:KS:={ κ with w:=κ.w.drew }
   have hx:Ext κ κd:=⟨rfl,rfl,rfl,Nat.le_refl _,fun k hk=>⟨hk,rfl⟩,fun k hk=>.inl hk,fun _ _ _ h=>.inl h,fun b d h=>⟨⟨d,h⟩,rfl⟩,
    fun b v0 e xs h=>.inr ⟨v0,xs,h,Nat.le_refl _,fun _=>⟨rfl,rfl⟩⟩,fun _ h=>h,Nat.le_refl _,fun k _ _=>rfl⟩
   have hId:Inv κd:=⟨hI.len,hI.kY,hI.apart,hI.inj,fun b y hy=>(hI.blk b y hy).mono hx rfl fun _ _ _=>rfl,hI.gl.mono hx.same⟩
   have lW:rest ops (Array.replicate ops.size false)=List.range ops.size:=by
    unfold rest
    rw[List.filter_eq_self]
    intro i hi
    have:=List.mem_range.1 hi
    simp[Array.getD_eq_getD_getElem?,this]
   have W3:∀ j,j<ops.size→(Array.replicate ops.size false).getD j true=false:=fun j hj=>by simp[Array.getD_eq_getD_getElem?,hj]
   have MT:oi ops (Array.replicate ops.size false):=fun q hq Ci=>by rw[W3 q hq]at Ci; cases Ci
   have JE:∀ i,i<ops.size→ks[i]? = some (kd i):=fun i hi=>by simp[kd,List.getD,List.getElem?_eq_getElem (show i<ks.length by omega)]
   have sJ:∀ i (hi:i<ops.size),ops.toList[i]? = some ops[i]:=fun i hi=>by simp
   rcases hd with(hd | hd) | hd
   ·simp only[B1,Bool.and_eq_true]at hd
    obtain⟨d1,d2⟩:=hd
    rw[g3,List.reverse_reverse]at d2
    have uY:∀ p i,p<i→i<ops.size→ordered (qV ops.toList []) p i=true∨OE ops kd p i:=by
     intro p i Uz hi
     have hp:=fI ops.toList ks 0 [] d2 i ops[i] (kd i) (sJ i hi) (JE i hi)
     have:=hp.2 p ops[p] (kd p) Uz (sJ p (by omega)) (JE p (by omega))
     simp only[Nat.zero_add]at this
     refine yE this (fun h=>h) fun PX x y hx hy => ?_
     rw[Array.getElem?_eq_getElem (by omega)]at hx hy
     cases hx
     cases hy
     exact PX
    exact QO (κ:=κd) hC d1 ops.size _ (fun p i h1 h2 _=>uY p i h1 h2) (by simp) (by rw[lW]; simp) MT hId (hR.mono hx) rfl (by rw[lW]; exact xQ) fun a' κ' e1 e2 e3 e4 e5=>hQ a' κ' e1 e2 (hx.trans e3) e4 e5
   ·simp only[H8,Bool.and_eq_true]at hd
    obtain⟨⟨⟨d1,d0⟩,d2⟩,d3⟩:=hd
    rw[g3,List.reverse_reverse]at d0 d2
    have yF:∀ i,i<ops.size→kd i≤2:=fun i hi=>Nat.le_of_ble_eq_true (List.all_eq_true.1 d0 _ (List.mem_of_getElem? (JE i hi)))
    have uY:∀ p i,p<i→i<ops.size→ordered (qV ops.toList []) p i=true∨Nl ops kd p i:=by
     intro p i Uz hi
     have hp:=fI ops.toList (ZN ops.toList ks) 0 [] d2 i ops[i] (Ss kd ops[i] i) (sJ i hi) (nO (sJ i hi) (JE i hi))
     have:=hp.2 p ops[p] (Ss kd ops[p] p) Uz (sJ p (by omega)) (nO (sJ p (by omega)) (JE p (by omega)))
     simp only[Nat.zero_add]at this
     refine yE this (fun h=>h) fun PX x y hx hy => ?_
     rw[Array.getElem?_eq_getElem (by omega)]at hx hy
     cases hx
     cases hy
     exact PX
    have lz:∀ p j,p<ops.size→bP ops p→j<ops.size→ordered (qV ops.toList []) p j=true→∀ q,q<ops.size→bP ops q→ordered (qV ops.toList []) q j=true:=by
     intro p j hp PX hj ho q hq haq
     unfold KP at d3
     have:=List.all_eq_true.1 d3 j (List.mem_range.2 (by simpa using hj))
     simp only[Bool.or_eq_true,Bool.not_eq_true',List.any_eq_false,List.all_eq_true]at this
     have hm:∀ r,bP ops r→r∈Zy ops.toList 0:=fun r ⟨o,h1,h2⟩=>by
      have:=XJ (l:=ops.toList) (k:=0) (i:=r) (o:=o) (by rw[Array.getElem?_toList]; exact h1) h2
      rwa [Nat.zero_add]at this
     rcases this with h | h
     ·have:=h p (hm p PX); rw[ho]at this; exact absurd rfl this
     ·exact h q (hm q haq)
    by_cases hex:∃ q,q<ops.size∧bP ops q
    ·obtain⟨q,q1,q2⟩:=hex
     exact nR (κ0:=κd) (κ:=κd) (a0:=a) hC d1 uY yF lz ops.size _ (Array.replicate ops.size false) [] (by simp) (by simp) (by rw[lW]; simp) MT (fun j hj h=>by rw[W3 j hj]at h; cases h)
      (fun j hj h _=>by rw[W3 j hj]at h; cases h) (fun e he=>by cases he) .nil ⟨q,q1,q2,W3 q q1⟩ hId (hR.mono hx) rfl (Ext.refl _) (fun e he=>by cases he) (by rw[lW]; exact xQ) (c8.refl _ _)
      fun a' κ' e1 e2 e3 e4 e5=>hQ a' κ' e1 e2 (hx.trans e3) e4 e5
    ·exact QO (κ:=κd) hC d1 ops.size _ (fun p i h1 h2 _=>(uY p i h1 h2).elim .inl fun h=>.inr (Vi h (yF p (by omega)) (yF i h2) fun hh=>hex ⟨p,by omega,hh.1⟩)) (by simp) (by rw[lW]; simp) MT hId (hR.mono hx) rfl (by rw[lW]; exact xQ) fun a' κ' e1 e2 e3 e4 e5=>hQ a' κ' e1 e2 (hx.trans e3) e4 e5
   ·simp only[Hl,Bool.and_eq_true]at hd
    obtain⟨d1,d2⟩:=hd
    rw[r3,List.reverse_reverse]at d2
    let kr:Nat→RK:=fun i=>Pr.getD i (.z 0)
    have hrl:Pr.length=ops.size:=by rw[Wy _ _ _ _ r1]; simp
    have z61:Pr=(List.range ops.size).map kr:=by
     apply List.ext_getElem?
     intro i
     by_cases hi:i<ops.size
     ·simp[kr,hi,List.getD,List.getElem?_eq_getElem (show i<Pr.length by omega)]
     ·rw[List.getElem?_eq_none (by omega),List.getElem?_eq_none (by simp; omega)]
    have Oj:∀ i,i<ops.size→Pr[i]? = some (kr i):=fun i hi=>by simp[kr,List.getD,List.getElem?_eq_getElem (show i<Pr.length by omega)]
    have z0d:=sC (kd:=kr) _ _ _ _ r1 z61
    have uY:∀ p i,p<i→i<ops.size→ordered (qV ops.toList []) p i=true∨Rd ops kr p i:=by
     intro p i Uz hi
     have hp:=fI ops.toList Pr 0 [] d2 i ops[i] (kr i) (sJ i hi) (Oj i hi)
     have:=hp.2 p ops[p] (kr p) Uz (sJ p (by omega)) (Oj p (by omega))
     simp only[Nat.zero_add]at this
     refine yE this (fun h=>h) fun PX x y hx hy => ?_
     rw[Array.getElem?_eq_getElem (by omega)]at hx hy
     cases hx
     cases hy
     exact PX
    exact sg (κ:=κd) (Stp:=fun i s s'=>gX c n ops i s s' (kr i)) (In:=fun p i=>Rd ops kr p i) (fun i s s' h=>h.plain) (fun p i hi s s1 s2 h1 h2=>Yc hi h1 h2) hC d1 ops.size _ (fun p i h1 h2 _=>uY p i h1 h2) (by simp) (by rw[lW]; simp) MT hId (hR.mono hx) rfl (by rw[lW]; exact z0d) fun a' κ' e1 e2 e3 e4 e5=>hQ a' κ' e1 e2 (hx.trans e3) e4 e5
end
end Go.AM
namespace Go.AM
set_option linter.unusedSectionVars false
variable [vP] [Xl]
def KF(κ:KS):Ex→Exit→Prop
 | .normal,e=>e=.normal
 | .exit id,e=>e=.exit id
 | .ret,e=>e=.ret
 | .jq d,e=>∃ v,e=.panic [{ v,recovered:=false }]∧RD κ d v
section
variable {c:Ctx} {n:Nat}
def qY:Code→List (Nat×Code)
 | .seq a b=>qY a++qY b
 | .cond _ a b=>qY a++qY b
 | .block id (.loop b)=>[(id,b)]
 | .block _ a=>qY a
 | _=>[]
theorem Cx{ops:Array Oper}{draw:Bool}{fr:Fr}{kn:Kn}{st:St}{s':b4}(hk:wW kn fr.get)(h:(yO c n ops draw fr kn st).leads s'):wW s'.kn s'.fr.get:=by
 simp only[yO,T.zH]at h
 obtain⟨s1,h1,h2⟩:=h
 obtain⟨ks,g1,g2,g3⟩:=c9 ops.toList 0 ⟨fr,kn,st,[],[]⟩ s1 (fun j=>.inl (by simp)) hk h1
 cases hd:(!draw||oc ops s1.ks.reverse s1.bk.reverse)with
 | false=>rw[hd]at h2; exact h2.elim
 | true=>rw[hd,cond_true]at h2; cases h2; exact g2
theorem gx(f:F):wW [] f:=fun t b h=>by cases h
theorem Kq{id:Nat}{b:Code}(hb:∀ b',b≠.loop b'):qY (.block id b)=qY b:=by
 cases b<;>first | rfl | exact absurd rfl (hb _)
end
end Go.AM
namespace Go.AM
set_option linter.unusedSectionVars false
variable [vP] [Xl]
section
variable {c:Ctx} {n:Nat}
theorem Wj:∀ (ds:List D) (i s:Nat),(w9 ds i).get s=if i≤s then ds[s-i]? else none
 | [],i,s=>by simp[w9,Fr.get]
 | d::r,i,s=>by
  simp only[w9,Fr.get]
  by_cases h:i=s
  ·subst h; simp
  ·rw[fk h,cond_false,Wj r (i+1) s]
   by_cases h1:i+1≤s
   ·rw[if_pos h1,if_pos (by omega)]
    rw[show s-i=(s-(i+1))+1 by omega,List.getElem?_cons_succ]
   ·rw[if_neg h1,if_neg (by omega)]
theorem ox{κ:KS}{args:List D}{zM:List Value}(h:qG κ args zM)(hn:args.length≤n) :
  Rel κ n (w9 args 0).get { tmps:=zM.toArray++Array.replicate (n-zM.toArray.size) undef,defers:=Xl.df }:=by
 have hl:=h.1
 refine⟨by simp; omega,rfl,fun s d hd => ?_⟩
 rw[Wj]at hd
 simp only[Nat.zero_le,if_true,Nat.sub_zero]at hd
 obtain⟨v,h1,h2⟩:=h.get hd
 refine⟨v,?_,h2⟩
 have qh:=(List.getElem?_eq_some_iff.1 h1).1
 rw[Array.getElem?_append_left (by simpa using qh)]
 simpa using h1
theorem nA{κ:KS}{fr:Fr}{a:Act}(hI:Inv κ)(hR:Rel κ n fr.get a):∀ (rvs:List ResultVar) (ds:List D),(yD c fr κ.st rvs).leads ds →
  ∃ vs:List Value,Sem.run c.P (rvs.mapM fun r=>match r with | ResultVar.tmp t=>(Pure.pure (a.tmps.getD t undef):Sem Value) | ResultVar.cell p t=>do loadVar t (← asAddr (a.tmps.getD p undef))) κ.w=Result.ok vs κ.w∧qG κ ds vs
 | [],ds,h=>by cases h; exact⟨[],by simp,.nil⟩
 | .tmp t::r,ds,h=>by
  simp only[yD]at h
  split at h
  ·rename_i d hd
   simp only[T.zH]at h
   obtain⟨l,hl,rfl⟩:=h
   obtain⟨v,h1,h2⟩:=hR.get t d hd
   obtain⟨vs,h3,h4⟩:=nA hI hR r l hl
   refine⟨v::vs,?_,.cons h2 h4⟩
   simp only[List.mapM_cons,Sem.run_bind,Sem.run_pure,Result.andThen_ok,h3]
   simp[Array.getD_eq_getD_getElem?,h1]
  ·exact h.elim
 | .cell p t::r,ds,h=>by
  simp only[yD]at h
  split at h
  ·rename_i b off hd
   split at h
   ·rename_i d hb
    split at h
    ·rename_i x hx
     simp only[T.zH]at h
     obtain⟨l,hl,rfl⟩:=h
     obtain⟨v,h1,h2⟩:=hR.get p _ hd
     obtain⟨vs,h3,h4⟩:=nA hI hR r l hl
     cases h2 with
     | ptr _ _ blk m d1 Hk hp =>
      obtain⟨iu,n',cs,T,g1,g2,g3,g4,g5⟩:=hI.blk b _ hb
      rw[hp]at g1
      cases g1
      obtain⟨u,e1,e2⟩:=Qv (c:=c) (blk:=blk) 0 hx g4 g5.1 (fun j v hj=>by rw[mj g2]; simpa using hj)
      rw[Nat.zero_add]at e1
      refine⟨u::vs,?_,.cons e2 h4⟩
      have hA:(asAddr (a.tmps.getD p undef)).run c.P κ.w=.ok ⟨blk,off,none⟩ κ.w:=by simp[Array.getD_eq_getD_getElem?,h1,asAddr]
      simp only[List.mapM_cons,Sem.run_bind,hA,Result.andThen_ok,e1,h3,Sem.run_pure]
    ·exact h.elim
   ·exact h.elim
  ·exact h.elim
def Fa:List Value→Value
 | [v]=>v
 | vs=>.tuple vs.toArray
theorem fE{κ:KS}{fr:Fr}{a:Act}{fn:Func}{ds:List D}(hI:Inv κ)(hR:Rel κ n fr.get a)(h:(yD c fr κ.st fn.results.toList).leads ds) :
  ∃ vs:List Value,(results fn a.tmps).run c.P κ.w=.ok (Fa vs) κ.w∧qG κ ds vs:=by
 obtain⟨vs,h1,h2⟩:=nA hI hR _ _ h
 refine⟨vs,?_,h2⟩
 simp only[results,Array.mapM_eq_mapM_toList,Sem.run_bind,Sem.run_map]
 have key:∀ r:Result (List Value),r=.ok vs κ.w→((r.andThen fun a w'=>.ok a.toArray w').andThen fun a w'=>(Pure.pure (if h:a.size=1 then a[0]else .tuple a):Sem Value).run c.P w')=.ok (Fa vs) κ.w:=by
  rintro _ rfl
  simp only[Result.andThen_ok,Sem.run_pure]
  congr 1
  match vs with
  | []=>rfl
  | [v]=>rfl
  | _::_::_=>rfl
 exact key _ h1
theorem o7{κ:KS}{ds:List D}{vs:List Value}(h:qG κ ds vs):RD κ (jU ds) (Fa vs):=by
 match ds,vs,h with
 | [],vs,h=>rw[h.qo]; exact .jY [] [] rfl (fun i h=>absurd h (Nat.not_lt_zero i))
 | [d],vs,h =>
  obtain⟨v,r,rfl,h1,h2⟩:=h.cons_inv
  rw[h2.qo]
  exact h1
 | d::e::r,vs,h =>
  obtain⟨v,us,rfl,h1,h2⟩:=h.cons_inv
  obtain⟨u,ws,rfl,h3,h4⟩:=h2.cons_inv
  exact .jY _ _ h.1 h.2
def KS.cut(κ:KS)(m:Nat):KS:={ κ with ph:=κ.ph.take m,st:=κ.st.take m }
theorem zV{α:Type}{l:List α}{m i:Nat}{a:α}(h:l[i]? = some a)(hi:i<m):(l.take m)[i]? = some a:=by rw[List.getElem?_take,if_pos hi]; exact h
theorem yp{α:Type}{l:List α}{m i:Nat}{a:α}(h:(l.take m)[i]? = some a):l[i]? = some a∧i<m:=by
 rw[List.getElem?_take]at h
 split at h
 ·rename_i hi; exact⟨h,hi⟩
 ·cases h
theorem b5{κ:KS}{m:Nat}{d:D}{v:Value}(h:RD κ d v)(hd:vj m d=true):RD (κ.cut m) d v:=by
 cases h with
 | zi τ y cs h=>exact .zi τ y cs h
 | qW e a=>exact .qW e a
 | tight e l ne blk off f u7 w8 h hc=>exact .tight e l ne blk off f u7 w8 h hc
 | xb=>exact .xb
 | jE=>exact .jE
 | qQ=>exact .qQ
 | vr=>exact .vr
 | vq=>exact .vq
 | pn v h=>exact .pn v h
 | gz T=>exact .gz T
 | h9 b T d hb=>exact .h9 b T d (zV hb (Nat.le_of_ble_eq_true hd))
 | bC b T blk n d hb h=>exact .bC b T blk n d (zV hb (Nat.le_of_ble_eq_true hd)) (zV h (Nat.le_of_ble_eq_true hd))
 | ptr b off blk n d hb h=>exact .ptr b off blk n d (zV hb (Nat.le_of_ble_eq_true hd)) (zV h (Nat.le_of_ble_eq_true hd))
 | qK τ y cs blk off w8 h hc=>exact .qK τ y cs blk off w8 h hc
 | vM b qs e idx off blk o hb h =>
  have qh:b<m:=Nat.le_of_ble_eq_true hd
  refine .vM b qs e idx off blk o (yE hb (fun h=>zV h qh) ?_) fun xs hx hi => ?_
  ·rintro⟨v0,e0,x0,h1,h2⟩; exact⟨v0,e0,x0,zV h1 qh,h2⟩
  ·obtain⟨n,h1,h2⟩:=h xs (yp hx).1 hi
   exact⟨n,zV h1 qh,h2⟩
 | ms b qs e off len cap a hb vx ha mZ h =>
  have qh:b<m:=Nat.le_of_ble_eq_true hd
  refine .ms b qs e off len cap a (yE hb (fun h=>zV h qh) ?_) vx ha mZ fun xs hx => ?_
  ·rintro⟨v0,e0,x0,h1,h2⟩; exact⟨v0,e0,x0,zV h1 qh,h2⟩
  ·obtain⟨h1,h2⟩:=h xs (yp hx).1
   refine⟨h1,yE h2 ?_ ?_⟩
   ·rintro⟨g1,g2,g3,g4⟩; exact⟨g1,g2,g3,zV g4 qh⟩
   ·rintro⟨blk,n,o,Dg,g1,g2⟩; exact⟨blk,n,o,Dg,zV g1 qh,g2⟩
 | xg=>cases hd
 | agg=>cases hd
 | jY=>cases hd
 | iface=>cases hd
theorem YD{κ:KS}{m:Nat}{d:D}{v:Value}(h:RD κ d v)(hd:kV m d=true):RD (κ.cut m) d v:=by
 cases d with
 | xg f l =>
  cases h with
  | xg _ _ vs hl hh =>
   simp only[kV,List.all_eq_true]at hd
   exact .xg f l vs hl fun i h1 h2=>b5 (hh i h1 h2) (hd _ (List.getElem_mem h1))
 | agg l =>
  cases h with
  | agg _ vs hl ho hh =>
   simp only[kV,List.all_eq_true]at hd
   exact .agg l vs hl ho fun i h1 h2=>b5 (hh i h1 h2) (hd _ (List.getElem_mem h1))
 | jY l=>cases hd
 | iface t d =>
  cases h with
  | iface _ _ v h=>exact .iface t _ v (b5 h hd)
 | _=>exact b5 h hd
theorem H2{κ:KS}{m:Nat}{l:List D}{vs:List Value}(h:qG κ l vs)(hd:∀ d∈l,kV m d=true):qG (κ.cut m) l vs:=⟨h.1,fun i h1 h2=>YD (h.2 i h1 h2) (hd _ (List.getElem_mem h1))⟩
theorem Ur{m:Nat}{d:D}(h:kV m d=true):∀ x∈zW d,kV m x=true:=by
 have Uw:∀ (τ:Ty) (x:den τ),∀ y∈flat τ x,kV m y=true:=by
  intro τ x y hy
  have:=gH τ x y hy
  have:∃ σ z,y=.zi σ z:=by
   clear this h
   induction τ with
   | cons a b ia ib =>
    simp only[flat,List.mem_append]at hy
    rcases hy with hy | hy
    ·exact ia _ hy
    ·exact ib _ hy
   | nil=>simp[flat]at hy
   | expr=>simp[flat]at hy; rcases hy with rfl | rfl | rfl | rfl | rfl | rfl<;>exact⟨_,_,rfl⟩
   | _=>simp[flat]at hy; subst hy; exact⟨_,_,rfl⟩
  obtain⟨σ,z,rfl⟩:=this
  rfl
 cases d with
 | zi τ x=>exact Uw τ x
 | agg l =>
  intro x hx
  simp only[kV,List.all_eq_true]at h
  have:=h x hx
  cases x<;>first | exact this | cases this
 | jY l=>cases h
 | _=>intro x hx; simp[zW]at hx; subst hx; exact h
theorem Nc{κ:KS}{m:Nat}(hI:Inv κ)(hc:∀ x∈κ.st.take m,Vx m x=true):Inv (κ.cut m):=by
 refine⟨by simp[KS.cut,hI.len],hI.kY,fun b blk n h=>hI.apart b blk n (yp h).1,fun b b' blk n n' h h'=>hI.inj b b' blk n n' (yp h).1 (yp h').1,fun b x h => ?_,hI.gl⟩
 obtain⟨h1,h2⟩:=yp h
 have hb:=hI.blk b x h1
 have hcx:=hc x (List.mem_of_getElem? h)
 cases x with
 | dead=>trivial
 | var d =>
  obtain⟨blk,n,cs,t,g1,g2,g3,g4,g5⟩:=hb
  exact⟨blk,n,cs,t,zV g1 h2,g2,g3,H2 g4 (Ur hcx),g5⟩
 | arr qs e xs =>
  obtain⟨h0,hb⟩:=hb
  refine⟨h0,yE hb (fun h=>⟨h.1,zV h.2 h2⟩) ?_⟩
  rintro⟨blk,n,cs,t,g1,g2⟩
  exact⟨blk,n,cs,t,zV g1 h2,g2⟩
end
end Go.AM
namespace Go.AM
set_option linter.unusedSectionVars false
variable [vP]
section
variable {c:Ctx}
theorem wx{P:Program}{f:Nat}{fn:Func}{args:Array Value}(hf:P.funcs[f]? = some fn) (hn:(fn.name == "runtime.NumGoroutine")=false) (hb:fn.body.isNone=false) (w:World) :
  (callFunc f args).run P w=.ok (.enter f args) w:=by
 simp only[callFunc,Sem.run_bind,run_program,Result.andThen_ok,hf,hn,hb,Bool.false_eq_true,if_false,Sem.run_pure]
theorem CB{κ κe:KS}(hI:Inv κ)(xh:κ.st=[])(hIe:Inv κe)(hx:Ext κ κe):Inv (κe.bare (DQ κe))∧Ext κ (κe.bare (DQ κe)):=by
 have sP:κ.ph=[]:=List.eq_nil_of_length_eq_zero (by rw[hI.len,xh]; rfl)
 have qh:∀ k,DQ κe k→k<κe.w.heap.size:=by
  rintro k (hk | ⟨b,n,hk⟩)
  ·exact hIe.kY k hk
  ·exact(hIe.apart b k n hk).1
 refine⟨Zv hIe (fun _ h=>.inl h) qh,hx.os,hx.tape,hx.output,hx.size,fun k hk=>⟨.inl (hx.same k hk).1,(hx.same k hk).2⟩,?_,fun b blk n h=>by simp[KS.bare]at h,fun b d h=>by rw[xh]at h; simp at h,
  fun b v0 e xs h=>by rw[xh]at h; simp at h,fun b h=>by rw[xh]at h; simp at h,by rw[xh]; exact Nat.zero_le _,hx.frame⟩
 rintro k (hk | ⟨b,n,hk⟩)
 ·exact hx.fresh k hk
 ·rcases hx.Li b k n hk with h | h
  ·rw[sP]at h; simp at h
  ·exact .inr (.inl h)
end
end Go.AM
namespace Go.AM
set_option linter.unusedSectionVars false
variable [vP] [Xl]
open Go.RowKit
def N5(s:Nat)(fr:Fr)(st:St):T (Fr×St):=match fr.get s with
 | some (.ms b qs e off len)=>match st[b]? with
  | some (.arr uZ e' xs)=>match(wS (a:=.sl e') (b:=.sl e) xs:Option (List (den e)))with
   | some ys=>.zj (qs=uZ) (.ret ((s,some (.zi (.sl e) ((ys.take (off+len)).drop off)))::fr,st.set b .dead))
   | none=>.fail
  | _=>.fail
 | _=>.ret (fr,st)
def MY(j i:Nat)(fr:Fr)(st:St):T (Fr×St):=match st[j]? with
 | some (.var (.agg ds))=>match ds[i]? with
  | some (.ms b qs e off len)=>match st[b]? with
   | some (.arr uZ e' xs)=>match(wS (a:=.sl e') (b:=.sl e) xs:Option (List (den e)))with
    | some ys=>.zj (qs=uZ) (.ret (fr,(st.set b .dead).set j (.var (.agg (ds.set i (.zi (.sl e) ((ys.take (off+len)).drop off)))))))
    | none=>.fail
   | _=>.fail
  | _=>.ret (fr,st)
 | _=>.ret (fr,st)
def NV(s:Nat)(fr:Fr)(st:St):T (Fr×St):=bif Nat.ble 1000000 s then MY ((s-1000000) / 1000) ((s-1000000) % 1000) fr st else N5 s fr st
def Lb:List Nat→Fr→St→T (Fr×St)
 | [],fr,st=>.ret (fr,st)
 | s::r,fr,st=>(NV s fr st).bind fun x=>Lb r x.1 x.2
section
variable {c:Ctx} {κ:KS} {n:Nat}
theorem z1a{b qs off len:Nat}{e:Ty}{xs:List (den e)}{v:Value}(hI:Inv κ)(h:RD κ (.ms b qs e off len) v)(hb:κ.st[b]? = some (.arr qs e xs)){ss:Nat→Prop}(h1:∀ k,κ.ok k→ss k)(h2:∀ k n,κ.ph[b]? = some (some (k,n))→ss k) :
  Rc κ.w ss (.sl e) ((xs.take (off+len)).drop off) [v]:=by
 obtain⟨Xj,_⟩:=G9 hI h hb
 obtain⟨a,cap,f,hve,vx,hn,g1,g2⟩:=Xj.ex
 have Ca:∀ blk o:Nat,v=.slice (some ⟨blk,o,none⟩) ((xs.take (off+len)).drop off).length cap→ss blk:=by
  intro blk o he
  cases h with
  | ms _ _ _ _ _ Dg a' hold hcap' ha mZ hm =>
   obtain⟨_,hm⟩:=hm xs hb
   rcases hm with⟨_,_,hv,_⟩ | ⟨iu,n',o',z78,h3,h4,_⟩
   ·rw[hv]at he
    injection he with e1 e2 e3
    cases e1
   ·rw[h4]at he
    injection he with e1 e2 e3
    cases e1
    exact h2 _ _ h3
 rw[hve]
 cases a with
 | none=>obtain⟨k1,k2⟩:=hn rfl; rw[k1,k2]; exact .cI e none
 | some p =>
  rcases g2 p rfl with⟨k1,k2⟩ | ⟨hp,_,hc⟩
  ·rw[k1,k2]; exact .cI e _
  ·obtain⟨blk,o,sp⟩:=p
   simp only at hp
   subst hp
   exact .sl e _ blk o cap f (Ca blk o hve) vx (fun i hi=>(g1 i hi).mono fun k hk=>⟨h1 k hk,rfl⟩) hc
theorem BT{b qs:Nat}{e:Ty}{xs:List (den e)}(hb:κ.st[b]? = some (.arr qs e xs))(hI:Inv κ):∃ κ':KS,κ'.w=κ.w∧κ'.st=κ.st.set b .dead∧Inv κ'∧Ext κ κ' ∧
  ∀ (off len:Nat) (v:Value),RD κ (.ms b qs e off len) v→RD κ' (.zi (.sl e) ((xs.take (off+len)).drop off)) v:=by
 have qh:b<κ.st.length:=(List.getElem?_eq_some_iff.1 hb).1
 let κ':KS:=⟨κ.w,fun k=>κ.ok k∨∃ n,κ.ph[b]? = some (some (k,n)),κ.ph.set b none,κ.st.set b .dead⟩
 have xh:∀ i,i≠b→κ'.st[i]? = κ.st[i]? := fun i hi=>by show(κ.st.set b .dead)[i]? = _; rw[List.getElem?_set_ne (fun e=>hi e.symm)]
 have sP:∀ i,i≠b→κ'.ph[i]? = κ.ph[i]? := fun i hi=>by show(κ.ph.set b none)[i]? = _; rw[List.getElem?_set_ne (fun e=>hi e.symm)]
 have MK:∀ (i blk m:Nat),κ'.ph[i]? = some (some (blk,m))→i≠b∧κ.ph[i]? = some (some (blk,m)):=by
  intro i blk m hi
  by_cases Uv:i=b
  ·subst Uv
   have:(κ.ph.set i none)[i]? = some (some (blk,m)):=hi
   rw[List.getElem?_set_self (by rw[hI.len]; exact qh)]at this
   cases this
  ·exact⟨Uv,by rw[← sP i Uv]; exact hi⟩
 have hx:Ext κ κ':=by
  refine⟨rfl,rfl,rfl,Nat.le_refl _,fun k hk=>⟨.inl hk,rfl⟩,?_,fun i blk m hi=>.inl (MK i blk m hi).2,?_,?_,?_,by show _≤(κ.st.set b .dead).length; simp,fun _ _ _=>rfl⟩
  ·rintro k (hk | ⟨m,hk⟩)
   ·exact .inl hk
   ·exact .inr (.inr ⟨b,m,hk⟩)
  ·intro i d hi
   have Uv:i≠b:=fun e=>by subst e; rw[hb]at hi; cases hi
   exact⟨⟨d,by rw[xh i Uv]; exact hi⟩,sP i Uv⟩
  ·intro i v0 e0 iA hi
   by_cases Uv:i=b
   ·subst Uv; exact .inl (by show(κ.st.set i .dead)[i]? = _; rw[List.getElem?_set_self qh])
   ·exact .inr ⟨v0,iA,by rw[xh i Uv]; exact hi,Nat.le_refl _,fun _=>⟨sP i Uv,rfl⟩⟩
  ·intro i hi
   have Uv:i≠b:=fun e=>by subst e; rw[hb]at hi; cases hi
   rw[xh i Uv]; exact hi
 have MM:Inv κ':=by
  refine⟨by show(κ.ph.set b none).length=(κ.st.set b .dead).length; simp[hI.len],?_,?_,?_,?_,hI.gl.mono hx.same⟩
  ·rintro k (hk | ⟨m,hk⟩)
   ·exact hI.kY k hk
   ·exact(hI.apart b k m hk).1
  ·intro i blk m hi
   obtain⟨Uv,X0⟩:=MK i blk m hi
   obtain⟨g1,g2⟩:=hI.apart i blk m X0
   refine⟨g1,?_⟩
   rintro(hk | ⟨m',hk⟩)
   ·exact g2 hk
   ·exact Uv (hI.inj i b blk m m' X0 hk)
  ·intro i i' blk m m' hi X0
   exact hI.inj i i' blk m m' (MK i blk m hi).2 (MK i' blk m' X0).2
  ·intro i B hB
   by_cases Uv:i=b
   ·subst Uv
    have:(κ.st.set i .dead)[i]? = some B:=hB
    rw[List.getElem?_set_self qh]at this
    cases this
    trivial
   ·rw[xh i Uv]at hB
    exact(hI.blk i B hB).mono hx (sP i Uv) fun _ _ _=>rfl
 exact⟨κ',rfl,rfl,MM,hx,fun off len v hd=>RD.dW rfl (z1a hI hd hb (fun k hk=>.inl hk) fun k m hk=>.inr ⟨m,hk⟩)⟩
theorem LN{s:Nat}{fr:Fr}{a:Act}{r:Fr×St}(h:(N5 s fr κ.st).leads r)(hI:Inv κ)(hR:Rel κ n fr.get a):∃ κ':KS,κ'.w=κ.w∧κ'.st=r.2∧Inv κ'∧Ext κ κ'∧Rel κ' n r.1.get a:=by
 unfold N5 at h
 split at h
 ·rename_i b qs e off len hs
  split at h
  ·rename_i uZ e' xs hb
   split at h
   ·rename_i ys hy
    obtain⟨he,hx⟩:=qe hy
    cases he
    cases hx
    obtain⟨rfl,h⟩:=h
    cases h
    obtain⟨v,hv,hd⟩:=hR.get s _ hs
    obtain⟨κ',e1,e2,MM,hx,hk⟩:=BT hb hI
    refine⟨κ',e1,e2,MM,hx,hR.size,hR.defers,fun t d j9 => ?_⟩
    simp only[Fr.get]at j9
    cases ht:Nat.beq s t with
    | true =>
     rw[ht,cond_true]at j9
     cases j9
     rw[← Nat.eq_of_beq_eq_true ht]
     exact⟨v,hv,hk _ _ _ hd⟩
    | false =>
     rw[ht,cond_false]at j9
     obtain⟨u,g1,g2⟩:=hR.get t d j9
     exact⟨u,g1,g2.mono hx⟩
   ·exact h.elim
  ·exact h.elim
 ·cases h; exact⟨κ,rfl,rfl,hI,Ext.refl κ,hR⟩
theorem C7{ds:List D}{i b qs off len:Nat}{e:Ty}{d':D}(hd:ds[i]? = some (.ms b qs e off len))(hn:y5 [d']=none){T:Nat}(h:y5 (ds.set i d')=some T):y5 ds=some T:=by
 cases ds with
 | nil=>cases hd
 | cons x r =>
  cases i with
  | zero =>
   rw[List.set_cons_zero]at h
   have:y5 (d'::r)=y5 [d']:=by cases d'<;>rfl
   rw[this,hn]at h
   cases h
  | succ i =>
   rw[List.set_cons_succ]at h
   have:∀ r':List D,y5 (x::r')=y5 [x]:=by intro r'; cases x<;>rfl
   rw[this]at h ⊢
   exact h
theorem MA{j i:Nat}{fr:Fr}{a:Act}{r:Fr×St}(h:(MY j i fr κ.st).leads r)(hI:Inv κ)(hR:Rel κ n fr.get a):∃ κ':KS,κ'.w=κ.w∧κ'.st=r.2∧Inv κ'∧Ext κ κ'∧Rel κ' n r.1.get a:=by
 unfold MY at h
 split at h
 ·rename_i ds hj
  split at h
  ·rename_i b qs e off len hi
   split at h
   ·rename_i uZ e' xs hb
    split at h
    ·rename_i ys hy
     obtain⟨he,hx⟩:=qe hy
     cases he
     cases hx
     obtain⟨rfl,h⟩:=h
     cases h
     obtain⟨κ1,e1,e2,ry,Oo,hk⟩:=BT hb hI
     have hjb:j≠b:=fun q=>by subst q; rw[hb]at hj; cases hj
     have hj1:κ1.st[j]? = some (.var (.agg ds)):=by rw[e2,List.getElem?_set_ne (fun q=>hjb q.symm)]; exact hj
     have Hg:j<κ1.st.length:=(List.getElem?_eq_some_iff.1 hj1).1
     let d':D:=.zi (.sl e) ((xs.take (off+len)).drop off)
     let κ2:KS:={ κ1 with st:=κ1.st.set j (.var (.agg (ds.set i d'))) }
     have xh:∀ k,k≠j→κ2.st[k]? = κ1.st[k]? := fun k hk=>by show(κ1.st.set j _)[k]? = _; rw[List.getElem?_set_ne (fun q=>hk q.symm)]
     have SJ:κ2.st[j]? = some (.var (.agg (ds.set i d'))):=by show(κ1.st.set j _)[j]? = _; rw[List.getElem?_set_self Hg]
     have Cv:Ext κ1 κ2:=by
      refine⟨rfl,rfl,rfl,Nat.le_refl _,fun k hk=>⟨hk,rfl⟩,fun k hk=>.inl hk,fun k blk m hk=>.inl hk,?_,?_,?_,by show _≤(κ1.st.set j _).length; simp,fun _ _ _=>rfl⟩
      ·intro k d hk
       by_cases q:k=j
       ·subst q; exact⟨⟨_,SJ⟩,rfl⟩
       ·exact⟨⟨d,by rw[xh k q]; exact hk⟩,rfl⟩
      ·intro k v0 e0 iA hk
       have q:k≠j:=fun q=>by subst q; rw[hj1]at hk; cases hk
       exact .inr ⟨v0,iA,by rw[xh k q]; exact hk,Nat.le_refl _,fun _=>⟨rfl,rfl⟩⟩
      ·intro k hk
       have q:k≠j:=fun q=>by subst q; rw[hj1]at hk; cases hk
       rw[xh k q]; exact hk
     have hI2:Inv κ2:=by
      refine⟨by show κ1.ph.length=(κ1.st.set j _).length; simp[ry.len],ry.kY,ry.apart,ry.inj,?_,ry.gl⟩
      intro k B hB
      by_cases q:k=j
      ·subst q
       rw[SJ]at hB
       cases hB
       obtain⟨blk,m,cs,t,g1,g2,g3,g4,g5,g6⟩:=hI.blk k _ hj
       obtain⟨iu,m',cg,t',p1,p2,p3,p4,p5,p6⟩:=ry.blk k _ hj1
       have sP:κ1.ph[k]? = κ.ph[k]? := (Oo.var k _ hj).2
       rw[sP,g1]at p1
       cases p1
       rw[e1,g2]at p2
       cases p2
       refine⟨blk,m,cs,t,sP.trans g1,by show κ1.w.heap[blk]? = _; rw[e1]; exact g2,g3,?_,?_,fun T hT=>g6 T (C7 hi rfl hT)⟩
       ·have p4':qG κ2 ds cs.toList:=qG.mono Cv p4
        refine⟨by show(ds.set i d').length=_; rw[List.length_set]; exact p4'.1,fun k' h1 h2 => ?_⟩
        have sF:k'<(ds.set i d').length:=h1
        rw[List.length_set]at sF
        show RD κ2 ((ds.set i d')[k']) _
        by_cases q:i=k'
        ·subst q
         have hdi:ds[i]'sF=.ms b qs e off len:=Option.some.inj ((List.getElem?_eq_getElem sF).symm.trans hi)
         have:=g4.2 i sF h2
         have Kb:(zW (D.agg ds))[i]'sF=.ms b qs e off len:=hdi
         rw[Kb]at this
         have e3:(ds.set i d')[i]'h1=d':=List.getElem_set_self _
         rw[e3]
         exact(hk _ _ _ this).mono Cv
        ·have e3:(ds.set i d')[k']'h1=ds[k']'sF:=List.getElem_set_ne q _
         rw[e3]
         exact p4'.2 k' sF h2
       ·intro x hx
        rcases List.mem_or_eq_of_mem_set hx with hx | rfl
        ·exact g5 x hx
        ·rfl
      ·rw[xh k q]at hB
       exact(ry.blk k B hB).mono Cv rfl fun _ _ _=>rfl
     refine⟨κ2,e1,by show κ1.st.set j _=_; rw[e2],hI2,Oo.trans Cv,hR.size,hR.defers,fun t d j9 => ?_⟩
     obtain⟨u,q1,q2⟩:=hR.get t d j9
     exact⟨u,q1,(q2.mono Oo).mono Cv⟩
    ·exact h.elim
   ·exact h.elim
  ·cases h; exact⟨κ,rfl,rfl,hI,Ext.refl κ,hR⟩
 ·cases h; exact⟨κ,rfl,rfl,hI,Ext.refl κ,hR⟩
theorem NY{s:Nat}{fr:Fr}{a:Act}{r:Fr×St}(h:(NV s fr κ.st).leads r)(hI:Inv κ)(hR:Rel κ n fr.get a):∃ κ':KS,κ'.w=κ.w∧κ'.st=r.2∧Inv κ'∧Ext κ κ'∧Rel κ' n r.1.get a:=by
 unfold NV at h
 cases hb:Nat.ble 1000000 s with
 | true=>rw[hb,cond_true]at h; exact MA h hI hR
 | false=>rw[hb,cond_false]at h; exact LN h hI hR
theorem Fq:∀ (l:List Nat) {fr:Fr} {κ:KS} {a:Act} {r:Fr×St},(Lb l fr κ.st).leads r→Inv κ→Rel κ n fr.get a→∃ κ':KS,κ'.w=κ.w∧κ'.st=r.2∧Inv κ'∧Ext κ κ'∧Rel κ' n r.1.get a
 | [],fr,κ,a,r,h,hI,hR=>by cases h; exact⟨κ,rfl,rfl,hI,Ext.refl κ,hR⟩
 | s::l,fr,κ,a,r,h,hI,hR=>by
  simp only[Lb,T.zH]at h
  obtain⟨x,h1,h2⟩:=h
  obtain⟨κ1,e1,e2,e3,e4,e5⟩:=NY h1 hI hR
  rw[← e2]at h2
  obtain⟨κ2,g1,g2,g3,g4,g5⟩:=Fq l h2 e3 e5
  exact⟨κ2,g1.trans e1,g2,g3,e4.trans g4,g5⟩
end
end Go.AM