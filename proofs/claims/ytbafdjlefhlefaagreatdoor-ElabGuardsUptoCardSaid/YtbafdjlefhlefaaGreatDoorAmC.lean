/-
  The abstract machine, part C: texts of our own, the same for each claim.
-/
import Derived.Test.YtbafdjlefhlefaaGreatDoorAmB
import Derived.Deep.LoopGhost
set_option linter.unusedVariables false
namespace Go.AM
set_option linter.unusedSectionVars false
variable [uz]
abbrev F:=Nat→Option D
def qy(f:F):Operand→Option D
 | .tmp t=>f t
 | .const v=>V5 v
 | .global _=>none
 | .func g=>bif Nat.blt g 1000000 then some (.xk g [])else none
theorem dH(fr:Fr):yb fr=qy fr.get:=by funext x; cases x<;>rfl
def yg(f:F)(dst:Option Nat)(d:Option D):F:=match dst with
 | some t=>fun s=>if s=t then d else f s
 | none=>f
theorem oj{a b:Nat}(h:a≠b):Nat.beq a b=false:=by
 cases hb:Nat.beq a b with
 | false=>rfl
 | true=>exact absurd (Nat.eq_of_beq_eq_true hb) h
theorem QB(fr:Fr)(dst:Option Nat)(d:Option D):(fr.put dst d).get=yg fr.get dst d:=by
 cases dst with
 | none=>rfl
 | some t =>
  funext s
  simp only[Fr.put,Fr.get,yg]
  by_cases h:s=t
  ·subst h; simp
  ·rw[if_neg h,oj (fun e=>h e.symm),cond_false]
section
variable (c:Ctx) (n:Nat) (ops:Array Oper)
def wz(f:F)(o:Oper):Option Bool:=match o.guard with
 | none=>some true
 | some (j,w)=>match uP ops j with
  | none=>none
  | some t=>match f t with
   | some (.zW .bool b)=>some (b==w)
   | some (.gB [])=>some false
   | _=>none
def gA(i:Nat)(s s':F×St)(k:Nat):Prop:=∃ o,ops[i]? = some o∧vM n o.dst=true ∧
 ((wz ops s.1 o=some true∧k=(qZ c (qy s.1) o).kind∧∃ d zL,(zU (qZ c (qy s.1) o) s.2).leads (d,zL)∧s'=(yg s.1 o.dst d,zL)) ∨
  (wz ops s.1 o=some false∧k=0∧s'=(yg s.1 o.dst (some Nk),s.2)))
def O6:List Nat→F×St→F×St→List Nat→Prop
 | [],s,s',ks=>s'=s∧ks=[]
 | i::l,s,s',ks=>∃ s1 k E8,ks=k::E8∧gA c n ops i s s1 k∧O6 l s1 s' E8
end
section
variable {c:Ctx} {n:Nat} {ops:Array Oper}
def vN(kn:Kn)(f:F):Prop:=∀ t b,kn.get t=some b→f t=some (.zW .bool b)
theorem Kg(t:Nat)(b:Option Bool)(kn:Kn)(s:Nat):Kn.get ((t,b)::kn) s=if s=t then b else kn.get s:=by
 simp only[Kn.get]
 by_cases h:s=t
 ·subst h; simp
 ·rw[if_neg h,oj (fun e=>h e.symm),cond_false]
theorem cn{kn:Kn}{f:F}(h:vN kn f){x:Operand}{b:Bool}(hx:ez kn x=some b):qy f x=some (.zW .bool b):=by
 unfold ez at hx
 split at hx
 ·exact h _ _ hx
 ·cases hx; rfl
 ·cases hx
theorem Cn{kn:Kn}{fr:Fr}{o:Oper}(hk:vN kn fr.get){st:St}{r:Option D×St}(h:(zU (pn c kn fr o) st).leads r) :
  (zU (qZ c (qy fr.get) o) st).leads r∧(pn c kn fr o).kind=(qZ c (qy fr.get) o).kind∧∀ b,Ja kn o.op=some b→r.1=some (.zW .bool b):=by
 obtain⟨dst,op,ty,pos,after,guard⟩:=o
 rw[← dH]
 cases op with
 | pick x a b =>
  simp only[pn]at h ⊢
  cases hx:ez kn x with
  | none =>
   rw[hx]at h
   refine⟨h,rfl,fun b' hb => ?_⟩
   simp[Ja,hx]at hb
  | some bx =>
   rw[hx]at h
   have Y9:=cn hk hx
   rw[← dH]at Y9
   have zcB:qZ c (yb fr) ⟨dst,.pick x a b,ty,pos,after,guard⟩=.val (.ite bx (.ret (yb fr a)) (.ret (yb fr b))):=by
    simp only[qZ,FJ,Y9,asBool]
   rw[zcB]
   obtain⟨d,zL⟩:=r
   cases bx with
   | true =>
    simp only[wE,T.leads]at h ⊢
    refine⟨⟨.inl ⟨by first | rfl | trivial,h.1⟩,h.2⟩,rfl,fun b' hb => ?_⟩
    simp only[Ja,hx]at hb
    have:=cn hk hb
    rw[← dH]at this
    exact h.1.symm.trans this
   | false =>
    simp only[wE,T.leads]at h ⊢
    refine⟨⟨.inr ⟨by first | rfl | trivial,h.1⟩,h.2⟩,rfl,fun b' hb => ?_⟩
    simp only[Ja,hx]at hb
    have:=cn hk hb
    rw[← dH]at this
    exact h.1.symm.trans this
 | move x =>
  refine⟨h,rfl,fun b hb => ?_⟩
  obtain⟨d,zL⟩:=r
  simp only[pn,qZ,wE,T.leads]at h
  have:=cn hk (show ez kn x=some b from hb)
  rw[← dH]at this
  exact h.1.symm.trans this
 | assign x =>
  refine⟨h,rfl,fun b hb => ?_⟩
  obtain⟨d,zL⟩:=r
  simp only[pn,qZ,wE,T.leads]at h
  have:=cn hk (show ez kn x=some b from hb)
  rw[← dH]at this
  exact h.1.symm.trans this
 | _=>exact⟨h,rfl,fun b hb=>by simp[Ja]at hb⟩
theorem L0{kn:Kn}{f:F}(hk:vN kn f){dst:Option Nat}{d:Option D}{b:Option Bool}(hb:∀ b',b=some b'→d=some (.zW .bool b')):vN (Jx kn dst b) (yg f dst d):=by
 cases dst with
 | none=>exact hk
 | some t =>
  intro s b' h
  simp only[Jx,Kg]at h
  simp only[yg]
  split at h
  ·rename_i e; rw[if_pos e]; exact hb b' h
  ·rename_i e; rw[if_neg e]; exact hk s b' h
theorem sY{kn:Kn}{f:F}(hk:vN kn f){t:Nat}{b:Bool}(hb:f t=some (.zW .bool b)):vN ((t,some b)::kn) f:=by
 intro s b' h
 rw[Kg]at h
 split at h
 ·rename_i e; subst e; cases h; exact hb
 ·exact hk s b' h
theorem J4{o:Oper}{s s':fg}(hk:vN s.kn s.fr.get)(h:(gQ c n o s).leads s') :
  vM n o.dst=true∧(∃ d zL,(zU (qZ c (qy s.fr.get) o) s.st).leads (d,zL)∧s'.fr.get=yg s.fr.get o.dst d∧s'.st=zL)∧vN s'.kn s'.fr.get∧s'.ks=(qZ c (qy s.fr.get) o).kind::s.ks:=by
 unfold gQ at h
 cases hd:vM n o.dst with
 | false=>rw[hd]at h; exact h.elim
 | true =>
  rw[hd,cond_true]at h
  simp only[T.zS]at h
  obtain⟨⟨d,zL⟩,h1,rfl⟩:=h
  obtain⟨h2,h3,h4⟩:=Cn hk h1
  refine⟨rfl,⟨d,zL,h2,QB _ _ _,rfl⟩,?_,by simp[h3]⟩
  show vN (Jx s.kn o.dst (Ja s.kn o.op)) (s.fr.put o.dst d).get
  rw[QB]
  exact L0 hk h4
theorem LR{o:Oper}{s:fg}(hk:vN s.kn s.fr.get):vN (jv o s).kn (jv o s).fr.get:=by
 show vN (Jx s.kn o.dst none) (s.fr.put o.dst (some Nk)).get
 rw[QB]
 exact L0 hk nofun
theorem YJ{i:Nat}{o:Oper}{s s':fg}(ho:ops[i]? = some o)(hk:vN s.kn s.fr.get)(h:(stepG c n ops o s).leads s') :
  ∃ k,gA c n ops i (s.fr.get,s.st) (s'.fr.get,s'.st) k∧vN s'.kn s'.fr.get∧s'.ks=k::s.ks:=by
 have run:∀ (s0:fg),s0.fr=s.fr→s0.st=s.st→s0.ks=s.ks→vN s0.kn s0.fr.get→wz ops s.fr.get o=some true→(gQ c n o s0).leads s' →
   ∃ k,gA c n ops i (s.fr.get,s.st) (s'.fr.get,s'.st) k∧vN s'.kn s'.fr.get∧s'.ks=k::s.ks:=by
  intro s0 e1 e2 e3 HT hw h
  obtain⟨h1,⟨d,zL,h2,h3,h4⟩,h5,h6⟩:=J4 HT h
  rw[e1]at h2 h3 h6
  rw[e2]at h2
  rw[e3]at h6
  exact⟨_,⟨o,ho,h1,.inl ⟨hw,rfl,d,zL,h2,by rw[h3,h4]⟩⟩,h5,h6⟩
 have skip:∀ (s0:fg),s0.fr=s.fr→s0.st=s.st→s0.ks=s.ks→vN s0.kn s0.fr.get→wz ops s.fr.get o=some false→vM n o.dst=true→jv o s0=s' →
   ∃ k,gA c n ops i (s.fr.get,s.st) (s'.fr.get,s'.st) k∧vN s'.kn s'.fr.get∧s'.ks=k::s.ks:=by
  intro s0 e1 e2 e3 HT hw hd h
  subst h
  refine⟨0,⟨o,ho,hd,.inr ⟨hw,rfl,?_⟩⟩,LR HT,by simp[jv,e3]⟩
  simp only[jv,QB,e1,e2]
 unfold stepG at h
 split at h
 ·rename_i hg
  exact run s rfl rfl rfl hk (by simp[wz,hg]) h
 ·rename_i j w hg
  split at h
  ·exact h.elim
  ·rename_i t ht
   split at h
   ·rename_i b hb
    have hf:=hk t b hb
    have hw:wz ops s.fr.get o=some (b==w):=by simp[wz,hg,ht,hf]
    cases Ox:(b==w)with
    | true=>rw[Ox,cond_true]at h; exact run s rfl rfl rfl hk (by rw[hw,Ox]) h
    | false =>
     rw[Ox,cond_false]at h
     cases hd:vM n o.dst with
     | false=>rw[hd]at h; exact h.elim
     | true=>rw[hd,cond_true]at h; exact skip s rfl rfl rfl hk (by rw[hw,Ox]) hd h
   ·split at h
    ·rename_i x hx
     have hw:wz ops s.fr.get o=some (x==w):=by simp[wz,hg,ht,hx]
     cases hd:vM n o.dst with
     | false=>rw[hd]at h; exact h.elim
     | true =>
      rw[hd,cond_true]at h
      rcases h with⟨rfl,h⟩ | ⟨rfl,h⟩
      ·have Dj:vN (s.bT t true).kn (s.bT t true).fr.get:=sY hk hx
       cases w with
       | true=>exact run (s.bT t true) rfl rfl rfl Dj hw h
       | false=>exact skip (s.bT t true) rfl rfl rfl Dj hw hd h
      ·have Dj:vN (s.bT t false).kn (s.bT t false).fr.get:=sY hk hx
       cases w with
       | true=>exact skip (s.bT t false) rfl rfl rfl Dj hw hd h
       | false=>exact run (s.bT t false) rfl rfl rfl Dj hw h
    ·rename_i hx
     have hw:wz ops s.fr.get o=some false:=by simp[wz,hg,ht,hx]
     cases hd:vM n o.dst with
     | false=>rw[hd]at h; exact h.elim
     | true=>rw[hd,cond_true]at h; exact skip s rfl rfl rfl hk hw hd h
    ·exact h.elim
theorem nP:∀ (l:List Oper) (k0:Nat) (s s':fg),(∀ j,l[j]? = ops[k0+j]? ∨ l.length≤j)→vN s.kn s.fr.get→(nI c n ops l s).leads s' →
  ∃ ks,O6 c n ops (List.range' k0 l.length) (s.fr.get,s.st) (s'.fr.get,s'.st) ks∧vN s'.kn s'.fr.get∧s'.ks=ks.reverse++s.ks
 | [],k0,s,s',_,hk,h=>by cases h; exact⟨[],⟨rfl,rfl⟩,hk,rfl⟩
 | o::l,k0,s,s',hl,hk,h=>by
  simp only[nI,T.zS]at h
  obtain⟨s1,h1,h2⟩:=h
  have ho:ops[k0]? = some o:=by rcases hl 0 with h | h<;>simp at h; exact h.symm
  obtain⟨k,g1,g2,g3⟩:=YJ ho hk h1
  obtain⟨ks,g4,g5,g6⟩:=nP l (k0+1) s1 s' (fun j=>by have:=hl (j+1); simpa[Nat.add_assoc,Nat.add_comm 1 j]using this) g2 h2
  refine⟨k::ks,?_,g5,by rw[g6,g3]; simp⟩
  simp only[List.length_cons,List.range'_succ]
  exact⟨_,k,ks,rfl,g1,g4⟩
end
end Go.AM
namespace Go.AM
set_option linter.unusedSectionVars false
variable [uz]
section
variable {c:Ctx} {n:Nat} {ops:Array Oper}
theorem rB{α:Type}{ρ ρ':α→Option D}(L:List (Nat×α))(h:∀ p∈L,ρ p.2=ρ' p.2):(L.map fun p=>(p.1,ρ p.2))=L.map fun p=>(p.1,ρ' p.2) :=
 List.map_congr_left fun p hp=>by rw[h p hp]
theorem ZI{ρ ρ':Operand→Option D}(o:Oper)(h:∀ x∈o.op.operands,ρ x=ρ' x):qZ c ρ o=qZ c ρ' o:=by
 obtain⟨dst,op,ty,pos,after,guard⟩:=o
 cases op with
 | move x=>simp only[qZ]; rw[h x (by simp[Op.operands])]
 | assign x=>simp only[qZ]; rw[h x (by simp[Op.operands])]
 | pick x a b=>simp only[qZ]; rw[h x (by simp[Op.operands]),h a (by simp[Op.operands]),h b (by simp[Op.operands])]
 | box t x=>simp only[qZ]; rw[h x (by simp[Op.operands])]
 | load t x=>simp only[qZ]; rw[h x (by simp[Op.operands])]
 | store t x y=>simp only[qZ]; rw[h x (by simp[Op.operands]),h y (by simp[Op.operands])]
 | nilCheck x=>simp only[qZ]; rw[h x (by simp[Op.operands])]
 | binOp op t x y _=>simp only[qZ]; rw[h x (by simp[Op.operands]),h y (by simp[Op.operands])]
 | typeAssert x xt t ok=>simp only[qZ]; rw[h x (by simp[Op.operands])]
 | unOp op t x=>simp only[qZ]; rw[h x (by simp[Op.operands])]
 | convert s t x=>simp only[qZ]; rw[h x (by simp[Op.operands])]
 | makeInterface t x=>simp only[qZ]; rw[h x (by simp[Op.operands])]
 | makeFunc fn first cap =>
  cases fn<;>simp only[qZ]
  rw[List.map_congr_left (l:=cap.toList) (fun x hx=>h x (by simp[Op.operands,Array.mem_toList_iff.1 hx])),List.map_congr_left (l:=first.toList) (fun x hx=>h x (by simp[Op.operands,Array.mem_toList_iff.1 hx]))]
 | makeSlice t x y=>simp only[qZ]; rw[h x (by simp[Op.operands]),h y (by simp[Op.operands])]
 | slice t x lo hi mx =>
  simp only[qZ]
  have ho:∀ o:Option Operand,(∀ y,o=some y→ρ y=ρ' y)→o.map ρ=o.map ρ':=fun o ho=>by
   cases o with
   | none=>rfl
   | some y=>rw[Option.map_some,Option.map_some,ho y rfl]
  rw[h x (by simp[Op.operands]),ho lo (fun y hy=>h y (by simp[Op.operands,hy])),ho hi (fun y hy=>h y (by simp[Op.operands,hy])),ho mx (fun y hy=>h y (by simp[Op.operands,hy]))]
 | fieldAddr s x f=>simp only[qZ]; rw[h x (by simp[Op.operands])]
 | field s x f=>simp only[qZ]; rw[h x (by simp[Op.operands])]
 | indexAddr t x y=>simp only[qZ]; rw[h x (by simp[Op.operands]),h y (by simp[Op.operands])]
 | index t x y=>simp only[qZ]; rw[h x (by simp[Op.operands]),h y (by simp[Op.operands])]
 | extract x i=>simp only[qZ]; rw[h x (by simp[Op.operands])]
 | build t ps=>simp only[qZ]; rw[rB ps.toList fun p hp=>h p.2 (by simp[Op.operands]; exact⟨p.1,Array.mem_toList_iff.1 hp⟩)]
 | buildSlice t k ps=>simp only[qZ]; rw[rB ps.toList fun p hp=>h p.2 (by simp[Op.operands]; exact⟨p.1,Array.mem_toList_iff.1 hp⟩)]
 | call cl =>
  obtain⟨callee,args,Xx⟩:=cl
  have eA:args.toList.map ρ=args.toList.map ρ':=List.map_congr_left fun x hx=>h x (by simp[Op.operands,Call.operands,Array.mem_toList_iff.1 hx])
  cases callee with
  | builtin b=>simp only[qZ]; rw[eA]
  | value f=>simp only[qZ]; rw[eA,h f (by simp[Op.operands,Call.operands])]
  | invoke r m=>rfl
 | _=>rfl
theorem G8{f:F}{dst:Option Nat}{d:Option D}{x:Operand}(h:∀ t,dst=some t→x≠.tmp t):qy (yg f dst d) x=qy f x:=by
 cases dst with
 | none=>rfl
 | some t=>cases x with
  | tmp s=>simp only[qy,yg]; rw[if_neg (fun e=>h t rfl (by rw[e]))]
  | _=>rfl
theorem gJ(f:F){a b:Option Nat}(d e:Option D)(h:∀ t,a=some t→b≠some t):yg (yg f a d) b e=yg (yg f b e) a d:=by
 cases a with
 | none=>rfl
 | some s=>cases b with
  | none=>rfl
  | some t =>
   have uj:s≠t:=fun e=>h s rfl (by rw[e])
   funext x
   simp only[yg]
   by_cases h1:x=t
   ·subst h1; simp[Ne.symm uj]
   ·simp[h1]
def Ind(ops:Array Oper)(kd:Nat→Nat)(p i:Nat):Prop:=∀ x y,ops[p]? = some x→ops[i]? = some y →
 (∀ d,x.dst=some d→d ∉ tmpsOf ops y)∧(∀ d,y.dst=some d→d ∉ tmpsOf ops x)∧ux (kd p) (kd i)=false
theorem kX{o:Oper}{d:Nat}(h:o.dst=some d):d∈tmpsOf ops o:=by simp[tmpsOf,h]
theorem rZ{o:Oper}{d:Nat}(h:Operand.tmp d∈o.op.operands):d∈tmpsOf ops o:=by
 simp only[tmpsOf,List.mem_append,List.mem_filterMap]
 exact .inr ⟨.tmp d,by simpa using h,rfl⟩
theorem pT{o:Oper}{j:Nat}{w:Bool}{d:Nat}(h:o.guard=some (j,w))(hg:uP ops j=some d):d∈tmpsOf ops o:=by
 simp[tmpsOf,h,hg]
theorem wq{f:F}{o:Oper}{dst:Option Nat}{d:Option D}(h:∀ t,dst=some t→t ∉ tmpsOf ops o):wz ops (yg f dst d) o=wz ops f o:=by
 unfold wz
 cases hg:o.guard with
 | none=>rfl
 | some jw =>
  obtain⟨j,w⟩:=jw
  simp only
  cases hs:uP ops j with
  | none=>rfl
  | some t =>
   simp only
   have:yg f dst d t=f t:=by
    cases dst with
    | none=>rfl
    | some s=>simp only[yg]; rw[if_neg]; intro e; exact h s rfl (e▸pT hg hs)
   rw[this]
theorem kD{f:F}{o:Oper}{dst:Option Nat}{d:Option D}(h:∀ t,dst=some t→t ∉ tmpsOf ops o):qZ c (qy (yg f dst d)) o=qZ c (qy f) o :=
 ZI o fun x hx=>G8 fun t ht e=>h t ht (rZ (ops:=ops) (e▸hx))
theorem l8{cl:cD}(h:cl.kind=0){st zL:St}{d:Option D}(hl:(zU cl st).leads (d,zL)):zL=st∧∀ ju,(zU cl ju).leads (d,ju):=by
 cases cl with
 | val t=>rw[wE]at hl; exact⟨hl.2,fun ju=>by rw[wE]; exact⟨hl.1,rfl⟩⟩
 | rd k=>cases h
 | wr k=>cases h
theorem dE{cl:cD}(h:cl.kind≤1){st zL:St}{d:Option D}(hl:(zU cl st).leads (d,zL)):zL=st:=by
 cases cl with
 | val t=>rw[wE]at hl; exact hl.2
 | rd k=>rw[nf]at hl; exact hl.2
 | wr k=>simp[cD.kind]at h
theorem QV(cl:cD):cl.kind≤2:=by cases cl<;>simp[cD.kind]
theorem Gc{kd:Nat→Nat}{p i:Nat}(hi:Ind ops kd p i){s s1 s2:F×St}(h1:gA c n ops p s s1 (kd p))(h2:gA c n ops i s1 s2 (kd i)) :
  ∃ s',gA c n ops i s s' (kd i)∧gA c n ops p s' s2 (kd p):=by
 obtain⟨x,hx,hdx,E5⟩:=h1
 obtain⟨y,hy,hdy,hy'⟩:=h2
 obtain⟨a1,a2,a3⟩:=hi x y hx hy
 have Rr:∀ t,x.dst=some t→y.dst≠some t:=fun t ht e=>a1 t ht (kX e)
 obtain⟨f,st⟩:=s
 rcases E5 with⟨hw,hk,d,bG,hl,rfl⟩ | ⟨hw,hk,rfl⟩
 ·rcases hy' with⟨VR,yh,e,ju,iM,rfl⟩ | ⟨VR,yh,rfl⟩
  ·simp only[wq a1,kD (c:=c) a1]at VR yh iM
   simp only at hw hk hl
   -- the two meet nowhere in the store
   have key:(zU (qZ c (qy f) y) st).leads (e,(if(qZ c (qy f) y).kind=2 then ju else st))∧(zU (qZ c (qy f) x) (if(qZ c (qy f) y).kind=2 then ju else st)).leads (d,ju):=by
    rw[hk,yh]at a3
    rcases Nat.lt_or_ge (qZ c (qy f) y).kind 2 with hy2 | hy2
    ·rw[if_neg (by omega)]
     have e2:=dE (by omega) iM
     subst e2
     rcases Nat.lt_or_ge (qZ c (qy f) x).kind 2 with DI | DI
     ·have e1:=dE (by omega) hl
      subst e1
      exact⟨iM,hl⟩
     ·have hx3:(qZ c (qy f) x).kind=2:=Nat.le_antisymm (QV _) DI
      have TY:(qZ c (qy f) y).kind=0:=by
       rw[hx3]at a3
       cases TY:(qZ c (qy f) y).kind with
       | zero=>rfl
       | succ m=>rw[TY]at a3; simp[ux]at a3
      exact⟨(l8 TY iM).2 st,hl⟩
    ·have hy3:(qZ c (qy f) y).kind=2:=Nat.le_antisymm (QV _) hy2
     rw[if_pos hy3]
     have U6:(qZ c (qy f) x).kind=0:=by
      rw[hy3]at a3
      cases U6:(qZ c (qy f) x).kind with
      | zero=>rfl
      | succ m=>rw[U6]at a3; simp[ux]at a3
     obtain⟨e1,h3⟩:=l8 U6 hl
     subst e1
     exact⟨iM,h3 ju⟩
   refine⟨_,⟨y,hy,hdy,.inl ⟨VR,yh,e,_,key.1,rfl⟩⟩,x,hx,hdx,.inl ⟨?_,?_,d,ju,?_,?_⟩⟩
   ·rw[wq a2]; exact hw
   ·rw[kD (c:=c) a2]; exact hk
   ·rw[kD (c:=c) a2]; exact key.2
   ·simp only[gJ f d e Rr]
  ·simp only[wq a1]at VR
   refine⟨_,⟨y,hy,hdy,.inr ⟨VR,yh,rfl⟩⟩,x,hx,hdx,.inl ⟨?_,?_,d,bG,?_,?_⟩⟩
   ·rw[wq a2]; exact hw
   ·rw[kD (c:=c) a2]; exact hk
   ·rw[kD (c:=c) a2]; exact hl
   ·simp only[gJ f d (some Nk) Rr]
 ·rcases hy' with⟨VR,yh,e,ju,iM,rfl⟩ | ⟨VR,yh,rfl⟩
  ·simp only[wq a1,kD (c:=c) a1]at VR yh iM
   refine⟨_,⟨y,hy,hdy,.inl ⟨VR,yh,e,ju,iM,rfl⟩⟩,x,hx,hdx,.inr ⟨?_,hk,?_⟩⟩
   ·rw[wq a2]; exact hw
   ·simp only[gJ f (some Nk) e Rr]
  ·simp only[wq a1]at VR
   refine⟨_,⟨y,hy,hdy,.inr ⟨VR,yh,rfl⟩⟩,x,hx,hdx,.inr ⟨?_,hk,?_⟩⟩
   ·rw[wq a2]; exact hw
   ·simp only[gJ f (some Nk) (some Nk) Rr]
def oX(c:Ctx)(n:Nat)(ops:Array Oper)(kd:Nat→Nat):List Nat→F×St→F×St→Prop
 | [],s,s'=>s'=s
 | i::l,s,s'=>∃ s1,gA c n ops i s s1 (kd i)∧oX c n ops kd l s1 s'
theorem Jr{kd:Nat→Nat}{i:Nat}{post:List Nat}{s':F×St}:∀ {pre:List Nat} {s:F×St},(∀ p∈pre,Ind ops kd p i)→oX c n ops kd (pre++i::post) s s' →
  ∃ s1,gA c n ops i s s1 (kd i)∧oX c n ops kd (pre++post) s1 s'
 | [],s,_,h=>h
 | p::pre,s,hp,⟨sp,h1,h2⟩=>by
  obtain⟨s1,h3,h4⟩:=Jr (fun q hq=>hp q (List.mem_cons_of_mem _ hq)) h2
  obtain⟨s2,h5,h6⟩:=Gc (hp p List.mem_cons_self) h1 h3
  exact⟨s2,h5,s1,h6,h4⟩
end
end Go.AM
namespace Go.AM
set_option linter.unusedSectionVars false
variable [uz]
section
variable (c:Ctx) (n:Nat) (ops:Array Oper)
def dS(i:Nat)(s s':F×St)(k:RK):Prop:=∃ o,ops[i]? = some o∧vM n o.dst=true ∧
 ((wz ops s.1 o=some true∧k=wx c (qy s.1) s.2 o∧∃ d zL,(zU (qZ c (qy s.1) o) s.2).leads (d,zL)∧s'=(yg s.1 o.dst d,zL)) ∨
  (wz ops s.1 o=some false∧k=.z 0∧s'=(yg s.1 o.dst (some Nk),s.2)))
def Mn:List Nat→F×St→F×St→List RK→Prop
 | [],s,s',ks=>s'=s∧ks=[]
 | i::l,s,s',ks=>∃ s1 k E8,ks=k::E8∧dS c n ops i s s1 k∧Mn l s1 s' E8
end
section
variable {c:Ctx} {n:Nat} {ops:Array Oper}
theorem dS.plain{i:Nat}{s s':F×St}{k:RK}(h:dS c n ops i s s' k):∃ k',gA c n ops i s s' k':=by
 obtain⟨o,h1,h2,h3⟩:=h
 rcases h3 with⟨g1,_,g3⟩ | ⟨g1,_,g3⟩
 ·exact⟨_,o,h1,h2,.inl ⟨g1,rfl,g3⟩⟩
 ·exact⟨_,o,h1,h2,.inr ⟨g1,rfl,g3⟩⟩
theorem ET{i:Nat}{o:Oper}{s s':fg}(ho:ops[i]? = some o)(hk:vN s.kn s.fr.get)(h:(stepG c n ops o s).leads s') :
  ∃ k,dS c n ops i (s.fr.get,s.st) (s'.fr.get,s'.st) k∧vN s'.kn s'.fr.get∧s'.bk=k::s.bk:=by
 have bkS:∀ {s0:fg},(gQ c n o s0).leads s'→s'.bk=wx c (yb s0.fr) s0.st o::s0.bk:=by
  intro s0 h
  unfold gQ at h
  cases hd:vM n o.dst with
  | false=>rw[hd]at h; exact h.elim
  | true =>
   rw[hd,cond_true]at h
   simp only[T.zS]at h
   obtain⟨⟨d,zL⟩,h1,rfl⟩:=h
   rfl
 have run:∀ (s0:fg),s0.fr=s.fr→s0.st=s.st→s0.bk=s.bk→vN s0.kn s0.fr.get→wz ops s.fr.get o=some true→(gQ c n o s0).leads s' →
   ∃ k,dS c n ops i (s.fr.get,s.st) (s'.fr.get,s'.st) k∧vN s'.kn s'.fr.get∧s'.bk=k::s.bk:=by
  intro s0 e1 e2 e3 HT hw h
  obtain⟨h1,⟨d,zL,h2,h3,h4⟩,h5,h6⟩:=J4 HT h
  have hb:=bkS h
  rw[e1]at h2 h3 hb
  rw[e2]at h2 hb
  rw[e3]at hb
  rw[dH]at hb
  exact⟨_,⟨o,ho,h1,.inl ⟨hw,rfl,d,zL,h2,by rw[h3,h4]⟩⟩,h5,hb⟩
 have skip:∀ (s0:fg),s0.fr=s.fr→s0.st=s.st→s0.bk=s.bk→vN s0.kn s0.fr.get→wz ops s.fr.get o=some false→vM n o.dst=true→jv o s0=s' →
   ∃ k,dS c n ops i (s.fr.get,s.st) (s'.fr.get,s'.st) k∧vN s'.kn s'.fr.get∧s'.bk=k::s.bk:=by
  intro s0 e1 e2 e3 HT hw hd h
  subst h
  refine⟨.z 0,⟨o,ho,hd,.inr ⟨hw,rfl,?_⟩⟩,LR HT,by simp[jv,e3]⟩
  simp only[jv,QB,e1,e2]
 unfold stepG at h
 split at h
 ·rename_i hg
  exact run s rfl rfl rfl hk (by simp[wz,hg]) h
 ·rename_i j w hg
  split at h
  ·exact h.elim
  ·rename_i t ht
   split at h
   ·rename_i b hb
    have hf:=hk t b hb
    have hw:wz ops s.fr.get o=some (b==w):=by simp[wz,hg,ht,hf]
    cases Ox:(b==w)with
    | true=>rw[Ox,cond_true]at h; exact run s rfl rfl rfl hk (by rw[hw,Ox]) h
    | false =>
     rw[Ox,cond_false]at h
     cases hd:vM n o.dst with
     | false=>rw[hd]at h; exact h.elim
     | true=>rw[hd,cond_true]at h; exact skip s rfl rfl rfl hk (by rw[hw,Ox]) hd h
   ·split at h
    ·rename_i x hx
     have hw:wz ops s.fr.get o=some (x==w):=by simp[wz,hg,ht,hx]
     cases hd:vM n o.dst with
     | false=>rw[hd]at h; exact h.elim
     | true =>
      rw[hd,cond_true]at h
      rcases h with⟨rfl,h⟩ | ⟨rfl,h⟩
      ·have Dj:vN (s.bT t true).kn (s.bT t true).fr.get:=sY hk hx
       cases w with
       | true=>exact run (s.bT t true) rfl rfl rfl Dj hw h
       | false=>exact skip (s.bT t true) rfl rfl rfl Dj hw hd h
      ·have Dj:vN (s.bT t false).kn (s.bT t false).fr.get:=sY hk hx
       cases w with
       | true=>exact skip (s.bT t false) rfl rfl rfl Dj hw hd h
       | false=>exact run (s.bT t false) rfl rfl rfl Dj hw h
    ·rename_i hx
     have hw:wz ops s.fr.get o=some false:=by simp[wz,hg,ht,hx]
     cases hd:vM n o.dst with
     | false=>rw[hd]at h; exact h.elim
     | true=>rw[hd,cond_true]at h; exact skip s rfl rfl rfl hk hw hd h
    ·exact h.elim
theorem WJ:∀ (l:List Oper) (k0:Nat) (s s':fg),(∀ j,l[j]? = ops[k0+j]? ∨ l.length≤j)→vN s.kn s.fr.get→(nI c n ops l s).leads s' →
  ∃ ks,Mn c n ops (List.range' k0 l.length) (s.fr.get,s.st) (s'.fr.get,s'.st) ks∧s'.bk=ks.reverse++s.bk
 | [],k0,s,s',_,hk,h=>by cases h; exact⟨[],⟨rfl,rfl⟩,rfl⟩
 | o::l,k0,s,s',hl,hk,h=>by
  simp only[nI,T.zS]at h
  obtain⟨s1,h1,h2⟩:=h
  have ho:ops[k0]? = some o:=by rcases hl 0 with h | h<;>simp at h; exact h.symm
  obtain⟨k,g1,g2,g3⟩:=ET ho hk h1
  obtain⟨ks,g4,g6⟩:=WJ l (k0+1) s1 s' (fun j=>by have:=hl (j+1); simpa[Nat.add_assoc,Nat.add_comm 1 j]using this) g2 h2
  refine⟨k::ks,?_,by rw[g6,g3]; simp⟩
  simp only[List.length_cons,List.range'_succ]
  exact⟨_,k,ks,rfl,g1,g4⟩
theorem EN{m b:Nat}{l:List Nat}:b∈others m l↔b<m∧∀ x∈l,b≠x:=by
 simp only[others,List.mem_filter,List.mem_range,Bool.not_eq_true',List.any_eq_false]
 refine and_congr Iff.rfl (forall_congr' fun x=>forall_congr' fun _ => ?_)
 constructor
 ·intro h e; subst e; exact h (Nat.beq_refl _)
 ·intro h e; exact h (Nat.eq_of_beq_eq_true e)
theorem Mp{d:Option D}{b:Nat}(h:z7i d=some b):(∃ off,d=some (.ptr b off))∨∃ v e i off,d=some (.uo b v e i off):=by
 cases d with
 | none=>cases h
 | some d=>cases d<;>first | (cases h; exact .inl ⟨_,rfl⟩) | (cases h; exact .inr ⟨_,_,_,_,rfl⟩) | cases h
theorem XA{bi:Builtin}{l:List (Option D)}:LF bi l=.z 2∨∃ b v e off len x,bi=.append∧l=[some (.ms b v e off len),some x]∧KJ x=false∧LF bi l=.up b:=by
 unfold LF
 cases bi<;>try exact .inl rfl
 simp only
 split
 ·rename_i b v e off len x
  cases hx:KJ x with
  | true=>exact .inl rfl
  | false=>exact .inr ⟨b,v,e,off,len,x,trivial,rfl,hx,by rw[cond_false]⟩
 ·exact .inl rfl
theorem K9(ρ:Operand→Option D)(st:St)(o:Oper):(wx c ρ st o).base=(qZ c ρ o).kind:=by
 unfold wx
 split
 ·rename_i h
  rw[h]
  cases o.op with
  | load t a=>simp only; split<;>rfl
  | _=>rfl
 ·rename_i h
  rw[h]
  cases o.op with
  | call cl =>
   cases hc:cl.callee with
   | builtin bi =>
    simp only[hc]
    rcases XA (bi:=bi) (l:=cl.args.toList.map ρ)with e | ⟨b,v,e,off,len,x,_,_,_,e⟩<;>rw[e]<;>rfl
   | value f=>simp only[hc]; split<;>rfl
   | _=>simp only[hc]; rfl
  | store t a v=>simp only; split<;>rfl
  | _=>rfl
 ·rfl
theorem Vd{ρ:Operand→Option D}{o:Oper}(h:(qZ c ρ o).kind≤1)(st zL:St):wx c ρ st o=wx c ρ zL o:=by
 unfold wx
 split
 ·rfl
 ·rename_i h2; omega
 ·rfl
theorem QX{ρ:Operand→Option D}{st:St}{o:Oper}{b:Nat}(h:wx c ρ st o=.rd b){bG ju Bf:St}{d:Option D}(hl:(zU (qZ c ρ o) bG).leads (d,Bf))(hb:ju[b]? = bG[b]?):(zU (qZ c ρ o) ju).leads (d,ju):=by
 obtain⟨dst,op,ty,pos,after,guard⟩:=o
 cases op with
 | load t a =>
  have h':(∃ off,ρ a=some (.ptr b off))∨∃ v e i off,ρ a=some (.uo b v e i off):=by
   unfold wx at h
   simp only at h
   split at h
   ·split at h
    ·rename_i b' ha; cases h; exact Mp ha
    ·cases h
   ·cases h
   ·cases h
  have he:qZ c ρ ⟨dst,.load t a,ty,pos,after,guard⟩=K8 c t (ρ a):=rfl
  rcases h' with⟨off,ha⟩ | ⟨v,e,i,off,ha⟩
  all_goals
   rw[he,ha]at hl ⊢
   simp only[K8]at hl ⊢
   rw[nf]at hl ⊢
   rw[hb]
   exact⟨hl.1,rfl⟩
 | call cl =>
  exfalso
  obtain⟨callee,args,Xx⟩:=cl
  unfold wx at h
  simp only at h
  split at h
  ·cases h
  ·cases callee with
   | builtin bi =>
    simp only at h
    rcases XA (bi:=bi) (l:=args.toList.map ρ)with e | ⟨b,v,e,off,len,x,_,_,_,e⟩<;>rw[e]at h<;>cases h
   | value f=>simp only at h; split at h<;>cases h
   | _=>cases h
  ·cases h
 | _ =>
  exfalso
  unfold wx at h
  simp only at h
  split at h
  ·cases h
  ·first
    | cases h
    | (split at h<;>cases h)
  ·cases h
theorem BX{ρ:Operand→Option D}{st:St}{o:Oper}{A:List Nat}(h:wx c ρ st o=.wr A){zL:St}{d:Option D}(hl:(zU (qZ c ρ o) st).leads (d,zL)):∀ b∈A,zL[b]? = st[b]? := by
 obtain⟨dst,op,ty,pos,after,guard⟩:=o
 cases op with
 | alloc t =>
  have h':A=others st.length []:=by
   unfold wx at h
   simp only at h
   split at h<;>first | (cases h; rfl) | cases h
  subst h'
  intro b hb
  obtain⟨hb,_⟩:=EN.1 hb
  have hl:(zU (oy c t) st).leads (d,zL):=hl
  unfold oy at hl
  split at hl
  ·rename_i z hz
   have hl:(some (D.ptr st.length 0),st++[yd.var z])=(d,zL):=hl
   cases hl
   exact List.getElem?_append_left hb
  ·exact absurd hl zj
 | store t a v =>
  exfalso
  unfold wx at h
  simp only at h
  split at h
  ·cases h
  ·split at h<;>cases h
  ·cases h
 | call cl =>
  obtain⟨callee,args,Xx⟩:=cl
  cases callee with
  | value f =>
   have h':(qZ c ρ ⟨dst,.call ⟨.value f,args,Xx⟩,ty,pos,after,guard⟩).kind=2∧∃ g caps l,ρ f=some (.xk g caps)∧jC (args.toList.map ρ)=some l∧A=c.free (dQ g) (c9 g l caps) st:=by
    unfold wx at h
    simp only at h
    split at h
    ·cases h
    ·rename_i hk
     split at h
     ·rename_i g caps l hg LP; cases h; exact⟨hk,g,caps,l,hg,LP,rfl⟩
     ·cases h
    ·cases h
   obtain⟨hk,g,caps,l,hg,LP,rfl⟩:=h'
   intro b hb
   have he:qZ c ρ ⟨dst,.call ⟨.value f,args,Xx⟩,ty,pos,after,guard⟩=dR c (ρ f) (args.toList.map ρ):=rfl
   rw[he,hg]at hl hk
   simp only[dR,LP]at hl hk
   split at hl
   ·rename_i s hs
    rw[hs]at hk
    simp only[bM]at hk
    cases hn:(!(c9 g l caps).any Kj)<;>rw[hn]at hk<;>simp[cD.kind]at hk
   ·simp only[tE,zU,T.zS]at hl
    obtain⟨⟨rs,bG⟩,h1,h2⟩:=hl
    cases rs with
    | ret ds=>cases h2; exact c.RO _ _ _ _ _ b h1 hb
    | bU p=>exact h2.elim
  | builtin bi =>
   exfalso
   unfold wx at h
   simp only at h
   split at h
   ·cases h
   ·rcases XA (bi:=bi) (l:=args.toList.map ρ)with e | ⟨b,v,e,off,len,x,_,_,_,e⟩<;>rw[e]at h<;>cases h
   ·cases h
  | invoke r m =>
   exfalso
   unfold wx at h
   simp only at h
   split at h<;>cases h
 | _ =>
  exfalso
  unfold wx at h
  simp only at h
  split at h
  ·first
    | cases h
    | (split at h<;>cases h)
  ·cases h
  ·cases h
theorem Xk{ρ:Operand→Option D}{st:St}{o:Oper}{b:Nat}(h:wx c ρ st o=.up b){bG Bf:St}{d:Option D}(hl:(zU (qZ c ρ o) bG).leads (d,Bf)) :
  ∃ y,Bf=bG.set b y∧∀ ju:St,ju[b]? = bG[b]? → (zU (qZ c ρ o) ju).leads (d,ju.set b y):=by
 obtain⟨dst,op,ty,pos,after,guard⟩:=o
 cases op with
 | store t a v =>
  have h':(∃ off,ρ a=some (.ptr b off))∨∃ v e i off,ρ a=some (.uo b v e i off):=by
   unfold wx at h
   simp only at h
   split at h
   ·cases h
   ·split at h
    ·rename_i b ha; cases h; exact Mp ha
    ·cases h
   ·cases h
  have he:qZ c ρ ⟨dst,.store t a v,ty,pos,after,guard⟩=Ua c t (ρ a) (ρ v):=rfl
  rw[he]at hl ⊢
  cases hv:ρ v with
  | none =>
   rw[hv]at hl
   rcases h' with⟨off,ha⟩ | ⟨w,e,i,off,ha⟩<;>(rw[ha]at hl; exact absurd hl zj)
  | some x =>
   rw[hv]at hl
   rcases h' with⟨off,ha⟩ | ⟨w,e,i,off,ha⟩
   ·rw[ha]at hl ⊢
    have hl:(match bG[b]? with
     | some (.var d)=>match D9 c t d off x with | some r=>bif o9 d r then T.ret ((none:Option D),bG.set b (.var r))else .fail | none=>.fail
     | _=>.fail:T (Option D×St)).leads (d,Bf):=hl
    split at hl
    ·rename_i d0 hb
     split at hl
     ·rename_i r hr
      cases ho:o9 d0 r with
      | false=>rw[ho]at hl; exact hl.elim
      | true =>
       rw[ho]at hl
       cases hl
       refine⟨.var r,rfl,fun ju h2 => ?_⟩
       show(match ju[b]? with
        | some (.var d)=>match D9 c t d off x with | some r=>bif o9 d r then T.ret ((none:Option D),ju.set b (.var r))else .fail | none=>.fail
        | _=>.fail:T (Option D×St)).leads _
       rw[h2,hb]
       simp only[hr,ho,cond_true]
       rfl
     ·exact hl.elim
    ·exact hl.elim
   ·rw[ha]at hl ⊢
    have hl:(match bG[b]? with
     | some (.arr jQ e' xs)=>bif decide (e'=e)then
       .zd (w=jQ∧i<xs.length) (match D9 c t (.zW e' (xs.getD i (zb e'))) off x with
        | some r=>match dM e' r with | some y=>T.ret ((none:Option D),bG.set b (.arr jQ e' (xs.set i y))) | none=>.fail
        | none=>.fail)
      else .fail
     | _=>.fail:T (Option D×St)).leads (d,Bf):=hl
    split at hl
    ·rename_i jQ e' xs hb
     cases hd:decide (e'=e)with
     | false=>rw[hd]at hl; exact hl.elim
     | true =>
      rw[hd,cond_true]at hl
      obtain⟨ho,hl⟩:=hl
      split at hl
      ·rename_i r hr
       split at hl
       ·rename_i y hy
        cases hl
        refine⟨.arr jQ e' (xs.set i y),rfl,fun ju h2 => ?_⟩
        show(match ju[b]? with
         | some (.arr jQ e' xs)=>bif decide (e'=e)then
           .zd (w=jQ∧i<xs.length) (match D9 c t (.zW e' (xs.getD i (zb e'))) off x with
            | some r=>match dM e' r with | some y=>T.ret ((none:Option D),ju.set b (.arr jQ e' (xs.set i y))) | none=>.fail
            | none=>.fail)
          else .fail
         | _=>.fail:T (Option D×St)).leads _
        rw[h2,hb]
        simp only[hd,cond_true,hr,hy]
        exact⟨ho,rfl⟩
       ·exact hl.elim
      ·exact hl.elim
    ·exact hl.elim
 | call cl =>
  obtain⟨callee,args,Xx⟩:=cl
  cases callee with
  | builtin bi =>
   have h':bi=.append∧∃ v e off len x,args.toList.map ρ=[some (.ms b v e off len),some x]∧KJ x=false:=by
    unfold wx at h
    simp only at h
    split at h
    ·cases h
    ·rcases XA (bi:=bi) (l:=args.toList.map ρ)with e | ⟨b',v,e,off,len,x,h1,h2,h3,e'⟩
     ·rw[e]at h; cases h
     ·rw[e']at h; cases h; exact⟨h1,v,e,off,len,x,h2,h3⟩
    ·cases h
   obtain⟨rfl,v,e,off,len,x,hx,hm⟩:=h'
   have he:qZ c ρ ⟨dst,.call ⟨.builtin .append,args,Xx⟩,ty,pos,after,guard⟩=mv c .append Xx.toList (args.toList.map ρ):=rfl
   rw[he,hx]at hl ⊢
   -- what the row gets
   have one:∀ {e':Ty} {ys:List (den e')} {ne:Bool} {pE:Nat},(kf e' (.ms b v e off len) ys ne pE bG).leads (d,Bf)→∃ y,Bf=bG.set b y∧∀ ju:St,ju[b]? = bG[b]? → (kf e' (.ms b v e off len) ys ne pE ju).leads (d,ju.set b y):=by
    intro e' ys ne pE hl
    simp only[kf]at hl
    split at hl
    ·rename_i jQ e'' xs hb
     split at hl
     ·rename_i zs hz
      cases hd:decide (e=e')with
      | false=>rw[hd]at hl; exact hl.elim
      | true =>
       rw[hd,cond_true]at hl
       obtain⟨ho,hl⟩:=hl
       cases hl
       refine⟨_,rfl,fun ju h2 => ?_⟩
       simp only[kf]
       rw[h2,hb]
       simp only[hz,hd,cond_true]
       exact⟨ho,rfl⟩
     ·exact hl.elim
    ·exact hl.elim
   have snp:∀ ju,p0 ju x=.ret x:=fun ju=>by cases x<;>first | rfl | cases hm
   generalize Xx.toList=tl at hl ⊢
   rcases tl with _ | ⟨t,_ | ⟨t',_ | ⟨t'',tl⟩⟩⟩
   ·exact absurd hl zj
   ·exact absurd hl zj
   rotate_left
   ·exact absurd hl zj
   ·
    simp only[mv]at hl ⊢
    cases ht:Nat.beq t t' with
    | true =>
     rw[ht,cond_true]at hl
     simp only[cond_true]
     unfold Qr at hl ⊢
     cases het:iW c t with
     | none=>rw[het]at hl; exact absurd hl zj
     | some et =>
      rw[het]at hl
      simp only at hl ⊢
      cases h1:H6 c 20 et with
      | none=>rw[h1]at hl; exact absurd hl zj
      | some ee =>
       rw[h1]at hl
       try simp only at hl ⊢
       cases h2:oS c et with
       | none=>rw[h2]at hl; exact absurd hl zj
       | some bytes =>
        rw[h2]at hl
        simp only at hl ⊢
        cases hc:kP c et ee&&Nat.blt 0 ee.size&&Nat.blt 0 bytes&&(zeroOf c et ee).isSome with
        | false=>rw[hc]at hl; exact absurd hl zj
        | true =>
         rw[hc,cond_true]at hl
         simp only[cond_true,zU,snp,T.bind]at hl ⊢
         cases x<;>simp only at hl ⊢ <;> first | exact hl.elim | exact one hl | skip
         ·split at hl
          ·exact one hl
          ·exact hl.elim
         ·split at hl
          ·exact one hl
          ·exact hl.elim
    | false =>
     rw[ht,cond_false]at hl
     simp only[cond_false]
     unfold sR at hl ⊢
     cases het:iW c t with
     | none=>rw[het]at hl; exact absurd hl zj
     | some et =>
      rw[het]at hl
      simp only at hl ⊢
      split at hl
      ·rename_i bytes h1 h2 h3
       cases hc:kP c et (.int .u8)&&Nat.blt 0 bytes&&(zeroOf c et (.int .u8)).isSome with
       | false=>rw[hc]at hl; exact absurd hl zj
       | true =>
        rw[hc,cond_true]at hl
        simp only[cond_true]
        split at hl
        ·rename_i s l e1 e2
         cases e1
         cases e2
         simp only[zU]at hl ⊢
         exact one hl
        ·exact absurd hl zj
      ·exact absurd hl zj
  | _ =>
   exfalso
   unfold wx at h
   simp only at h
   split at h
   ·cases h
   ·first | cases h | (split at h<;>cases h)
   ·cases h
 | _ =>
  exfalso
  unfold wx at h
  simp only at h
  split at h
  ·first
    | cases h
    | (split at h<;>cases h)
  ·cases h
  ·cases h
theorem G7:∀ (l:List Nat) (s s':F×St) (ks:List RK),Mn c n ops l s s' ks→ks.length=l.length
 | [],_,_,_,h=>by rw[h.2]; rfl
 | i::l,s,s',ks,⟨s1,k,E8,e,h1,h2⟩=>by subst e; simp[G7 l s1 s' E8 h2]
theorem rR{ρ:Operand→Option D}{st:St}{o:Oper}{b:Nat}(h:wx c ρ st o=.up b)(zL:St):wx c ρ zL o=.up b:=by
 obtain⟨dst,op,ty,pos,after,guard⟩:=o
 cases op with
 | alloc t =>
  exfalso
  unfold wx at h
  simp only at h
  split at h<;>cases h
 | call cl =>
  obtain⟨callee,args,Xx⟩:=cl
  cases callee with
  | value f =>
   exfalso
   unfold wx at h
   simp only at h
   split at h
   ·cases h
   ·split at h<;>cases h
   ·cases h
  | builtin bi=>cases bi<;>exact h
  | _=>exact h
 | _=>exact h
def z6e(ops:Array Oper)(kd:Nat→RK)(p i:Nat):Prop:=∀ x y,ops[p]? = some x→ops[i]? = some y →
 (∀ d,x.dst=some d→d ∉ tmpsOf ops y)∧(∀ d,y.dst=some d→d ∉ tmpsOf ops x)∧um (kd p) (kd i)=false
theorem te{f:F}{o:Oper}{dst:Option Nat}{d:Option D}{st:St}(h:∀ t,dst=some t→t ∉ tmpsOf ops o):wx c (qy (yg f dst d)) st o=wx c (qy f) st o:=by
 have e1:qZ c (qy (yg f dst d)) o=qZ c (qy f) o:=kD h
 have e2:∀ x∈o.op.operands,qy (yg f dst d) x=qy f x:=fun x hx=>G8 fun t ht e=>h t ht (rZ (ops:=ops) (e▸hx))
 obtain⟨dd,op,ty,pos,after,guard⟩:=o
 unfold wx
 rw[e1]
 cases op with
 | load t a=>simp only[e2 a (by simp[Op.operands])]
 | store t a v=>simp only[e2 a (by simp[Op.operands])]
 | call cl =>
  obtain⟨callee,args,Xx⟩:=cl
  cases callee with
  | value g =>
   have eA:args.toList.map (qy (yg f dst d))=args.toList.map (qy f):=List.map_congr_left fun x hx=>e2 x (by simp[Op.operands,Call.operands,Array.mem_toList_iff.1 hx])
   simp only[eA,e2 g (by simp[Op.operands,Call.operands])]
  | builtin bi =>
   have eA:args.toList.map (qy (yg f dst d))=args.toList.map (qy f):=List.map_congr_left fun x hx=>e2 x (by simp[Op.operands,Call.operands,Array.mem_toList_iff.1 hx])
   cases bi<;>first | rfl | simp only[eA]
  | _=>rfl
 | _=>rfl
theorem E2{kd:Nat→RK}{p i:Nat}(hi:z6e ops kd p i){s s1 s2:F×St}(h1:dS c n ops p s s1 (kd p))(h2:dS c n ops i s1 s2 (kd i)) :
  ∃ s',dS c n ops i s s' (kd i)∧dS c n ops p s' s2 (kd p):=by
 obtain⟨x,hx,hdx,E5⟩:=h1
 obtain⟨y,hy,hdy,hy'⟩:=h2
 obtain⟨a1,a2,a3⟩:=hi x y hx hy
 have Rr:∀ t,x.dst=some t→y.dst≠some t:=fun t ht e=>a1 t ht (kX e)
 obtain⟨f,st⟩:=s
 rcases E5 with⟨hw,hk,d,bG,hl,rfl⟩ | ⟨hw,hk,rfl⟩
 ·rcases hy' with⟨VR,yh,e,ju,iM,rfl⟩ | ⟨VR,yh,rfl⟩
  ·simp only[wq a1,kD (c:=c) a1,te (c:=c) a1]at VR yh iM
   simp only at hw hk hl
   -- the two meet nowhere in the store
   have key:∃ zL,(zU (qZ c (qy f) y) st).leads (e,zL)∧(zU (qZ c (qy f) x) zL).leads (d,ju)∧wx c (qy f) st y=kd i∧wx c (qy f) zL x=kd p:=by
    have bx:=K9 (c:=c) (qy f) st x
    have pE:=K9 (c:=c) (qy f) bG y
    rw[← hk]at bx
    rw[← yh]at pE
    rcases Nat.lt_or_ge (qZ c (qy f) x).kind 2 with DI | DI
    ·-- x writes nothing
     have e1:=dE (by omega) hl
     subst e1
     refine⟨ju,iM,?_,yh.symm,(Vd (by omega) ju bG).trans hk.symm⟩
     rcases Nat.lt_or_ge (qZ c (qy f) y).kind 2 with hy2 | hy2
     ·have e2:=dE (by omega) iM
      subst e2; exact hl
     ·have hy3:(qZ c (qy f) y).kind=2:=Nat.le_antisymm (QV _) hy2
      cases hp:kd p with
      | rd b =>
       cases hq:kd i with
       | wr A =>
        rw[hp,hq]at a3
        simp only[um,Bool.not_eq_false',List.any_eq_true]at a3
        obtain⟨b',Zm,hbb⟩:=a3
        have:=Nat.eq_of_beq_eq_true hbb
        subst this
        exact QX (by rw[← hk]; exact hp) hl (BX (by rw[← yh]; exact hq) iM b Zm)
       | rd b'=>rw[hq]at pE; simp[RK.base]at pE; omega
       | z k=>rw[hp,hq]at a3; rw[hq,hy3]at pE; simp only[RK.base]at pE; subst pE; simp[um,ux,RK.base]at a3
       | up a =>
        rw[hp,hq]at a3
        have Gr:a≠b:=fun e=>by subst e; simp[um]at a3
        obtain⟨z,e1,_⟩:=Xk (by rw[← yh]; exact hq) iM
        subst e1
        exact QX (by rw[← hk]; exact hp) hl (by rw[List.getElem?_set_ne Gr])
      | wr A=>rw[hp]at bx; simp[RK.base]at bx; omega
      | up A=>rw[hp]at bx; simp[RK.base]at bx; omega
      | z k =>
       rw[hp]at bx
       simp only[RK.base]at bx
       have HT:k=0:=by
        cases hq:kd i with
        | wr A =>
         rw[hp,hq]at a3
         simp only[um,RK.base,ux]at a3
         cases k with
         | zero=>rfl
         | succ m=>simp at a3
        | rd b'=>rw[hq]at pE; simp[RK.base]at pE; omega
        | z k' =>
         rw[hq,hy3]at pE
         simp only[RK.base]at pE
         subst pE
         rw[hp,hq]at a3
         simp only[um,RK.base,ux]at a3
         cases k with
         | zero=>rfl
         | succ m=>simp at a3
        | up A =>
         rw[hp,hq]at a3
         simp only[um,RK.base,ux]at a3
         cases k with
         | zero=>rfl
         | succ m=>simp at a3
       subst HT
       exact(l8 bx.symm hl).2 ju
    ·have hx3:(qZ c (qy f) x).kind=2:=Nat.le_antisymm (QV _) DI
     -- x writes
     rcases Nat.lt_or_ge (qZ c (qy f) y).kind 2 with hy2 | hy2
     ·have e2:=dE (by omega) iM
      subst e2
      refine⟨st,?_,hl,(Vd (by omega) st ju).trans yh.symm,hk.symm⟩
      cases hq:kd i with
      | wr A=>rw[hq]at pE; simp[RK.base]at pE; omega
      | up A=>rw[hq]at pE; simp[RK.base]at pE; omega
      | rd b =>
       cases hp:kd p with
       | wr A =>
        rw[hp,hq]at a3
        simp only[um,Bool.not_eq_false',List.any_eq_true]at a3
        obtain⟨b',Zm,hbb⟩:=a3
        have:=Nat.eq_of_beq_eq_true hbb
        subst this
        exact QX (st:=ju) (by rw[← yh]; exact hq) iM (BX (by rw[← hk]; exact hp) hl b Zm).symm
       | up a =>
        rw[hp,hq]at a3
        have Gr:a≠b:=fun e=>by subst e; simp[um]at a3
        obtain⟨z,e1,_⟩:=Xk (by rw[← hk]; exact hp) hl
        subst e1
        exact QX (st:=st.set a z) (by rw[← yh]; exact hq) iM (by rw[List.getElem?_set_ne Gr])
       | rd b'=>rw[hp]at bx; simp[RK.base]at bx; omega
       | z k=>rw[hp]at bx; simp only[RK.base]at bx; rw[hx3]at bx; subst bx; rw[hp,hq]at a3; simp[um,RK.base,ux]at a3
      | z k =>
       rw[hq]at pE
       simp only[RK.base]at pE
       have HT:k=0:=by
        have a4:um (kd p) (.z k)=false:=by rw[hq]at a3; exact a3
        have a5:ux 2 k=false:=by
         cases hp:kd p with
         | wr A=>rw[hp]at a4; exact a4
         | up A=>rw[hp]at a4; exact a4
         | rd b'=>rw[hp]at bx; simp[RK.base]at bx; omega
         | z k'=>rw[hp]at bx a4; simp only[RK.base]at bx; rw[hx3]at bx; subst bx; exact a4
        cases k with
        | zero=>rfl
        | succ m=>simp[ux]at a5
       subst HT
       exact(l8 pE.symm iM).2 st
     ·have hy3:(qZ c (qy f) y).kind=2:=Nat.le_antisymm (QV _) hy2
      -- both write: one block each
      have hup:∃ a b,kd p=.up a∧kd i=.up b∧a≠b:=by
       cases hp:kd p with
       | rd b'=>rw[hp]at bx; simp[RK.base]at bx; omega
       | up a =>
        cases hq:kd i with
        | up b=>rw[hp,hq]at a3; exact⟨a,b,rfl,rfl,fun e=>by subst e; simp[um]at a3⟩
        | rd b'=>rw[hq]at pE; simp[RK.base]at pE; omega
        | wr A=>rw[hp,hq]at a3; simp[um,RK.base,ux]at a3
        | z k=>rw[hq,hy3]at pE; simp only[RK.base]at pE; subst pE; rw[hp,hq]at a3; simp[um,RK.base,ux]at a3
       | wr A =>
        cases hq:kd i with
        | up b=>rw[hp,hq]at a3; simp[um,RK.base,ux]at a3
        | rd b'=>rw[hq]at pE; simp[RK.base]at pE; omega
        | wr B=>rw[hp,hq]at a3; simp[um,RK.base,ux]at a3
        | z k=>rw[hq,hy3]at pE; simp only[RK.base]at pE; subst pE; rw[hp,hq]at a3; simp[um,RK.base,ux]at a3
       | z k' =>
        rw[hp,hx3]at bx
        simp only[RK.base]at bx
        subst bx
        cases hq:kd i with
        | up b=>rw[hp,hq]at a3; simp[um,RK.base,ux]at a3
        | rd b'=>rw[hq]at pE; simp[RK.base]at pE; omega
        | wr B=>rw[hp,hq]at a3; simp[um,RK.base,ux]at a3
        | z k=>rw[hq,hy3]at pE; simp only[RK.base]at pE; subst pE; rw[hp,hq]at a3; simp[um,RK.base,ux]at a3
      obtain⟨a,b,hp,hq,Gr⟩:=hup
      obtain⟨z1,e1,w1⟩:=Xk (by rw[← hk]; exact hp) hl
      subst e1
      obtain⟨z2,e2,w2⟩:=Xk (by rw[← yh]; exact hq) iM
      subst e2
      refine⟨st.set b z2,w2 st (by rw[List.getElem?_set_ne Gr]),?_,(rR (by rw[← yh]; exact hq) st).trans hq.symm,(rR (by rw[← hk]; exact hp) _).trans hp.symm⟩
      rw[List.set_comm _ _ Gr]
      exact w1 (st.set b z2) (by rw[List.getElem?_set_ne (fun e=>Gr e.symm)])
   obtain⟨zL,k1,k2,k3,k4⟩:=key
   refine⟨_,⟨y,hy,hdy,.inl ⟨VR,k3.symm,e,_,k1,rfl⟩⟩,x,hx,hdx,.inl ⟨?_,?_,d,ju,?_,?_⟩⟩
   ·rw[wq a2]; exact hw
   ·rw[te (c:=c) a2]; exact k4.symm
   ·rw[kD (c:=c) a2]; exact k2
   ·simp only[gJ f d e Rr]
  ·simp only[wq a1]at VR
   refine⟨_,⟨y,hy,hdy,.inr ⟨VR,yh,rfl⟩⟩,x,hx,hdx,.inl ⟨?_,?_,d,bG,?_,?_⟩⟩
   ·rw[wq a2]; exact hw
   ·rw[te (c:=c) a2]; exact hk
   ·rw[kD (c:=c) a2]; exact hl
   ·simp only[gJ f d (some Nk) Rr]
 ·rcases hy' with⟨VR,yh,e,ju,iM,rfl⟩ | ⟨VR,yh,rfl⟩
  ·simp only[wq a1,kD (c:=c) a1,te (c:=c) a1]at VR yh iM
   refine⟨_,⟨y,hy,hdy,.inl ⟨VR,yh,e,ju,iM,rfl⟩⟩,x,hx,hdx,.inr ⟨?_,hk,?_⟩⟩
   ·rw[wq a2]; exact hw
   ·simp only[gJ f (some Nk) e Rr]
  ·simp only[wq a1]at VR
   refine⟨_,⟨y,hy,hdy,.inr ⟨VR,yh,rfl⟩⟩,x,hx,hdx,.inr ⟨?_,hk,?_⟩⟩
   ·rw[wq a2]; exact hw
   ·simp only[gJ f (some Nk) (some Nk) Rr]
end
end Go.AM
namespace Go.AM
set_option linter.unusedSectionVars false
variable [uz]
class B9 where
 df:List Deferred
instance zgS:B9:=⟨[]⟩
variable [B9]
structure Rel(κ:KS)(n:Nat)(f:F)(a:Act):Prop where
 size:a.tmps.size=n
 defers:a.defers=B9.df
 get:∀ (s:Nat) (d:D),f s=some d→∃ v,a.tmps[s]? = some v∧RD κ d v
section
variable {c:Ctx} {κ:KS} {n:Nat} {f:F} {a:Act}
theorem Rel.eval(h:Rel κ n f a){x:Operand}{d:D}(hx:qy f x=some d):RD κ d (a.eval x):=by
 cases x with
 | tmp t =>
  obtain⟨v,h1,h2⟩:=h.get t d hx
  simp only[Act.eval,Array.getD_eq_getD_getElem?,h1,Option.getD_some]
  exact h2
 | const v=>exact(Kf hx).1
 | global g=>cases hx
 | func g =>
  have hx:(bif Nat.blt g 1000000 then some (D.xk g [])else none)=some d:=hx
  cases hb:Nat.blt g 1000000 with
  | false=>rw[hb]at hx; cases hx
  | true =>
   rw[hb]at hx
   cases hx
   have:=RD.xk (κ:=κ) g [] [] rfl (fun i h=>absurd h (Nat.not_lt_zero i))
   rwa [Ln hb]at this
theorem Rel.mono{κ':KS}(x:Ext κ κ')(h:Rel κ n f a):Rel κ' n f a:=⟨h.size,h.defers,fun s d hd=>by obtain⟨v,h1,h2⟩:=h.get s d hd; exact⟨v,h1,h2.mono x⟩⟩
theorem Rel.put{dst:Option Nat}{d:Option D}{v:Value}(h:Rel κ n f a)(hd:vM n dst=true)(hv:∀ d',d=some d'→RD κ d' v):Rel κ n (yg f dst d) (a.put dst v):=by
 cases dst with
 | none=>exact h
 | some t =>
  have qp:t<n:=Nat.le_of_ble_eq_true hd
  refine⟨by simp[Act.put,h.size],h.defers,fun s d' hs => ?_⟩
  simp only[yg]at hs
  simp only[Act.put]
  by_cases e:s=t
  ·subst e
   rw[if_pos rfl]at hs
   exact⟨v,by simp[h.size,qp],hv d' hs⟩
  ·rw[if_neg e]at hs
   obtain⟨u,h1,h2⟩:=h.get s d' hs
   exact⟨u,by rw[Array.getElem?_setIfInBounds_ne (fun e'=>e e'.symm)]; exact h1,h2⟩
theorem Rm{v:Value}:RD κ Nk undef:=.gB [] [] rfl (fun i h=>absurd h (Nat.not_lt_zero i))
theorem z2y{o:Oper}{d:Option D}{zL:St}(h:qY c.P (execOp a.eval o) κ d zL){K:Act→World→Prop}{Q:Exit→Act→World→Prop}
  (hK:∀ (v:Value) (κ':KS),κ'.st=zL→Inv κ'→Ext κ κ'→(∀ d',d=some d'→RD κ' d' v)→K (a.put o.dst v) κ'.w):o.wp c.P a κ.w K Q:=by
 obtain⟨κ',nx,v,h1,h2,h3,h4,h5,h6⟩:=h
 unfold Oper.wp
 rw[h1]
 rcases h2 with rfl | ⟨rfl,rfl⟩
 ·exact hK v κ' h3 h4 h5 h6
 ·exact hK undef κ' h3 h4 h5 h6
theorem DZ(h:Rel κ n f a)(x:Option Operand):Va κ (x.map (qy f)) (x.map a.eval):=by
 cases x with
 | none=>trivial
 | some x=>exact fun y hy=>h.eval hy
theorem GS(hI:Inv κ)(hR:Rel κ n f a){b:Builtin}{args:Array Operand}{Xx:Array TypeId}{o:Oper}(ho:o.op=.call ⟨.builtin b,args,Xx⟩){d:Option D}{zL:St}
  (h:(zU (mv c b Xx.toList (args.toList.map (qy f))) κ.st).leads (d,zL)):qY c.P (execOp a.eval o) κ d zL:=by
 have two:∀ {g:Value→Value→Sem Value} {m:Int→Int→Int},(∀ k k' a b,(g (.int k a) (.int k' b)).run c.P κ.w=.ok (.int k (m a b)) κ.w)→(zU (Ku m (args.toList.map (qy f))) κ.st).leads (d,zL) →
   (∀ p q,args = #[p,q]→execOp a.eval o=(do Pure.pure (.value (← g (a.eval p) (a.eval q))):Sem Next))→qY c.P (execOp a.eval o) κ d zL:=by
  intro g m hg h he
  match hl:args.toList,h with
  | [p,q],h =>
   have hpq:args = #[p,q]:=by rw[← Array.toArray_toList (xs:=args),hl]
   rw[he p q hpq]
   obtain⟨r,h1,rfl,h3⟩:=DO hg hI (fun z hz=>hR.eval (x:=p) hz) (fun z hz=>hR.eval (x:=q) hz) h
   exact⟨κ,.value r,r,by simp[h1],.inl rfl,rfl,hI,Ext.refl κ,h3⟩
  | [],h=>exact absurd h zj
  | [_],h=>exact absurd h zj
  | _::_::_::_,h=>exact absurd h zj
 unfold mv at h
 split at h
 ·rename_i t ts x xs h1 h2
  have ht:Xx[0]? = some t:=by rw[← Array.getElem?_toList,h1]; rfl
  obtain⟨y,hy,rfl⟩:∃ y,args[0]? = some y∧x=qy f y:=by
   cases hl:args.toList with
   | nil=>rw[hl]at h2; cases h2
   | cons y ys=>rw[hl]at h2; simp at h2; exact⟨y,by rw[← Array.getElem?_toList,hl]; rfl,h2.1.symm⟩
  have:=z34 (c:=c) (ty:=o.type) (ts:=Xx) (vs:=args.map a.eval) hI (fun z hz=>hR.eval (x:=y) hz) ht (by simp[hy]) h
  simp only[execOp,ho,resolve,invoke,builtin,pure_bind]
  exact this
 ·rename_i t t' s x h1 h2
  obtain⟨p,q,rfl,rfl,hpq⟩:∃ p q,s=qy f p∧x=qy f q∧args = #[p,q]:=by
   cases hl:args.toList with
   | nil=>rw[hl]at h2; cases h2
   | cons p r=>rw[hl]at h2; cases r with
    | nil=>simp at h2
    | cons q r=>cases r with
     | nil=>simp at h2; exact⟨p,q,h2.1.symm,h2.2.symm,by rw[← Array.toArray_toList (xs:=args),hl]⟩
     | cons _ _=>simp at h2
  subst hpq
  cases hb:Nat.beq t t' with
  | false =>
   rw[hb,cond_false]at h
   have z04:Xx = #[t,t']:=by rw[← Array.toArray_toList (xs:=Xx),h1]
   subst z04
   have:=K5 (c:=c) (ty:=o.type) hI (fun z hz=>hR.eval (x:=p) hz) (fun z hz=>hR.eval (x:=q) hz) h
   have e2:(#[p,q]:Array Operand).map a.eval = #[a.eval p,a.eval q]:=by simp
   simp only[execOp,ho,resolve,invoke,builtin,pure_bind,e2]
   exact this
  | true =>
   rw[hb,cond_true]at h
   have e:=Nat.eq_of_beq_eq_true hb
   subst e
   have z04:Xx = #[t,t]:=by rw[← Array.toArray_toList (xs:=Xx),h1]
   subst z04
   have:=Dp (c:=c) (ty:=o.type) hI (fun z hz=>hR.eval (x:=p) hz) (fun z hz=>hR.eval (x:=q) hz) h
   have e2:(#[p,q]:Array Operand).map a.eval = #[a.eval p,a.eval q]:=by simp
   simp only[execOp,ho,resolve,invoke,builtin,pure_bind,e2]
   exact this
 ·rename_i t t' s x h1 h2
  obtain⟨p,q,rfl,rfl,hpq⟩:∃ p q,s=qy f p∧x=qy f q∧args = #[p,q]:=by
   cases hl:args.toList with
   | nil=>rw[hl]at h2; cases h2
   | cons p r=>rw[hl]at h2; cases r with
    | nil=>simp at h2
    | cons q r=>cases r with
     | nil=>simp at h2; exact⟨p,q,h2.1.symm,h2.2.symm,by rw[← Array.toArray_toList (xs:=args),hl]⟩
     | cons _ _=>simp at h2
  subst hpq
  have z04:Xx = #[t,t']:=by rw[← Array.toArray_toList (xs:=Xx),h1]
  subst z04
  have:=Oe (c:=c) (ty:=o.type) (t':=t') hI (fun z hz=>hR.eval (x:=p) hz) (fun z hz=>hR.eval (x:=q) hz) h
  have e2:(#[p,q]:Array Operand).map a.eval = #[a.eval p,a.eval q]:=by simp
  simp only[execOp,ho,resolve,invoke,builtin,pure_bind,e2]
  exact this
 ·rename_i h2
  exact two (g:=Builtin.min2) (fun k k' a b=>by simp[Builtin.min2,wK]) h fun p q hpq=>by
   subst hpq
   have e2:(#[p,q]:Array Operand).map a.eval = #[a.eval p,a.eval q]:=by simp
   simp only[execOp,ho,resolve,invoke,builtin,pure_bind,e2]
   simp[Builtin.min_]
 ·rename_i h2
  exact two (g:=Builtin.max2) (fun k k' a b=>by simp[Builtin.max2,w7]) h fun p q hpq=>by
   subst hpq
   have e2:(#[p,q]:Array Operand).map a.eval = #[a.eval p,a.eval q]:=by simp
   simp only[execOp,ho,resolve,invoke,builtin,pure_bind,e2]
   simp[Builtin.max_]
 ·exact absurd h zj
theorem z1I{o:Oper}{g:Nat}{caps:Array Value}{args:Array Value}{R:Ending→World→Prop}(vR:(execOp a.eval o).run c.P κ.w=(callFunc g args).run c.P κ.w)
  (h:uE c.P g args κ.w R) {K:Act→World→Prop} {Q:Exit→Act→World→Prop} (hR:∀ e w',R e w'→∃ v,e=.returned v∧K (a.put o.dst v) w'):o.wp c.P a κ.w K Q:=by
 unfold Oper.wp
 rw[vR]
 rcases h with⟨h1,h2⟩ | ⟨v,w',h1,h2⟩
 ·rw[h1]
  refine h2.mono fun e w' he => ?_
  obtain⟨v,rfl,hk⟩:=hR e w' he
  exact hk
 ·rw[h1]
  obtain⟨u,hu,hk⟩:=hR _ _ h2
  cases hu
  exact hk
theorem CS(g:Nat){l caps:List D}{vs us:List Value}(h1:xv κ l vs)(h2:xv κ caps us):xv κ (c9 g l caps) (c9 g vs us):=by
 unfold c9
 cases Nat.ble 1000000 g with
 | true=>exact h2.append h1
 | false=>exact h1.append h2
theorem BD{dst:Option Nat}{p:Operand}{args:Array Operand}{Xx:Array TypeId}{ty:TypeId}{pos:String}{after:Array Edge}{guard:Option (Nat×Bool)}{g:Nat}{us:List Value}{P:Program}{w:World}(MP:a.eval p=Xj g us) :
  (execOp a.eval ⟨dst,.call ⟨.value p,args,Xx⟩,ty,pos,after,guard⟩).run P w=(callFunc (dQ g) (c9 g (args.toList.map a.eval) us).toArray).run P w:=by
 unfold Xj at MP
 unfold dQ c9
 cases hb:Nat.ble 1000000 g with
 | true =>
  rw[hb]at MP
  simp only[cond_true]at MP ⊢
  have e:us.toArray++args.map a.eval=(us++args.toList.map a.eval).toArray:=by apply Array.ext'; simp
  simp only[execOp,resolve,MP,Deferred.ofValue,pure_bind,invoke,Array.append_empty,e]
 | false =>
  rw[hb]at MP
  simp only[cond_false]at MP ⊢
  have e:args.map a.eval++us.toArray=(args.toList.map a.eval++us).toArray:=by apply Array.ext'; simp
  simp only[execOp,resolve,MP,Deferred.ofValue,pure_bind,invoke,Array.empty_append,e]
theorem Dz{o:Oper}{d:Option D}{zL:St}(hC:∀ g,By c.P g (c.fn g))(hI:Inv κ)(hR:Rel κ n f a)(h:(zU (qZ c (qy f) o) κ.st).leads (d,zL)){K:Act→World→Prop}{Q:Exit→Act→World→Prop}
  (hK:∀ (v:Value) (κ':KS),κ'.st=zL→Inv κ'→Ext κ κ'→(∀ d',d=some d'→RD κ' d' v)→K (a.put o.dst v) κ'.w):o.wp c.P a κ.w K Q:=by
 have ml:∀ (x:Operand) (z:D),qy f x=some z→RD κ z (a.eval x):=fun x z hz=>hR.eval hz
 obtain⟨dst,op,ty,pos,after,guard⟩:=o
 have fin:qY c.P (execOp a.eval ⟨dst,op,ty,pos,after,guard⟩) κ d zL→Oper.wp c.P ⟨dst,op,ty,pos,after,guard⟩ a κ.w K Q:=fun hd=>z2y hd hK
 cases op with
 | move x =>
  simp only[qZ,wE,T.leads]at h
  obtain⟨h,rfl⟩:=h
  exact fin (qY.val hI fun d' yv=>ml x d' (h.trans yv))
 | assign x =>
  simp only[qZ,wE,T.leads]at h
  obtain⟨h,rfl⟩:=h
  exact fin (qY.val hI fun d' yv=>ml x d' (h.trans yv))
 | pick x p q =>
  simp only[qZ,FJ]at h
  split at h
  ·rename_i b hb
   have hv:=tA hb (ml x)
   rw[wE]at h
   obtain⟨h,rfl⟩:=h
   refine fin ⟨κ,.value (if b then a.eval p else a.eval q),if b then a.eval p else a.eval q,?_,.inl rfl,rfl,hI,Ext.refl κ,fun d' yv => ?_⟩
   ·simp[execOp,hv,Go.asBool]
   ·rcases h with⟨rfl,h⟩ | ⟨rfl,h⟩
    ·exact ml p d' (h.trans yv)
    ·exact ml q d' (h.trans yv)
  ·exact absurd h zj
 | alloc t=>exact fin (F3 hI h)
 | box t x=>exact fin (FQ hI (ml x) h)
 | load t x=>exact fin (Mz hI (ml x) h)
 | store t x y=>exact fin (DP hI (ml x) (ml y) h)
 | nilCheck x=>exact fin (KX rfl hI (ml x) h)
 | binOp op t x y ty' =>
  have h:(zU (DT c op t y (qy f x) (qy f y)) κ.st).leads (d,zL):=h
  unfold DT at h
  split at h
  ·exact fin (F7 hI (ml x) h)
  ·exact fin (T1 hI (ml x) (ml y) h)
 | typeAssert x xt t ok=>exact fin (VL hI (ml x) h)
 | unOp op t x=>exact fin (z0v hI (ml x) h)
 | convert s t x=>exact fin (GY hI (ml x) h)
 | makeInterface t x=>exact fin (K6 hI (ml x) h)
 | makeFunc fn first cap =>
  cases fn with
  | func g =>
   simp only[qZ]at h
   cases hb:Nat.beq first.size 0&&Nat.blt g 1000000 with
   | false =>
    rw[hb,cond_false]at h
    cases BY:Nat.beq cap.size 0&&Nat.blt g 1000000 with
    | false=>rw[BY]at h; exact absurd h zj
    | true =>
     rw[BY,cond_true]at h
     simp only[Bool.and_eq_true]at BY
     have hf:cap = #[]:=Array.eq_empty_of_size_eq_zero (Nat.eq_of_beq_eq_true BY.1)
     subst hf
     split at h
     ·rename_i l hl
      rw[w9]at h
      obtain⟨rfl,rfl⟩:=h
      have hr:=cW (κ:=κ) (vs:=first.toList.map a.eval) hl (by simp) (fun i d v hd hv=>by
       simp only[List.getElem?_map]at hd hv
       cases hi:first.toList[i]? with
       | none=>rw[hi]at hd; cases hd
       | some x=>rw[hi]at hd hv; simp at hd hv; subst hv; exact ml x d hd)
      refine fin (qY.pure hI ?_ (.xk (g+1000000) l _ hr.1 hr.2))
      have e:(first.toList.map a.eval).toArray=first.map a.eval:=by apply Array.ext'; simp
      rw[DR BY.2,e]
      simp[Instr.makeFunc]
     ·exact absurd h zj
   | true =>
    rw[hb,cond_true]at h
    simp only[Bool.and_eq_true]at hb
    have hf:first = #[]:=Array.eq_empty_of_size_eq_zero (Nat.eq_of_beq_eq_true hb.1)
    subst hf
    split at h
    ·rename_i l hl
     rw[w9]at h
     obtain⟨rfl,rfl⟩:=h
     have hr:=cW (κ:=κ) (vs:=cap.toList.map a.eval) hl (by simp) (fun i d v hd hv=>by
      simp only[List.getElem?_map]at hd hv
      cases hi:cap.toList[i]? with
      | none=>rw[hi]at hd; cases hd
      | some x=>rw[hi]at hd hv; simp at hd hv; subst hv; exact ml x d hd)
     refine fin (qY.pure hI ?_ (.xk g l _ hr.1 hr.2))
     have e:(cap.toList.map a.eval).toArray=cap.map a.eval:=by apply Array.ext'; simp
     rw[Ln hb.2,e]
     simp[Instr.makeFunc]
    ·exact absurd h zj
  | _=>exact absurd h zj
 | makeSlice t x y=>exact fin (NQ hI (ml x) (ml y) h)
 | slice t x lo hi mx=>exact fin (FI hI (ml x) (DZ hR lo) (DZ hR hi) (DZ hR mx) h)
 | fieldAddr s x fl=>exact fin (JH hI (ml x) h)
 | field s x fl=>exact fin (Ec hI (ml x) h)
 | indexAddr t x i=>exact fin (UA hI (ml x) (ml i) h)
 | index t x i=>exact fin (E3 hI (ml x) (ml i) h)
 | extract x i=>exact fin (HW hI (ml x) h)
 | build t ps =>
  have:=E6 (L:=ps.toList) (G:=a.eval) hI ml h
  refine fin ?_
  have e:(ps.toList.map fun p=>(p.1,a.eval p.2)).toArray=ps.map fun p=>(p.1,a.eval p.2):=by apply Array.ext'; simp
  rw[e]at this
  exact this
 | buildSlice t k ps =>
  have:=VE (L:=ps.toList) (G:=a.eval) hI ml h
  refine fin ?_
  have e:(ps.toList.map fun p=>(p.1,a.eval p.2)).toArray=ps.map fun p=>(p.1,a.eval p.2):=by apply Array.ext'; simp
  rw[e]at this
  exact this
 | call cl =>
  obtain⟨callee,args,Xx⟩:=cl
  cases callee with
  | builtin b=>exact fin (GS hI hR rfl h)
  | invoke r m=>exact absurd h zj
  | value p =>
   simp only[qZ,dR]at h
   split at h
   ·rename_i g caps l hp hl
    have hpv:=ml p _ hp
    have hr:=cW (κ:=κ) (vs:=args.toList.map a.eval) hl (by simp) (fun i d v hd hv=>by
      simp only[List.getElem?_map]at hd hv
      cases hi:args.toList[i]? with
      | none=>rw[hi]at hd; cases hd
      | some x=>rw[hi]at hd hv; simp at hd hv; subst hv; exact ml x d hd)
    generalize MP:a.eval p=pv at hpv
    cases hpv with
    | xk _ _ us iM hh2 =>
     have mY:=CS g hr (⟨iM,hh2⟩:xv κ caps us)
     refine z1I (c:=c) (κ:=κ) (g:=dQ g) (caps := #[]) (args:=(c9 g (args.toList.map a.eval) us).toArray) ?_ (NY (hC (dQ g)) hI mY h) ?_
     ·exact BD MP
     ·rintro e w' ⟨κ',v,rfl,h1,h2,h3,rfl,h4⟩
      exact⟨v,rfl,hK v κ' h1 h2 h3 h4⟩
   ·exact absurd h zj
 | _=>exact absurd h zj
end
end Go.AM
namespace Go.AM
set_option linter.unusedSectionVars false
variable [uz] [B9]
section
variable {c:Ctx} {n:Nat} {ops:Array Oper}
theorem GA(j:Nat):uP ops j=(ops[j]?).bind (·.dst):=by
 unfold uP; cases ops[j]? <;> rfl
theorem mI{κ:KS}{f:F}{a:Act}{o:Oper}{b:Bool}(hR:Rel κ n f a)(h:wz ops f o=some b):Region.wanted o (yielded ops a.tmps)=b:=by
 unfold wz at h
 unfold Region.wanted
 split at h
 ·rename_i hg; rw[hg]; cases h; rfl
 ·rename_i j w hg
  rw[hg]
  simp only
  split at h
  ·cases h
  ·rename_i t ht
   rw[GA]at ht
   simp only[yielded,ht,Option.bind_some]
   split at h
   ·rename_i x hx
    obtain⟨v,h1,h2⟩:=hR.get t _ hx
    have:=h2.gS
    subst this
    cases h
    rw[h1]
    cases x<;>cases w<;>rfl
   ·rename_i hx
    obtain⟨v,h1,h2⟩:=hR.get t _ hx
    cases h
    rw[h1]
    cases h2 with
    | gB _ vs hl hh=>rfl
   ·cases h
def iN(ops:Array Oper)(a a':Act):Prop:=∀ s:Nat,(∀ o∈ops.toList,o.dst≠some s)→a'.tmps[s]? = a.tmps[s]?
theorem iN.refl(ops:Array Oper)(a:Act):iN ops a a:=fun _ _=>rfl
theorem iN.trans{ops:Array Oper}{a b d:Act}(h:iN ops a b)(k:iN ops b d):iN ops a d:=fun s hs=>(k s hs).trans (h s hs)
theorem pV{ops:Array Oper}{i:Nat}{o:Oper}{a:Act}{v:Value}(ho:ops[i]? = some o):iN ops a (a.put o.dst v):=by
 intro s hs
 have hm:o∈ops.toList:=by have:=Array.mem_of_getElem? ho; simpa using this
 have:=hs o hm
 cases hd:o.dst with
 | none=>rfl
 | some t =>
  rw[hd]at this
  have uj:t≠s:=fun e=>this (by rw[e])
  simp[Act.put,Array.getElem?_setIfInBounds_ne uj]
theorem Jj{κ:KS}{a:Act}{i k:Nat}{s s':F×St}(hC:∀ g,By c.P g (c.fn g))(hI:Inv κ)(hR:Rel κ n s.1 a)(xN:κ.st=s.2)(h:gA c n ops i s s' k){K:Act→World→Prop}{Q:Exit→Act→World→Prop}
  (hK:∀ (a':Act) (κ':KS),κ'.st=s'.2→Inv κ'→Ext κ κ'→Rel κ' n s'.1 a'→iN ops a a'→K a' κ'.w):wpOp c.P ops Q i K a κ.w:=by
 obtain⟨o,ho,hd,h⟩:=h
 unfold wpOp
 rw[ho]
 simp only
 rcases h with⟨hw,_,d,zL,hl,rfl⟩ | ⟨hw,_,rfl⟩
 ·rw[if_pos (mI hR hw)]
  refine .inl (Dz hC hI hR (xN▸hl) fun v κ' h1 h2 h3 h4=>hK _ κ' h1 h2 h3 ((hR.mono h3).put hd h4) (pV ho))
 ·rw[if_neg (by rw[mI hR hw]; exact Bool.false_ne_true)]
  exact hK _ κ xN hI (Ext.refl κ) (hR.put hd fun d' yv=>by cases yv; exact Rm (v:=undef)) (pV ho)
theorem LV{Q:Exit→Act→World→Prop}(hC:∀ g,By c.P g (c.fn g)):∀ (l:List Nat) {κ:KS} {a:Act} {s s':F×St} {ks:List Nat},Inv κ→Rel κ n s.1 a→κ.st=s.2→O6 c n ops l s s' ks →
  (∀ (a':Act) (κ':KS),κ'.st=s'.2→Inv κ'→Ext κ κ'→Rel κ' n s'.1 a'→iN ops a a'→Q .normal a' κ'.w)→wpOps c.P ops Q l a κ.w
 | [],κ,a,s,s',ks,hI,hR,xN,h,hQ=>by
  obtain⟨rfl,_⟩:=h
  exact hQ a κ xN hI (Ext.refl κ) hR (iN.refl _ _)
 | i::l,κ,a,s,s',ks,hI,hR,xN,h,hQ=>by
  obtain⟨s1,k,E8,_,h1,h2⟩:=h
  rw[wpOps_cons]
  refine Jj hC hI hR xN h1 fun a1 κ1 g1 g2 g3 g4 g5 => ?_
  exact LV hC l g2 g4 g1 h2 fun a' κ' e1 e2 e3 e4 e5=>hQ a' κ' e1 e2 (g3.trans e3) e4 (g5.trans e5)
theorem YT{Q:Exit→Act→World→Prop}(hC:∀ g,By c.P g (c.fn g)):∀ (l m:List Nat) {κ:KS} {a:Act} {s s':F×St} {ks:List Nat},Inv κ→Rel κ n s.1 a→κ.st=s.2→O6 c n ops l s s' ks →
  (∀ (a':Act) (κ':KS),κ'.st=s'.2→Inv κ'→Ext κ κ'→Rel κ' n s'.1 a'→iN ops a a'→wpOps c.P ops Q m a' κ'.w)→wpOps c.P ops Q (l++m) a κ.w
 | [],m,κ,a,s,s',ks,hI,hR,xN,h,hQ=>by
  obtain⟨rfl,_⟩:=h
  exact hQ a κ xN hI (Ext.refl κ) hR (iN.refl _ _)
 | i::l,m,κ,a,s,s',ks,hI,hR,xN,h,hQ=>by
  obtain⟨s1,k,E8,_,h1,h2⟩:=h
  rw[List.cons_append,wpOps_cons]
  refine Jj hC hI hR xN h1 fun a1 κ1 g1 g2 g3 g4 g5 => ?_
  exact YT hC l m g2 g4 g1 h2 fun a' κ' e1 e2 e3 e4 e5=>hQ a' κ' e1 e2 (g3.trans e3) e4 (g5.trans e5)
theorem Kc{kd:Nat→Nat}:∀ (l:List Nat) (s s':F×St) (ks:List Nat),O6 c n ops l s s' ks→ks=l.map kd→oX c n ops kd l s s'
 | [],s,s',ks,h,_=>h.1
 | i::l,s,s',ks,⟨s1,k,E8,e,h1,h2⟩,hk=>by
  subst e
  simp only[List.map_cons,List.cons.injEq]at hk
  obtain⟨rfl,hk⟩:=hk
  exact⟨s1,h1,Kc l s1 s' E8 h2 hk⟩
theorem De:∀ (l:List Nat) (s s':F×St) (ks:List Nat),O6 c n ops l s s' ks→ks.length=l.length
 | [],_,_,_,h=>by rw[h.2]
 | i::l,s,s',ks,⟨s1,k,E8,e,h1,h2⟩=>by subst e; simp[De l s1 s' E8 h2]
theorem BT(acc:List Nat):∀ (es:List Edge) (s0 p:Nat),Nat.testBit (es.foldl (fun s e=>bif Region.binds .any e then s ||| 2 ^ e.on ||| acc.getD e.on 0 else s) s0) p=true →
  Nat.testBit s0 p=true∨∃ e∈es,Region.binds .any e=true∧(p=e.on∨Nat.testBit (acc.getD e.on 0) p=true)
 | [],s0,p,h=>.inl h
 | e::es,s0,p,h=>by
  simp only[List.foldl_cons]at h
  rcases BT acc es _ p h with h1 | ⟨e',h1,h2⟩
  ·cases hb:Region.binds .any e with
   | false=>rw[hb,cond_false]at h1; exact .inl h1
   | true =>
    rw[hb,cond_true,Nat.testBit_or,Nat.testBit_or,Nat.testBit_two_pow,Bool.or_eq_true,Bool.or_eq_true]at h1
    rcases h1 with(h1 | h1) | h1
    ·exact .inl h1
    ·exact .inr ⟨e,List.mem_cons_self,hb,.inl (of_decide_eq_true h1).symm⟩
    ·exact .inr ⟨e,List.mem_cons_self,hb,.inr h1⟩
  ·exact .inr ⟨e',List.mem_cons_of_mem _ h1,h2⟩
theorem nu:∀ (l:List Oper) (acc:List Nat),∃ r,xA l acc=acc++r∧r.length=l.length ∧
  ∀ j o,l[j]? = some o→∀ p,Nat.testBit ((xA l acc).getD (acc.length+j) 0) p=true →
   ∃ e∈o.after.toList,Region.binds .any e=true∧(p=e.on∨(e.on<acc.length+j∧Nat.testBit ((xA l acc).getD e.on 0) p=true))
 | [],acc=>⟨[],by simp[xA],rfl,fun j o h=>by simp at h⟩
 | o::l,acc=>by
  let b:=o.after.toList.foldl (fun s e=>bif Region.binds .any e then s ||| 2 ^ e.on ||| acc.getD e.on 0 else s) 0
  obtain⟨r,h1,h2,h3⟩:=nu l (acc++[b])
  have hb:xA (o::l) acc=xA l (acc++[b]):=rfl
  have MZ:∀ i,i<acc.length→(xA l (acc++[b])).getD i 0=acc.getD i 0:=fun i hi=>by
   rw[h1,List.getD,List.getD,List.append_assoc,List.getElem?_append_left hi]
  refine⟨b::r,by rw[hb,h1]; simp,by simp[h2],?_⟩
  rw[hb]
  intro j o' ho p hp
  cases j with
  | zero =>
   simp at ho
   subst ho
   have he:(xA l (acc++[b])).getD (acc.length+0) 0=b:=by rw[h1]; simp[List.getD]
   rw[he]at hp
   rcases BT acc _ 0 p hp with h | ⟨e,k1,k2,k3⟩
   ·simp at h
   ·refine⟨e,k1,k2,bW k3 id fun k3 => ?_⟩
    have qp:e.on<acc.length:=by
     rcases Nat.lt_or_ge e.on acc.length with h | h
     ·exact h
     ·rw[List.getD,List.getElem?_eq_none h]at k3; simp at k3
    exact⟨by omega,by rw[MZ _ qp]; exact k3⟩
  | succ j =>
   have:=h3 j o' (by simpa using ho) p (by rw[show(acc++[b]).length+j=acc.length+(j+1) by simp; omega]; exact hp)
   obtain⟨e,k1,k2,k3⟩:=this
   refine⟨e,k1,k2,bW k3 id fun k3=>⟨?_,k3.2⟩⟩
   have:=k3.1
   simp only[List.length_append,List.length_singleton]at this
   omega
theorem nw:∀ (l:List Oper) (k:Nat),hZ l k=true→∀ j o,l[j]? = some o→∀ e∈o.after.toList,Region.binds .any e=true→e.on<k+j
 | [],_,_,j,o,h,_,_,_=>by simp at h
 | o::l,k,h,j,o',ho,e,he,hb=>by
  simp only[hZ,Bool.and_eq_true,List.all_eq_true]at h
  cases j with
  | zero =>
   simp at ho
   subst ho
   have:=h.1 e he
   rw[hb]at this
   simp only[Bool.not_true,Bool.false_or]at this
   exact Nat.le_of_ble_eq_true this
  | succ j =>
   have:=nw l (k+1) h.2 j o' (by simpa using ho) e he hb
   omega
def Sw{K:Type}(cl:K→K→Bool)(ops:Array Oper)(x:Oper)(kx:K)(y:Oper)(ky:K):Prop:=(∀ d,x.dst=some d→d ∉ tmpsOf ops y)∧(∀ d,y.dst=some d→d ∉ tmpsOf ops x)∧cl kx ky=false
theorem Da{K:Type}{cl:K→K→Bool}{bs:List Nat}{xs:List (Nat×Option Nat×List Nat×K)}{j:Nat}{ky:K}{y:Oper}(h:Ep cl bs xs j y.dst (tmpsOf ops y) ky=true){i:Nat}{kx:K}{x:Oper}(hx:(i,x.dst,tmpsOf ops x,kx)∈xs) :
  ordered bs i j=true∨Sw cl ops x kx y ky:=by
 simp only[Ep,List.all_eq_true]at h
 have:=h _ hx
 simp only[Bool.or_eq_true,Bool.and_eq_true,Bool.not_eq_true']at this
 rcases this with h1 | ⟨⟨h1,h2⟩,h3⟩
 ·exact .inl h1
 ·refine .inr ⟨fun d hd hm => ?_,fun d hd hm => ?_,h3⟩
  ·rw[hd]at h1; simp at h1; exact h1 hm
  ·rw[hd]at h2; simp at h2; exact h2 hm
theorem oN{K:Type}{cl:K→K→Bool}{bs:List Nat}:∀ (l:List Oper) (ks:List K) (k0:Nat) (xs:List (Nat×Option Nat×List Nat×K)),oG cl ops bs l ks k0 xs=true →
  (∀ j y ky,l[j]? = some y→ks[j]? = some ky→(∀ i x kx,(i,x.dst,tmpsOf ops x,kx)∈xs→ordered bs i (k0+j)=true∨Sw cl ops x kx y ky) ∧
   (∀ i x kx,i<j→l[i]? = some x→ks[i]? = some kx→ordered bs (k0+i) (k0+j)=true∨Sw cl ops x kx y ky))
 | [],_,_,_,_,j,y,ky,hy,_=>by simp at hy
 | o::l,[],_,_,h,_,_,_,_,_=>by simp[oG]at h
 | o::l,k::ks,k0,xs,h,j,y,ky,hy,hk=>by
  simp only[oG,Bool.and_eq_true]at h
  obtain⟨h1,h2⟩:=h
  have ih:=oN l ks (k0+1) _ h2
  cases j with
  | zero =>
   simp at hy hk
   subst hy hk
   exact⟨fun i x kx hx=>by simpa using Da h1 hx,fun i x kx hi=>absurd hi (Nat.not_lt_zero i)⟩
  | succ j =>
   obtain⟨g1,g2⟩:=ih j y ky (by simpa using hy) (by simpa using hk)
   have e:k0+1+j=k0+(j+1):=by omega
   rw[e]at g1 g2
   refine⟨fun i x kx hx=>g1 i x kx (List.mem_cons_of_mem _ hx),fun i x kx hi hx hkx => ?_⟩
   cases i with
   | zero =>
    simp at hx hkx
    subst hx hkx
    exact g1 k0 o k List.mem_cons_self
   | succ i =>
    have:=g2 i x kx (by omega) (by simpa using hx) (by simpa using hkx)
    rwa [show k0+1+i=k0+(i+1) by omega]at this
def rest(ops:Array Oper)(listed:Array Bool):List Nat:=(List.range ops.size).filter fun i => !listed.getD i true
def ZP(ops:Array Oper)(listed:Array Bool):Prop:=∀ q,q<ops.size→listed.getD q true=true→∀ p,ordered (xA ops.toList []) p q=true→p<ops.size→listed.getD p true=true
theorem jc{listed:Array Bool}{i j:Nat}(hi:i<listed.size):(listed.setIfInBounds i true).getD j true=if j=i then true else listed.getD j true:=by
 simp only[Array.getD_eq_getD_getElem?]
 by_cases h:j=i
 ·subst h; simp[hi]
 ·rw[if_neg h,Array.getElem?_setIfInBounds_ne (fun e=>h e.symm)]
theorem ba{p q:Nat→Bool}{i:Nat}:∀ (l:List Nat),l.Pairwise (· < ·)→i∈l→p i=true→(∀ j,q j=(p j && !(j==i))) →
  ∃ pre post,l.filter p=pre++i::post∧l.filter q=pre++post∧∀ x∈pre,p x=true∧x∈l∧x<i
 | [],_,hi,_,_=>by simp at hi
 | a::l,hn,hi,hp,hq=>by
  have hn':=List.pairwise_cons.1 hn
  by_cases ha:a=i
  ·subst ha
   refine⟨[],l.filter p,by simp[hp],?_,by simp⟩
   have hqa:q a=false:=by rw[hq]; simp
   simp only[List.filter_cons,hqa,Bool.false_eq_true,if_false,List.nil_append]
   refine List.filter_congr fun x hx => ?_
   rw[hq]
   have:(x==a)=false:=by simp; exact fun e=>absurd (hn'.1 x hx) (by omega)
   simp[this]
  ·have KM:i∈l:=by rcases List.mem_cons.1 hi with h | h; exact absurd h.symm ha; exact h
   obtain⟨pre,post,h1,h2,h3⟩:=ba l hn'.2 KM hp hq
   have hqa:q a=p a:=by rw[hq]; simp[ha]
   refine⟨if p a then a::pre else pre,post,?_,?_,?_⟩
   ·simp only[List.filter_cons]; split<;>simp[h1]
   ·simp only[List.filter_cons,hqa]; split<;>simp[h2]
   ·intro x hx
    split at hx
    ·rename_i hpa
     rcases List.mem_cons.1 hx with rfl | hx
     ·exact⟨hpa,List.mem_cons_self,hn'.1 i KM⟩
     ·exact⟨(h3 x hx).1,List.mem_cons_of_mem _ (h3 x hx).2.1,(h3 x hx).2.2⟩
    ·exact⟨(h3 x hx).1,List.mem_cons_of_mem _ (h3 x hx).2.1,(h3 x hx).2.2⟩
theorem nD{listed:Array Bool}{i:Nat}:i∈Region.ready .any ops listed↔i<ops.size∧listed.getD i true=false∧∀ o,ops[i]? = some o→∀ e∈o.after.toList,Region.binds .any e=true→listed.getD e.on false=true:=by
 unfold Region.ready
 simp only[List.mem_filter,List.mem_range,Bool.and_eq_true,Bool.not_eq_true']
 constructor
 ·rintro⟨h1,h2,h3⟩
  refine⟨h1,h2,fun o ho e he hb => ?_⟩
  rw[ho]at h3
  simp only[Option.map_some,Option.getD_some,Array.all_eq_true_iff_forall_mem]at h3
  have:=h3 e (by simpa using he)
  rw[hb]at this
  simpa using this
 ·rintro⟨h1,h2,h3⟩
  refine⟨h1,h2,?_⟩
  have ho:ops[i]? = some ops[i]:=Array.getElem?_eq_getElem h1
  rw[ho]
  simp only[Option.map_some,Option.getD_some,Array.all_eq_true_iff_forall_mem]
  intro e he
  cases hb:Region.binds .any e with
  | false=>rfl
  | true=>simpa using h3 _ ho e (by simpa using he) hb
theorem Jp(EX:hZ ops.toList 0=true){listed:Array Bool}(jk:listed.size=ops.size):Region.ready .any ops listed=[]→rest ops listed=[]:=by
 intro hr
 cases NL:rest ops listed with
 | nil=>rfl
 | cons i l =>
  exfalso
  have hi:i∈rest ops listed:=by rw[NL]; exact List.mem_cons_self
  simp only[rest,List.mem_filter,List.mem_range,Bool.not_eq_true']at hi
  have z1N:∀ j,j<i→listed.getD j true=true:=by
   intro j hj
   cases hl:listed.getD j true with
   | true=>rfl
   | false =>
    have hpw:(rest ops listed).Pairwise (· < ·):=List.Pairwise.filter _ List.pairwise_lt_range
    have hjm:j∈rest ops listed:=by simp only[rest,List.mem_filter,List.mem_range,Bool.not_eq_true']; exact⟨by omega,hl⟩
    rw[NL]at hpw hjm
    rcases List.mem_cons.1 hjm with rfl | hjm
    ·exact absurd hj (Nat.lt_irrefl _)
    ·have:=(List.pairwise_cons.1 hpw).1 j hjm; omega
  have:i∈Region.ready .any ops listed:=by
   rw[nD]
   refine⟨hi.1,hi.2,fun o ho e he hb => ?_⟩
   have qp:=nw ops.toList 0 EX i o (by simpa using ho) e he hb
   have:=z1N e.on (by omega)
   rw[Array.getD_eq_getD_getElem?]at this ⊢
   rw[Array.getElem?_eq_getElem (by omega)]at this ⊢
   exact this
  rw[hr]at this
  cases this
def Ky(Stp:Nat→F×St→F×St→Prop):List Nat→F×St→F×St→Prop
 | [],s,s'=>s'=s
 | i::l,s,s'=>∃ s1,Stp i s s1∧Ky Stp l s1 s'
theorem Gs{Stp:Nat→F×St→F×St→Prop}{In:Nat→Nat→Prop}(C4:∀ p i,In p i→∀ s s1 s2,Stp p s s1→Stp i s1 s2→∃ s',Stp i s s'∧Stp p s' s2){i:Nat}{post:List Nat}{s':F×St}:∀ {pre:List Nat} {s:F×St},(∀ p∈pre,In p i)→Ky Stp (pre++i::post) s s' →
  ∃ s1,Stp i s s1∧Ky Stp (pre++post) s1 s'
 | [],s,_,h=>h
 | p::pre,s,hp,⟨sp,h1,h2⟩=>by
  obtain⟨s1,h3,h4⟩:=Gs C4 (fun q hq=>hp q (List.mem_cons_of_mem _ hq)) h2
  obtain⟨s2,h5,h6⟩:=C4 _ _ (hp p List.mem_cons_self) _ _ _ h1 h3
  exact⟨s2,h5,s1,h6,h4⟩
theorem W4{Stp:Nat→F×St→F×St→Prop}{In:Nat→Nat→Prop}(RG:∀ i s s',Stp i s s'→∃ k,gA c n ops i s s' k)(C4:∀ p i,In p i→∀ s s1 s2,Stp p s s1→Stp i s1 s2→∃ s',Stp i s s'∧Stp p s' s2){Q:Exit→Act→World→Prop}(hC:∀ g,By c.P g (c.fn g))(EX:hZ ops.toList 0=true)
  {sf:F×St}:∀ (fuel:Nat) (listed:Array Bool) {κ:KS} {a:Act} {s:F×St},(∀ p i,p<i→i<ops.size→listed.getD p true=false→ordered (xA ops.toList []) p i=true∨In p i) →
  listed.size=ops.size→fuel=(rest ops listed).length→ZP ops listed→Inv κ→Rel κ n s.1 a→κ.st=s.2→Ky Stp (rest ops listed) s sf →
  (∀ (a':Act) (κ':KS),κ'.st=sf.2→Inv κ'→Ext κ κ'→Rel κ' n sf.1 a'→iN ops a a'→Q .normal a' κ'.w)→wpAny c.P .any ops Q fuel listed a κ.w
 | fuel,listed,κ,a,s,kF,jk,hfuel,U0,hI,hR,xN,vR,hQ=>by
  have z69:=Jp EX (listed:=listed) jk
  have UR:rest ops listed=[]→Q .normal a κ.w:=by
   intro h
   rw[h]at vR
   cases vR
   exact hQ a κ xN hI (Ext.refl κ) hR (iN.refl _ _)
  cases fuel with
  | zero =>
   have NL:rest ops listed=[]:=List.eq_nil_of_length_eq_zero hfuel.symm
   refine⟨?_,UR NL⟩
   apply List.eq_nil_iff_forall_not_mem.2
   intro i hi
   rw[nD]at hi
   have:i∈rest ops listed:=by simp only[rest,List.mem_filter,List.mem_range,Bool.not_eq_true']; exact⟨hi.1,hi.2.1⟩
   rw[NL]at this
   cases this
  | succ fuel =>
   refine⟨fun h=>UR (z69 h),fun i hi => ?_⟩
   rw[nD]at hi
   obtain⟨h1,h2,h3⟩:=hi
   have ho:ops[i]? = some ops[i]:=Array.getElem?_eq_getElem h1
   obtain⟨pre,post,g1,g2,g3⟩:=ba (p:=fun i => !listed.getD i true) (q:=fun j => !(listed.setIfInBounds i true).getD j true) (i:=i) (List.range ops.size) List.pairwise_lt_range
    (List.mem_range.2 h1) (by simp[h2]) (fun j=>by
     rw[jc (by omega)]
     by_cases h:j=i
     ·subst h; simp
     ·simp[h])
   have CY:∀ p,ordered (xA ops.toList []) p i=true→p<ops.size→listed.getD p true=true:=by
    intro p hp qp
    obtain⟨r,_,_,hb⟩:=nu ops.toList []
    obtain⟨e,k1,k2,k3⟩:=hb i ops[i] (by simp) p (by simpa[ordered]using hp)
    have hle:=h3 _ ho e k1 k2
    have VU:=nw ops.toList 0 EX i ops[i] (by simp) e k1 k2
    have Yf:listed.getD e.on true=true:=by
     rw[Array.getD_eq_getD_getElem?]at hle ⊢
     rw[Array.getElem?_eq_getElem (by omega)]at hle ⊢
     exact hle
    rcases k3 with rfl | ⟨_,k3⟩
    ·exact Yf
    ·exact U0 e.on (by omega) Yf p k3 qp
   have Pf:∀ p∈pre,In p i:=by
    intro p hp
    obtain⟨q1,q2,q3⟩:=g3 p hp
    rcases kF p i q3 h1 (by simpa using q1)with h | h
    ·have:=CY p h (by simpa using q2)
     simp[this]at q1
    ·exact h
   have D7:Ky Stp (pre++i::post) s sf:=by
    have:rest ops listed=pre++i::post:=g1
    rw[← this]; exact vR
   obtain⟨s1,k1,k2⟩:=Gs C4 Pf D7
   have rX:rest ops (listed.setIfInBounds i true)=pre++post:=g2
   obtain⟨kk,k1⟩:=RG _ _ _ k1
   refine Jj hC hI hR xN k1 fun a1 κ1 e1 e2 e3 e4 e5 => ?_
   refine W4 RG C4 hC EX fuel (listed.setIfInBounds i true) (fun p j hpj hj hp=>kF p j hpj hj (by
    rw[jc (by omega)]at hp
    split at hp
    ·cases hp
    ·exact hp)) (by simp[jk]) ?_ ?_ e2 e4 e1 (by rw[rX]; exact k2) fun a' κ' d1 d2 d3 d4 d5=>hQ a' κ' d1 d2 (e3.trans d3) d4 (e5.trans d5)
   ·have:rest ops listed=pre++i::post:=g1
    rw[this]at hfuel
    rw[rX]
    simp only[List.length_append,List.length_cons]at hfuel ⊢
    omega
   ·intro q hq Na p hp qp
    rw[jc (by omega)]at Na ⊢
    split
    ·rfl
    ·split at Na
     ·rename_i e; subst e; exact CY p hp qp
     ·exact U0 q hq Na p hp qp
theorem Dm{kd:Nat→Nat}:∀ (l:List Nat) (s s':F×St),oX c n ops kd l s s'→Ky (fun i s s'=>gA c n ops i s s' (kd i)) l s s'
 | [],_,_,h=>h
 | i::l,s,s',⟨s1,h1,h2⟩=>⟨s1,h1,Dm l s1 s' h2⟩
theorem Je{kd:Nat→Nat}{Q:Exit→Act→World→Prop}(hC:∀ g,By c.P g (c.fn g))(EX:hZ ops.toList 0=true)
  {sf:F×St}:∀ (fuel:Nat) (listed:Array Bool) {κ:KS} {a:Act} {s:F×St},(∀ p i,p<i→i<ops.size→listed.getD p true=false→ordered (xA ops.toList []) p i=true∨Ind ops kd p i) →
  listed.size=ops.size→fuel=(rest ops listed).length→ZP ops listed→Inv κ→Rel κ n s.1 a→κ.st=s.2→oX c n ops kd (rest ops listed) s sf →
  (∀ (a':Act) (κ':KS),κ'.st=sf.2→Inv κ'→Ext κ κ'→Rel κ' n sf.1 a'→iN ops a a'→Q .normal a' κ'.w)→wpAny c.P .any ops Q fuel listed a κ.w
 | fuel,listed,κ,a,s,kF,jk,hfuel,U0,hI,hR,xN,vR,hQ =>
  W4 (Stp:=fun i s s'=>gA c n ops i s s' (kd i)) (In:=fun p i=>Ind ops kd p i) (fun i s s' h=>⟨_,h⟩) (fun p i hi s s1 s2 h1 h2=>Gc hi h1 h2) hC EX fuel listed kF jk hfuel U0 hI hR xN (Dm _ _ _ vR) hQ
end
end Go.AM
namespace Go.AM
set_option linter.unusedSectionVars false
variable [uz] [B9]
open Go.RowKit
structure Up(κ κ':KS):Prop where
 same:Eb κ.w κ'.w κ.ok κ'.ok
 var:∀ (b:Nat) (d:D),κ.st[b]? = some (.var d)→(∃ d',κ'.st[b]? = some (.var d'))∧κ'.ph[b]? = κ.ph[b]?
 old:∀ (b qR:Nat),Old κ.st b qR→Old κ'.st b qR
 row:∀ (b v:Nat) (e:Ty) (xs:List (den e)),Old κ.st b v→κ'.st[b]? = some (.arr v e xs)→κ.st[b]? = some (.arr v e xs)∧κ'.ph[b]? = κ.ph[b]?
theorem RD.up{κ κ':KS}(x:Up κ κ'){d:D}{v:Value}(h:RD κ d v):RD κ' d v:=by
 induction h with
 | zW τ y cs h=>exact .zW τ y cs (h.mono x.same)
 | xG e a=>exact .xG e a
 | tight e l ne blk off f uj wg h hc=>exact .tight e l ne blk off f uj (x.same _ wg).1 (fun i hi=>(h i hi).mono x.same) fun i hi j v hv=>by rw[cd (x.same _ wg).2]; exact hc i hi j v hv
 | xm=>exact .xm
 | yA=>exact .yA
 | xX=>exact .xX
 | vO=>exact .vO
 | vP=>exact .vP
 | Zh v h=>exact .Zh v h
 | dL T=>exact .dL T
 | dv b T d hd =>
  obtain⟨⟨d',yv⟩,hp⟩:=x.var b d hd
  exact .dv b T d' yv
 | cY b T blk n d hd h =>
  obtain⟨⟨d',yv⟩,hp⟩:=x.var b d hd
  exact .cY b T blk n d' yv (hp.trans h)
 | ptr b off blk n d hd h =>
  obtain⟨⟨d',yv⟩,hp⟩:=x.var b d hd
  exact .ptr b off blk n d' yv (hp.trans h)
 | xo τ y cs blk off wg h hc=>exact .xo τ y cs blk off (x.same _ wg).1 (h.mono x.same) fun j v hv=>by rw[cd (x.same _ wg).2]; exact hc j v hv
 | uo b qR e idx off blk o hb h =>
  refine .uo b qR e idx off blk o (x.old b qR hb) fun xs hx hi => ?_
  obtain⟨h1,h2⟩:=x.row b qR e xs hb hx
  rw[h2]
  exact h xs h1 hi
 | ms b qR e off len cap a hb wD ha tq h =>
  refine .ms b qR e off len cap a (x.old b qR hb) wD ha tq fun xs hx => ?_
  obtain⟨h1,h2⟩:=x.row b qR e xs hb hx
  have:=h xs h1
  unfold Mh at this ⊢
  rw[h2]
  exact this
 | xk f l vs hl h ih=>exact .xk f l vs hl ih
 | agg l vs hl ho h ih=>exact .agg l vs hl ho ih
 | gB l vs hl h ih=>exact .gB l vs hl ih
 | iface t d v h ih=>exact .iface t d v ih
structure Nob(κ:KS)(blk:Nat):Prop where
 lt:blk<κ.w.heap.size
 ok:¬ κ.ok blk
 ph:∀ (b n:Nat),κ.ph[b]? ≠ some (some (blk,n))
theorem Nob.ext{κ κ':KS}(x:Ext κ κ'){blk:Nat}(h:Nob κ blk):Nob κ' blk∧κ'.w.heap[blk]? = κ.w.heap[blk]? := by
 refine⟨⟨Nat.lt_of_lt_of_le h.lt x.size,fun hk => ?_,fun b n hb => ?_⟩,x.frame blk h.lt h.ph⟩
 ·rcases x.fresh blk hk with h1 | h1 | ⟨b,n,h1⟩
  ·exact h.ok h1
  ·have:=h.lt; omega
  ·exact h.ph b n h1
 ·rcases x.phs b blk n hb with h1 | h1
  ·exact h.ph b n h1
  ·have:=h.lt; omega
def KS.push(κ:KS)(blk n:Nat)(d:D):KS:={ κ with ph:=κ.ph++[some (blk,n)],st:=κ.st++[.var d] }
theorem mr{α:Type}{l:List α}{x y:α}{b:Nat}(h:l[b]? = some y):(l++[x])[b]? = some y:=by
 rw[List.getElem?_append_left (List.getElem?_eq_some_iff.1 h).1]; exact h
theorem sX{α:Type}{l:List α}{x y:α}{b:Nat}(h:(l++[x])[b]? = some y):l[b]? = some y∨(b=l.length∧y=x):=by
 by_cases hb:b<l.length
 ·rw[List.getElem?_append_left hb]at h; exact .inl h
 ·have hl:=(List.getElem?_eq_some_iff.1 h).1
  simp at hl
  have:b=l.length:=by omega
  subst this
  simp at h
  exact .inr ⟨rfl,h.symm⟩
theorem Ie{κ:KS}(hI:Inv κ)(blk n:Nat)(d:D):Up κ (κ.push blk n d):=by
 have V8:∀ {b:Nat} {y:yd},κ.st[b]? = some y→(κ.ph++[some (blk,n)])[b]? = κ.ph[b]? := fun h=>by
  rw[List.getElem?_append_left]; rw[hI.len]; exact(List.getElem?_eq_some_iff.1 h).1
 refine⟨fun k hk=>⟨hk,rfl⟩,fun b d' h=>⟨⟨d',mr h⟩,V8 h⟩,fun b qR h => ?_,fun b v e xs ho h => ?_⟩
 ·rcases h with h | ⟨v0,e0,oW,h,hv⟩
  ·exact .inl (mr h)
  ·exact .inr ⟨v0,e0,oW,mr h,hv⟩
 ·rcases sX h with h1 | ⟨_,h1⟩
  ·exact⟨h1,V8 h1⟩
  ·cases h1
theorem z23{κ0 κ:KS}{blk:Nat}{d:D}{z:Value}{t:TypeId}(hI:Inv κ)(hx:Ext κ0 κ)(hb:Nob κ blk)(h0:κ0.w.heap.size≤blk)(hz:RD κ d z)(ht:d.uy=false)(LL:∀ T,d.typed=some T→t=T)(hh:κ.w.heap[blk]? = some (.cells z.cells t (0,0))) :
  Inv (κ.push blk z.cells.size d)∧Ext κ0 (κ.push blk z.cells.size d)∧RD (κ.push blk z.cells.size d) (.ptr κ.st.length 0) (.pointer (some ⟨blk,0,none⟩)):=by
 have hu:=Ie hI blk z.cells.size d
 have xN:(κ.push blk z.cells.size d).st[κ.st.length]? = some (.var d):=by simp[KS.push]
 have V8:(κ.push blk z.cells.size d).ph[κ.st.length]? = some (some (blk,z.cells.size)):=by simp[KS.push,← hI.len]
 have Rh:∀ {b k m:Nat},(κ.push blk z.cells.size d).ph[b]? = some (some (k,m))→κ.ph[b]? = some (some (k,m))∨(b=κ.ph.length∧k=blk):=by
  intro b k m h
  rcases sX h with h1 | ⟨h1,h2⟩
  ·exact .inl h1
  ·cases h2; exact .inr ⟨h1,rfl⟩
 refine⟨⟨by simp[KS.push,hI.len],hI.y5,fun b k m h => ?_,fun b b' k m m' h h' => ?_,fun b y h => ?_,hI.gl⟩,?_,.ptr _ 0 blk _ d xN V8⟩
 ·rcases Rh h with h1 | ⟨_,rfl⟩
  ·exact hI.apart b k m h1
  ·exact⟨hb.lt,hb.ok⟩
 ·rcases Rh h with h1 | ⟨h1,rfl⟩
  ·rcases Rh h' with h2 | ⟨h2,rfl⟩
   ·exact hI.inj b b' k m m' h1 h2
   ·exact(hb.ph b m h1).elim
  ·rcases Rh h' with h2 | ⟨h2,_⟩
   ·exact(hb.ph b' m' h2).elim
   ·omega
 ·rcases sX h with h1 | ⟨h1,h2⟩
  ·have hp:(κ.push blk z.cells.size d).ph[b]? = κ.ph[b]? := by
    show(κ.ph++[_])[b]? = _
    rw[List.getElem?_append_left]; rw[hI.len]; exact(List.getElem?_eq_some_iff.1 h1).1
   have hy:=hI.blk b y h1
   cases y with
   | dead=>trivial
   | var d' =>
    obtain⟨k,m,cs,T,g1,g2,g3,g4,g5⟩:=hy
    exact⟨k,m,cs,T,hp.trans g1,g2,g3,⟨g4.1,fun i h1 h2=>(g4.2 i h1 h2).up hu⟩,g5⟩
   | arr qR e xs =>
    obtain⟨g0,g⟩:=hy
    refine⟨g0,bW g (fun h=>⟨h.1,hp.trans h.2⟩) ?_⟩
    rintro⟨k,m,cs,T,g1,g2⟩
    exact⟨k,m,cs,T,hp.trans g1,g2⟩
  ·subst h1
   subst h2
   have hf:=jq hz ht
   exact⟨blk,z.cells.size,z.cells,t,V8,hh,rfl,⟨hf.1,fun i h1 h2=>(hf.2 i h1 h2).up hu⟩,jm hz,LL⟩
 ·refine⟨hx.os,hx.tape,hx.output,hx.size,hx.same,hx.fresh,fun b k m h => ?_,fun b d' h => ?_,fun b v0 e xs h => ?_,fun b h=>mr (hx.dead b h),Nat.le_trans hx.Dy (by simp[KS.push]),hx.frame⟩
  ·rcases Rh h with h1 | ⟨_,rfl⟩
   ·exact hx.phs b k m h1
   ·exact .inr h0
  ·obtain⟨⟨d1,h1⟩,h2⟩:=hx.var b d' h
   obtain⟨h3,h4⟩:=hu.var b d1 h1
   exact⟨h3,h4.trans h2⟩
  ·rcases hx.arr b v0 e xs h with h1 | ⟨v1,zy,h1,h2,h3⟩
   ·exact .inl (mr h1)
   ·refine .inr ⟨v1,zy,mr h1,h2,fun he=>⟨?_,(h3 he).2⟩⟩
    have hp:(κ.push blk z.cells.size d).ph[b]? = κ.ph[b]? := by
     show(κ.ph++[_])[b]? = _
     rw[List.getElem?_append_left]; rw[hI.len]; exact(List.getElem?_eq_some_iff.1 h1).1
    exact hp.trans (h3 he).1
theorem z1T{κ:KS}(hI:Inv κ)(o:Obj):Inv { κ with w:=κ.w.alloc o }∧Ext κ { κ with w:=κ.w.alloc o }∧Nob { κ with w:=κ.w.alloc o } κ.w.heap.size∧(κ.w.alloc o).heap[κ.w.heap.size]? = some o:=by
 have hs:(κ.w.alloc o).heap.size=κ.w.heap.size+1:=by simp
 have hold:∀ k,k<κ.w.heap.size→(κ.w.alloc o).heap[k]? = κ.w.heap[k]? := fun k hk=>by
  show(κ.w.heap.push o)[k]? = _
  rw[Array.getElem?_push]
  rw[if_neg (by omega)]
 have hx:Ext κ { κ with w:=κ.w.alloc o }:=⟨rfl,rfl,rfl,by show κ.w.heap.size≤(κ.w.alloc o).heap.size; omega,fun k hk=>⟨hk,hold k (hI.y5 k hk)⟩,fun k hk=>.inl hk,fun _ _ _ h=>.inl h,fun b d h=>⟨⟨d,h⟩,rfl⟩,
  fun b v0 e xs h=>.inr ⟨v0,xs,h,Nat.le_refl _,fun _=>⟨rfl,rfl⟩⟩,fun _ h=>h,Nat.le_refl _,fun k hk _=>hold k hk⟩
 refine⟨⟨hI.len,fun k hk => ?_,fun b blk n h => ?_,hI.inj,fun b y hy=>(hI.blk b y hy).mono hx rfl fun blk n h=>hold _ (hI.apart b blk n h).1,hI.gl.mono hx.same⟩,hx,⟨?_,fun hk => ?_,fun b n h => ?_⟩,?_⟩
 ·have:=hI.y5 k hk; show k<(κ.w.alloc o).heap.size; omega
 ·have:=hI.apart b blk n h; exact⟨by show blk<(κ.w.alloc o).heap.size; omega,this.2⟩
 ·show κ.w.heap.size<(κ.w.alloc o).heap.size; omega
 ·have:=hI.y5 _ hk; omega
 ·have:=(hI.apart b _ n h).1; omega
 ·show(κ.w.heap.push o)[κ.w.heap.size]? = some o
  simp
section
variable {c:Ctx} {n:Nat} {ops:Array Oper}
structure Em where
 i:Nat
 d:Nat
 blk:Nat
 t:TypeId
 z:Value
 D:D
structure Fu(c:Ctx)(ops:Array Oper)(κ0 κ:KS)(a:Act)(e:Em):Prop where
 op:∃ o,ops[e.i]? = some o∧o.op=.alloc e.t∧o.guard=none∧o.dst=some e.d
 zero:VA c e.t=some e.D
 z:∃ i,c.P.info? e.t=some i∧i.zero=some e.z∧ZD e.t e.D e.z
 val:a.tmps[e.d]? = some (.pointer (some ⟨e.blk,0,none⟩))
 heap:κ.w.heap[e.blk]? = some (.cells e.z.cells e.t (0,0))
 nob:Nob κ e.blk
 new:κ0.w.heap.size≤e.blk
theorem Fu.mono{κ0 κ κ':KS}{a a':Act}{e:Em}(h:Fu c ops κ0 κ a e)(x:Ext κ κ')(ha:a'.tmps[e.d]? = a.tmps[e.d]?):Fu c ops κ0 κ' a' e:=by
 obtain⟨h1,h2⟩:=h.nob.ext x
 exact⟨h.op,h.zero,h.z,ha.trans h.val,h2.trans h.heap,h1,h.new⟩
def ye(es:List Em)(f:F):F:=fun s=>if es.any (fun e=>Nat.beq e.d s)then none else f s
theorem XH{es:List Em}{f:F}{s:Nat}(h:∀ e∈es,e.d≠s):ye es f s=f s:=by
 unfold ye
 rw[if_neg]
 intro hh
 obtain⟨e,he,hb⟩:=List.any_eq_true.1 hh
 exact h e he (Nat.eq_of_beq_eq_true hb)
theorem Yr{es:List Em}{f:F}{s:Nat}{d:D}(h:ye es f s=some d):f s=some d∧∀ e∈es,e.d≠s:=by
 unfold ye at h
 split at h
 ·cases h
 ·rename_i hh
  refine⟨h,fun e he hs=>hh (List.any_eq_true.2 ⟨e,he,?_⟩)⟩
  subst hs; simp
def fV(ops:Array Oper)(i:Nat):Prop:=∃ o,ops[i]? = some o∧Wc o=true
theorem Nn{o:Oper}(h:Wc o=true):∃ t d,o.op=.alloc t∧o.guard=none∧o.dst=some d:=by
 unfold Wc at h
 simp only[Bool.and_eq_true]at h
 obtain⟨⟨h1,h2⟩,h3⟩:=h
 split at h1
 ·rename_i t ht
  obtain⟨d,hd⟩:=Option.isSome_iff_exists.1 h3
  exact⟨t,d,ht,Option.isNone_iff_eq_none.1 h2,hd⟩
 ·cases h1
theorem HX{o:Oper}{t d:Nat}(h1:o.op=.alloc t)(h2:o.guard=none)(h3:o.dst=some d):Wc o=true:=by
 unfold Wc; rw[h1,h2,h3]; rfl
theorem C3{kd:Nat→Nat}:∀ {l:List Nat} {s sf:F×St} {i:Nat},oX c n ops kd l s sf→i∈l→∃ s1 s2,gA c n ops i s1 s2 (kd i)
 | [],_,_,_,_,h=>by cases h
 | j::l,s,sf,i,⟨s1,h1,h2⟩,h=>by
  rcases List.mem_cons.1 h with rfl | h
  ·exact⟨s,s1,h1⟩
  ·exact C3 h2 h
theorem Ka{kd:Nat→Nat}{i t d:Nat}{o:Oper}(ho:ops[i]? = some o)(h1:o.op=.alloc t)(h2:o.guard=none)(h3:o.dst=some d){s s':F×St}(h:gA c n ops i s s' (kd i)) :
  ∃ D,VA c t=some D∧d<n∧s'=(yg s.1 (some d) (some (.ptr s.2.length 0)),s.2++[.var D]):=by
 obtain⟨o',ho',hd,h⟩:=h
 rw[ho]at ho'
 cases ho'
 rw[h3]at hd
 have qp:d<n:=Nat.le_of_ble_eq_true hd
 have hw:wz ops s.1 o=some true:=by unfold wz; rw[h2]
 rcases h with⟨_,_,D,zL,hl,rfl⟩ | ⟨hw',_,_⟩
 ·have he:qZ c (qy s.1) o=oy c t:=by
   obtain⟨dst,op,ty,pos,after,guard⟩:=o
   cases h1
   rfl
  rw[he]at hl
  unfold oy at hl
  split at hl
  ·rename_i y hy
   simp only[zU,T.leads,Prod.mk.injEq]at hl
   obtain⟨rfl,rfl⟩:=hl
   exact⟨y,hy,qp,by rw[h3]⟩
  ·exact absurd hl zj
 ·rw[hw]at hw'; cases hw'
theorem DV{es:List Em}{i k:Nat}{s s':F×St}(h:gA c n ops i s s' k)(hd:∀ o,ops[i]? = some o→∀ e∈es,e.d ∉ tmpsOf ops o) :
  gA c n ops i (ye es s.1,s.2) (ye es s'.1,s'.2) k:=by
 obtain⟨o,ho,zfL,h⟩:=h
 have Ba:=hd o ho
 have Fk:∀ x:Option D,yg (ye es s.1) o.dst x=ye es (yg s.1 o.dst x):=by
  intro x
  cases hds:o.dst with
  | none=>rfl
  | some t =>
   funext u
   simp only[yg,ye]
   by_cases hu:u=t
   ·subst hu
    rw[if_pos rfl]
    rw[if_neg,if_pos rfl]
    intro hh
    obtain⟨e,he,hb⟩:=List.any_eq_true.1 hh
    exact Ba e he (by rw[Nat.eq_of_beq_eq_true hb]; exact kX hds)
   ·rw[if_neg hu]
    split<;>rfl
 have ml:∀ x∈o.op.operands,qy (ye es s.1) x=qy s.1 x:=by
  intro x hx
  cases x with
  | tmp t=>exact XH fun e he ht=>Ba e he (ht▸rZ hx)
  | _=>rfl
 have hw:wz ops (ye es s.1) o=wz ops s.1 o:=by
  unfold wz
  cases hg:o.guard with
  | none=>rfl
  | some jw =>
   obtain⟨j,w⟩:=jw
   simp only
   cases hs:uP ops j with
   | none=>rfl
   | some t =>
    simp only
    rw[XH fun e he ht=>Ba e he (ht▸pT hg hs)]
 refine⟨o,ho,zfL,?_⟩
 rcases h with⟨h1,h2,d,zL,h3,rfl⟩ | ⟨h1,h2,rfl⟩
 ·refine .inl ⟨hw.trans h1,?_,d,zL,?_,?_⟩
  ·rw[show qZ c (qy (ye es s.1)) o=qZ c (qy s.1) o from ZI o ml]; exact h2
  ·rw[show qZ c (qy (ye es s.1)) o=qZ c (qy s.1) o from ZI o ml]; exact h3
  ·rw[Fk]
 ·exact .inr ⟨hw.trans h1,h2,by rw[Fk]⟩
theorem N8{κ:KS}{a:Act}{i k:Nat}{s s':F×St}(hC:∀ g,By c.P g (c.fn g))(hI:Inv κ)(hR:Rel κ n s.1 a)(xN:κ.st=s.2)(h:gA c n ops i s s' k){K:Act→World→Prop}{Q:Exit→Act→World→Prop}
  (hK:∀ (a':Act) (κ':KS),κ'.st=s'.2→Inv κ'→Ext κ κ'→Rel κ' n s'.1 a'→iN ops a a'→(∀ u:Nat,(∀ o,ops[i]? = some o→o.dst≠some u)→a'.tmps[u]? = a.tmps[u]?)→K a' κ'.w):wpOp c.P ops Q i K a κ.w:=by
 obtain⟨o,ho,hd,h⟩:=h
 have hu:∀ (v:Value) (u:Nat),(∀ o,ops[i]? = some o→o.dst≠some u)→(a.put o.dst v).tmps[u]? = a.tmps[u]? := by
  intro v u hn
  have:=hn o ho
  cases hds:o.dst with
  | none=>rfl
  | some t =>
   rw[hds]at this
   have uj:t≠u:=fun e=>this (by rw[e])
   simp[Act.put,Array.getElem?_setIfInBounds_ne uj]
 unfold wpOp
 rw[ho]
 simp only
 rcases h with⟨hw,_,d,zL,hl,rfl⟩ | ⟨hw,_,rfl⟩
 ·rw[if_pos (mI hR hw)]
  refine .inl (Dz hC hI hR (xN▸hl) fun v κ' h1 h2 h3 h4=>hK _ κ' h1 h2 h3 ((hR.mono h3).put hd h4) (pV ho) (hu v))
 ·rw[if_neg (by rw[mI hR hw]; exact Bool.false_ne_true)]
  exact hK _ κ xN hI (Ext.refl κ) (hR.put hd fun d' yv=>by cases yv; exact Rm (v:=undef)) (pV ho) (hu undef)
def kd3(kd:Nat→Nat)(o:Oper)(i:Nat):Nat:=bif Wc o then 3 else kd i
def z0q(ops:Array Oper)(kd:Nat→Nat)(p i:Nat):Prop:=∀ x y,ops[p]? = some x→ops[i]? = some y →
 (∀ d,x.dst=some d→d ∉ tmpsOf ops y)∧(∀ d,y.dst=some d→d ∉ tmpsOf ops x)∧ss (kd3 kd x p) (kd3 kd y i)=false
theorem Pj{k l:Nat}(hk:k≤2)(hl:l≤2)(h:ss k l=false):ux k l=false:=by
 have h1:Nat.beq k 3=false:=oj (by omega)
 have h2:Nat.beq l 3=false:=oj (by omega)
 simpa[ss,h1,h2]using h
theorem z10{k l:Nat}(hl:l≤2)(h:ss 3 l=false):ux k l=false:=by
 have h2:Nat.beq l 3=false:=oj (by omega)
 have h3:ux 2 l=false:=by simpa[ss,h2]using h
 have h0:l=0:=by
  match l,hl,h3 with
  | 0,_,_=>rfl
  | 1,_,h3=>cases h3
  | 2,_,h3=>cases h3
 subst h0
 simp[ux]
theorem z2r{k l:Nat}(hk:k≤2)(h:ss k 3=false):ux k l=false:=by
 have h2:Nat.beq k 3=false:=oj (by omega)
 have h3:ux k 2=false:=by simpa[ss,h2]using h
 have h0:k=0:=by
  match k,hk,h3 with
  | 0,_,_=>rfl
  | 1,_,h3=>cases h3
  | 2,_,h3=>cases h3
 subst h0
 simp[ux]
theorem Hu{kd:Nat→Nat}{p i:Nat}(h:z0q ops kd p i)(hp:kd p≤2)(hi:kd i≤2)(hn:¬ (fV ops p∧fV ops i)):Ind ops kd p i:=by
 intro x y hx hy
 obtain⟨h1,h2,h3⟩:=h x y hx hy
 refine⟨h1,h2,?_⟩
 unfold kd3 at h3
 cases hax:Wc x with
 | true =>
  cases hay:Wc y with
  | true=>exact(hn ⟨⟨x,hx,hax⟩,y,hy,hay⟩).elim
  | false=>rw[hax,hay]at h3; exact z10 hi h3
 | false =>
  cases hay:Wc y with
  | true=>rw[hax,hay]at h3; exact z2r hp h3
  | false=>rw[hax,hay]at h3; exact Pj hp hi h3
theorem least{es:List Em}(h:es≠[]):∃ e∈es,∀ f∈es,e.i≤f.i:=by
 induction es with
 | nil=>exact absurd rfl h
 | cons e r ih =>
  by_cases hr:r=[]
  ·subst hr; exact⟨e,List.mem_cons_self,fun f hf=>by simp at hf; subst hf; exact Nat.le_refl _⟩
  ·obtain⟨g,hg,hm⟩:=ih hr
   by_cases hle:e.i≤g.i
   ·exact⟨e,List.mem_cons_self,fun f hf=>by
     rcases List.mem_cons.1 hf with rfl | hf
     ·exact Nat.le_refl _
     ·exact Nat.le_trans hle (hm f hf)⟩
   ·exact⟨g,List.mem_cons_of_mem _ hg,fun f hf=>by
     rcases List.mem_cons.1 hf with rfl | hf
     ·omega
     ·exact hm f hf⟩
def Dis(e f:Em):Prop:=e.i≠f.i∧e.blk≠f.blk∧e.d≠f.d
theorem Dis.symm{e f:Em}(h:Dis e f):Dis f e:=⟨h.1.symm,h.2.1.symm,h.2.2.symm⟩
theorem flush{kd:Nat→Nat}{κ0:KS}(kF:∀ p i,p<i→i<ops.size→ordered (xA ops.toList []) p i=true∨z0q ops kd p i)(yh:∀ i,i<ops.size→kd i≤2)
  {listed:Array Bool} (U0:ZP ops listed) (mY:∀ q,q<ops.size→fV ops q→listed.getD q true=true) {a:Act} {sf:F×St} :
  ∀ (m:Nat) (es:List Em) (qJ:Array Bool) (κ:KS) (s:F×St),es.length=m→qJ.size=ops.size→(∀ j,j<ops.size→qJ.getD j true=true→listed.getD j true=true) →
  (∀ j,j<ops.size→listed.getD j true=true→qJ.getD j true=false→∃ e∈es,e.i=j)→(∀ e∈es,e.i<ops.size∧listed.getD e.i true=true∧qJ.getD e.i true=false)→es.Pairwise Dis →
  Inv κ→Rel κ n (ye es s.1) a→κ.st=s.2→Ext κ0 κ→(∀ e∈es,Fu c ops κ0 κ a e)→oX c n ops kd (rest ops qJ) s sf →
  ∃ (κ':KS) (s':F×St),κ'.w=κ.w∧κ'.st=s'.2∧Inv κ'∧Ext κ0 κ'∧Rel κ' n s'.1 a∧oX c n ops kd (rest ops listed) s' sf:=by
 intro m
 induction m with
 | zero =>
  intro es qJ κ s hl _ h1 h2 _ _ hI hR xN hx _ vR
  obtain rfl:es=[]:=List.eq_nil_of_length_eq_zero hl
  refine⟨κ,s,rfl,xN,hI,hx,hR,?_⟩
  have:rest ops qJ=rest ops listed:=by
   unfold rest
   refine List.filter_congr fun i hi => ?_
   have hi:=List.mem_range.1 hi
   cases ha:qJ.getD i true with
   | true=>rw[h1 i hi ha]
   | false =>
    cases hb:listed.getD i true with
    | false=>rfl
    | true=>obtain⟨e,he,_⟩:=h2 i hi hb ha; cases he
  rw[← this]; exact vR
 | succ m ih =>
  intro es qJ κ s hl jk h1 h2 h3 ED hI hR xN hx hem vR
  obtain⟨e,he,z1N⟩:=least (es:=es) (fun h=>by rw[h]at hl; cases hl)
  obtain⟨l1,l2,rfl⟩:=List.append_of_mem he
  obtain⟨hei,hel,hea⟩:=h3 e he
  have VP:∀ f,f∈l1++l2→f∈l1++e::l2:=fun f hf=>by
   rcases List.mem_append.1 hf with hf | hf
   ·exact List.mem_append_left _ hf
   ·exact List.mem_append_right _ (List.mem_cons_of_mem _ hf)
  have z3z:∀ f,f∈l1++e::l2→f=e∨f∈l1++l2:=fun f hf=>by
   rcases List.mem_append.1 hf with hf | hf
   ·exact .inr (List.mem_append_left _ hf)
   ·rcases List.mem_cons.1 hf with rfl | hf
    ·exact .inl rfl
    ·exact .inr (List.mem_append_right _ hf)
  have hde:∀ f∈l1++l2,Dis e f:=by
   intro f hf
   rw[List.pairwise_append]at ED
   obtain⟨_,d2,d3⟩:=ED
   rcases List.mem_append.1 hf with hf | hf
   ·exact(d3 f hf e List.mem_cons_self).symm
   ·exact(List.pairwise_cons.1 d2).1 f hf
  have Lb:(l1++l2).Pairwise Dis:=ED.sublist (List.Sublist.append_left (List.sublist_cons_self e l2) l1)
  obtain⟨pre,post,g1,g2,g3⟩:=ba (p:=fun i => !qJ.getD i true) (q:=fun j => !(qJ.setIfInBounds e.i true).getD j true) (i:=e.i) (List.range ops.size) List.pairwise_lt_range
   (List.mem_range.2 hei) (by simp[hea]) (fun j=>by
    rw[jc (by omega)]
    by_cases h:j=e.i
    ·subst h; simp
    ·simp[h])
  have Pf:∀ p∈pre,Ind ops kd p e.i:=by
   intro p hp
   obtain⟨q1,q2,q3⟩:=g3 p hp
   have q2:=List.mem_range.1 q2
   have hpa:qJ.getD p true=false:=by simpa using q1
   have QA:listed.getD p true=false:=by
    cases hb:listed.getD p true with
    | false=>rfl
    | true =>
     obtain⟨f,hf,CQ⟩:=h2 p q2 hb hpa
     have:=z1N f hf
     omega
   have hna:¬ fV ops p:=fun h=>by rw[mY p q2 h]at QA; cases QA
   rcases kF p e.i q3 hei with h | h
   ·have:=U0 e.i hei hel p h q2
    rw[this]at QA; cases QA
   ·exact Hu h (yh p q2) (yh e.i hei) fun hh=>hna hh.1
  have D7:oX c n ops kd (pre++e.i::post) s sf:=by
   have:rest ops qJ=pre++e.i::post:=g1
   rw[← this]; exact vR
  obtain⟨s1,k1,k2⟩:=Jr Pf D7
  have hE:=hem e he
  obtain⟨o,o1,o2,o3,o4⟩:=hE.op
  obtain⟨D,d1,d2,rfl⟩:=Ka o1 o2 o3 o4 k1
  obtain rfl:D=e.D:=Option.some.inj (d1.symm.trans hE.zero)
  obtain⟨iz,z1,z2,z3⟩:=hE.z
  obtain⟨p1,p2,p3⟩:=z23 hI hx hE.nob hE.new (z3.rd κ) z3.gB z3.ty hE.heap
  have hup:=Ie hI e.blk e.z.cells.size e.D
  refine ih (l1++l2) (qJ.setIfInBounds e.i true) (κ.push e.blk e.z.cells.size e.D) (yg s.1 (some e.d) (some (.ptr s.2.length 0)),s.2++[.var e.D]) (by simp at hl ⊢; omega) (by simp[jk]) (fun j hj ha => ?_) (fun j hj hb ha => ?_) (fun f hf => ?_) Lb p1 ?_ (by show κ.st++_=s.2++_; rw[xN]) p2 (fun f hf => ?_) ?_
  ·rw[jc (by omega)]at ha
   split at ha
   ·rename_i h; subst h; exact hel
   ·exact h1 j hj ha
  ·rw[jc (by omega)]at ha
   split at ha
   ·cases ha
   ·rename_i uj
    obtain⟨f,hf,CQ⟩:=h2 j hj hb ha
    rcases z3z f hf with rfl | hf
    ·exact absurd CQ.symm uj
    ·exact⟨f,hf,CQ⟩
  ·obtain⟨f1,f2,f3⟩:=h3 f (VP f hf)
   refine⟨f1,f2,?_⟩
   rw[jc (by omega),if_neg (hde f hf).1.symm]
   exact f3
  ·refine⟨hR.size,hR.defers,fun u d0 hu => ?_⟩
   obtain⟨u1,u2⟩:=Yr hu
   simp only[yg]at u1
   by_cases hue:u=e.d
   ·subst hue
    rw[if_pos rfl]at u1
    cases u1
    rw[← xN]
    exact⟨_,hE.val,p3⟩
   ·rw[if_neg hue]at u1
    have:ye (l1++e::l2) s.1 u=some d0:=by
     rw[XH fun f hf hfu => ?_]
     ·exact u1
     ·rcases z3z f hf with rfl | hf
      ·exact hue hfu.symm
      ·exact u2 f hf hfu
    obtain⟨v,v1,v2⟩:=hR.get u d0 this
    exact⟨v,v1,v2.up hup⟩
  ·have hF:=hem f (VP f hf)
   refine⟨hF.op,hF.zero,hF.z,hF.val,hF.heap,⟨hF.nob.lt,hF.nob.ok,fun b m hb => ?_⟩,hF.new⟩
   rcases sX hb with hb | ⟨_,hb⟩
   ·exact hF.nob.ph b m hb
   ·exact(hde f hf).2.1 (congrArg Prod.fst (Option.some.inj hb)).symm
  ·have:rest ops (qJ.setIfInBounds e.i true)=pre++post:=g2
   rw[this]; exact k2
theorem R9{listed:Array Bool}{i:Nat}(jk:listed.size=ops.size)(h1:i<ops.size)(h2:listed.getD i true=false):(rest ops listed).length=(rest ops (listed.setIfInBounds i true)).length+1:=by
 obtain⟨pre,post,g1,g2,_⟩:=ba (p:=fun i => !listed.getD i true) (q:=fun j => !(listed.setIfInBounds i true).getD j true) (i:=i) (List.range ops.size) List.pairwise_lt_range
  (List.mem_range.2 h1) (by simp[h2]) (fun j=>by
   rw[jc (by omega)]
   by_cases h:j=i
   ·subst h; simp
   ·simp[h])
 have e1:rest ops listed=pre++i::post:=g1
 have e2:rest ops (listed.setIfInBounds i true)=pre++post:=g2
 rw[e1,e2]
 simp only[List.length_append,List.length_cons]
 omega
theorem F1{listed:Array Bool}{i:Nat}(EX:hZ ops.toList 0=true)(jk:listed.size=ops.size)(U0:ZP ops listed)(h1:i<ops.size)
  (h3:∀ o,ops[i]? = some o→∀ e∈o.after.toList,Region.binds .any e=true→listed.getD e.on false=true) :
  (∀ p,ordered (xA ops.toList []) p i=true→p<ops.size→listed.getD p true=true)∧ZP ops (listed.setIfInBounds i true):=by
 have CY:∀ p,ordered (xA ops.toList []) p i=true→p<ops.size→listed.getD p true=true:=by
  intro p hp qp
  obtain⟨r,_,_,hb⟩:=nu ops.toList []
  obtain⟨e,k1,k2,k3⟩:=hb i ops[i] (by simp) p (by simpa[ordered]using hp)
  have hle:=h3 _ (Array.getElem?_eq_getElem h1) e k1 k2
  have VU:=nw ops.toList 0 EX i ops[i] (by simp) e k1 k2
  have Yf:listed.getD e.on true=true:=by
   rw[Array.getD_eq_getD_getElem?]at hle ⊢
   rw[Array.getElem?_eq_getElem (by omega)]at hle ⊢
   exact hle
  rcases k3 with rfl | ⟨_,k3⟩
  ·exact Yf
  ·exact U0 e.on (by omega) Yf p k3 qp
 refine⟨CY,fun q hq Na p hp qp => ?_⟩
 rw[jc (by omega)]at Na ⊢
 split
 ·rfl
 ·split at Na
  ·rename_i e; subst e; exact CY p hp qp
  ·exact U0 q hq Na p hp qp
theorem H3{κ:KS}{a:Act}{es:List Em}{f:F}{e:Em}{v:Value}(hR:Rel κ n (ye es f) a):Rel κ n (ye (e::es) f) (a.put (some e.d) v):=by
 refine⟨by simp[Act.put,hR.size],hR.defers,fun u d hu => ?_⟩
 obtain⟨u1,u2⟩:=Yr hu
 have uj:e.d≠u:=u2 e List.mem_cons_self
 have:ye es f u=some d:=by rw[XH fun g hg=>u2 g (List.mem_cons_of_mem _ hg)]; exact u1
 obtain⟨w,w1,w2⟩:=hR.get u d this
 exact⟨w,by simp[Act.put,Array.getElem?_setIfInBounds_ne uj]; exact w1,w2⟩
theorem ZK{kd:Nat→Nat}{Q:Exit→Act→World→Prop}(hC:∀ g,By c.P g (c.fn g))(EX:hZ ops.toList 0=true)
  (kF:∀ p i,p<i→i<ops.size→ordered (xA ops.toList []) p i=true∨z0q ops kd p i) (yh:∀ i,i<ops.size→kd i≤2)
  (mY:∀ p j,p<ops.size→fV ops p→j<ops.size→ordered (xA ops.toList []) p j=true→∀ q,q<ops.size→fV ops q→ordered (xA ops.toList []) q j=true)
  {κ0:KS} {a0:Act} {sf:F×St}:∀ (fuel:Nat) (listed qJ:Array Bool) (es:List Em) {κ:KS} {a:Act} {s:F×St},
  listed.size=ops.size→qJ.size=ops.size→fuel=(rest ops listed).length→ZP ops listed→(∀ j,j<ops.size→qJ.getD j true=true→listed.getD j true=true) →
  (∀ j,j<ops.size→listed.getD j true=true→qJ.getD j true=false→∃ e∈es,e.i=j)→(∀ e∈es,e.i<ops.size∧listed.getD e.i true=true∧qJ.getD e.i true=false)→es.Pairwise Dis →
  (∃ q,q<ops.size∧fV ops q∧listed.getD q true=false)→Inv κ→Rel κ n (ye es s.1) a→κ.st=s.2→Ext κ0 κ→(∀ e∈es,Fu c ops κ0 κ a e)→oX c n ops kd (rest ops qJ) s sf→iN ops a0 a →
  (∀ (a':Act) (κ':KS),κ'.st=sf.2→Inv κ'→Ext κ0 κ'→Rel κ' n sf.1 a'→iN ops a0 a'→Q .normal a' κ'.w)→wpAny c.P .any ops Q fuel listed a κ.w
 | 0,listed,qJ,es,κ,a,s,jk,hszA,hfuel,U0,h1,h2,h3,ED,⟨q,q1,q2,q3⟩,hI,hR,xN,hx,hem,vR,hkp,hQ=>by
  have NL:rest ops listed=[]:=List.eq_nil_of_length_eq_zero hfuel.symm
  have:q∈rest ops listed:=by simp only[rest,List.mem_filter,List.mem_range,Bool.not_eq_true']; exact⟨q1,q3⟩
  rw[NL]at this; cases this
 | fuel+1,listed,qJ,es,κ,a,s,jk,hszA,hfuel,U0,h1,h2,h3,ED,⟨q,q1,q2,q3⟩,hI,hR,xN,hx,hem,vR,hkp,hQ=>by
  refine⟨fun h => ?_,fun i hi => ?_⟩
  ·have NL:=Jp EX jk h
   have:q∈rest ops listed:=by simp only[rest,List.mem_filter,List.mem_range,Bool.not_eq_true']; exact⟨q1,q3⟩
   rw[NL]at this; cases this
  rw[nD]at hi
  obtain⟨i1,i2,i3⟩:=hi
  obtain⟨CY,N3⟩:=F1 EX jk U0 i1 i3
  have EB:fuel=(rest ops (listed.setIfInBounds i true)).length:=by have:=R9 jk i1 i2; omega
  have hia:qJ.getD i true=false:=by
   cases hb:qJ.getD i true with
   | false=>rfl
   | true=>rw[h1 i i1 hb]at i2; cases i2
  have S6:∀ p,p<ops.size→fV ops p→ordered (xA ops.toList []) p i=true→False:=by
   intro p p1 p2 p3
   have:=CY q (mY p i p1 p2 i1 p3 q q1 q2) q1
   rw[q3]at this; cases this
  have iO:∀ j,(listed.setIfInBounds i true).getD j true=if j=i then true else listed.getD j true:=fun j=>jc (by omega)
  by_cases pL:fV ops i
  ·-- a new variable is laid
   obtain⟨o,ho,hao⟩:=pL
   obtain⟨t,d,o1,o2,o3⟩:=Nn hao
   have him:i∈rest ops qJ:=by simp only[rest,List.mem_filter,List.mem_range,Bool.not_eq_true']; exact⟨i1,hia⟩
   obtain⟨t1,t2,hos⟩:=C3 vR him
   obtain⟨D,d1,d2,_⟩:=Ka ho o1 o2 o3 hos
   obtain⟨iz,z,z1,z2,z3⟩:=fy d1
   obtain⟨w1,w2,w3,w4⟩:=z1T hI (.cells z.cells t)
   let e:Em:=⟨i,d,κ.w.heap.size,t,z,D⟩
   have zcC:(execOp a.eval o).run c.P κ.w=.ok (.value (.pointer (some ⟨κ.w.heap.size,0,none⟩))) (κ.w.alloc (.cells z.cells t)):=by
    obtain⟨dst,op,ty,pos,after,guard⟩:=o
    cases o1
    simp[execOp,Instr.alloc,zeroValue,typeInfo,z1,z2,newVar,newRow]
   have z8e:Region.wanted o (yielded ops a.tmps)=true:=by unfold Region.wanted; rw[o2]
   unfold wpOp
   rw[ho]
   simp only
   rw[if_pos z8e]
   refine .inl ?_
   unfold Oper.wp
   rw[zcC]
   show wpAny c.P Region.Mode.any ops Q fuel (listed.setIfInBounds i true) (a.put o.dst (Value.pointer (some { block:=κ.w.heap.size,off:=0 }))) (κ.w.alloc (Obj.cells z.cells t))
   rw[o3]
   have uj:∀ f∈es,f.d≠d:=by
    intro f hf hfd
    obtain⟨f1,f2,f3⟩:=h3 f hf
    obtain⟨fo,fo1,fo2,fo3,fo4⟩:=(hem f hf).op
    have CQ:f.i≠i:=fun h=>by rw[h,i2]at f2; cases f2
    rcases Nat.lt_or_gt_of_ne CQ with qp | qp
    ·rcases kF f.i i qp i1 with h | h
     ·exact S6 f.i f1 ⟨fo,fo1,HX fo2 fo3 fo4⟩ h
     ·exact(h fo o fo1 ho).1 f.d fo4 (hfd▸kX o3)
    ·rcases kF i f.i qp f1 with h | h
     ·have:=U0 f.i f1 f2 i h i1; rw[i2]at this; cases this
     ·exact(h o fo ho fo1).1 d o3 (hfd▸kX fo4)
   have zgL:Fu c ops κ0 { κ with w:=κ.w.alloc (.cells z.cells t) } (a.put (some d) (.pointer (some ⟨κ.w.heap.size,0,none⟩))) e :=
    ⟨⟨o,ho,o1,o2,o3⟩,d1,⟨iz,z1,z2,z3⟩,by simp[e,Act.put,hR.size,d2],w4,w3,hx.size⟩
   have zcK:∀ f∈e::es,Fu c ops κ0 { κ with w:=κ.w.alloc (.cells z.cells t) } (a.put (some d) (.pointer (some ⟨κ.w.heap.size,0,none⟩))) f:=by
    intro f hf
    rcases List.mem_cons.1 hf with rfl | hf
    ·exact zgL
    ·exact(hem f hf).mono w2 (by simp[Act.put,Array.getElem?_setIfInBounds_ne (fun e'=>uj f hf e'.symm)])
   have hR':Rel { κ with w:=κ.w.alloc (.cells z.cells t) } n (ye (e::es) s.1) (a.put (some d) (.pointer (some ⟨κ.w.heap.size,0,none⟩))):=H3 (e:=e) (hR.mono w2)
   have hdE:∀ f∈es,Dis e f:=by
    intro f hf
    unfold Dis
    refine⟨fun h => ?_,fun h => ?_,fun h=>uj f hf h.symm⟩
    ·have hf2:=(h3 f hf).2.1
     rw[← h]at hf2
     have i2':listed.getD e.i true=false:=i2
     rw[i2']at hf2
     cases hf2
    ·have hl:=(hem f hf).nob.lt
     rw[← h]at hl
     exact Nat.lt_irrefl _ hl
   have Lb:(e::es).Pairwise Dis:=List.pairwise_cons.2 ⟨hdE,ED⟩
   have za9:iN ops a0 (a.put (some d) (.pointer (some ⟨κ.w.heap.size,0,none⟩))):=hkp.trans (by have:=pV (a:=a) (v:=.pointer (some ⟨κ.w.heap.size,0,none⟩)) ho; rw[o3]at this; exact this)
   have pJ:∀ j,j<ops.size→qJ.getD j true=true→(listed.setIfInBounds i true).getD j true=true:=fun j hj ha=>by
    rw[iO]; split
    ·rfl
    ·exact h1 j hj ha
   have h2':∀ j,j<ops.size→(listed.setIfInBounds i true).getD j true=true→qJ.getD j true=false→∃ f∈e::es,f.i=j:=fun j hj hb ha=>by
    rw[iO]at hb
    split at hb
    ·rename_i h; exact⟨e,List.mem_cons_self,h.symm⟩
    ·obtain⟨f,hf,CQ⟩:=h2 j hj hb ha; exact⟨f,List.mem_cons_of_mem _ hf,CQ⟩
   have h3':∀ f∈e::es,f.i<ops.size∧(listed.setIfInBounds i true).getD f.i true=true∧qJ.getD f.i true=false:=fun f hf=>by
    rcases List.mem_cons.1 hf with rfl | hf
    ·exact⟨i1,by rw[iO]; exact if_pos rfl,hia⟩
    ·obtain⟨f1,f2,f3⟩:=h3 f hf
     exact⟨f1,by rw[iO]; split<;>first | rfl | exact f2,f3⟩
   by_cases hmore:∃ q,q<ops.size∧fV ops q∧(listed.setIfInBounds i true).getD q true=false
   ·exact ZK hC EX kF yh mY fuel (listed.setIfInBounds i true) qJ (e::es) (κ:={ κ with w:=κ.w.alloc (.cells z.cells t) }) (by simp[jk]) hszA EB N3 pJ h2' h3' Lb hmore w1 hR' xN (hx.trans w2) zcK vR za9 hQ
   ·-- all are laid
    have z3s:∀ q,q<ops.size→fV ops q→(listed.setIfInBounds i true).getD q true=true:=fun q q1 q2=>by
     cases hb:(listed.setIfInBounds i true).getD q true with
     | true=>rfl
     | false=>exact(hmore ⟨q,q1,q2,hb⟩).elim
    obtain⟨κ',s',f1,f2,f3,f4,f5,f6⟩:=flush (c:=c) (n:=n) kF yh N3 z3s (e::es).length (e::es) qJ { κ with w:=κ.w.alloc (.cells z.cells t) } s rfl hszA pJ h2' h3' Lb w1 hR' xN (hx.trans w2) zcK vR
    have hgo:=Je (κ:=κ') hC EX fuel (listed.setIfInBounds i true) (Q:=Q) (fun p j hpj hj hp=>(kF p j hpj hj).elim .inl fun h=>.inr (Hu h (yh p (by omega)) (yh j hj) fun hh=>by
     rw[z3s p (by omega) hh.1]at hp; cases hp)) (by simp[jk]) EB N3 f3 f5 f2 f6 fun a' Nw e1 e2 e3 e4 e5=>hQ a' Nw e1 e2 (f4.trans e3) e4 (za9.trans e5)
    rw[f1]at hgo
    exact hgo
  ·-- another operation
   have z3r:∀ o,ops[i]? = some o→∀ e∈es,e.d ∉ tmpsOf ops o:=by
    intro o ho f hf
    obtain⟨f1,f2,f3⟩:=h3 f hf
    obtain⟨fo,fo1,fo2,fo3,fo4⟩:=(hem f hf).op
    have CQ:f.i≠i:=fun h=>by rw[h,i2]at f2; cases f2
    rcases Nat.lt_or_gt_of_ne CQ with qp | qp
    ·rcases kF f.i i qp i1 with h | h
     ·exact(S6 f.i f1 ⟨fo,fo1,HX fo2 fo3 fo4⟩ h).elim
     ·exact(h fo o fo1 ho).1 f.d fo4
    ·rcases kF i f.i qp f1 with h | h
     ·have:=U0 f.i f1 f2 i h i1; rw[i2]at this; cases this
     ·exact(h o fo ho fo1).2.1 f.d fo4
   obtain⟨pre,post,g1,g2,g3⟩:=ba (p:=fun i => !qJ.getD i true) (q:=fun j => !(qJ.setIfInBounds i true).getD j true) (i:=i) (List.range ops.size) List.pairwise_lt_range
    (List.mem_range.2 i1) (by simp[hia]) (fun j=>by
     rw[jc (by omega)]
     by_cases h:j=i
     ·subst h; simp
     ·simp[h])
   have Pf:∀ p∈pre,Ind ops kd p i:=by
    intro p hp
    obtain⟨r1,r2,r3⟩:=g3 p hp
    have r2:=List.mem_range.1 r2
    have r1:qJ.getD p true=false:=by simpa using r1
    rcases kF p i r3 i1 with h | h
    ·obtain⟨f,hf,CQ⟩:=h2 p r2 (CY p h r2) r1
     obtain⟨fo,fo1,fo2,fo3,fo4⟩:=(hem f hf).op
     exact(S6 p r2 ⟨fo,by rw[← CQ]; exact fo1,HX fo2 fo3 fo4⟩ h).elim
    ·exact Hu h (yh p r2) (yh i i1) fun hh=>pL hh.2
   have D7:oX c n ops kd (pre++i::post) s sf:=by
    have:rest ops qJ=pre++i::post:=g1
    rw[← this]; exact vR
   obtain⟨s1,k1,k2⟩:=Jr Pf D7
   refine N8 (s:=(ye es s.1,s.2)) (s':=(ye es s1.1,s1.2)) hC hI hR xN (DV k1 z3r) fun a1 κ1 e1 e2 e3 e4 e5 e6 => ?_
   have OM:∀ j,(qJ.setIfInBounds i true).getD j true=if j=i then true else qJ.getD j true:=fun j=>jc (by omega)
   refine ZK hC EX kF yh mY fuel (listed.setIfInBounds i true) (qJ.setIfInBounds i true) es (κ:=κ1) (s:=s1) (by simp[jk]) (by simp[hszA]) EB N3 (fun j hj ha => ?_) (fun j hj hb ha => ?_) (fun f hf => ?_) ED
    ⟨q,q1,q2,?_⟩ e2 e4 e1 (hx.trans e3) (fun f hf=>(hem f hf).mono e3 (e6 f.d fun o ho hod=>z3r o ho f hf (kX hod))) ?_ (hkp.trans e5) hQ
   ·rw[OM]at ha; rw[iO]
    split
    ·rfl
    ·rename_i h; rw[if_neg h]at ha; exact h1 j hj ha
   ·rw[OM]at ha; rw[iO]at hb
    split at ha
    ·cases ha
    ·rename_i h; rw[if_neg h]at hb; exact h2 j hj hb ha
   ·obtain⟨f1,f2,f3⟩:=h3 f hf
    have CQ:f.i≠i:=fun h=>by rw[h,i2]at f2; cases f2
    exact⟨f1,by rw[iO,if_neg CQ]; exact f2,by rw[OM,if_neg CQ]; exact f3⟩
   ·have hqi:q≠i:=fun h=>pL (by rw[← h]; exact q2)
    rw[iO,if_neg hqi]; exact q3
   ·have:rest ops (qJ.setIfInBounds i true)=pre++post:=g2
    rw[this]; exact k2
theorem ZO{kd:Nat→Nat}:∀ {l:List Oper} {ks:List Nat} {i j:Nat} {o:Oper},l[i]? = some o→ks[i]? = some (kd j)→(JQ l ks)[i]? = some (kd3 kd o j)
 | [],_,i,_,_,h,_=>by simp at h
 | _::_,[],i,_,_,_,h=>by simp at h
 | x::l,k::ks,0,j,o,h1,h2=>by simp at h1 h2; subst h1; subst h2; rfl
 | x::l,k::ks,i+1,j,o,h1,h2=>by
  have:=ZO (kd:=kd) (l:=l) (ks:=ks) (i:=i) (j:=j) (o:=o) (by simpa using h1) (by simpa using h2)
  simpa[JQ]using this
theorem Gb:∀ {l:List Oper} {k i:Nat} {o:Oper},l[i]? = some o→Wc o=true→k+i∈JT l k
 | [],_,_,_,h,_=>by simp at h
 | x::l,k,0,o,h1,h2=>by simp at h1; subst h1; simp[JT,h2]
 | x::l,k,i+1,o,h1,h2=>by
  have:=Gb (l:=l) (k:=k+1) (i:=i) (o:=o) (by simpa using h1) h2
  rw[show k+1+i=k+(i+1) by omega]at this
  simp only[JT]
  cases Wc x with
  | true=>exact List.mem_cons_of_mem _ this
  | false=>exact this
theorem WE{kd:Nat→RK}:∀ (l:List Nat) (s s':F×St) (ks:List RK),Mn c n ops l s s' ks→ks=l.map kd→Ky (fun i s s'=>dS c n ops i s s' (kd i)) l s s'
 | [],s,s',ks,h,_=>h.1
 | i::l,s,s',ks,⟨s1,k,E8,e,h1,h2⟩,hk=>by
  subst e
  simp only[List.map_cons,List.cons.injEq]at hk
  obtain⟨rfl,hk⟩:=hk
  exact⟨s1,h1,WE l s1 s' E8 h2 hk⟩
theorem Nb{κ:KS}{a:Act}{id:Nat}{draw:Bool}{fr:Fr}{kn:Kn}{s':fg}(hm:c.P.follows .mixedOrders=true)(hC:∀ g,By c.P g (c.fn g))(hI:Inv κ)(hR:Rel κ n fr.get a)(hk:vN kn fr.get)
  (h:(cm c n ops draw fr kn κ.st).leads s') {Q:Exit→Act→World→Prop} (hQ:∀ (a':Act) (κ':KS),κ'.st=s'.st→Inv κ'→Ext κ κ'→Rel κ' n s'.fr.get a'→iN ops a a'→Q .normal a' κ'.w) :
  (Code.region id ops draw).wp c.P Q a κ.w∧vN s'.kn s'.fr.get:=by
 simp only[cm,T.zS]at h
 obtain⟨s1,h1,h2⟩:=h
 obtain⟨ks,g1,g2,g3⟩:=nP ops.toList 0 ⟨fr,kn,κ.st,[],[]⟩ s1 (fun j=>.inl (by simp)) hk h1
 simp only[List.append_nil]at g3
 have hl:ops.toList.length=ops.size:=by simp
 rw[hl,← List.range_eq_range']at g1
 cases hd:(!draw||Q1 ops s1.ks.reverse s1.bk.reverse)with
 | false=>rw[hd]at h2; exact h2.elim
 | true =>
  rw[hd,cond_true]at h2
  cases h2
  refine⟨?_,g2⟩
  cases draw with
  | false=>exact wp_region (LV hC _ hI hR rfl g1 hQ)
  | true =>
   simp only[Bool.not_true,Bool.false_or,Q1,Bool.or_eq_true]at hd
   obtain⟨rks,r1,r3⟩:=WJ (ops:=ops) ops.toList 0 ⟨fr,kn,κ.st,[],[]⟩ _ (fun j=>.inl (by simp)) hk h1
   simp only[List.append_nil]at r3
   rw[hl,← List.range_eq_range']at r1
   let kd:Nat→Nat:=fun i=>ks.getD i 0
   have Ev:ks.length=ops.size:=by rw[De _ _ _ _ g1]; simp
   have hks:ks=(List.range ops.size).map kd:=by
    apply List.ext_getElem?
    intro i
    by_cases hi:i<ops.size
    ·simp[kd,hi,List.getD,List.getElem?_eq_getElem (show i<ks.length by omega)]
    ·rw[List.getElem?_eq_none (by omega),List.getElem?_eq_none (by simp; omega)]
   have vR:=Kc (kd:=kd) _ _ _ _ g1 hks
   refine wp_region_any hm ?_
   let κd:KS:={ κ with w:=κ.w.drew }
   have hx:Ext κ κd:=⟨rfl,rfl,rfl,Nat.le_refl _,fun k hk=>⟨hk,rfl⟩,fun k hk=>.inl hk,fun _ _ _ h=>.inl h,fun b d h=>⟨⟨d,h⟩,rfl⟩,
    fun b v0 e xs h=>.inr ⟨v0,xs,h,Nat.le_refl _,fun _=>⟨rfl,rfl⟩⟩,fun _ h=>h,Nat.le_refl _,fun k _ _=>rfl⟩
   have hId:Inv κd:=⟨hI.len,hI.y5,hI.apart,hI.inj,fun b y hy=>(hI.blk b y hy).mono hx rfl fun _ _ _=>rfl,hI.gl.mono hx.same⟩
   have rX:rest ops (Array.replicate ops.size false)=List.range ops.size:=by
    unfold rest
    rw[List.filter_eq_self]
    intro i hi
    have:=List.mem_range.1 hi
    simp[Array.getD_eq_getD_getElem?,this]
   have Yz:∀ j,j<ops.size→(Array.replicate ops.size false).getD j true=false:=fun j hj=>by simp[Array.getD_eq_getD_getElem?,hj]
   have z0J:ZP ops (Array.replicate ops.size false):=fun q hq Na=>by rw[Yz q hq]at Na; cases Na
   have CU:∀ i,i<ops.size→ks[i]? = some (kd i):=fun i hi=>by simp[kd,List.getD,List.getElem?_eq_getElem (show i<ks.length by omega)]
   have WG:∀ i (hi:i<ops.size),ops.toList[i]? = some ops[i]:=fun i hi=>by simp
   rcases hd with(hd | hd) | hd
   ·simp only[Lj,Bool.and_eq_true]at hd
    obtain⟨d1,d2⟩:=hd
    rw[g3,List.reverse_reverse]at d2
    have kF:∀ p i,p<i→i<ops.size→ordered (xA ops.toList []) p i=true∨Ind ops kd p i:=by
     intro p i B8 hi
     have hp:=oN ops.toList ks 0 [] d2 i ops[i] (kd i) (WG i hi) (CU i hi)
     have:=hp.2 p ops[p] (kd p) B8 (WG p (by omega)) (CU p (by omega))
     simp only[Nat.zero_add]at this
     refine bW this (fun h=>h) fun hap x y hx hy => ?_
     rw[Array.getElem?_eq_getElem (by omega)]at hx hy
     cases hx
     cases hy
     exact hap
    exact Je (κ:=κd) hC d1 ops.size _ (fun p i h1 h2 _=>kF p i h1 h2) (by simp) (by rw[rX]; simp) z0J hId (hR.mono hx) rfl (by rw[rX]; exact vR) fun a' κ' e1 e2 e3 e4 e5=>hQ a' κ' e1 e2 (hx.trans e3) e4 e5
   ·simp only[Ly,Bool.and_eq_true]at hd
    obtain⟨⟨⟨d1,d0⟩,d2⟩,d3⟩:=hd
    rw[g3,List.reverse_reverse]at d0 d2
    have yh:∀ i,i<ops.size→kd i≤2:=fun i hi=>Nat.le_of_ble_eq_true (List.all_eq_true.1 d0 _ (List.mem_of_getElem? (CU i hi)))
    have kF:∀ p i,p<i→i<ops.size→ordered (xA ops.toList []) p i=true∨z0q ops kd p i:=by
     intro p i B8 hi
     have hp:=oN ops.toList (JQ ops.toList ks) 0 [] d2 i ops[i] (kd3 kd ops[i] i) (WG i hi) (ZO (WG i hi) (CU i hi))
     have:=hp.2 p ops[p] (kd3 kd ops[p] p) B8 (WG p (by omega)) (ZO (WG p (by omega)) (CU p (by omega)))
     simp only[Nat.zero_add]at this
     refine bW this (fun h=>h) fun hap x y hx hy => ?_
     rw[Array.getElem?_eq_getElem (by omega)]at hx hy
     cases hx
     cases hy
     exact hap
    have mY:∀ p j,p<ops.size→fV ops p→j<ops.size→ordered (xA ops.toList []) p j=true→∀ q,q<ops.size→fV ops q→ordered (xA ops.toList []) q j=true:=by
     intro p j hp hap hj ho q hq haq
     unfold D1 at d3
     have:=List.all_eq_true.1 d3 j (List.mem_range.2 (by simpa using hj))
     simp only[Bool.or_eq_true,Bool.not_eq_true',List.any_eq_false,List.all_eq_true]at this
     have hm:∀ r,fV ops r→r∈JT ops.toList 0:=fun r ⟨o,h1,h2⟩=>by
      have:=Gb (l:=ops.toList) (k:=0) (i:=r) (o:=o) (by rw[Array.getElem?_toList]; exact h1) h2
      rwa [Nat.zero_add]at this
     rcases this with h | h
     ·have:=h p (hm p hap); rw[ho]at this; exact absurd rfl this
     ·exact h q (hm q haq)
    by_cases hex:∃ q,q<ops.size∧fV ops q
    ·obtain⟨q,q1,q2⟩:=hex
     exact ZK (κ0:=κd) (κ:=κd) (a0:=a) hC d1 kF yh mY ops.size _ (Array.replicate ops.size false) [] (by simp) (by simp) (by rw[rX]; simp) z0J (fun j hj h=>by rw[Yz j hj]at h; cases h)
      (fun j hj h _=>by rw[Yz j hj]at h; cases h) (fun e he=>by cases he) .nil ⟨q,q1,q2,Yz q q1⟩ hId (hR.mono hx) rfl (Ext.refl _) (fun e he=>by cases he) (by rw[rX]; exact vR) (iN.refl _ _)
      fun a' κ' e1 e2 e3 e4 e5=>hQ a' κ' e1 e2 (hx.trans e3) e4 e5
    ·exact Je (κ:=κd) hC d1 ops.size _ (fun p i h1 h2 _=>(kF p i h1 h2).elim .inl fun h=>.inr (Hu h (yh p (by omega)) (yh i h2) fun hh=>hex ⟨p,by omega,hh.1⟩)) (by simp) (by rw[rX]; simp) z0J hId (hR.mono hx) rfl (by rw[rX]; exact vR) fun a' κ' e1 e2 e3 e4 e5=>hQ a' κ' e1 e2 (hx.trans e3) e4 e5
   ·simp only[IZ,Bool.and_eq_true]at hd
    obtain⟨d1,d2⟩:=hd
    rw[r3,List.reverse_reverse]at d2
    let kr:Nat→RK:=fun i=>rks.getD i (.z 0)
    have hrl:rks.length=ops.size:=by rw[G7 _ _ _ _ r1]; simp
    have zer:rks=(List.range ops.size).map kr:=by
     apply List.ext_getElem?
     intro i
     by_cases hi:i<ops.size
     ·simp[kr,hi,List.getD,List.getElem?_eq_getElem (show i<rks.length by omega)]
     ·rw[List.getElem?_eq_none (by omega),List.getElem?_eq_none (by simp; omega)]
    have z3y:∀ i,i<ops.size→rks[i]? = some (kr i):=fun i hi=>by simp[kr,List.getD,List.getElem?_eq_getElem (show i<rks.length by omega)]
    have z8p:=WE (kd:=kr) _ _ _ _ r1 zer
    have kF:∀ p i,p<i→i<ops.size→ordered (xA ops.toList []) p i=true∨z6e ops kr p i:=by
     intro p i B8 hi
     have hp:=oN ops.toList rks 0 [] d2 i ops[i] (kr i) (WG i hi) (z3y i hi)
     have:=hp.2 p ops[p] (kr p) B8 (WG p (by omega)) (z3y p (by omega))
     simp only[Nat.zero_add]at this
     refine bW this (fun h=>h) fun hap x y hx hy => ?_
     rw[Array.getElem?_eq_getElem (by omega)]at hx hy
     cases hx
     cases hy
     exact hap
    exact W4 (κ:=κd) (Stp:=fun i s s'=>dS c n ops i s s' (kr i)) (In:=fun p i=>z6e ops kr p i) (fun i s s' h=>h.plain) (fun p i hi s s1 s2 h1 h2=>E2 hi h1 h2) hC d1 ops.size _ (fun p i h1 h2 _=>kF p i h1 h2) (by simp) (by rw[rX]; simp) z0J hId (hR.mono hx) rfl (by rw[rX]; exact z8p) fun a' κ' e1 e2 e3 e4 e5=>hQ a' κ' e1 e2 (hx.trans e3) e4 e5
end
end Go.AM
namespace Go.AM
set_option linter.unusedSectionVars false
variable [uz] [B9]
def Dl(κ:KS):Ex→Exit→Prop
 | .normal,e=>e=.normal
 | .exit id,e=>e=.exit id
 | .ret,e=>e=.ret
 | .bU d,e=>∃ v,e=.panic [{ v,recovered:=false }]∧RD κ d v
section
variable {c:Ctx} {n:Nat}
def vH:Code→List (Nat×Code)
 | .seq a b=>vH a++vH b
 | .cond _ a b=>vH a++vH b
 | .block id (.loop b)=>[(id,b)]
 | .block _ a=>vH a
 | _=>[]
theorem N4{ops:Array Oper}{draw:Bool}{fr:Fr}{kn:Kn}{st:St}{s':fg}(hk:vN kn fr.get)(h:(cm c n ops draw fr kn st).leads s'):vN s'.kn s'.fr.get:=by
 simp only[cm,T.zS]at h
 obtain⟨s1,h1,h2⟩:=h
 obtain⟨ks,g1,g2,g3⟩:=nP ops.toList 0 ⟨fr,kn,st,[],[]⟩ s1 (fun j=>.inl (by simp)) hk h1
 cases hd:(!draw||Q1 ops s1.ks.reverse s1.bk.reverse)with
 | false=>rw[hd]at h2; exact h2.elim
 | true=>rw[hd,cond_true]at h2; cases h2; exact g2
theorem fS(f:F):vN [] f:=fun t b h=>by cases h
theorem CL{id:Nat}{b:Code}(hb:∀ b',b≠.loop b'):vH (.block id b)=vH b:=by
 cases b<;>first | rfl | exact absurd rfl (hb _)
end
end Go.AM
namespace Go.AM
set_option linter.unusedSectionVars false
variable [uz] [B9]
section
variable {c:Ctx} {n:Nat}
theorem YB:∀ (ds:List D) (i s:Nat),(wG ds i).get s=if i≤s then ds[s-i]? else none
 | [],i,s=>by simp[wG,Fr.get]
 | d::r,i,s=>by
  simp only[wG,Fr.get]
  by_cases h:i=s
  ·subst h; simp
  ·rw[oj h,cond_false,YB r (i+1) s]
   by_cases h1:i+1≤s
   ·rw[if_pos h1,if_pos (by omega)]
    rw[show s-i=(s-(i+1))+1 by omega,List.getElem?_cons_succ]
   ·rw[if_neg h1,if_neg (by omega)]
theorem XE{κ:KS}{args:List D}{qi:List Value}(h:xv κ args qi)(hn:args.length≤n) :
  Rel κ n (wG args 0).get { tmps:=qi.toArray++Array.replicate (n-qi.toArray.size) undef,defers:=B9.df }:=by
 have hl:=h.1
 refine⟨by simp; omega,rfl,fun s d hd => ?_⟩
 rw[YB]at hd
 simp only[Nat.zero_le,if_true,Nat.sub_zero]at hd
 obtain⟨v,h1,h2⟩:=h.get hd
 refine⟨v,?_,h2⟩
 have qp:=(List.getElem?_eq_some_iff.1 h1).1
 rw[Array.getElem?_append_left (by simpa using qp)]
 simpa using h1
theorem ZB{κ:KS}{fr:Fr}{a:Act}(hI:Inv κ)(hR:Rel κ n fr.get a):∀ (rvs:List ResultVar) (ds:List D),(da c fr κ.st rvs).leads ds →
  ∃ vs:List Value,Sem.run c.P (rvs.mapM fun r=>match r with | ResultVar.tmp t=>(Pure.pure (a.tmps.getD t undef):Sem Value) | ResultVar.cell p t=>do loadVar t (← asAddr (a.tmps.getD p undef))) κ.w=Result.ok vs κ.w∧xv κ ds vs
 | [],ds,h=>by cases h; exact⟨[],by simp,.nil⟩
 | .tmp t::r,ds,h=>by
  simp only[da]at h
  split at h
  ·rename_i d hd
   simp only[T.zS]at h
   obtain⟨l,hl,rfl⟩:=h
   obtain⟨v,h1,h2⟩:=hR.get t d hd
   obtain⟨vs,h3,h4⟩:=ZB hI hR r l hl
   refine⟨v::vs,?_,.cons h2 h4⟩
   simp only[List.mapM_cons,Sem.run_bind,Sem.run_pure,Result.andThen_ok,h3]
   simp[Array.getD_eq_getD_getElem?,h1]
  ·exact h.elim
 | .cell p t::r,ds,h=>by
  simp only[da]at h
  split at h
  ·rename_i b off hd
   split at h
   ·rename_i d hb
    split at h
    ·rename_i x hx
     simp only[T.zS]at h
     obtain⟨l,hl,rfl⟩:=h
     obtain⟨v,h1,h2⟩:=hR.get p _ hd
     obtain⟨vs,h3,h4⟩:=ZB hI hR r l hl
     cases h2 with
     | ptr _ _ blk m d1 Np hp =>
      obtain⟨lZ,n',cs,T,g1,g2,g3,g4,g5⟩:=hI.blk b _ hb
      rw[hp]at g1
      cases g1
      obtain⟨u,e1,e2⟩:=UM (c:=c) (blk:=blk) 0 hx g4 g5.1 (fun j v hj=>by rw[tI g2]; simpa using hj)
      rw[Nat.zero_add]at e1
      refine⟨u::vs,?_,.cons e2 h4⟩
      have hA:(asAddr (a.tmps.getD p undef)).run c.P κ.w=.ok ⟨blk,off,none⟩ κ.w:=by simp[Array.getD_eq_getD_getElem?,h1,asAddr]
      simp only[List.mapM_cons,Sem.run_bind,hA,Result.andThen_ok,e1,h3,Sem.run_pure]
    ·exact h.elim
   ·exact h.elim
  ·exact h.elim
def OB:List Value→Value
 | [v]=>v
 | vs=>.tuple vs.toArray
theorem oE{κ:KS}{fr:Fr}{a:Act}{fn:Func}{ds:List D}(hI:Inv κ)(hR:Rel κ n fr.get a)(h:(da c fr κ.st fn.results.toList).leads ds) :
  ∃ vs:List Value,(results fn a.tmps).run c.P κ.w=.ok (OB vs) κ.w∧xv κ ds vs:=by
 obtain⟨vs,h1,h2⟩:=ZB hI hR _ _ h
 refine⟨vs,?_,h2⟩
 simp only[results,Array.mapM_eq_mapM_toList,Sem.run_bind,Sem.run_map]
 have key:∀ r:Result (List Value),r=.ok vs κ.w→((r.andThen fun a w'=>.ok a.toArray w').andThen fun a w'=>(Pure.pure (if h:a.size=1 then a[0]else .tuple a):Sem Value).run c.P w')=.ok (OB vs) κ.w:=by
  rintro _ rfl
  simp only[Result.andThen_ok,Sem.run_pure]
  congr 1
  match vs with
  | []=>rfl
  | [v]=>rfl
  | _::_::_=>rfl
 exact key _ h1
theorem ZJ{κ:KS}{ds:List D}{vs:List Value}(h:xv κ ds vs):RD κ (yW ds) (OB vs):=by
 match ds,vs,h with
 | [],vs,h=>rw[h.qG]; exact .gB [] [] rfl (fun i h=>absurd h (Nat.not_lt_zero i))
 | [d],vs,h =>
  obtain⟨v,r,rfl,h1,h2⟩:=h.cons_inv
  rw[h2.qG]
  exact h1
 | d::e::r,vs,h =>
  obtain⟨v,us,rfl,h1,h2⟩:=h.cons_inv
  obtain⟨u,ws,rfl,h3,h4⟩:=h2.cons_inv
  exact .gB _ _ h.1 h.2
def KS.cut(κ:KS)(m:Nat):KS:={ κ with ph:=κ.ph.take m,st:=κ.st.take m }
theorem qo{α:Type}{l:List α}{m i:Nat}{a:α}(h:l[i]? = some a)(hi:i<m):(l.take m)[i]? = some a:=by rw[List.getElem?_take,if_pos hi]; exact h
theorem bB{α:Type}{l:List α}{m i:Nat}{a:α}(h:(l.take m)[i]? = some a):l[i]? = some a∧i<m:=by
 rw[List.getElem?_take]at h
 split at h
 ·rename_i hi; exact⟨h,hi⟩
 ·cases h
theorem eY{κ:KS}{m:Nat}{d:D}{v:Value}(h:RD κ d v)(hd:vJ m d=true):RD (κ.cut m) d v:=by
 cases h with
 | zW τ y cs h=>exact .zW τ y cs h
 | xG e a=>exact .xG e a
 | tight e l ne blk off f uj wg h hc=>exact .tight e l ne blk off f uj wg h hc
 | xm=>exact .xm
 | yA=>exact .yA
 | xX=>exact .xX
 | vO=>exact .vO
 | vP=>exact .vP
 | Zh v h=>exact .Zh v h
 | dL T=>exact .dL T
 | dv b T d hb=>exact .dv b T d (qo hb (Nat.le_of_ble_eq_true hd))
 | cY b T blk n d hb h=>exact .cY b T blk n d (qo hb (Nat.le_of_ble_eq_true hd)) (qo h (Nat.le_of_ble_eq_true hd))
 | ptr b off blk n d hb h=>exact .ptr b off blk n d (qo hb (Nat.le_of_ble_eq_true hd)) (qo h (Nat.le_of_ble_eq_true hd))
 | xo τ y cs blk off wg h hc=>exact .xo τ y cs blk off wg h hc
 | uo b qR e idx off blk o hb h =>
  have qp:b<m:=Nat.le_of_ble_eq_true hd
  refine .uo b qR e idx off blk o (bW hb (fun h=>qo h qp) ?_) fun xs hx hi => ?_
  ·rintro⟨v0,e0,x0,h1,h2⟩; exact⟨v0,e0,x0,qo h1 qp,h2⟩
  ·obtain⟨n,h1,h2⟩:=h xs (bB hx).1 hi
   exact⟨n,qo h1 qp,h2⟩
 | ms b qR e off len cap a hb wD ha tq h =>
  have qp:b<m:=Nat.le_of_ble_eq_true hd
  refine .ms b qR e off len cap a (bW hb (fun h=>qo h qp) ?_) wD ha tq fun xs hx => ?_
  ·rintro⟨v0,e0,x0,h1,h2⟩; exact⟨v0,e0,x0,qo h1 qp,h2⟩
  ·obtain⟨h1,h2⟩:=h xs (bB hx).1
   refine⟨h1,bW h2 ?_ ?_⟩
   ·rintro⟨g1,g2,g3,g4⟩; exact⟨g1,g2,g3,qo g4 qp⟩
   ·rintro⟨blk,n,o,VT,g1,g2⟩; exact⟨blk,n,o,VT,qo g1 qp,g2⟩
 | xk=>cases hd
 | agg=>cases hd
 | gB=>cases hd
 | iface=>cases hd
theorem FF{κ:KS}{m:Nat}{d:D}{v:Value}(h:RD κ d v)(hd:bF m d=true):RD (κ.cut m) d v:=by
 cases d with
 | xk f l =>
  cases h with
  | xk _ _ vs hl hh =>
   simp only[bF,List.all_eq_true]at hd
   exact .xk f l vs hl fun i h1 h2=>eY (hh i h1 h2) (hd _ (List.getElem_mem h1))
 | agg l =>
  cases h with
  | agg _ vs hl ho hh =>
   simp only[bF,List.all_eq_true]at hd
   exact .agg l vs hl ho fun i h1 h2=>eY (hh i h1 h2) (hd _ (List.getElem_mem h1))
 | gB l=>cases hd
 | iface t d =>
  cases h with
  | iface _ _ v h=>exact .iface t _ v (eY h hd)
 | _=>exact eY h hd
theorem IH{κ:KS}{m:Nat}{l:List D}{vs:List Value}(h:xv κ l vs)(hd:∀ d∈l,bF m d=true):xv (κ.cut m) l vs:=⟨h.1,fun i h1 h2=>FF (h.2 i h1 h2) (hd _ (List.getElem_mem h1))⟩
theorem H9{m:Nat}{d:D}(h:bF m d=true):∀ x∈qq d,bF m x=true:=by
 have XU:∀ (τ:Ty) (x:den τ),∀ y∈flat τ x,bF m y=true:=by
  intro τ x y hy
  have:=dJ τ x y hy
  have:∃ σ z,y=.zW σ z:=by
   clear this h
   induction τ with
   | cons a b ia ib =>
    simp only[flat,List.mem_append]at hy
    rcases hy with hy | hy
    ·exact ia _ hy
    ·exact ib _ hy
   | nil=>simp[flat]at hy
   | expr=>simp[flat]at hy; rcases hy with rfl | rfl | rfl | rfl | rfl | rfl<;>exact⟨_,_,rfl⟩
   | _=>simp[flat]at hy; subst hy; exact⟨_,_,rfl⟩
  obtain⟨σ,z,rfl⟩:=this
  rfl
 cases d with
 | zW τ x=>exact XU τ x
 | agg l =>
  intro x hx
  simp only[bF,List.all_eq_true]at h
  have:=h x hx
  cases x<;>first | exact this | cases this
 | gB l=>cases h
 | _=>intro x hx; simp[qq]at hx; subst hx; exact h
theorem z0u{κ:KS}{m:Nat}(hI:Inv κ)(hc:∀ x∈κ.st.take m,Hp m x=true):Inv (κ.cut m):=by
 refine⟨by simp[KS.cut,hI.len],hI.y5,fun b blk n h=>hI.apart b blk n (bB h).1,fun b b' blk n n' h h'=>hI.inj b b' blk n n' (bB h).1 (bB h').1,fun b x h => ?_,hI.gl⟩
 obtain⟨h1,h2⟩:=bB h
 have hb:=hI.blk b x h1
 have hcx:=hc x (List.mem_of_getElem? h)
 cases x with
 | dead=>trivial
 | var d =>
  obtain⟨blk,n,cs,t,g1,g2,g3,g4,g5⟩:=hb
  exact⟨blk,n,cs,t,qo g1 h2,g2,g3,IH g4 (H9 hcx),g5⟩
 | arr qR e xs =>
  obtain⟨h0,hb⟩:=hb
  refine⟨h0,bW hb (fun h=>⟨h.1,qo h.2 h2⟩) ?_⟩
  rintro⟨blk,n,cs,t,g1,g2⟩
  exact⟨blk,n,cs,t,qo g1 h2,g2⟩
end
end Go.AM
namespace Go.AM
set_option linter.unusedSectionVars false
variable [uz]
section
variable {c:Ctx}
theorem jO{P:Program}{f:Nat}{fn:Func}{args:Array Value}(hf:P.funcs[f]? = some fn) (hn:(fn.name == "runtime.NumGoroutine")=false) (hb:fn.body.isNone=false) (w:World) :
  (callFunc f args).run P w=.ok (.enter f args) w:=by
 simp only[callFunc,Sem.run_bind,run_program,Result.andThen_ok,hf,hn,hb,Bool.false_eq_true,if_false,Sem.run_pure]
theorem Nu{κ κe:KS}(hI:Inv κ)(xN:κ.st=[])(hIe:Inv κe)(hx:Ext κ κe):Inv (κe.bare (Om κe))∧Ext κ (κe.bare (Om κe)):=by
 have V8:κ.ph=[]:=List.eq_nil_of_length_eq_zero (by rw[hI.len,xN]; rfl)
 have qp:∀ k,Om κe k→k<κe.w.heap.size:=by
  rintro k (hk | ⟨b,n,hk⟩)
  ·exact hIe.y5 k hk
  ·exact(hIe.apart b k n hk).1
 refine⟨KH hIe (fun _ h=>.inl h) qp,hx.os,hx.tape,hx.output,hx.size,fun k hk=>⟨.inl (hx.same k hk).1,(hx.same k hk).2⟩,?_,fun b blk n h=>by simp[KS.bare]at h,fun b d h=>by rw[xN]at h; simp at h,
  fun b v0 e xs h=>by rw[xN]at h; simp at h,fun b h=>by rw[xN]at h; simp at h,by rw[xN]; exact Nat.zero_le _,hx.frame⟩
 rintro k (hk | ⟨b,n,hk⟩)
 ·exact hx.fresh k hk
 ·rcases hx.phs b k n hk with h | h
  ·rw[V8]at h; simp at h
  ·exact .inr (.inl h)
end
end Go.AM
namespace Go.AM
set_option linter.unusedSectionVars false
variable [uz] [B9]
open Go.RowKit
def z0y(s:Nat)(fr:Fr)(st:St):T (Fr×St):=match fr.get s with
 | some (.ms b qR e off len)=>match st[b]? with
  | some (.arr jQ e' xs)=>match(vQ (a:=.sl e') (b:=.sl e) xs:Option (List (den e)))with
   | some ys=>.zd (qR=jQ) (.ret ((s,some (.zW (.sl e) ((ys.take (off+len)).drop off)))::fr,st.set b .dead))
   | none=>.fail
  | _=>.fail
 | _=>.ret (fr,st)
def z0X(j i:Nat)(fr:Fr)(st:St):T (Fr×St):=match st[j]? with
 | some (.var (.agg ds))=>match ds[i]? with
  | some (.ms b qR e off len)=>match st[b]? with
   | some (.arr jQ e' xs)=>match(vQ (a:=.sl e') (b:=.sl e) xs:Option (List (den e)))with
    | some ys=>.zd (qR=jQ) (.ret (fr,(st.set b .dead).set j (.var (.agg (ds.set i (.zW (.sl e) ((ys.take (off+len)).drop off)))))))
    | none=>.fail
   | _=>.fail
  | _=>.ret (fr,st)
 | _=>.ret (fr,st)
def z0P(s:Nat)(fr:Fr)(st:St):T (Fr×St):=bif Nat.ble 1000000 s then z0X ((s-1000000) / 1000) ((s-1000000) % 1000) fr st else z0y s fr st
def frz:List Nat→Fr→St→T (Fr×St)
 | [],fr,st=>.ret (fr,st)
 | s::r,fr,st=>(z0P s fr st).bind fun x=>frz r x.1 x.2
section
variable {c:Ctx} {κ:KS} {n:Nat}
theorem zaP{b qR off len:Nat}{e:Ty}{xs:List (den e)}{v:Value}(hI:Inv κ)(h:RD κ (.ms b qR e off len) v)(hb:κ.st[b]? = some (.arr qR e xs)){Ve:Nat→Prop}(h1:∀ k,κ.ok k→Ve k)(h2:∀ k n,κ.ph[b]? = some (some (k,n))→Ve k) :
  Rc κ.w Ve (.sl e) ((xs.take (off+len)).drop off) [v]:=by
 obtain⟨KZ,_⟩:=Ft hI h hb
 obtain⟨a,cap,f,hve,wD,hn,g1,g2⟩:=KZ.ex
 have MB:∀ blk o:Nat,v=.slice (some ⟨blk,o,none⟩) ((xs.take (off+len)).drop off).length cap→Ve blk:=by
  intro blk o he
  cases h with
  | ms _ _ _ _ _ VT a' hold z8v ha tq hm =>
   obtain⟨_,hm⟩:=hm xs hb
   rcases hm with⟨_,_,hv,_⟩ | ⟨lZ,n',o',zhP,h3,h4,_⟩
   ·rw[hv]at he
    injection he with e1 e2 e3
    cases e1
   ·rw[h4]at he
    injection he with e1 e2 e3
    cases e1
    exact h2 _ _ h3
 rw[hve]
 cases a with
 | none=>obtain⟨k1,k2⟩:=hn rfl; rw[k1,k2]; exact .iE e none
 | some p =>
  rcases g2 p rfl with⟨k1,k2⟩ | ⟨hp,_,hc⟩
  ·rw[k1,k2]; exact .iE e _
  ·obtain⟨blk,o,sp⟩:=p
   simp only at hp
   subst hp
   exact .sl e _ blk o cap f (MB blk o hve) wD (fun i hi=>(g1 i hi).mono fun k hk=>⟨h1 k hk,rfl⟩) hc
theorem IY{b qR:Nat}{e:Ty}{xs:List (den e)}(hb:κ.st[b]? = some (.arr qR e xs))(hI:Inv κ):∃ κ':KS,κ'.w=κ.w∧κ'.st=κ.st.set b .dead∧Inv κ'∧Ext κ κ' ∧
  ∀ (off len:Nat) (v:Value),RD κ (.ms b qR e off len) v→RD κ' (.zW (.sl e) ((xs.take (off+len)).drop off)) v:=by
 have qp:b<κ.st.length:=(List.getElem?_eq_some_iff.1 hb).1
 let κ':KS:=⟨κ.w,fun k=>κ.ok k∨∃ n,κ.ph[b]? = some (some (k,n)),κ.ph.set b none,κ.st.set b .dead⟩
 have xN:∀ i,i≠b→κ'.st[i]? = κ.st[i]? := fun i hi=>by show(κ.st.set b .dead)[i]? = _; rw[List.getElem?_set_ne (fun e=>hi e.symm)]
 have V8:∀ i,i≠b→κ'.ph[i]? = κ.ph[i]? := fun i hi=>by show(κ.ph.set b none)[i]? = _; rw[List.getElem?_set_ne (fun e=>hi e.symm)]
 have z32:∀ (i blk m:Nat),κ'.ph[i]? = some (some (blk,m))→i≠b∧κ.ph[i]? = some (some (blk,m)):=by
  intro i blk m hi
  by_cases B7:i=b
  ·subst B7
   have:(κ.ph.set i none)[i]? = some (some (blk,m)):=hi
   rw[List.getElem?_set_self (by rw[hI.len]; exact qp)]at this
   cases this
  ·exact⟨B7,by rw[← V8 i B7]; exact hi⟩
 have hx:Ext κ κ':=by
  refine⟨rfl,rfl,rfl,Nat.le_refl _,fun k hk=>⟨.inl hk,rfl⟩,?_,fun i blk m hi=>.inl (z32 i blk m hi).2,?_,?_,?_,by show _≤(κ.st.set b .dead).length; simp,fun _ _ _=>rfl⟩
  ·rintro k (hk | ⟨m,hk⟩)
   ·exact .inl hk
   ·exact .inr (.inr ⟨b,m,hk⟩)
  ·intro i d hi
   have B7:i≠b:=fun e=>by subst e; rw[hb]at hi; cases hi
   exact⟨⟨d,by rw[xN i B7]; exact hi⟩,V8 i B7⟩
  ·intro i v0 e0 oW hi
   by_cases B7:i=b
   ·subst B7; exact .inl (by show(κ.st.set i .dead)[i]? = _; rw[List.getElem?_set_self qp])
   ·exact .inr ⟨v0,oW,by rw[xN i B7]; exact hi,Nat.le_refl _,fun _=>⟨V8 i B7,rfl⟩⟩
  ·intro i hi
   have B7:i≠b:=fun e=>by subst e; rw[hb]at hi; cases hi
   rw[xN i B7]; exact hi
 have hI':Inv κ':=by
  refine⟨by show(κ.ph.set b none).length=(κ.st.set b .dead).length; simp[hI.len],?_,?_,?_,?_,hI.gl.mono hx.same⟩
  ·rintro k (hk | ⟨m,hk⟩)
   ·exact hI.y5 k hk
   ·exact(hI.apart b k m hk).1
  ·intro i blk m hi
   obtain⟨B7,KM⟩:=z32 i blk m hi
   obtain⟨g1,g2⟩:=hI.apart i blk m KM
   refine⟨g1,?_⟩
   rintro(hk | ⟨m',hk⟩)
   ·exact g2 hk
   ·exact B7 (hI.inj i b blk m m' KM hk)
  ·intro i i' blk m m' hi KM
   exact hI.inj i i' blk m m' (z32 i blk m hi).2 (z32 i' blk m' KM).2
  ·intro i B hB
   by_cases B7:i=b
   ·subst B7
    have:(κ.st.set i .dead)[i]? = some B:=hB
    rw[List.getElem?_set_self qp]at this
    cases this
    trivial
   ·rw[xN i B7]at hB
    exact(hI.blk i B hB).mono hx (V8 i B7) fun _ _ _=>rfl
 exact⟨κ',rfl,rfl,hI',hx,fun off len v hd=>RD.my rfl (zaP hI hd hb (fun k hk=>.inl hk) fun k m hk=>.inr ⟨m,hk⟩)⟩
theorem z0t{s:Nat}{fr:Fr}{a:Act}{r:Fr×St}(h:(z0y s fr κ.st).leads r)(hI:Inv κ)(hR:Rel κ n fr.get a):∃ κ':KS,κ'.w=κ.w∧κ'.st=r.2∧Inv κ'∧Ext κ κ'∧Rel κ' n r.1.get a:=by
 unfold z0y at h
 split at h
 ·rename_i b qR e off len hs
  split at h
  ·rename_i jQ e' xs hb
   split at h
   ·rename_i ys hy
    obtain⟨he,hx⟩:=qz hy
    cases he
    cases hx
    obtain⟨rfl,h⟩:=h
    cases h
    obtain⟨v,hv,hd⟩:=hR.get s _ hs
    obtain⟨κ',e1,e2,hI',hx,hk⟩:=IY hb hI
    refine⟨κ',e1,e2,hI',hx,hR.size,hR.defers,fun t d yv => ?_⟩
    simp only[Fr.get]at yv
    cases ht:Nat.beq s t with
    | true =>
     rw[ht,cond_true]at yv
     cases yv
     rw[← Nat.eq_of_beq_eq_true ht]
     exact⟨v,hv,hk _ _ _ hd⟩
    | false =>
     rw[ht,cond_false]at yv
     obtain⟨u,g1,g2⟩:=hR.get t d yv
     exact⟨u,g1,g2.mono hx⟩
   ·exact h.elim
  ·exact h.elim
 ·cases h; exact⟨κ,rfl,rfl,hI,Ext.refl κ,hR⟩
theorem ML{ds:List D}{i b qR off len:Nat}{e:Ty}{d':D}(hd:ds[i]? = some (.ms b qR e off len))(hn:gX [d']=none){T:Nat}(h:gX (ds.set i d')=some T):gX ds=some T:=by
 cases ds with
 | nil=>cases hd
 | cons x r =>
  cases i with
  | zero =>
   rw[List.set_cons_zero]at h
   have:gX (d'::r)=gX [d']:=by cases d'<;>rfl
   rw[this,hn]at h
   cases h
  | succ i =>
   rw[List.set_cons_succ]at h
   have:∀ r':List D,gX (x::r')=gX [x]:=by intro r'; cases x<;>rfl
   rw[this]at h ⊢
   exact h
theorem z0N{j i:Nat}{fr:Fr}{a:Act}{r:Fr×St}(h:(z0X j i fr κ.st).leads r)(hI:Inv κ)(hR:Rel κ n fr.get a):∃ κ':KS,κ'.w=κ.w∧κ'.st=r.2∧Inv κ'∧Ext κ κ'∧Rel κ' n r.1.get a:=by
 unfold z0X at h
 split at h
 ·rename_i ds hj
  split at h
  ·rename_i b qR e off len hi
   split at h
   ·rename_i jQ e' xs hb
    split at h
    ·rename_i ys hy
     obtain⟨he,hx⟩:=qz hy
     cases he
     cases hx
     obtain⟨rfl,h⟩:=h
     cases h
     obtain⟨κ1,e1,e2,XV,hx1,hk⟩:=IY hb hI
     have hjb:j≠b:=fun q=>by subst q; rw[hb]at hj; cases hj
     have hj1:κ1.st[j]? = some (.var (.agg ds)):=by rw[e2,List.getElem?_set_ne (fun q=>hjb q.symm)]; exact hj
     have Mw:j<κ1.st.length:=(List.getElem?_eq_some_iff.1 hj1).1
     let d':D:=.zW (.sl e) ((xs.take (off+len)).drop off)
     let κ2:KS:={ κ1 with st:=κ1.st.set j (.var (.agg (ds.set i d'))) }
     have xN:∀ k,k≠j→κ2.st[k]? = κ1.st[k]? := fun k hk=>by show(κ1.st.set j _)[k]? = _; rw[List.getElem?_set_ne (fun q=>hk q.symm)]
     have z9X:κ2.st[j]? = some (.var (.agg (ds.set i d'))):=by show(κ1.st.set j _)[j]? = _; rw[List.getElem?_set_self Mw]
     have DI:Ext κ1 κ2:=by
      refine⟨rfl,rfl,rfl,Nat.le_refl _,fun k hk=>⟨hk,rfl⟩,fun k hk=>.inl hk,fun k blk m hk=>.inl hk,?_,?_,?_,by show _≤(κ1.st.set j _).length; simp,fun _ _ _=>rfl⟩
      ·intro k d hk
       by_cases q:k=j
       ·subst q; exact⟨⟨_,z9X⟩,rfl⟩
       ·exact⟨⟨d,by rw[xN k q]; exact hk⟩,rfl⟩
      ·intro k v0 e0 oW hk
       have q:k≠j:=fun q=>by subst q; rw[hj1]at hk; cases hk
       exact .inr ⟨v0,oW,by rw[xN k q]; exact hk,Nat.le_refl _,fun _=>⟨rfl,rfl⟩⟩
      ·intro k hk
       have q:k≠j:=fun q=>by subst q; rw[hj1]at hk; cases hk
       rw[xN k q]; exact hk
     have hI2:Inv κ2:=by
      refine⟨by show κ1.ph.length=(κ1.st.set j _).length; simp[XV.len],XV.y5,XV.apart,XV.inj,?_,XV.gl⟩
      intro k B hB
      by_cases q:k=j
      ·subst q
       rw[z9X]at hB
       cases hB
       obtain⟨blk,m,cs,t,g1,g2,g3,g4,g5,g6⟩:=hI.blk k _ hj
       obtain⟨lZ,m',iP,t',p1,p2,p3,p4,p5,p6⟩:=XV.blk k _ hj1
       have V8:κ1.ph[k]? = κ.ph[k]? := (hx1.var k _ hj).2
       rw[V8,g1]at p1
       cases p1
       rw[e1,g2]at p2
       cases p2
       refine⟨blk,m,cs,t,V8.trans g1,by show κ1.w.heap[blk]? = _; rw[e1]; exact g2,g3,?_,?_,fun T hT=>g6 T (ML hi rfl hT)⟩
       ·have p4':xv κ2 ds cs.toList:=xv.mono DI p4
        refine⟨by show(ds.set i d').length=_; rw[List.length_set]; exact p4'.1,fun k' h1 h2 => ?_⟩
        have pJ:k'<(ds.set i d').length:=h1
        rw[List.length_set]at pJ
        show RD κ2 ((ds.set i d')[k']) _
        by_cases q:i=k'
        ·subst q
         have hdi:ds[i]'pJ=.ms b qR e off len:=Option.some.inj ((List.getElem?_eq_getElem pJ).symm.trans hi)
         have:=g4.2 i pJ h2
         have CQ:(qq (D.agg ds))[i]'pJ=.ms b qR e off len:=hdi
         rw[CQ]at this
         have e3:(ds.set i d')[i]'h1=d':=List.getElem_set_self _
         rw[e3]
         exact(hk _ _ _ this).mono DI
        ·have e3:(ds.set i d')[k']'h1=ds[k']'pJ:=List.getElem_set_ne q _
         rw[e3]
         exact p4'.2 k' pJ h2
       ·intro x hx
        rcases List.mem_or_eq_of_mem_set hx with hx | rfl
        ·exact g5 x hx
        ·rfl
      ·rw[xN k q]at hB
       exact(XV.blk k B hB).mono DI rfl fun _ _ _=>rfl
     refine⟨κ2,e1,by show κ1.st.set j _=_; rw[e2],hI2,hx1.trans DI,hR.size,hR.defers,fun t d yv => ?_⟩
     obtain⟨u,q1,q2⟩:=hR.get t d yv
     exact⟨u,q1,(q2.mono hx1).mono DI⟩
    ·exact h.elim
   ·exact h.elim
  ·cases h; exact⟨κ,rfl,rfl,hI,Ext.refl κ,hR⟩
 ·cases h; exact⟨κ,rfl,rfl,hI,Ext.refl κ,hR⟩
theorem z1v{s:Nat}{fr:Fr}{a:Act}{r:Fr×St}(h:(z0P s fr κ.st).leads r)(hI:Inv κ)(hR:Rel κ n fr.get a):∃ κ':KS,κ'.w=κ.w∧κ'.st=r.2∧Inv κ'∧Ext κ κ'∧Rel κ' n r.1.get a:=by
 unfold z0P at h
 cases hb:Nat.ble 1000000 s with
 | true=>rw[hb,cond_true]at h; exact z0N h hI hR
 | false=>rw[hb,cond_false]at h; exact z0t h hI hR
theorem S8:∀ (l:List Nat) {fr:Fr} {κ:KS} {a:Act} {r:Fr×St},(frz l fr κ.st).leads r→Inv κ→Rel κ n fr.get a→∃ κ':KS,κ'.w=κ.w∧κ'.st=r.2∧Inv κ'∧Ext κ κ'∧Rel κ' n r.1.get a
 | [],fr,κ,a,r,h,hI,hR=>by cases h; exact⟨κ,rfl,rfl,hI,Ext.refl κ,hR⟩
 | s::l,fr,κ,a,r,h,hI,hR=>by
  simp only[frz,T.zS]at h
  obtain⟨x,h1,h2⟩:=h
  obtain⟨κ1,e1,e2,e3,e4,e5⟩:=z1v h1 hI hR
  rw[← e2]at h2
  obtain⟨κ2,g1,g2,g3,g4,g5⟩:=S8 l h2 e3 e5
  exact⟨κ2,g1.trans e1,g2,g3,e4.trans g4,g5⟩
end
end Go.AM