/-
  The abstract machine, part C: texts of our own, the same for each claim.
-/
import Derived.Test.YtbafdjlefhlefaaGreatDoorAmB
import Derived.Deep.LoopGhost
set_option linter.unusedVariables false
namespace Go.AM
set_option linter.unusedSectionVars false
variable [uH]
abbrev F:=Nat→Option D
def qC(f:F):Operand→Option D
 | .tmp t=>f t
 | .const v=>VH v
 | .global _=>none
 | .func g=>bif Nat.blt g 1000000 then some (.xr g [])else none
theorem dI(fr:Fr):yn fr=qC fr.get:=by funext x; cases x<;>rfl
def yt(f:F)(dst:Option Nat)(d:Option D):F:=match dst with
 | some t=>fun s=>if s=t then d else f s
 | none=>f
theorem pC{a b:Nat}(h:a≠b):Nat.beq a b=false:=by
 cases hb:Nat.beq a b with
 | false=>rfl
 | true=>exact absurd (Nat.eq_of_beq_eq_true hb) h
theorem Xk(fr:Fr)(dst:Option Nat)(d:Option D):(fr.put dst d).get=yt fr.get dst d:=by
 cases dst with
 | none=>rfl
 | some t =>
  funext s
  simp only[Fr.put,Fr.get,yt]
  by_cases h:s=t
  ·subst h; simp
  ·rw[if_neg h,pC (fun e=>h e.symm),cond_false]
section
variable (c:Ctx) (n:Nat) (ops:Array Oper)
def wD(f:F)(o:Oper):Option Bool:=match o.guard with
 | none=>some true
 | some (j,w)=>match uS ops j with
  | none=>none
  | some t=>match f t with
   | some (.zU .bool b)=>some (b==w)
   | some (.gK [])=>some false
   | _=>none
def gL(i:Nat)(s s':F×St)(k:Nat):Prop:=∃ o,ops[i]? = some o∧vV n o.dst=true ∧
 ((wD ops s.1 o=some true∧k=(xg c (qC s.1) o).kind∧∃ d zO,(zX (xg c (qC s.1) o) s.2).leads (d,zO)∧s'=(yt s.1 o.dst d,zO)) ∨
  (wD ops s.1 o=some false∧k=0∧s'=(yt s.1 o.dst (some Ox),s.2)))
def Oe:List Nat→F×St→F×St→List Nat→Prop
 | [],s,s',ks=>s'=s∧ks=[]
 | i::l,s,s',ks=>∃ s1 k Iy,ks=k::Iy∧gL c n ops i s s1 k∧Oe l s1 s' Iy
end
section
variable {c:Ctx} {n:Nat} {ops:Array Oper}
def u7(kn:Kn)(f:F):Prop:=∀ t b,kn.get t=some b→f t=some (.zU .bool b)
theorem JQ(t:Nat)(b:Option Bool)(kn:Kn)(s:Nat):Kn.get ((t,b)::kn) s=if s=t then b else kn.get s:=by
 simp only[Kn.get]
 by_cases h:s=t
 ·subst h; simp
 ·rw[if_neg h,pC (fun e=>h e.symm),cond_false]
theorem cq{kn:Kn}{f:F}(h:u7 kn f){x:Operand}{b:Bool}(hx:dZ kn x=some b):qC f x=some (.zU .bool b):=by
 unfold dZ at hx
 split at hx
 ·exact h _ _ hx
 ·cases hx; rfl
 ·cases hx
theorem DP{kn:Kn}{fr:Fr}{o:Oper}(hk:u7 kn fr.get){st:St}{r:Option D×St}(h:(zX (pT c kn fr o) st).leads r) :
  (zX (xg c (qC fr.get) o) st).leads r∧(pT c kn fr o).kind=(xg c (qC fr.get) o).kind∧∀ b,Jz kn o.op=some b→r.1=some (.zU .bool b):=by
 obtain⟨dst,op,ty,pos,after,guard⟩:=o
 rw[← dI]
 cases op with
 | pick x a b =>
  simp only[pT]at h ⊢
  cases hx:dZ kn x with
  | none =>
   rw[hx]at h
   refine⟨h,rfl,fun b' hb => ?_⟩
   simp[Jz,hx]at hb
  | some bx =>
   rw[hx]at h
   have Yx:=cq hk hx
   rw[← dI]at Yx
   have z9f:xg c (yn fr) ⟨dst,.pick x a b,ty,pos,after,guard⟩=.val (.ite bx (.ret (yn fr a)) (.ret (yn fr b))):=by
    simp only[xg,EP,Yx,asBool]
   rw[z9f]
   obtain⟨d,zO⟩:=r
   cases bx with
   | true =>
    simp only[wK,T.leads]at h ⊢
    refine⟨⟨.inl ⟨by first | rfl | trivial,h.1⟩,h.2⟩,rfl,fun b' hb => ?_⟩
    simp only[Jz,hx]at hb
    have:=cq hk hb
    rw[← dI]at this
    exact h.1.symm.trans this
   | false =>
    simp only[wK,T.leads]at h ⊢
    refine⟨⟨.inr ⟨by first | rfl | trivial,h.1⟩,h.2⟩,rfl,fun b' hb => ?_⟩
    simp only[Jz,hx]at hb
    have:=cq hk hb
    rw[← dI]at this
    exact h.1.symm.trans this
 | move x =>
  refine⟨h,rfl,fun b hb => ?_⟩
  obtain⟨d,zO⟩:=r
  simp only[pT,xg,wK,T.leads]at h
  have:=cq hk (show dZ kn x=some b from hb)
  rw[← dI]at this
  exact h.1.symm.trans this
 | assign x =>
  refine⟨h,rfl,fun b hb => ?_⟩
  obtain⟨d,zO⟩:=r
  simp only[pT,xg,wK,T.leads]at h
  have:=cq hk (show dZ kn x=some b from hb)
  rw[← dI]at this
  exact h.1.symm.trans this
 | _=>exact⟨h,rfl,fun b hb=>by simp[Jz]at hb⟩
theorem LP{kn:Kn}{f:F}(hk:u7 kn f){dst:Option Nat}{d:Option D}{b:Option Bool}(hb:∀ b',b=some b'→d=some (.zU .bool b')):u7 (K4 kn dst b) (yt f dst d):=by
 cases dst with
 | none=>exact hk
 | some t =>
  intro s b' h
  simp only[K4,JQ]at h
  simp only[yt]
  split at h
  ·rename_i e; rw[if_pos e]; exact hb b' h
  ·rename_i e; rw[if_neg e]; exact hk s b' h
theorem tS{kn:Kn}{f:F}(hk:u7 kn f){t:Nat}{b:Bool}(hb:f t=some (.zU .bool b)):u7 ((t,some b)::kn) f:=by
 intro s b' h
 rw[JQ]at h
 split at h
 ·rename_i e; subst e; cases h; exact hb
 ·exact hk s b' h
theorem KJ{o:Oper}{s s':fE}(hk:u7 s.kn s.fr.get)(h:(gW c n o s).leads s') :
  vV n o.dst=true∧(∃ d zO,(zX (xg c (qC s.fr.get) o) s.st).leads (d,zO)∧s'.fr.get=yt s.fr.get o.dst d∧s'.st=zO)∧u7 s'.kn s'.fr.get∧s'.ks=(xg c (qC s.fr.get) o).kind::s.ks:=by
 unfold gW at h
 cases hd:vV n o.dst with
 | false=>rw[hd]at h; exact h.elim
 | true =>
  rw[hd,cond_true]at h
  simp only[T.zY]at h
  obtain⟨⟨d,zO⟩,h1,rfl⟩:=h
  obtain⟨h2,h3,h4⟩:=DP hk h1
  refine⟨rfl,⟨d,zO,h2,Xk _ _ _,rfl⟩,?_,by simp[h3]⟩
  show u7 (K4 s.kn o.dst (Jz s.kn o.op)) (s.fr.put o.dst d).get
  rw[Xk]
  exact LP hk h4
theorem MG{o:Oper}{s:fE}(hk:u7 s.kn s.fr.get):u7 (jC o s).kn (jC o s).fr.get:=by
 show u7 (K4 s.kn o.dst none) (s.fr.put o.dst (some Ox)).get
 rw[Xk]
 exact LP hk nofun
theorem Gs{i:Nat}{o:Oper}{s s':fE}(ho:ops[i]? = some o)(hk:u7 s.kn s.fr.get)(h:(stepG c n ops o s).leads s') :
  ∃ k,gL c n ops i (s.fr.get,s.st) (s'.fr.get,s'.st) k∧u7 s'.kn s'.fr.get∧s'.ks=k::s.ks:=by
 have run:∀ (s0:fE),s0.fr=s.fr→s0.st=s.st→s0.ks=s.ks→u7 s0.kn s0.fr.get→wD ops s.fr.get o=some true→(gW c n o s0).leads s' →
   ∃ k,gL c n ops i (s.fr.get,s.st) (s'.fr.get,s'.st) k∧u7 s'.kn s'.fr.get∧s'.ks=k::s.ks:=by
  intro s0 e1 e2 e3 Bw hw h
  obtain⟨h1,⟨d,zO,h2,h3,h4⟩,h5,h6⟩:=KJ Bw h
  rw[e1]at h2 h3 h6
  rw[e2]at h2
  rw[e3]at h6
  exact⟨_,⟨o,ho,h1,.inl ⟨hw,rfl,d,zO,h2,by rw[h3,h4]⟩⟩,h5,h6⟩
 have skip:∀ (s0:fE),s0.fr=s.fr→s0.st=s.st→s0.ks=s.ks→u7 s0.kn s0.fr.get→wD ops s.fr.get o=some false→vV n o.dst=true→jC o s0=s' →
   ∃ k,gL c n ops i (s.fr.get,s.st) (s'.fr.get,s'.st) k∧u7 s'.kn s'.fr.get∧s'.ks=k::s.ks:=by
  intro s0 e1 e2 e3 Bw hw hd h
  subst h
  refine⟨0,⟨o,ho,hd,.inr ⟨hw,rfl,?_⟩⟩,MG Bw,by simp[jC,e3]⟩
  simp only[jC,Xk,e1,e2]
 unfold stepG at h
 split at h
 ·rename_i hg
  exact run s rfl rfl rfl hk (by simp[wD,hg]) h
 ·rename_i j w hg
  split at h
  ·exact h.elim
  ·rename_i t ht
   split at h
   ·rename_i b hb
    have hf:=hk t b hb
    have hw:wD ops s.fr.get o=some (b==w):=by simp[wD,hg,ht,hf]
    cases Ph:(b==w)with
    | true=>rw[Ph,cond_true]at h; exact run s rfl rfl rfl hk (by rw[hw,Ph]) h
    | false =>
     rw[Ph,cond_false]at h
     cases hd:vV n o.dst with
     | false=>rw[hd]at h; exact h.elim
     | true=>rw[hd,cond_true]at h; exact skip s rfl rfl rfl hk (by rw[hw,Ph]) hd h
   ·split at h
    ·rename_i x hx
     have hw:wD ops s.fr.get o=some (x==w):=by simp[wD,hg,ht,hx]
     cases hd:vV n o.dst with
     | false=>rw[hd]at h; exact h.elim
     | true =>
      rw[hd,cond_true]at h
      rcases h with⟨rfl,h⟩ | ⟨rfl,h⟩
      ·have CT:u7 (s.cf t true).kn (s.cf t true).fr.get:=tS hk hx
       cases w with
       | true=>exact run (s.cf t true) rfl rfl rfl CT hw h
       | false=>exact skip (s.cf t true) rfl rfl rfl CT hw hd h
      ·have CT:u7 (s.cf t false).kn (s.cf t false).fr.get:=tS hk hx
       cases w with
       | true=>exact skip (s.cf t false) rfl rfl rfl CT hw hd h
       | false=>exact run (s.cf t false) rfl rfl rfl CT hw h
    ·rename_i hx
     have hw:wD ops s.fr.get o=some false:=by simp[wD,hg,ht,hx]
     cases hd:vV n o.dst with
     | false=>rw[hd]at h; exact h.elim
     | true=>rw[hd,cond_true]at h; exact skip s rfl rfl rfl hk hw hd h
    ·exact h.elim
theorem pn:∀ (l:List Oper) (k0:Nat) (s s':fE),(∀ j,l[j]? = ops[k0+j]? ∨ l.length≤j)→u7 s.kn s.fr.get→(nK c n ops l s).leads s' →
  ∃ ks,Oe c n ops (List.range' k0 l.length) (s.fr.get,s.st) (s'.fr.get,s'.st) ks∧u7 s'.kn s'.fr.get∧s'.ks=ks.reverse++s.ks
 | [],k0,s,s',_,hk,h=>by cases h; exact⟨[],⟨rfl,rfl⟩,hk,rfl⟩
 | o::l,k0,s,s',hl,hk,h=>by
  simp only[nK,T.zY]at h
  obtain⟨s1,h1,h2⟩:=h
  have ho:ops[k0]? = some o:=by rcases hl 0 with h | h<;>simp at h; exact h.symm
  obtain⟨k,g1,g2,g3⟩:=Gs ho hk h1
  obtain⟨ks,g4,g5,g6⟩:=pn l (k0+1) s1 s' (fun j=>by have:=hl (j+1); simpa[Nat.add_assoc,Nat.add_comm 1 j]using this) g2 h2
  refine⟨k::ks,?_,g5,by rw[g6,g3]; simp⟩
  simp only[List.length_cons,List.range'_succ]
  exact⟨_,k,ks,rfl,g1,g4⟩
end
end Go.AM
namespace Go.AM
set_option linter.unusedSectionVars false
variable [uH]
section
variable {c:Ctx} {n:Nat} {ops:Array Oper}
theorem tf{α:Type}{ρ ρ':α→Option D}(L:List (Nat×α))(h:∀ p∈L,ρ p.2=ρ' p.2):(L.map fun p=>(p.1,ρ p.2))=L.map fun p=>(p.1,ρ' p.2) :=
 List.map_congr_left fun p hp=>by rw[h p hp]
theorem Qe{ρ ρ':Operand→Option D}(o:Oper)(h:∀ x∈o.op.operands,ρ x=ρ' x):xg c ρ o=xg c ρ' o:=by
 obtain⟨dst,op,ty,pos,after,guard⟩:=o
 cases op with
 | move x=>simp only[xg]; rw[h x (by simp[Op.operands])]
 | assign x=>simp only[xg]; rw[h x (by simp[Op.operands])]
 | pick x a b=>simp only[xg]; rw[h x (by simp[Op.operands]),h a (by simp[Op.operands]),h b (by simp[Op.operands])]
 | box t x=>simp only[xg]; rw[h x (by simp[Op.operands])]
 | load t x=>simp only[xg]; rw[h x (by simp[Op.operands])]
 | store t x y=>simp only[xg]; rw[h x (by simp[Op.operands]),h y (by simp[Op.operands])]
 | nilCheck x=>simp only[xg]; rw[h x (by simp[Op.operands])]
 | binOp op t x y _=>simp only[xg]; rw[h x (by simp[Op.operands]),h y (by simp[Op.operands])]
 | typeAssert x xt t ok=>simp only[xg]; rw[h x (by simp[Op.operands])]
 | unOp op t x=>simp only[xg]; rw[h x (by simp[Op.operands])]
 | convert s t x=>simp only[xg]; rw[h x (by simp[Op.operands])]
 | makeInterface t x=>simp only[xg]; rw[h x (by simp[Op.operands])]
 | makeFunc fn first cap =>
  cases fn<;>simp only[xg]
  rw[List.map_congr_left (l:=cap.toList) (fun x hx=>h x (by simp[Op.operands,Array.mem_toList_iff.1 hx])),List.map_congr_left (l:=first.toList) (fun x hx=>h x (by simp[Op.operands,Array.mem_toList_iff.1 hx]))]
 | makeSlice t x y=>simp only[xg]; rw[h x (by simp[Op.operands]),h y (by simp[Op.operands])]
 | slice t x lo hi mx =>
  simp only[xg]
  have ho:∀ o:Option Operand,(∀ y,o=some y→ρ y=ρ' y)→o.map ρ=o.map ρ':=fun o ho=>by
   cases o with
   | none=>rfl
   | some y=>rw[Option.map_some,Option.map_some,ho y rfl]
  rw[h x (by simp[Op.operands]),ho lo (fun y hy=>h y (by simp[Op.operands,hy])),ho hi (fun y hy=>h y (by simp[Op.operands,hy])),ho mx (fun y hy=>h y (by simp[Op.operands,hy]))]
 | fieldAddr s x f=>simp only[xg]; rw[h x (by simp[Op.operands])]
 | field s x f=>simp only[xg]; rw[h x (by simp[Op.operands])]
 | indexAddr t x y=>simp only[xg]; rw[h x (by simp[Op.operands]),h y (by simp[Op.operands])]
 | index t x y=>simp only[xg]; rw[h x (by simp[Op.operands]),h y (by simp[Op.operands])]
 | extract x i=>simp only[xg]; rw[h x (by simp[Op.operands])]
 | build t ps=>simp only[xg]; rw[tf ps.toList fun p hp=>h p.2 (by simp[Op.operands]; exact⟨p.1,Array.mem_toList_iff.1 hp⟩)]
 | buildSlice t k ps=>simp only[xg]; rw[tf ps.toList fun p hp=>h p.2 (by simp[Op.operands]; exact⟨p.1,Array.mem_toList_iff.1 hp⟩)]
 | call cl =>
  obtain⟨callee,args,W9⟩:=cl
  have eS:args.toList.map ρ=args.toList.map ρ':=List.map_congr_left fun x hx=>h x (by simp[Op.operands,Call.operands,Array.mem_toList_iff.1 hx])
  cases callee with
  | builtin b=>simp only[xg]; rw[eS]
  | value f=>simp only[xg]; rw[eS,h f (by simp[Op.operands,Call.operands])]
  | invoke r m=>rfl
 | _=>rfl
theorem YX{f:F}{dst:Option Nat}{d:Option D}{x:Operand}(h:∀ t,dst=some t→x≠.tmp t):qC (yt f dst d) x=qC f x:=by
 cases dst with
 | none=>rfl
 | some t=>cases x with
  | tmp s=>simp only[qC,yt]; rw[if_neg (fun e=>h t rfl (by rw[e]))]
  | _=>rfl
theorem gR(f:F){a b:Option Nat}(d e:Option D)(h:∀ t,a=some t→b≠some t):yt (yt f a d) b e=yt (yt f b e) a d:=by
 cases a with
 | none=>rfl
 | some s=>cases b with
  | none=>rfl
  | some t =>
   have uv:s≠t:=fun e=>h s rfl (by rw[e])
   funext x
   simp only[yt]
   by_cases h1:x=t
   ·subst h1; simp[Ne.symm uv]
   ·simp[h1]
def Ind(ops:Array Oper)(kd:Nat→Nat)(p i:Nat):Prop:=∀ x y,ops[p]? = some x→ops[i]? = some y →
 (∀ d,x.dst=some d→d ∉ tmpsOf ops y)∧(∀ d,y.dst=some d→d ∉ tmpsOf ops x)∧uF (kd p) (kd i)=false
theorem y4{o:Oper}{d:Nat}(h:o.dst=some d):d∈tmpsOf ops o:=by simp[tmpsOf,h]
theorem sK{o:Oper}{d:Nat}(h:Operand.tmp d∈o.op.operands):d∈tmpsOf ops o:=by
 simp only[tmpsOf,List.mem_append,List.mem_filterMap]
 exact .inr ⟨.tmp d,by simpa using h,rfl⟩
theorem rM{o:Oper}{j:Nat}{w:Bool}{d:Nat}(h:o.guard=some (j,w))(hg:uS ops j=some d):d∈tmpsOf ops o:=by
 simp[tmpsOf,h,hg]
theorem wz{f:F}{o:Oper}{dst:Option Nat}{d:Option D}(h:∀ t,dst=some t→t ∉ tmpsOf ops o):wD ops (yt f dst d) o=wD ops f o:=by
 unfold wD
 cases hg:o.guard with
 | none=>rfl
 | some jw =>
  obtain⟨j,w⟩:=jw
  simp only
  cases hs:uS ops j with
  | none=>rfl
  | some t =>
   simp only
   have:yt f dst d t=f t:=by
    cases dst with
    | none=>rfl
    | some s=>simp only[yt]; rw[if_neg]; intro e; exact h s rfl (e▸rM hg hs)
   rw[this]
theorem ku{f:F}{o:Oper}{dst:Option Nat}{d:Option D}(h:∀ t,dst=some t→t ∉ tmpsOf ops o):xg c (qC (yt f dst d)) o=xg c (qC f) o :=
 Qe o fun x hx=>YX fun t ht e=>h t ht (sK (ops:=ops) (e▸hx))
theorem mf{cl:cN}(h:cl.kind=0){st zO:St}{d:Option D}(hl:(zX cl st).leads (d,zO)):zO=st∧∀ jD,(zX cl jD).leads (d,jD):=by
 cases cl with
 | val t=>rw[wK]at hl; exact⟨hl.2,fun jD=>by rw[wK]; exact⟨hl.1,rfl⟩⟩
 | rd k=>cases h
 | wr k=>cases h
theorem dz{cl:cN}(h:cl.kind≤1){st zO:St}{d:Option D}(hl:(zX cl st).leads (d,zO)):zO=st:=by
 cases cl with
 | val t=>rw[wK]at hl; exact hl.2
 | rd k=>rw[mQ]at hl; exact hl.2
 | wr k=>simp[cN.kind]at h
theorem Xb(cl:cN):cl.kind≤2:=by cases cl<;>simp[cN.kind]
theorem Gi{kd:Nat→Nat}{p i:Nat}(hi:Ind ops kd p i){s s1 s2:F×St}(h1:gL c n ops p s s1 (kd p))(h2:gL c n ops i s1 s2 (kd i)) :
  ∃ s',gL c n ops i s s' (kd i)∧gL c n ops p s' s2 (kd p):=by
 obtain⟨x,hx,hdx,Fi⟩:=h1
 obtain⟨y,hy,hdy,hy'⟩:=h2
 obtain⟨a1,a2,a3⟩:=hi x y hx hy
 have SK:∀ t,x.dst=some t→y.dst≠some t:=fun t ht e=>a1 t ht (y4 e)
 obtain⟨f,st⟩:=s
 rcases Fi with⟨hw,hk,d,bP,hl,rfl⟩ | ⟨hw,hk,rfl⟩
 ·rcases hy' with⟨Uk,gk,e,jD,iI,rfl⟩ | ⟨Uk,gk,rfl⟩
  ·simp only[wz a1,ku (c:=c) a1]at Uk gk iI
   simp only at hw hk hl
   -- the two meet nowhere in the store
   have key:(zX (xg c (qC f) y) st).leads (e,(if(xg c (qC f) y).kind=2 then jD else st))∧(zX (xg c (qC f) x) (if(xg c (qC f) y).kind=2 then jD else st)).leads (d,jD):=by
    rw[hk,gk]at a3
    rcases Nat.lt_or_ge (xg c (qC f) y).kind 2 with hy2 | hy2
    ·rw[if_neg (by omega)]
     have e2:=dz (by omega) iI
     subst e2
     rcases Nat.lt_or_ge (xg c (qC f) x).kind 2 with Ef | Ef
     ·have e1:=dz (by omega) hl
      subst e1
      exact⟨iI,hl⟩
     ·have hx3:(xg c (qC f) x).kind=2:=Nat.le_antisymm (Xb _) Ef
      have TI:(xg c (qC f) y).kind=0:=by
       rw[hx3]at a3
       cases TI:(xg c (qC f) y).kind with
       | zero=>rfl
       | succ m=>rw[TI]at a3; simp[uF]at a3
      exact⟨(mf TI iI).2 st,hl⟩
    ·have hy3:(xg c (qC f) y).kind=2:=Nat.le_antisymm (Xb _) hy2
     rw[if_pos hy3]
     have J5:(xg c (qC f) x).kind=0:=by
      rw[hy3]at a3
      cases J5:(xg c (qC f) x).kind with
      | zero=>rfl
      | succ m=>rw[J5]at a3; simp[uF]at a3
     obtain⟨e1,h3⟩:=mf J5 hl
     subst e1
     exact⟨iI,h3 jD⟩
   refine⟨_,⟨y,hy,hdy,.inl ⟨Uk,gk,e,_,key.1,rfl⟩⟩,x,hx,hdx,.inl ⟨?_,?_,d,jD,?_,?_⟩⟩
   ·rw[wz a2]; exact hw
   ·rw[ku (c:=c) a2]; exact hk
   ·rw[ku (c:=c) a2]; exact key.2
   ·simp only[gR f d e SK]
  ·simp only[wz a1]at Uk
   refine⟨_,⟨y,hy,hdy,.inr ⟨Uk,gk,rfl⟩⟩,x,hx,hdx,.inl ⟨?_,?_,d,bP,?_,?_⟩⟩
   ·rw[wz a2]; exact hw
   ·rw[ku (c:=c) a2]; exact hk
   ·rw[ku (c:=c) a2]; exact hl
   ·simp only[gR f d (some Ox) SK]
 ·rcases hy' with⟨Uk,gk,e,jD,iI,rfl⟩ | ⟨Uk,gk,rfl⟩
  ·simp only[wz a1,ku (c:=c) a1]at Uk gk iI
   refine⟨_,⟨y,hy,hdy,.inl ⟨Uk,gk,e,jD,iI,rfl⟩⟩,x,hx,hdx,.inr ⟨?_,hk,?_⟩⟩
   ·rw[wz a2]; exact hw
   ·simp only[gR f (some Ox) e SK]
  ·simp only[wz a1]at Uk
   refine⟨_,⟨y,hy,hdy,.inr ⟨Uk,gk,rfl⟩⟩,x,hx,hdx,.inr ⟨?_,hk,?_⟩⟩
   ·rw[wz a2]; exact hw
   ·simp only[gR f (some Ox) (some Ox) SK]
def pR(c:Ctx)(n:Nat)(ops:Array Oper)(kd:Nat→Nat):List Nat→F×St→F×St→Prop
 | [],s,s'=>s'=s
 | i::l,s,s'=>∃ s1,gL c n ops i s s1 (kd i)∧pR c n ops kd l s1 s'
theorem JJ{kd:Nat→Nat}{i:Nat}{post:List Nat}{s':F×St}:∀ {pre:List Nat} {s:F×St},(∀ p∈pre,Ind ops kd p i)→pR c n ops kd (pre++i::post) s s' →
  ∃ s1,gL c n ops i s s1 (kd i)∧pR c n ops kd (pre++post) s1 s'
 | [],s,_,h=>h
 | p::pre,s,hp,⟨sp,h1,h2⟩=>by
  obtain⟨s1,h3,h4⟩:=JJ (fun q hq=>hp q (List.mem_cons_of_mem _ hq)) h2
  obtain⟨s2,h5,h6⟩:=Gi (hp p List.mem_cons_self) h1 h3
  exact⟨s2,h5,s1,h6,h4⟩
end
end Go.AM
namespace Go.AM
set_option linter.unusedSectionVars false
variable [uH]
section
variable (c:Ctx) (n:Nat) (ops:Array Oper)
def ez(i:Nat)(s s':F×St)(k:RK):Prop:=∃ o,ops[i]? = some o∧vV n o.dst=true ∧
 ((wD ops s.1 o=some true∧k=wA c (qC s.1) s.2 o∧∃ d zO,(zX (xg c (qC s.1) o) s.2).leads (d,zO)∧s'=(yt s.1 o.dst d,zO)) ∨
  (wD ops s.1 o=some false∧k=.z 0∧s'=(yt s.1 o.dst (some Ox),s.2)))
def IM:List Nat→F×St→F×St→List RK→Prop
 | [],s,s',ks=>s'=s∧ks=[]
 | i::l,s,s',ks=>∃ s1 k Iy,ks=k::Iy∧ez c n ops i s s1 k∧IM l s1 s' Iy
end
section
variable {c:Ctx} {n:Nat} {ops:Array Oper}
theorem ez.plain{i:Nat}{s s':F×St}{k:RK}(h:ez c n ops i s s' k):∃ k',gL c n ops i s s' k':=by
 obtain⟨o,h1,h2,h3⟩:=h
 rcases h3 with⟨g1,_,g3⟩ | ⟨g1,_,g3⟩
 ·exact⟨_,o,h1,h2,.inl ⟨g1,rfl,g3⟩⟩
 ·exact⟨_,o,h1,h2,.inr ⟨g1,rfl,g3⟩⟩
theorem FE{i:Nat}{o:Oper}{s s':fE}(ho:ops[i]? = some o)(hk:u7 s.kn s.fr.get)(h:(stepG c n ops o s).leads s') :
  ∃ k,ez c n ops i (s.fr.get,s.st) (s'.fr.get,s'.st) k∧u7 s'.kn s'.fr.get∧s'.bk=k::s.bk:=by
 have bkS:∀ {s0:fE},(gW c n o s0).leads s'→s'.bk=wA c (yn s0.fr) s0.st o::s0.bk:=by
  intro s0 h
  unfold gW at h
  cases hd:vV n o.dst with
  | false=>rw[hd]at h; exact h.elim
  | true =>
   rw[hd,cond_true]at h
   simp only[T.zY]at h
   obtain⟨⟨d,zO⟩,h1,rfl⟩:=h
   rfl
 have run:∀ (s0:fE),s0.fr=s.fr→s0.st=s.st→s0.bk=s.bk→u7 s0.kn s0.fr.get→wD ops s.fr.get o=some true→(gW c n o s0).leads s' →
   ∃ k,ez c n ops i (s.fr.get,s.st) (s'.fr.get,s'.st) k∧u7 s'.kn s'.fr.get∧s'.bk=k::s.bk:=by
  intro s0 e1 e2 e3 Bw hw h
  obtain⟨h1,⟨d,zO,h2,h3,h4⟩,h5,h6⟩:=KJ Bw h
  have hb:=bkS h
  rw[e1]at h2 h3 hb
  rw[e2]at h2 hb
  rw[e3]at hb
  rw[dI]at hb
  exact⟨_,⟨o,ho,h1,.inl ⟨hw,rfl,d,zO,h2,by rw[h3,h4]⟩⟩,h5,hb⟩
 have skip:∀ (s0:fE),s0.fr=s.fr→s0.st=s.st→s0.bk=s.bk→u7 s0.kn s0.fr.get→wD ops s.fr.get o=some false→vV n o.dst=true→jC o s0=s' →
   ∃ k,ez c n ops i (s.fr.get,s.st) (s'.fr.get,s'.st) k∧u7 s'.kn s'.fr.get∧s'.bk=k::s.bk:=by
  intro s0 e1 e2 e3 Bw hw hd h
  subst h
  refine⟨.z 0,⟨o,ho,hd,.inr ⟨hw,rfl,?_⟩⟩,MG Bw,by simp[jC,e3]⟩
  simp only[jC,Xk,e1,e2]
 unfold stepG at h
 split at h
 ·rename_i hg
  exact run s rfl rfl rfl hk (by simp[wD,hg]) h
 ·rename_i j w hg
  split at h
  ·exact h.elim
  ·rename_i t ht
   split at h
   ·rename_i b hb
    have hf:=hk t b hb
    have hw:wD ops s.fr.get o=some (b==w):=by simp[wD,hg,ht,hf]
    cases Ph:(b==w)with
    | true=>rw[Ph,cond_true]at h; exact run s rfl rfl rfl hk (by rw[hw,Ph]) h
    | false =>
     rw[Ph,cond_false]at h
     cases hd:vV n o.dst with
     | false=>rw[hd]at h; exact h.elim
     | true=>rw[hd,cond_true]at h; exact skip s rfl rfl rfl hk (by rw[hw,Ph]) hd h
   ·split at h
    ·rename_i x hx
     have hw:wD ops s.fr.get o=some (x==w):=by simp[wD,hg,ht,hx]
     cases hd:vV n o.dst with
     | false=>rw[hd]at h; exact h.elim
     | true =>
      rw[hd,cond_true]at h
      rcases h with⟨rfl,h⟩ | ⟨rfl,h⟩
      ·have CT:u7 (s.cf t true).kn (s.cf t true).fr.get:=tS hk hx
       cases w with
       | true=>exact run (s.cf t true) rfl rfl rfl CT hw h
       | false=>exact skip (s.cf t true) rfl rfl rfl CT hw hd h
      ·have CT:u7 (s.cf t false).kn (s.cf t false).fr.get:=tS hk hx
       cases w with
       | true=>exact skip (s.cf t false) rfl rfl rfl CT hw hd h
       | false=>exact run (s.cf t false) rfl rfl rfl CT hw h
    ·rename_i hx
     have hw:wD ops s.fr.get o=some false:=by simp[wD,hg,ht,hx]
     cases hd:vV n o.dst with
     | false=>rw[hd]at h; exact h.elim
     | true=>rw[hd,cond_true]at h; exact skip s rfl rfl rfl hk hw hd h
    ·exact h.elim
theorem VG:∀ (l:List Oper) (k0:Nat) (s s':fE),(∀ j,l[j]? = ops[k0+j]? ∨ l.length≤j)→u7 s.kn s.fr.get→(nK c n ops l s).leads s' →
  ∃ ks,IM c n ops (List.range' k0 l.length) (s.fr.get,s.st) (s'.fr.get,s'.st) ks∧s'.bk=ks.reverse++s.bk
 | [],k0,s,s',_,hk,h=>by cases h; exact⟨[],⟨rfl,rfl⟩,rfl⟩
 | o::l,k0,s,s',hl,hk,h=>by
  simp only[nK,T.zY]at h
  obtain⟨s1,h1,h2⟩:=h
  have ho:ops[k0]? = some o:=by rcases hl 0 with h | h<;>simp at h; exact h.symm
  obtain⟨k,g1,g2,g3⟩:=FE ho hk h1
  obtain⟨ks,g4,g6⟩:=VG l (k0+1) s1 s' (fun j=>by have:=hl (j+1); simpa[Nat.add_assoc,Nat.add_comm 1 j]using this) g2 h2
  refine⟨k::ks,?_,by rw[g6,g3]; simp⟩
  simp only[List.length_cons,List.range'_succ]
  exact⟨_,k,ks,rfl,g1,g4⟩
theorem Fm{m b:Nat}{l:List Nat}:b∈others m l↔b<m∧∀ x∈l,b≠x:=by
 simp only[others,List.mem_filter,List.mem_range,Bool.not_eq_true',List.any_eq_false]
 refine and_congr Iff.rfl (forall_congr' fun x=>forall_congr' fun _ => ?_)
 constructor
 ·intro h e; subst e; exact h (Nat.beq_refl _)
 ·intro h e; exact h (Nat.eq_of_beq_eq_true e)
theorem Mv{d:Option D}{b:Nat}(h:z8e d=some b):(∃ off,d=some (.ptr b off))∨∃ v e i off,d=some (.uC b v e i off):=by
 cases d with
 | none=>cases h
 | some d=>cases d<;>first | (cases h; exact .inl ⟨_,rfl⟩) | (cases h; exact .inr ⟨_,_,_,_,rfl⟩) | cases h
theorem Xh{bi:Builtin}{l:List (Option D)}:Mt bi l=.z 2∨∃ b v e off len x,bi=.append∧l=[some (.ms b v e off len),some x]∧JA x=false∧Mt bi l=.up b:=by
 unfold Mt
 cases bi<;>try exact .inl rfl
 simp only
 split
 ·rename_i b v e off len x
  cases hx:JA x with
  | true=>exact .inl rfl
  | false=>exact .inr ⟨b,v,e,off,len,x,trivial,rfl,hx,by rw[cond_false]⟩
 ·exact .inl rfl
theorem KN(ρ:Operand→Option D)(st:St)(o:Oper):(wA c ρ st o).base=(xg c ρ o).kind:=by
 unfold wA
 split
 ·rename_i h
  rw[h]
  cases o.op with
  | load t a=>simp only; split<;>rfl
  | _=>rfl
 ·rename_i h
  rw[h]
  cases o.op with
  | call cl =>
   cases hc:cl.callee with
   | builtin bi =>
    simp only[hc]
    rcases Xh (bi:=bi) (l:=cl.args.toList.map ρ)with e | ⟨b,v,e,off,len,x,_,_,_,e⟩<;>rw[e]<;>rfl
   | value f=>simp only[hc]; split<;>rfl
   | _=>simp only[hc]; rfl
  | store t a v=>simp only; split<;>rfl
  | _=>rfl
 ·rfl
theorem VA{ρ:Operand→Option D}{o:Oper}(h:(xg c ρ o).kind≤1)(st zO:St):wA c ρ st o=wA c ρ zO o:=by
 unfold wA
 split
 ·rfl
 ·rename_i h2; omega
 ·rfl
theorem QT{ρ:Operand→Option D}{st:St}{o:Oper}{b:Nat}(h:wA c ρ st o=.rd b){bP jD Cx:St}{d:Option D}(hl:(zX (xg c ρ o) bP).leads (d,Cx))(hb:jD[b]? = bP[b]?):(zX (xg c ρ o) jD).leads (d,jD):=by
 obtain⟨dst,op,ty,pos,after,guard⟩:=o
 cases op with
 | load t a =>
  have h':(∃ off,ρ a=some (.ptr b off))∨∃ v e i off,ρ a=some (.uC b v e i off):=by
   unfold wA at h
   simp only at h
   split at h
   ·split at h
    ·rename_i b' ha; cases h; exact Mv ha
    ·cases h
   ·cases h
   ·cases h
  have he:xg c ρ ⟨dst,.load t a,ty,pos,after,guard⟩=Kk c t (ρ a):=rfl
  rcases h' with⟨off,ha⟩ | ⟨v,e,i,off,ha⟩
  all_goals
   rw[he,ha]at hl ⊢
   simp only[Kk]at hl ⊢
   rw[mQ]at hl ⊢
   rw[hb]
   exact⟨hl.1,rfl⟩
 | call cl =>
  exfalso
  obtain⟨callee,args,W9⟩:=cl
  unfold wA at h
  simp only at h
  split at h
  ·cases h
  ·cases callee with
   | builtin bi =>
    simp only at h
    rcases Xh (bi:=bi) (l:=args.toList.map ρ)with e | ⟨b,v,e,off,len,x,_,_,_,e⟩<;>rw[e]at h<;>cases h
   | value f=>simp only at h; split at h<;>cases h
   | _=>cases h
  ·cases h
 | _ =>
  exfalso
  unfold wA at h
  simp only at h
  split at h
  ·cases h
  ·first
    | cases h
    | (split at h<;>cases h)
  ·cases h
theorem Dt{ρ:Operand→Option D}{st:St}{o:Oper}{A:List Nat}(h:wA c ρ st o=.wr A){zO:St}{d:Option D}(hl:(zX (xg c ρ o) st).leads (d,zO)):∀ b∈A,zO[b]? = st[b]? := by
 obtain⟨dst,op,ty,pos,after,guard⟩:=o
 cases op with
 | alloc t =>
  have h':A=others st.length []:=by
   unfold wA at h
   simp only at h
   split at h<;>first | (cases h; rfl) | cases h
  subst h'
  intro b hb
  obtain⟨hb,_⟩:=Fm.1 hb
  have hl:(zX (o5 c t) st).leads (d,zO):=hl
  unfold o5 at hl
  split at hl
  ·rename_i z hz
   have hl:(some (D.ptr st.length 0),st++[yp.var z])=(d,zO):=hl
   cases hl
   exact List.getElem?_append_left hb
  ·exact absurd hl zj
 | store t a v =>
  exfalso
  unfold wA at h
  simp only at h
  split at h
  ·cases h
  ·split at h<;>cases h
  ·cases h
 | call cl =>
  obtain⟨callee,args,W9⟩:=cl
  cases callee with
  | value f =>
   have h':(xg c ρ ⟨dst,.call ⟨.value f,args,W9⟩,ty,pos,after,guard⟩).kind=2∧∃ g caps l,ρ f=some (.xr g caps)∧jJ (args.toList.map ρ)=some l∧A=c.free (eP g) (cw g l caps) st:=by
    unfold wA at h
    simp only at h
    split at h
    ·cases h
    ·rename_i hk
     split at h
     ·rename_i g caps l hg M5; cases h; exact⟨hk,g,caps,l,hg,M5,rfl⟩
     ·cases h
    ·cases h
   obtain⟨hk,g,caps,l,hg,M5,rfl⟩:=h'
   intro b hb
   have he:xg c ρ ⟨dst,.call ⟨.value f,args,W9⟩,ty,pos,after,guard⟩=eF c (ρ f) (args.toList.map ρ):=rfl
   rw[he,hg]at hl hk
   simp only[eF,M5]at hl hk
   split at hl
   ·rename_i s hs
    rw[hs]at hk
    simp only[bq]at hk
    cases hn:(!(cw g l caps).any Kt)<;>rw[hn]at hk<;>simp[cN.kind]at hk
   ·simp only[Z8,zX,T.zY]at hl
    obtain⟨⟨rs,bP⟩,h1,h2⟩:=hl
    cases rs with
    | ret ds=>cases h2; exact c.TA _ _ _ _ _ b h1 hb
    | cg p=>exact h2.elim
  | builtin bi =>
   exfalso
   unfold wA at h
   simp only at h
   split at h
   ·cases h
   ·rcases Xh (bi:=bi) (l:=args.toList.map ρ)with e | ⟨b,v,e,off,len,x,_,_,_,e⟩<;>rw[e]at h<;>cases h
   ·cases h
  | invoke r m =>
   exfalso
   unfold wA at h
   simp only at h
   split at h<;>cases h
 | _ =>
  exfalso
  unfold wA at h
  simp only at h
  split at h
  ·first
    | cases h
    | (split at h<;>cases h)
  ·cases h
  ·cases h
theorem X4{ρ:Operand→Option D}{st:St}{o:Oper}{b:Nat}(h:wA c ρ st o=.up b){bP Cx:St}{d:Option D}(hl:(zX (xg c ρ o) bP).leads (d,Cx)) :
  ∃ y,Cx=bP.set b y∧∀ jD:St,jD[b]? = bP[b]? → (zX (xg c ρ o) jD).leads (d,jD.set b y):=by
 obtain⟨dst,op,ty,pos,after,guard⟩:=o
 cases op with
 | store t a v =>
  have h':(∃ off,ρ a=some (.ptr b off))∨∃ v e i off,ρ a=some (.uC b v e i off):=by
   unfold wA at h
   simp only at h
   split at h
   ·cases h
   ·split at h
    ·rename_i b ha; cases h; exact Mv ha
    ·cases h
   ·cases h
  have he:xg c ρ ⟨dst,.store t a v,ty,pos,after,guard⟩=UY c t (ρ a) (ρ v):=rfl
  rw[he]at hl ⊢
  cases hv:ρ v with
  | none =>
   rw[hv]at hl
   rcases h' with⟨off,ha⟩ | ⟨w,e,i,off,ha⟩<;>(rw[ha]at hl; exact absurd hl zj)
  | some x =>
   rw[hv]at hl
   rcases h' with⟨off,ha⟩ | ⟨w,e,i,off,ha⟩
   ·rw[ha]at hl ⊢
    have hl:(match bP[b]? with
     | some (.var d)=>match Dv c t d off x with | some r=>bif nV d r then T.ret ((none:Option D),bP.set b (.var r))else .fail | none=>.fail
     | _=>.fail:T (Option D×St)).leads (d,Cx):=hl
    split at hl
    ·rename_i d0 hb
     split at hl
     ·rename_i r hr
      cases ho:nV d0 r with
      | false=>rw[ho]at hl; exact hl.elim
      | true =>
       rw[ho]at hl
       cases hl
       refine⟨.var r,rfl,fun jD h2 => ?_⟩
       show(match jD[b]? with
        | some (.var d)=>match Dv c t d off x with | some r=>bif nV d r then T.ret ((none:Option D),jD.set b (.var r))else .fail | none=>.fail
        | _=>.fail:T (Option D×St)).leads _
       rw[h2,hb]
       simp only[hr,ho,cond_true]
       rfl
     ·exact hl.elim
    ·exact hl.elim
   ·rw[ha]at hl ⊢
    have hl:(match bP[b]? with
     | some (.arr kT e' xs)=>bif decide (e'=e)then
       .zd (w=kT∧i<xs.length) (match Dv c t (.zU e' (xs.getD i (zb e'))) off x with
        | some r=>match dX e' r with | some y=>T.ret ((none:Option D),bP.set b (.arr kT e' (xs.set i y))) | none=>.fail
        | none=>.fail)
      else .fail
     | _=>.fail:T (Option D×St)).leads (d,Cx):=hl
    split at hl
    ·rename_i kT e' xs hb
     cases hd:decide (e'=e)with
     | false=>rw[hd]at hl; exact hl.elim
     | true =>
      rw[hd,cond_true]at hl
      obtain⟨ho,hl⟩:=hl
      split at hl
      ·rename_i r hr
       split at hl
       ·rename_i y hy
        cases hl
        refine⟨.arr kT e' (xs.set i y),rfl,fun jD h2 => ?_⟩
        show(match jD[b]? with
         | some (.arr kT e' xs)=>bif decide (e'=e)then
           .zd (w=kT∧i<xs.length) (match Dv c t (.zU e' (xs.getD i (zb e'))) off x with
            | some r=>match dX e' r with | some y=>T.ret ((none:Option D),jD.set b (.arr kT e' (xs.set i y))) | none=>.fail
            | none=>.fail)
          else .fail
         | _=>.fail:T (Option D×St)).leads _
        rw[h2,hb]
        simp only[hd,cond_true,hr,hy]
        exact⟨ho,rfl⟩
       ·exact hl.elim
      ·exact hl.elim
    ·exact hl.elim
 | call cl =>
  obtain⟨callee,args,W9⟩:=cl
  cases callee with
  | builtin bi =>
   have h':bi=.append∧∃ v e off len x,args.toList.map ρ=[some (.ms b v e off len),some x]∧JA x=false:=by
    unfold wA at h
    simp only at h
    split at h
    ·cases h
    ·rcases Xh (bi:=bi) (l:=args.toList.map ρ)with e | ⟨b',v,e,off,len,x,h1,h2,h3,e'⟩
     ·rw[e]at h; cases h
     ·rw[e']at h; cases h; exact⟨h1,v,e,off,len,x,h2,h3⟩
    ·cases h
   obtain⟨rfl,v,e,off,len,x,hx,hm⟩:=h'
   have he:xg c ρ ⟨dst,.call ⟨.builtin .append,args,W9⟩,ty,pos,after,guard⟩=mV c .append W9.toList (args.toList.map ρ):=rfl
   rw[he,hx]at hl ⊢
   -- what the row gets
   have one:∀ {e':Ty} {ys:List (den e')} {ne:Bool} {rk:Nat},(jZ e' (.ms b v e off len) ys ne rk bP).leads (d,Cx)→∃ y,Cx=bP.set b y∧∀ jD:St,jD[b]? = bP[b]? → (jZ e' (.ms b v e off len) ys ne rk jD).leads (d,jD.set b y):=by
    intro e' ys ne rk hl
    simp only[jZ]at hl
    split at hl
    ·rename_i kT e'' xs hb
     split at hl
     ·rename_i zs hz
      cases hd:decide (e=e')with
      | false=>rw[hd]at hl; exact hl.elim
      | true =>
       rw[hd,cond_true]at hl
       obtain⟨ho,hl⟩:=hl
       cases hl
       refine⟨_,rfl,fun jD h2 => ?_⟩
       simp only[jZ]
       rw[h2,hb]
       simp only[hz,hd,cond_true]
       exact⟨ho,rfl⟩
     ·exact hl.elim
    ·exact hl.elim
   have snp:∀ jD,rf jD x=.ret x:=fun jD=>by cases x<;>first | rfl | cases hm
   generalize W9.toList=tl at hl ⊢
   rcases tl with _ | ⟨t,_ | ⟨t',_ | ⟨t'',tl⟩⟩⟩
   ·exact absurd hl zj
   ·exact absurd hl zj
   rotate_left
   ·exact absurd hl zj
   ·
    simp only[mV]at hl ⊢
    cases ht:Nat.beq t t' with
    | true =>
     rw[ht,cond_true]at hl
     simp only[cond_true]
     unfold XW at hl ⊢
     cases het:lR c t with
     | none=>rw[het]at hl; exact absurd hl zj
     | some et =>
      rw[het]at hl
      simp only at hl ⊢
      cases h1:BF c 20 et with
      | none=>rw[h1]at hl; exact absurd hl zj
      | some ee =>
       rw[h1]at hl
       try simp only at hl ⊢
       cases h2:oY c et with
       | none=>rw[h2]at hl; exact absurd hl zj
       | some bytes =>
        rw[h2]at hl
        simp only at hl ⊢
        cases hc:kW c et ee&&Nat.blt 0 ee.size&&Nat.blt 0 bytes&&(zeroOf c et ee).isSome with
        | false=>rw[hc]at hl; exact absurd hl zj
        | true =>
         rw[hc,cond_true]at hl
         simp only[cond_true,zX,snp,T.bind]at hl ⊢
         cases x<;>simp only at hl ⊢ <;> first | exact hl.elim | exact one hl | skip
         ·split at hl
          ·exact one hl
          ·exact hl.elim
         ·split at hl
          ·exact one hl
          ·exact hl.elim
    | false =>
     rw[ht,cond_false]at hl
     simp only[cond_false]
     unfold Zc at hl ⊢
     cases het:lR c t with
     | none=>rw[het]at hl; exact absurd hl zj
     | some et =>
      rw[het]at hl
      simp only at hl ⊢
      split at hl
      ·rename_i bytes h1 h2 h3
       cases hc:kW c et (.int .u8)&&Nat.blt 0 bytes&&(zeroOf c et (.int .u8)).isSome with
       | false=>rw[hc]at hl; exact absurd hl zj
       | true =>
        rw[hc,cond_true]at hl
        simp only[cond_true]
        split at hl
        ·rename_i s l e1 e2
         cases e1
         cases e2
         simp only[zX]at hl ⊢
         exact one hl
        ·exact absurd hl zj
      ·exact absurd hl zj
  | _ =>
   exfalso
   unfold wA at h
   simp only at h
   split at h
   ·cases h
   ·first | cases h | (split at h<;>cases h)
   ·cases h
 | _ =>
  exfalso
  unfold wA at h
  simp only at h
  split at h
  ·first
    | cases h
    | (split at h<;>cases h)
  ·cases h
  ·cases h
theorem GV:∀ (l:List Nat) (s s':F×St) (ks:List RK),IM c n ops l s s' ks→ks.length=l.length
 | [],_,_,_,h=>by rw[h.2]; rfl
 | i::l,s,s',ks,⟨s1,k,Iy,e,h1,h2⟩=>by subst e; simp[GV l s1 s' Iy h2]
theorem rD{ρ:Operand→Option D}{st:St}{o:Oper}{b:Nat}(h:wA c ρ st o=.up b)(zO:St):wA c ρ zO o=.up b:=by
 obtain⟨dst,op,ty,pos,after,guard⟩:=o
 cases op with
 | alloc t =>
  exfalso
  unfold wA at h
  simp only at h
  split at h<;>cases h
 | call cl =>
  obtain⟨callee,args,W9⟩:=cl
  cases callee with
  | value f =>
   exfalso
   unfold wA at h
   simp only at h
   split at h
   ·cases h
   ·split at h<;>cases h
   ·cases h
  | builtin bi=>cases bi<;>exact h
  | _=>exact h
 | _=>exact h
def z7X(ops:Array Oper)(kd:Nat→RK)(p i:Nat):Prop:=∀ x y,ops[p]? = some x→ops[i]? = some y →
 (∀ d,x.dst=some d→d ∉ tmpsOf ops y)∧(∀ d,y.dst=some d→d ∉ tmpsOf ops x)∧uA (kd p) (kd i)=false
theorem Z7{f:F}{o:Oper}{dst:Option Nat}{d:Option D}{st:St}(h:∀ t,dst=some t→t ∉ tmpsOf ops o):wA c (qC (yt f dst d)) st o=wA c (qC f) st o:=by
 have e1:xg c (qC (yt f dst d)) o=xg c (qC f) o:=ku h
 have e2:∀ x∈o.op.operands,qC (yt f dst d) x=qC f x:=fun x hx=>YX fun t ht e=>h t ht (sK (ops:=ops) (e▸hx))
 obtain⟨dd,op,ty,pos,after,guard⟩:=o
 unfold wA
 rw[e1]
 cases op with
 | load t a=>simp only[e2 a (by simp[Op.operands])]
 | store t a v=>simp only[e2 a (by simp[Op.operands])]
 | call cl =>
  obtain⟨callee,args,W9⟩:=cl
  cases callee with
  | value g =>
   have eS:args.toList.map (qC (yt f dst d))=args.toList.map (qC f):=List.map_congr_left fun x hx=>e2 x (by simp[Op.operands,Call.operands,Array.mem_toList_iff.1 hx])
   simp only[eS,e2 g (by simp[Op.operands,Call.operands])]
  | builtin bi =>
   have eS:args.toList.map (qC (yt f dst d))=args.toList.map (qC f):=List.map_congr_left fun x hx=>e2 x (by simp[Op.operands,Call.operands,Array.mem_toList_iff.1 hx])
   cases bi<;>first | rfl | simp only[eS]
  | _=>rfl
 | _=>rfl
theorem Ff{kd:Nat→RK}{p i:Nat}(hi:z7X ops kd p i){s s1 s2:F×St}(h1:ez c n ops p s s1 (kd p))(h2:ez c n ops i s1 s2 (kd i)) :
  ∃ s',ez c n ops i s s' (kd i)∧ez c n ops p s' s2 (kd p):=by
 obtain⟨x,hx,hdx,Fi⟩:=h1
 obtain⟨y,hy,hdy,hy'⟩:=h2
 obtain⟨a1,a2,a3⟩:=hi x y hx hy
 have SK:∀ t,x.dst=some t→y.dst≠some t:=fun t ht e=>a1 t ht (y4 e)
 obtain⟨f,st⟩:=s
 rcases Fi with⟨hw,hk,d,bP,hl,rfl⟩ | ⟨hw,hk,rfl⟩
 ·rcases hy' with⟨Uk,gk,e,jD,iI,rfl⟩ | ⟨Uk,gk,rfl⟩
  ·simp only[wz a1,ku (c:=c) a1,Z7 (c:=c) a1]at Uk gk iI
   simp only at hw hk hl
   -- the two meet nowhere in the store
   have key:∃ zO,(zX (xg c (qC f) y) st).leads (e,zO)∧(zX (xg c (qC f) x) zO).leads (d,jD)∧wA c (qC f) st y=kd i∧wA c (qC f) zO x=kd p:=by
    have bx:=KN (c:=c) (qC f) st x
    have rk:=KN (c:=c) (qC f) bP y
    rw[← hk]at bx
    rw[← gk]at rk
    rcases Nat.lt_or_ge (xg c (qC f) x).kind 2 with Ef | Ef
    ·-- x writes nothing
     have e1:=dz (by omega) hl
     subst e1
     refine⟨jD,iI,?_,gk.symm,(VA (by omega) jD bP).trans hk.symm⟩
     rcases Nat.lt_or_ge (xg c (qC f) y).kind 2 with hy2 | hy2
     ·have e2:=dz (by omega) iI
      subst e2; exact hl
     ·have hy3:(xg c (qC f) y).kind=2:=Nat.le_antisymm (Xb _) hy2
      cases hp:kd p with
      | rd b =>
       cases hq:kd i with
       | wr A =>
        rw[hp,hq]at a3
        simp only[uA,Bool.not_eq_false',List.any_eq_true]at a3
        obtain⟨b',ZI,hbb⟩:=a3
        have:=Nat.eq_of_beq_eq_true hbb
        subst this
        exact QT (by rw[← hk]; exact hp) hl (Dt (by rw[← gk]; exact hq) iI b ZI)
       | rd b'=>rw[hq]at rk; simp[RK.base]at rk; omega
       | z k=>rw[hp,hq]at a3; rw[hq,hy3]at rk; simp only[RK.base]at rk; subst rk; simp[uA,uF,RK.base]at a3
       | up a =>
        rw[hp,hq]at a3
        have Gk:a≠b:=fun e=>by subst e; simp[uA]at a3
        obtain⟨z,e1,_⟩:=X4 (by rw[← gk]; exact hq) iI
        subst e1
        exact QT (by rw[← hk]; exact hp) hl (by rw[List.getElem?_set_ne Gk])
      | wr A=>rw[hp]at bx; simp[RK.base]at bx; omega
      | up A=>rw[hp]at bx; simp[RK.base]at bx; omega
      | z k =>
       rw[hp]at bx
       simp only[RK.base]at bx
       have Bw:k=0:=by
        cases hq:kd i with
        | wr A =>
         rw[hp,hq]at a3
         simp only[uA,RK.base,uF]at a3
         cases k with
         | zero=>rfl
         | succ m=>simp at a3
        | rd b'=>rw[hq]at rk; simp[RK.base]at rk; omega
        | z k' =>
         rw[hq,hy3]at rk
         simp only[RK.base]at rk
         subst rk
         rw[hp,hq]at a3
         simp only[uA,RK.base,uF]at a3
         cases k with
         | zero=>rfl
         | succ m=>simp at a3
        | up A =>
         rw[hp,hq]at a3
         simp only[uA,RK.base,uF]at a3
         cases k with
         | zero=>rfl
         | succ m=>simp at a3
       subst Bw
       exact(mf bx.symm hl).2 jD
    ·have hx3:(xg c (qC f) x).kind=2:=Nat.le_antisymm (Xb _) Ef
     -- x writes
     rcases Nat.lt_or_ge (xg c (qC f) y).kind 2 with hy2 | hy2
     ·have e2:=dz (by omega) iI
      subst e2
      refine⟨st,?_,hl,(VA (by omega) st jD).trans gk.symm,hk.symm⟩
      cases hq:kd i with
      | wr A=>rw[hq]at rk; simp[RK.base]at rk; omega
      | up A=>rw[hq]at rk; simp[RK.base]at rk; omega
      | rd b =>
       cases hp:kd p with
       | wr A =>
        rw[hp,hq]at a3
        simp only[uA,Bool.not_eq_false',List.any_eq_true]at a3
        obtain⟨b',ZI,hbb⟩:=a3
        have:=Nat.eq_of_beq_eq_true hbb
        subst this
        exact QT (st:=jD) (by rw[← gk]; exact hq) iI (Dt (by rw[← hk]; exact hp) hl b ZI).symm
       | up a =>
        rw[hp,hq]at a3
        have Gk:a≠b:=fun e=>by subst e; simp[uA]at a3
        obtain⟨z,e1,_⟩:=X4 (by rw[← hk]; exact hp) hl
        subst e1
        exact QT (st:=st.set a z) (by rw[← gk]; exact hq) iI (by rw[List.getElem?_set_ne Gk])
       | rd b'=>rw[hp]at bx; simp[RK.base]at bx; omega
       | z k=>rw[hp]at bx; simp only[RK.base]at bx; rw[hx3]at bx; subst bx; rw[hp,hq]at a3; simp[uA,RK.base,uF]at a3
      | z k =>
       rw[hq]at rk
       simp only[RK.base]at rk
       have Bw:k=0:=by
        have a4:uA (kd p) (.z k)=false:=by rw[hq]at a3; exact a3
        have a5:uF 2 k=false:=by
         cases hp:kd p with
         | wr A=>rw[hp]at a4; exact a4
         | up A=>rw[hp]at a4; exact a4
         | rd b'=>rw[hp]at bx; simp[RK.base]at bx; omega
         | z k'=>rw[hp]at bx a4; simp only[RK.base]at bx; rw[hx3]at bx; subst bx; exact a4
        cases k with
        | zero=>rfl
        | succ m=>simp[uF]at a5
       subst Bw
       exact(mf rk.symm iI).2 st
     ·have hy3:(xg c (qC f) y).kind=2:=Nat.le_antisymm (Xb _) hy2
      -- both write: one block each
      have hup:∃ a b,kd p=.up a∧kd i=.up b∧a≠b:=by
       cases hp:kd p with
       | rd b'=>rw[hp]at bx; simp[RK.base]at bx; omega
       | up a =>
        cases hq:kd i with
        | up b=>rw[hp,hq]at a3; exact⟨a,b,rfl,rfl,fun e=>by subst e; simp[uA]at a3⟩
        | rd b'=>rw[hq]at rk; simp[RK.base]at rk; omega
        | wr A=>rw[hp,hq]at a3; simp[uA,RK.base,uF]at a3
        | z k=>rw[hq,hy3]at rk; simp only[RK.base]at rk; subst rk; rw[hp,hq]at a3; simp[uA,RK.base,uF]at a3
       | wr A =>
        cases hq:kd i with
        | up b=>rw[hp,hq]at a3; simp[uA,RK.base,uF]at a3
        | rd b'=>rw[hq]at rk; simp[RK.base]at rk; omega
        | wr B=>rw[hp,hq]at a3; simp[uA,RK.base,uF]at a3
        | z k=>rw[hq,hy3]at rk; simp only[RK.base]at rk; subst rk; rw[hp,hq]at a3; simp[uA,RK.base,uF]at a3
       | z k' =>
        rw[hp,hx3]at bx
        simp only[RK.base]at bx
        subst bx
        cases hq:kd i with
        | up b=>rw[hp,hq]at a3; simp[uA,RK.base,uF]at a3
        | rd b'=>rw[hq]at rk; simp[RK.base]at rk; omega
        | wr B=>rw[hp,hq]at a3; simp[uA,RK.base,uF]at a3
        | z k=>rw[hq,hy3]at rk; simp only[RK.base]at rk; subst rk; rw[hp,hq]at a3; simp[uA,RK.base,uF]at a3
      obtain⟨a,b,hp,hq,Gk⟩:=hup
      obtain⟨z1,e1,w1⟩:=X4 (by rw[← hk]; exact hp) hl
      subst e1
      obtain⟨z2,e2,w2⟩:=X4 (by rw[← gk]; exact hq) iI
      subst e2
      refine⟨st.set b z2,w2 st (by rw[List.getElem?_set_ne Gk]),?_,(rD (by rw[← gk]; exact hq) st).trans hq.symm,(rD (by rw[← hk]; exact hp) _).trans hp.symm⟩
      rw[List.set_comm _ _ Gk]
      exact w1 (st.set b z2) (by rw[List.getElem?_set_ne (fun e=>Gk e.symm)])
   obtain⟨zO,k1,k2,k3,k4⟩:=key
   refine⟨_,⟨y,hy,hdy,.inl ⟨Uk,k3.symm,e,_,k1,rfl⟩⟩,x,hx,hdx,.inl ⟨?_,?_,d,jD,?_,?_⟩⟩
   ·rw[wz a2]; exact hw
   ·rw[Z7 (c:=c) a2]; exact k4.symm
   ·rw[ku (c:=c) a2]; exact k2
   ·simp only[gR f d e SK]
  ·simp only[wz a1]at Uk
   refine⟨_,⟨y,hy,hdy,.inr ⟨Uk,gk,rfl⟩⟩,x,hx,hdx,.inl ⟨?_,?_,d,bP,?_,?_⟩⟩
   ·rw[wz a2]; exact hw
   ·rw[Z7 (c:=c) a2]; exact hk
   ·rw[ku (c:=c) a2]; exact hl
   ·simp only[gR f d (some Ox) SK]
 ·rcases hy' with⟨Uk,gk,e,jD,iI,rfl⟩ | ⟨Uk,gk,rfl⟩
  ·simp only[wz a1,ku (c:=c) a1,Z7 (c:=c) a1]at Uk gk iI
   refine⟨_,⟨y,hy,hdy,.inl ⟨Uk,gk,e,jD,iI,rfl⟩⟩,x,hx,hdx,.inr ⟨?_,hk,?_⟩⟩
   ·rw[wz a2]; exact hw
   ·simp only[gR f (some Ox) e SK]
  ·simp only[wz a1]at Uk
   refine⟨_,⟨y,hy,hdy,.inr ⟨Uk,gk,rfl⟩⟩,x,hx,hdx,.inr ⟨?_,hk,?_⟩⟩
   ·rw[wz a2]; exact hw
   ·simp only[gR f (some Ox) (some Ox) SK]
end
end Go.AM
namespace Go.AM
set_option linter.unusedSectionVars false
variable [uH]
class BK where
 df:List Deferred
instance ziF:BK:=⟨[]⟩
variable [BK]
structure Rel(κ:KS)(n:Nat)(f:F)(a:Act):Prop where
 size:a.tmps.size=n
 defers:a.defers=BK.df
 get:∀ (s:Nat) (d:D),f s=some d→∃ v,a.tmps[s]? = some v∧RD κ d v
section
variable {c:Ctx} {κ:KS} {n:Nat} {f:F} {a:Act}
theorem Rel.eval(h:Rel κ n f a){x:Operand}{d:D}(hx:qC f x=some d):RD κ d (a.eval x):=by
 cases x with
 | tmp t =>
  obtain⟨v,h1,h2⟩:=h.get t d hx
  simp only[Act.eval,Array.getD_eq_getD_getElem?,h1,Option.getD_some]
  exact h2
 | const v=>exact(JX hx).1
 | global g=>cases hx
 | func g =>
  have hx:(bif Nat.blt g 1000000 then some (D.xr g [])else none)=some d:=hx
  cases hb:Nat.blt g 1000000 with
  | false=>rw[hb]at hx; cases hx
  | true =>
   rw[hb]at hx
   cases hx
   have:=RD.xr (κ:=κ) g [] [] rfl (fun i h=>absurd h (Nat.not_lt_zero i))
   rwa [Mn hb]at this
theorem Rel.mono{κ':KS}(x:Ext κ κ')(h:Rel κ n f a):Rel κ' n f a:=⟨h.size,h.defers,fun s d hd=>by obtain⟨v,h1,h2⟩:=h.get s d hd; exact⟨v,h1,h2.mono x⟩⟩
theorem Rel.put{dst:Option Nat}{d:Option D}{v:Value}(h:Rel κ n f a)(hd:vV n dst=true)(hv:∀ d',d=some d'→RD κ d' v):Rel κ n (yt f dst d) (a.put dst v):=by
 cases dst with
 | none=>exact h
 | some t =>
  have qu:t<n:=Nat.le_of_ble_eq_true hd
  refine⟨by simp[Act.put,h.size],h.defers,fun s d' hs => ?_⟩
  simp only[yt]at hs
  simp only[Act.put]
  by_cases e:s=t
  ·subst e
   rw[if_pos rfl]at hs
   exact⟨v,by simp[h.size,qu],hv d' hs⟩
  ·rw[if_neg e]at hs
   obtain⟨u,h1,h2⟩:=h.get s d' hs
   exact⟨u,by rw[Array.getElem?_setIfInBounds_ne (fun e'=>e e'.symm)]; exact h1,h2⟩
theorem Td{v:Value}:RD κ Ox undef:=.gK [] [] rfl (fun i h=>absurd h (Nat.not_lt_zero i))
theorem z2I{o:Oper}{d:Option D}{zO:St}(h:xf c.P (execOp a.eval o) κ d zO){K:Act→World→Prop}{Q:Exit→Act→World→Prop}
  (hK:∀ (v:Value) (κ':KS),κ'.st=zO→Inv κ'→Ext κ κ'→(∀ d',d=some d'→RD κ' d' v)→K (a.put o.dst v) κ'.w):o.wp c.P a κ.w K Q:=by
 obtain⟨κ',nx,v,h1,h2,h3,h4,h5,h6⟩:=h
 unfold Oper.wp
 rw[h1]
 rcases h2 with rfl | ⟨rfl,rfl⟩
 ·exact hK v κ' h3 h4 h5 h6
 ·exact hK undef κ' h3 h4 h5 h6
theorem Iq(h:Rel κ n f a)(x:Option Operand):VS κ (x.map (qC f)) (x.map a.eval):=by
 cases x with
 | none=>trivial
 | some x=>exact fun y hy=>h.eval hy
theorem Bi(hI:Inv κ)(hR:Rel κ n f a){b:Builtin}{args:Array Operand}{W9:Array TypeId}{o:Oper}(ho:o.op=.call ⟨.builtin b,args,W9⟩){d:Option D}{zO:St}
  (h:(zX (mV c b W9.toList (args.toList.map (qC f))) κ.st).leads (d,zO)):xf c.P (execOp a.eval o) κ d zO:=by
 have two:∀ {g:Value→Value→Sem Value} {m:Int→Int→Int},(∀ k k' a b,(g (.int k a) (.int k' b)).run c.P κ.w=.ok (.int k (m a b)) κ.w)→(zX (JL m (args.toList.map (qC f))) κ.st).leads (d,zO) →
   (∀ p q,args = #[p,q]→execOp a.eval o=(do Pure.pure (.value (← g (a.eval p) (a.eval q))):Sem Next))→xf c.P (execOp a.eval o) κ d zO:=by
  intro g m hg h he
  match hl:args.toList,h with
  | [p,q],h =>
   have hpq:args = #[p,q]:=by rw[← Array.toArray_toList (xs:=args),hl]
   rw[he p q hpq]
   obtain⟨r,h1,rfl,h3⟩:=I5 hg hI (fun z hz=>hR.eval (x:=p) hz) (fun z hz=>hR.eval (x:=q) hz) h
   exact⟨κ,.value r,r,by simp[h1],.inl rfl,rfl,hI,Ext.refl κ,h3⟩
  | [],h=>exact absurd h zj
  | [_],h=>exact absurd h zj
  | _::_::_::_,h=>exact absurd h zj
 unfold mV at h
 split at h
 ·rename_i t ts x xs h1 h2
  have ht:W9[0]? = some t:=by rw[← Array.getElem?_toList,h1]; rfl
  obtain⟨y,hy,rfl⟩:∃ y,args[0]? = some y∧x=qC f y:=by
   cases hl:args.toList with
   | nil=>rw[hl]at h2; cases h2
   | cons y ys=>rw[hl]at h2; simp at h2; exact⟨y,by rw[← Array.getElem?_toList,hl]; rfl,h2.1.symm⟩
  have:=z1H (c:=c) (ty:=o.type) (ts:=W9) (vs:=args.map a.eval) hI (fun z hz=>hR.eval (x:=y) hz) ht (by simp[hy]) h
  simp only[execOp,ho,resolve,invoke,builtin,pure_bind]
  exact this
 ·rename_i t t' s x h1 h2
  obtain⟨p,q,rfl,rfl,hpq⟩:∃ p q,s=qC f p∧x=qC f q∧args = #[p,q]:=by
   cases hl:args.toList with
   | nil=>rw[hl]at h2; cases h2
   | cons p r=>rw[hl]at h2; cases r with
    | nil=>simp at h2
    | cons q r=>cases r with
     | nil=>simp at h2; exact⟨p,q,h2.1.symm,h2.2.symm,by rw[← Array.toArray_toList (xs:=args),hl]⟩
     | cons _ _=>simp at h2
  subst hpq
  cases hb:Nat.beq t t' with
  | false =>
   rw[hb,cond_false]at h
   have Rz:W9 = #[t,t']:=by rw[← Array.toArray_toList (xs:=W9),h1]
   subst Rz
   have:=KG (c:=c) (ty:=o.type) hI (fun z hz=>hR.eval (x:=p) hz) (fun z hz=>hR.eval (x:=q) hz) h
   have e2:(#[p,q]:Array Operand).map a.eval = #[a.eval p,a.eval q]:=by simp
   simp only[execOp,ho,resolve,invoke,builtin,pure_bind,e2]
   exact this
  | true =>
   rw[hb,cond_true]at h
   have e:=Nat.eq_of_beq_eq_true hb
   subst e
   have Rz:W9 = #[t,t]:=by rw[← Array.toArray_toList (xs:=W9),h1]
   subst Rz
   have:=Du (c:=c) (ty:=o.type) hI (fun z hz=>hR.eval (x:=p) hz) (fun z hz=>hR.eval (x:=q) hz) h
   have e2:(#[p,q]:Array Operand).map a.eval = #[a.eval p,a.eval q]:=by simp
   simp only[execOp,ho,resolve,invoke,builtin,pure_bind,e2]
   exact this
 ·rename_i t t' s x h1 h2
  obtain⟨p,q,rfl,rfl,hpq⟩:∃ p q,s=qC f p∧x=qC f q∧args = #[p,q]:=by
   cases hl:args.toList with
   | nil=>rw[hl]at h2; cases h2
   | cons p r=>rw[hl]at h2; cases r with
    | nil=>simp at h2
    | cons q r=>cases r with
     | nil=>simp at h2; exact⟨p,q,h2.1.symm,h2.2.symm,by rw[← Array.toArray_toList (xs:=args),hl]⟩
     | cons _ _=>simp at h2
  subst hpq
  have Rz:W9 = #[t,t']:=by rw[← Array.toArray_toList (xs:=W9),h1]
  subst Rz
  have:=OD (c:=c) (ty:=o.type) (t':=t') hI (fun z hz=>hR.eval (x:=p) hz) (fun z hz=>hR.eval (x:=q) hz) h
  have e2:(#[p,q]:Array Operand).map a.eval = #[a.eval p,a.eval q]:=by simp
  simp only[execOp,ho,resolve,invoke,builtin,pure_bind,e2]
  exact this
 ·rename_i h2
  exact two (g:=Builtin.min2) (fun k k' a b=>by simp[Builtin.min2,wT]) h fun p q hpq=>by
   subst hpq
   have e2:(#[p,q]:Array Operand).map a.eval = #[a.eval p,a.eval q]:=by simp
   simp only[execOp,ho,resolve,invoke,builtin,pure_bind,e2]
   simp[Builtin.min_]
 ·rename_i h2
  exact two (g:=Builtin.max2) (fun k k' a b=>by simp[Builtin.max2,wc]) h fun p q hpq=>by
   subst hpq
   have e2:(#[p,q]:Array Operand).map a.eval = #[a.eval p,a.eval q]:=by simp
   simp only[execOp,ho,resolve,invoke,builtin,pure_bind,e2]
   simp[Builtin.max_]
 ·exact absurd h zj
theorem z2t{o:Oper}{g:Nat}{caps:Array Value}{args:Array Value}{R:Ending→World→Prop}(vZ:(execOp a.eval o).run c.P κ.w=(callFunc g args).run c.P κ.w)
  (h:uU c.P g args κ.w R) {K:Act→World→Prop} {Q:Exit→Act→World→Prop} (hR:∀ e w',R e w'→∃ v,e=.returned v∧K (a.put o.dst v) w'):o.wp c.P a κ.w K Q:=by
 unfold Oper.wp
 rw[vZ]
 rcases h with⟨h1,h2⟩ | ⟨v,w',h1,h2⟩
 ·rw[h1]
  refine h2.mono fun e w' he => ?_
  obtain⟨v,rfl,hk⟩:=hR e w' he
  exact hk
 ·rw[h1]
  obtain⟨u,hu,hk⟩:=hR _ _ h2
  cases hu
  exact hk
theorem DL(g:Nat){l caps:List D}{vs us:List Value}(h1:xz κ l vs)(h2:xz κ caps us):xz κ (cw g l caps) (cw g vs us):=by
 unfold cw
 cases Nat.ble 1000000 g with
 | true=>exact h2.append h1
 | false=>exact h1.append h2
theorem BS{dst:Option Nat}{p:Operand}{args:Array Operand}{W9:Array TypeId}{ty:TypeId}{pos:String}{after:Array Edge}{guard:Option (Nat×Bool)}{g:Nat}{us:List Value}{P:Program}{w:World}(Ob:a.eval p=Wb g us) :
  (execOp a.eval ⟨dst,.call ⟨.value p,args,W9⟩,ty,pos,after,guard⟩).run P w=(callFunc (eP g) (cw g (args.toList.map a.eval) us).toArray).run P w:=by
 unfold Wb at Ob
 unfold eP cw
 cases hb:Nat.ble 1000000 g with
 | true =>
  rw[hb]at Ob
  simp only[cond_true]at Ob ⊢
  have e:us.toArray++args.map a.eval=(us++args.toList.map a.eval).toArray:=by apply Array.ext'; simp
  simp only[execOp,resolve,Ob,Deferred.ofValue,pure_bind,invoke,Array.append_empty,e]
 | false =>
  rw[hb]at Ob
  simp only[cond_false]at Ob ⊢
  have e:args.map a.eval++us.toArray=(args.toList.map a.eval++us).toArray:=by apply Array.ext'; simp
  simp only[execOp,resolve,Ob,Deferred.ofValue,pure_bind,invoke,Array.empty_append,e]
theorem De{o:Oper}{d:Option D}{zO:St}(hC:∀ g,Dl c.P g (c.fn g))(hI:Inv κ)(hR:Rel κ n f a)(h:(zX (xg c (qC f) o) κ.st).leads (d,zO)){K:Act→World→Prop}{Q:Exit→Act→World→Prop}
  (hK:∀ (v:Value) (κ':KS),κ'.st=zO→Inv κ'→Ext κ κ'→(∀ d',d=some d'→RD κ' d' v)→K (a.put o.dst v) κ'.w):o.wp c.P a κ.w K Q:=by
 have mI:∀ (x:Operand) (z:D),qC f x=some z→RD κ z (a.eval x):=fun x z hz=>hR.eval hz
 obtain⟨dst,op,ty,pos,after,guard⟩:=o
 have fin:xf c.P (execOp a.eval ⟨dst,op,ty,pos,after,guard⟩) κ d zO→Oper.wp c.P ⟨dst,op,ty,pos,after,guard⟩ a κ.w K Q:=fun hd=>z2I hd hK
 cases op with
 | move x =>
  simp only[xg,wK,T.leads]at h
  obtain⟨h,rfl⟩:=h
  exact fin (xf.val hI fun d' yZ=>mI x d' (h.trans yZ))
 | assign x =>
  simp only[xg,wK,T.leads]at h
  obtain⟨h,rfl⟩:=h
  exact fin (xf.val hI fun d' yZ=>mI x d' (h.trans yZ))
 | pick x p q =>
  simp only[xg,EP]at h
  split at h
  ·rename_i b hb
   have hv:=tD hb (mI x)
   rw[wK]at h
   obtain⟨h,rfl⟩:=h
   refine fin ⟨κ,.value (if b then a.eval p else a.eval q),if b then a.eval p else a.eval q,?_,.inl rfl,rfl,hI,Ext.refl κ,fun d' yZ => ?_⟩
   ·simp[execOp,hv,Go.asBool]
   ·rcases h with⟨rfl,h⟩ | ⟨rfl,h⟩
    ·exact mI p d' (h.trans yZ)
    ·exact mI q d' (h.trans yZ)
  ·exact absurd h zj
 | alloc t=>exact fin (I6 hI h)
 | box t x=>exact fin (Ii hI (mI x) h)
 | load t x=>exact fin (O1 hI (mI x) h)
 | store t x y=>exact fin (IC hI (mI x) (mI y) h)
 | nilCheck x=>exact fin (YP rfl hI (mI x) h)
 | binOp op t x y ty' =>
  have h:(zX (Fk c op t y (qC f x) (qC f y)) κ.st).leads (d,zO):=h
  unfold Fk at h
  split at h
  ·exact fin (Fp hI (mI x) h)
  ·exact fin (T8 hI (mI x) (mI y) h)
 | typeAssert x xt t ok=>exact fin (Ut hI (mI x) h)
 | unOp op t x=>exact fin (z29 hI (mI x) h)
 | convert s t x=>exact fin (HG hI (mI x) h)
 | makeInterface t x=>exact fin (Y6 hI (mI x) h)
 | makeFunc fn first cap =>
  cases fn with
  | func g =>
   simp only[xg]at h
   cases hb:Nat.beq first.size 0&&Nat.blt g 1000000 with
   | false =>
    rw[hb,cond_false]at h
    cases BW:Nat.beq cap.size 0&&Nat.blt g 1000000 with
    | false=>rw[BW]at h; exact absurd h zj
    | true =>
     rw[BW,cond_true]at h
     simp only[Bool.and_eq_true]at BW
     have hf:cap = #[]:=Array.eq_empty_of_size_eq_zero (Nat.eq_of_beq_eq_true BW.1)
     subst hf
     split at h
     ·rename_i l hl
      rw[wh]at h
      obtain⟨rfl,rfl⟩:=h
      have hr:=dT (κ:=κ) (vs:=first.toList.map a.eval) hl (by simp) (fun i d v hd hv=>by
       simp only[List.getElem?_map]at hd hv
       cases hi:first.toList[i]? with
       | none=>rw[hi]at hd; cases hd
       | some x=>rw[hi]at hd hv; simp at hd hv; subst hv; exact mI x d hd)
      refine fin (xf.pure hI ?_ (.xr (g+1000000) l _ hr.1 hr.2))
      have e:(first.toList.map a.eval).toArray=first.map a.eval:=by apply Array.ext'; simp
      rw[Ie BW.2,e]
      simp[Instr.makeFunc]
     ·exact absurd h zj
   | true =>
    rw[hb,cond_true]at h
    simp only[Bool.and_eq_true]at hb
    have hf:first = #[]:=Array.eq_empty_of_size_eq_zero (Nat.eq_of_beq_eq_true hb.1)
    subst hf
    split at h
    ·rename_i l hl
     rw[wh]at h
     obtain⟨rfl,rfl⟩:=h
     have hr:=dT (κ:=κ) (vs:=cap.toList.map a.eval) hl (by simp) (fun i d v hd hv=>by
      simp only[List.getElem?_map]at hd hv
      cases hi:cap.toList[i]? with
      | none=>rw[hi]at hd; cases hd
      | some x=>rw[hi]at hd hv; simp at hd hv; subst hv; exact mI x d hd)
     refine fin (xf.pure hI ?_ (.xr g l _ hr.1 hr.2))
     have e:(cap.toList.map a.eval).toArray=cap.map a.eval:=by apply Array.ext'; simp
     rw[Mn hb.2,e]
     simp[Instr.makeFunc]
    ·exact absurd h zj
  | _=>exact absurd h zj
 | makeSlice t x y=>exact fin (Nc hI (mI x) (mI y) h)
 | slice t x lo hi mx=>exact fin (EC hI (mI x) (Iq hR lo) (Iq hR hi) (Iq hR mx) h)
 | fieldAddr s x fl=>exact fin (Jg hI (mI x) h)
 | field s x fl=>exact fin (F8 hI (mI x) h)
 | indexAddr t x i=>exact fin (Yj hI (mI x) (mI i) h)
 | index t x i=>exact fin (F0 hI (mI x) (mI i) h)
 | extract x i=>exact fin (Ba hI (mI x) h)
 | build t ps =>
  have:=FQ (L:=ps.toList) (G:=a.eval) hI mI h
  refine fin ?_
  have e:(ps.toList.map fun p=>(p.1,a.eval p.2)).toArray=ps.map fun p=>(p.1,a.eval p.2):=by apply Array.ext'; simp
  rw[e]at this
  exact this
 | buildSlice t k ps =>
  have:=Ux (L:=ps.toList) (G:=a.eval) hI mI h
  refine fin ?_
  have e:(ps.toList.map fun p=>(p.1,a.eval p.2)).toArray=ps.map fun p=>(p.1,a.eval p.2):=by apply Array.ext'; simp
  rw[e]at this
  exact this
 | call cl =>
  obtain⟨callee,args,W9⟩:=cl
  cases callee with
  | builtin b=>exact fin (Bi hI hR rfl h)
  | invoke r m=>exact absurd h zj
  | value p =>
   simp only[xg,eF]at h
   split at h
   ·rename_i g caps l hp hl
    have hpv:=mI p _ hp
    have hr:=dT (κ:=κ) (vs:=args.toList.map a.eval) hl (by simp) (fun i d v hd hv=>by
      simp only[List.getElem?_map]at hd hv
      cases hi:args.toList[i]? with
      | none=>rw[hi]at hd; cases hd
      | some x=>rw[hi]at hd hv; simp at hd hv; subst hv; exact mI x d hd)
    generalize Ob:a.eval p=pv at hpv
    cases hpv with
    | xr _ _ us iI hh2 =>
     have na:=DL g hr (⟨iI,hh2⟩:xz κ caps us)
     refine z2t (c:=c) (κ:=κ) (g:=eP g) (caps := #[]) (args:=(cw g (args.toList.map a.eval) us).toArray) ?_ (Oq (hC (eP g)) hI na h) ?_
     ·exact BS Ob
     ·rintro e w' ⟨κ',v,rfl,h1,h2,h3,rfl,h4⟩
      exact⟨v,rfl,hK v κ' h1 h2 h3 h4⟩
   ·exact absurd h zj
 | _=>exact absurd h zj
end
end Go.AM
namespace Go.AM
set_option linter.unusedSectionVars false
variable [uH] [BK]
section
variable {c:Ctx} {n:Nat} {ops:Array Oper}
theorem HX(j:Nat):uS ops j=(ops[j]?).bind (·.dst):=by
 unfold uS; cases ops[j]? <;> rfl
theorem nF{κ:KS}{f:F}{a:Act}{o:Oper}{b:Bool}(hR:Rel κ n f a)(h:wD ops f o=some b):Region.wanted o (yielded ops a.tmps)=b:=by
 unfold wD at h
 unfold Region.wanted
 split at h
 ·rename_i hg; rw[hg]; cases h; rfl
 ·rename_i j w hg
  rw[hg]
  simp only
  split at h
  ·cases h
  ·rename_i t ht
   rw[HX]at ht
   simp only[yielded,ht,Option.bind_some]
   split at h
   ·rename_i x hx
    obtain⟨v,h1,h2⟩:=hR.get t _ hx
    have:=h2.bm
    subst this
    cases h
    rw[h1]
    cases x<;>cases w<;>rfl
   ·rename_i hx
    obtain⟨v,h1,h2⟩:=hR.get t _ hx
    cases h
    rw[h1]
    cases h2 with
    | gK _ vs hl hh=>rfl
   ·cases h
def lq(ops:Array Oper)(a a':Act):Prop:=∀ s:Nat,(∀ o∈ops.toList,o.dst≠some s)→a'.tmps[s]? = a.tmps[s]?
theorem lq.refl(ops:Array Oper)(a:Act):lq ops a a:=fun _ _=>rfl
theorem lq.trans{ops:Array Oper}{a b d:Act}(h:lq ops a b)(k:lq ops b d):lq ops a d:=fun s hs=>(k s hs).trans (h s hs)
theorem rV{ops:Array Oper}{i:Nat}{o:Oper}{a:Act}{v:Value}(ho:ops[i]? = some o):lq ops a (a.put o.dst v):=by
 intro s hs
 have hm:o∈ops.toList:=by have:=Array.mem_of_getElem? ho; simpa using this
 have:=hs o hm
 cases hd:o.dst with
 | none=>rfl
 | some t =>
  rw[hd]at this
  have uv:t≠s:=fun e=>this (by rw[e])
  simp[Act.put,Array.getElem?_setIfInBounds_ne uv]
theorem Jq{κ:KS}{a:Act}{i k:Nat}{s s':F×St}(hC:∀ g,Dl c.P g (c.fn g))(hI:Inv κ)(hR:Rel κ n s.1 a)(xR:κ.st=s.2)(h:gL c n ops i s s' k){K:Act→World→Prop}{Q:Exit→Act→World→Prop}
  (hK:∀ (a':Act) (κ':KS),κ'.st=s'.2→Inv κ'→Ext κ κ'→Rel κ' n s'.1 a'→lq ops a a'→K a' κ'.w):wpOp c.P ops Q i K a κ.w:=by
 obtain⟨o,ho,hd,h⟩:=h
 unfold wpOp
 rw[ho]
 simp only
 rcases h with⟨hw,_,d,zO,hl,rfl⟩ | ⟨hw,_,rfl⟩
 ·rw[if_pos (nF hR hw)]
  refine .inl (De hC hI hR (xR▸hl) fun v κ' h1 h2 h3 h4=>hK _ κ' h1 h2 h3 ((hR.mono h3).put hd h4) (rV ho))
 ·rw[if_neg (by rw[nF hR hw]; exact Bool.false_ne_true)]
  exact hK _ κ xR hI (Ext.refl κ) (hR.put hd fun d' yZ=>by cases yZ; exact Td (v:=undef)) (rV ho)
theorem MO{Q:Exit→Act→World→Prop}(hC:∀ g,Dl c.P g (c.fn g)):∀ (l:List Nat) {κ:KS} {a:Act} {s s':F×St} {ks:List Nat},Inv κ→Rel κ n s.1 a→κ.st=s.2→Oe c n ops l s s' ks →
  (∀ (a':Act) (κ':KS),κ'.st=s'.2→Inv κ'→Ext κ κ'→Rel κ' n s'.1 a'→lq ops a a'→Q .normal a' κ'.w)→wpOps c.P ops Q l a κ.w
 | [],κ,a,s,s',ks,hI,hR,xR,h,hQ=>by
  obtain⟨rfl,_⟩:=h
  exact hQ a κ xR hI (Ext.refl κ) hR (lq.refl _ _)
 | i::l,κ,a,s,s',ks,hI,hR,xR,h,hQ=>by
  obtain⟨s1,k,Iy,_,h1,h2⟩:=h
  rw[wpOps_cons]
  refine Jq hC hI hR xR h1 fun a1 κ1 g1 g2 g3 g4 g5 => ?_
  exact MO hC l g2 g4 g1 h2 fun a' κ' e1 e2 e3 e4 e5=>hQ a' κ' e1 e2 (g3.trans e3) e4 (g5.trans e5)
theorem GN{Q:Exit→Act→World→Prop}(hC:∀ g,Dl c.P g (c.fn g)):∀ (l m:List Nat) {κ:KS} {a:Act} {s s':F×St} {ks:List Nat},Inv κ→Rel κ n s.1 a→κ.st=s.2→Oe c n ops l s s' ks →
  (∀ (a':Act) (κ':KS),κ'.st=s'.2→Inv κ'→Ext κ κ'→Rel κ' n s'.1 a'→lq ops a a'→wpOps c.P ops Q m a' κ'.w)→wpOps c.P ops Q (l++m) a κ.w
 | [],m,κ,a,s,s',ks,hI,hR,xR,h,hQ=>by
  obtain⟨rfl,_⟩:=h
  exact hQ a κ xR hI (Ext.refl κ) hR (lq.refl _ _)
 | i::l,m,κ,a,s,s',ks,hI,hR,xR,h,hQ=>by
  obtain⟨s1,k,Iy,_,h1,h2⟩:=h
  rw[List.cons_append,wpOps_cons]
  refine Jq hC hI hR xR h1 fun a1 κ1 g1 g2 g3 g4 g5 => ?_
  exact GN hC l m g2 g4 g1 h2 fun a' κ' e1 e2 e3 e4 e5=>hQ a' κ' e1 e2 (g3.trans e3) e4 (g5.trans e5)
theorem KY{kd:Nat→Nat}:∀ (l:List Nat) (s s':F×St) (ks:List Nat),Oe c n ops l s s' ks→ks=l.map kd→pR c n ops kd l s s'
 | [],s,s',ks,h,_=>h.1
 | i::l,s,s',ks,⟨s1,k,Iy,e,h1,h2⟩,hk=>by
  subst e
  simp only[List.map_cons,List.cons.injEq]at hk
  obtain⟨rfl,hk⟩:=hk
  exact⟨s1,h1,KY l s1 s' Iy h2 hk⟩
theorem CA:∀ (l:List Nat) (s s':F×St) (ks:List Nat),Oe c n ops l s s' ks→ks.length=l.length
 | [],_,_,_,h=>by rw[h.2]
 | i::l,s,s',ks,⟨s1,k,Iy,e,h1,h2⟩=>by subst e; simp[CA l s1 s' Iy h2]
theorem C6(acc:List Nat):∀ (es:List Edge) (s0 p:Nat),Nat.testBit (es.foldl (fun s e=>bif Region.binds .any e then s ||| 2 ^ e.on ||| acc.getD e.on 0 else s) s0) p=true →
  Nat.testBit s0 p=true∨∃ e∈es,Region.binds .any e=true∧(p=e.on∨Nat.testBit (acc.getD e.on 0) p=true)
 | [],s0,p,h=>.inl h
 | e::es,s0,p,h=>by
  simp only[List.foldl_cons]at h
  rcases C6 acc es _ p h with h1 | ⟨e',h1,h2⟩
  ·cases hb:Region.binds .any e with
   | false=>rw[hb,cond_false]at h1; exact .inl h1
   | true =>
    rw[hb,cond_true,Nat.testBit_or,Nat.testBit_or,Nat.testBit_two_pow,Bool.or_eq_true,Bool.or_eq_true]at h1
    rcases h1 with(h1 | h1) | h1
    ·exact .inl h1
    ·exact .inr ⟨e,List.mem_cons_self,hb,.inl (of_decide_eq_true h1).symm⟩
    ·exact .inr ⟨e,List.mem_cons_self,hb,.inr h1⟩
  ·exact .inr ⟨e',List.mem_cons_of_mem _ h1,h2⟩
theorem pD:∀ (l:List Oper) (acc:List Nat),∃ r,xE l acc=acc++r∧r.length=l.length ∧
  ∀ j o,l[j]? = some o→∀ p,Nat.testBit ((xE l acc).getD (acc.length+j) 0) p=true →
   ∃ e∈o.after.toList,Region.binds .any e=true∧(p=e.on∨(e.on<acc.length+j∧Nat.testBit ((xE l acc).getD e.on 0) p=true))
 | [],acc=>⟨[],by simp[xE],rfl,fun j o h=>by simp at h⟩
 | o::l,acc=>by
  let b:=o.after.toList.foldl (fun s e=>bif Region.binds .any e then s ||| 2 ^ e.on ||| acc.getD e.on 0 else s) 0
  obtain⟨r,h1,h2,h3⟩:=pD l (acc++[b])
  have hb:xE (o::l) acc=xE l (acc++[b]):=rfl
  have NS:∀ i,i<acc.length→(xE l (acc++[b])).getD i 0=acc.getD i 0:=fun i hi=>by
   rw[h1,List.getD,List.getD,List.append_assoc,List.getElem?_append_left hi]
  refine⟨b::r,by rw[hb,h1]; simp,by simp[h2],?_⟩
  rw[hb]
  intro j o' ho p hp
  cases j with
  | zero =>
   simp at ho
   subst ho
   have he:(xE l (acc++[b])).getD (acc.length+0) 0=b:=by rw[h1]; simp[List.getD]
   rw[he]at hp
   rcases C6 acc _ 0 p hp with h | ⟨e,k1,k2,k3⟩
   ·simp at h
   ·refine⟨e,k1,k2,cp k3 id fun k3 => ?_⟩
    have qu:e.on<acc.length:=by
     rcases Nat.lt_or_ge e.on acc.length with h | h
     ·exact h
     ·rw[List.getD,List.getElem?_eq_none h]at k3; simp at k3
    exact⟨by omega,by rw[NS _ qu]; exact k3⟩
  | succ j =>
   have:=h3 j o' (by simpa using ho) p (by rw[show(acc++[b]).length+j=acc.length+(j+1) by simp; omega]; exact hp)
   obtain⟨e,k1,k2,k3⟩:=this
   refine⟨e,k1,k2,cp k3 id fun k3=>⟨?_,k3.2⟩⟩
   have:=k3.1
   simp only[List.length_append,List.length_singleton]at this
   omega
theorem o9:∀ (l:List Oper) (k:Nat),bT l k=true→∀ j o,l[j]? = some o→∀ e∈o.after.toList,Region.binds .any e=true→e.on<k+j
 | [],_,_,j,o,h,_,_,_=>by simp at h
 | o::l,k,h,j,o',ho,e,he,hb=>by
  simp only[bT,Bool.and_eq_true,List.all_eq_true]at h
  cases j with
  | zero =>
   simp at ho
   subst ho
   have:=h.1 e he
   rw[hb]at this
   simp only[Bool.not_true,Bool.false_or]at this
   exact Nat.le_of_ble_eq_true this
  | succ j =>
   have:=o9 l (k+1) h.2 j o' (by simpa using ho) e he hb
   omega
def TJ{K:Type}(cl:K→K→Bool)(ops:Array Oper)(x:Oper)(kx:K)(y:Oper)(ky:K):Prop:=(∀ d,x.dst=some d→d ∉ tmpsOf ops y)∧(∀ d,y.dst=some d→d ∉ tmpsOf ops x)∧cl kx ky=false
theorem CD{K:Type}{cl:K→K→Bool}{bs:List Nat}{xs:List (Nat×Option Nat×List Nat×K)}{j:Nat}{ky:K}{y:Oper}(h:Fc cl bs xs j y.dst (tmpsOf ops y) ky=true){i:Nat}{kx:K}{x:Oper}(hx:(i,x.dst,tmpsOf ops x,kx)∈xs) :
  ordered bs i j=true∨TJ cl ops x kx y ky:=by
 simp only[Fc,List.all_eq_true]at h
 have:=h _ hx
 simp only[Bool.or_eq_true,Bool.and_eq_true,Bool.not_eq_true']at this
 rcases this with h1 | ⟨⟨h1,h2⟩,h3⟩
 ·exact .inl h1
 ·refine .inr ⟨fun d hd hm => ?_,fun d hd hm => ?_,h3⟩
  ·rw[hd]at h1; simp at h1; exact h1 hm
  ·rw[hd]at h2; simp at h2; exact h2 hm
theorem pd{K:Type}{cl:K→K→Bool}{bs:List Nat}:∀ (l:List Oper) (ks:List K) (k0:Nat) (xs:List (Nat×Option Nat×List Nat×K)),oF cl ops bs l ks k0 xs=true →
  (∀ j y ky,l[j]? = some y→ks[j]? = some ky→(∀ i x kx,(i,x.dst,tmpsOf ops x,kx)∈xs→ordered bs i (k0+j)=true∨TJ cl ops x kx y ky) ∧
   (∀ i x kx,i<j→l[i]? = some x→ks[i]? = some kx→ordered bs (k0+i) (k0+j)=true∨TJ cl ops x kx y ky))
 | [],_,_,_,_,j,y,ky,hy,_=>by simp at hy
 | o::l,[],_,_,h,_,_,_,_,_=>by simp[oF]at h
 | o::l,k::ks,k0,xs,h,j,y,ky,hy,hk=>by
  simp only[oF,Bool.and_eq_true]at h
  obtain⟨h1,h2⟩:=h
  have ih:=pd l ks (k0+1) _ h2
  cases j with
  | zero =>
   simp at hy hk
   subst hy hk
   exact⟨fun i x kx hx=>by simpa using CD h1 hx,fun i x kx hi=>absurd hi (Nat.not_lt_zero i)⟩
  | succ j =>
   obtain⟨g1,g2⟩:=ih j y ky (by simpa using hy) (by simpa using hk)
   have e:k0+1+j=k0+(j+1):=by omega
   rw[e]at g1 g2
   refine⟨fun i x kx hx=>g1 i x kx (List.mem_cons_of_mem _ hx),fun i x kx hi hx hkx => ?_⟩
   cases i with
   | zero =>
    simp at hx hkx
    subst hx hkx
    exact g1 k0 o k List.mem_cons_self
   | succ i =>
    have:=g2 i x kx (by omega) (by simpa using hx) (by simpa using hkx)
    rwa [show k0+1+i=k0+(i+1) by omega]at this
def rest(ops:Array Oper)(listed:Array Bool):List Nat:=(List.range ops.size).filter fun i => !listed.getD i true
def QH(ops:Array Oper)(listed:Array Bool):Prop:=∀ q,q<ops.size→listed.getD q true=true→∀ p,ordered (xE ops.toList []) p q=true→p<ops.size→listed.getD p true=true
theorem jf{listed:Array Bool}{i j:Nat}(hi:i<listed.size):(listed.setIfInBounds i true).getD j true=if j=i then true else listed.getD j true:=by
 simp only[Array.getD_eq_getD_getElem?]
 by_cases h:j=i
 ·subst h; simp[hi]
 ·rw[if_neg h,Array.getElem?_setIfInBounds_ne (fun e=>h e.symm)]
theorem bW{p q:Nat→Bool}{i:Nat}:∀ (l:List Nat),l.Pairwise (· < ·)→i∈l→p i=true→(∀ j,q j=(p j && !(j==i))) →
  ∃ pre post,l.filter p=pre++i::post∧l.filter q=pre++post∧∀ x∈pre,p x=true∧x∈l∧x<i
 | [],_,hi,_,_=>by simp at hi
 | a::l,hn,hi,hp,hq=>by
  have hn':=List.pairwise_cons.1 hn
  by_cases ha:a=i
  ·subst ha
   refine⟨[],l.filter p,by simp[hp],?_,by simp⟩
   have hqa:q a=false:=by rw[hq]; simp
   simp only[List.filter_cons,hqa,Bool.false_eq_true,if_false,List.nil_append]
   refine List.filter_congr fun x hx => ?_
   rw[hq]
   have:(x==a)=false:=by simp; exact fun e=>absurd (hn'.1 x hx) (by omega)
   simp[this]
  ·have Yp:i∈l:=by rcases List.mem_cons.1 hi with h | h; exact absurd h.symm ha; exact h
   obtain⟨pre,post,h1,h2,h3⟩:=bW l hn'.2 Yp hp hq
   have hqa:q a=p a:=by rw[hq]; simp[ha]
   refine⟨if p a then a::pre else pre,post,?_,?_,?_⟩
   ·simp only[List.filter_cons]; split<;>simp[h1]
   ·simp only[List.filter_cons,hqa]; split<;>simp[h2]
   ·intro x hx
    split at hx
    ·rename_i hpa
     rcases List.mem_cons.1 hx with rfl | hx
     ·exact⟨hpa,List.mem_cons_self,hn'.1 i Yp⟩
     ·exact⟨(h3 x hx).1,List.mem_cons_of_mem _ (h3 x hx).2.1,(h3 x hx).2.2⟩
    ·exact⟨(h3 x hx).1,List.mem_cons_of_mem _ (h3 x hx).2.1,(h3 x hx).2.2⟩
theorem nZ{listed:Array Bool}{i:Nat}:i∈Region.ready .any ops listed↔i<ops.size∧listed.getD i true=false∧∀ o,ops[i]? = some o→∀ e∈o.after.toList,Region.binds .any e=true→listed.getD e.on false=true:=by
 unfold Region.ready
 simp only[List.mem_filter,List.mem_range,Bool.and_eq_true,Bool.not_eq_true']
 constructor
 ·rintro⟨h1,h2,h3⟩
  refine⟨h1,h2,fun o ho e he hb => ?_⟩
  rw[ho]at h3
  simp only[Option.map_some,Option.getD_some,Array.all_eq_true_iff_forall_mem]at h3
  have:=h3 e (by simpa using he)
  rw[hb]at this
  simpa using this
 ·rintro⟨h1,h2,h3⟩
  refine⟨h1,h2,?_⟩
  have ho:ops[i]? = some ops[i]:=Array.getElem?_eq_getElem h1
  rw[ho]
  simp only[Option.map_some,Option.getD_some,Array.all_eq_true_iff_forall_mem]
  intro e he
  cases hb:Region.binds .any e with
  | false=>rfl
  | true=>simpa using h3 _ ho e (by simpa using he) hb
theorem JW(Is:bT ops.toList 0=true){listed:Array Bool}(jm:listed.size=ops.size):Region.ready .any ops listed=[]→rest ops listed=[]:=by
 intro hr
 cases OI:rest ops listed with
 | nil=>rfl
 | cons i l =>
  exfalso
  have hi:i∈rest ops listed:=by rw[OI]; exact List.mem_cons_self
  simp only[rest,List.mem_filter,List.mem_range,Bool.not_eq_true']at hi
  have z2O:∀ j,j<i→listed.getD j true=true:=by
   intro j hj
   cases hl:listed.getD j true with
   | true=>rfl
   | false =>
    have hpw:(rest ops listed).Pairwise (· < ·):=List.Pairwise.filter _ List.pairwise_lt_range
    have hjm:j∈rest ops listed:=by simp only[rest,List.mem_filter,List.mem_range,Bool.not_eq_true']; exact⟨by omega,hl⟩
    rw[OI]at hpw hjm
    rcases List.mem_cons.1 hjm with rfl | hjm
    ·exact absurd hj (Nat.lt_irrefl _)
    ·have:=(List.pairwise_cons.1 hpw).1 j hjm; omega
  have:i∈Region.ready .any ops listed:=by
   rw[nZ]
   refine⟨hi.1,hi.2,fun o ho e he hb => ?_⟩
   have qu:=o9 ops.toList 0 Is i o (by simpa using ho) e he hb
   have:=z2O e.on (by omega)
   rw[Array.getD_eq_getD_getElem?]at this ⊢
   rw[Array.getElem?_eq_getElem (by omega)]at this ⊢
   exact this
  rw[hr]at this
  cases this
def Kl(Stp:Nat→F×St→F×St→Prop):List Nat→F×St→F×St→Prop
 | [],s,s'=>s'=s
 | i::l,s,s'=>∃ s1,Stp i s s1∧Kl Stp l s1 s'
theorem Gl{Stp:Nat→F×St→F×St→Prop}{In:Nat→Nat→Prop}(Ci:∀ p i,In p i→∀ s s1 s2,Stp p s s1→Stp i s1 s2→∃ s',Stp i s s'∧Stp p s' s2){i:Nat}{post:List Nat}{s':F×St}:∀ {pre:List Nat} {s:F×St},(∀ p∈pre,In p i)→Kl Stp (pre++i::post) s s' →
  ∃ s1,Stp i s s1∧Kl Stp (pre++post) s1 s'
 | [],s,_,h=>h
 | p::pre,s,hp,⟨sp,h1,h2⟩=>by
  obtain⟨s1,h3,h4⟩:=Gl Ci (fun q hq=>hp q (List.mem_cons_of_mem _ hq)) h2
  obtain⟨s2,h5,h6⟩:=Ci _ _ (hp p List.mem_cons_self) _ _ _ h1 h3
  exact⟨s2,h5,s1,h6,h4⟩
theorem WR{Stp:Nat→F×St→F×St→Prop}{In:Nat→Nat→Prop}(TS:∀ i s s',Stp i s s'→∃ k,gL c n ops i s s' k)(Ci:∀ p i,In p i→∀ s s1 s2,Stp p s s1→Stp i s1 s2→∃ s',Stp i s s'∧Stp p s' s2){Q:Exit→Act→World→Prop}(hC:∀ g,Dl c.P g (c.fn g))(Is:bT ops.toList 0=true)
  {sf:F×St}:∀ (fuel:Nat) (listed:Array Bool) {κ:KS} {a:Act} {s:F×St},(∀ p i,p<i→i<ops.size→listed.getD p true=false→ordered (xE ops.toList []) p i=true∨In p i) →
  listed.size=ops.size→fuel=(rest ops listed).length→QH ops listed→Inv κ→Rel κ n s.1 a→κ.st=s.2→Kl Stp (rest ops listed) s sf →
  (∀ (a':Act) (κ':KS),κ'.st=sf.2→Inv κ'→Ext κ κ'→Rel κ' n sf.1 a'→lq ops a a'→Q .normal a' κ'.w)→wpAny c.P .any ops Q fuel listed a κ.w
 | fuel,listed,κ,a,s,jT,jm,hfuel,J8,hI,hR,xR,vZ,hQ=>by
  have z63:=JW Is (listed:=listed) jm
  have Ji:rest ops listed=[]→Q .normal a κ.w:=by
   intro h
   rw[h]at vZ
   cases vZ
   exact hQ a κ xR hI (Ext.refl κ) hR (lq.refl _ _)
  cases fuel with
  | zero =>
   have OI:rest ops listed=[]:=List.eq_nil_of_length_eq_zero hfuel.symm
   refine⟨?_,Ji OI⟩
   apply List.eq_nil_iff_forall_not_mem.2
   intro i hi
   rw[nZ]at hi
   have:i∈rest ops listed:=by simp only[rest,List.mem_filter,List.mem_range,Bool.not_eq_true']; exact⟨hi.1,hi.2.1⟩
   rw[OI]at this
   cases this
  | succ fuel =>
   refine⟨fun h=>Ji (z63 h),fun i hi => ?_⟩
   rw[nZ]at hi
   obtain⟨h1,h2,h3⟩:=hi
   have ho:ops[i]? = some ops[i]:=Array.getElem?_eq_getElem h1
   obtain⟨pre,post,g1,g2,g3⟩:=bW (p:=fun i => !listed.getD i true) (q:=fun j => !(listed.setIfInBounds i true).getD j true) (i:=i) (List.range ops.size) List.pairwise_lt_range
    (List.mem_range.2 h1) (by simp[h2]) (fun j=>by
     rw[jf (by omega)]
     by_cases h:j=i
     ·subst h; simp
     ·simp[h])
   have Cf:∀ p,ordered (xE ops.toList []) p i=true→p<ops.size→listed.getD p true=true:=by
    intro p hp qu
    obtain⟨r,_,_,hb⟩:=pD ops.toList []
    obtain⟨e,k1,k2,k3⟩:=hb i ops[i] (by simp) p (by simpa[ordered]using hp)
    have hle:=h3 _ ho e k1 k2
    have Uj:=o9 ops.toList 0 Is i ops[i] (by simp) e k1 k2
    have YL:listed.getD e.on true=true:=by
     rw[Array.getD_eq_getD_getElem?]at hle ⊢
     rw[Array.getElem?_eq_getElem (by omega)]at hle ⊢
     exact hle
    rcases k3 with rfl | ⟨_,k3⟩
    ·exact YL
    ·exact J8 e.on (by omega) YL p k3 qu
   have Rh:∀ p∈pre,In p i:=by
    intro p hp
    obtain⟨q1,q2,q3⟩:=g3 p hp
    rcases jT p i q3 h1 (by simpa using q1)with h | h
    ·have:=Cf p h (by simpa using q2)
     simp[this]at q1
    ·exact h
   have Cr:Kl Stp (pre++i::post) s sf:=by
    have:rest ops listed=pre++i::post:=g1
    rw[← this]; exact vZ
   obtain⟨s1,k1,k2⟩:=Gl Ci Rh Cr
   have sP:rest ops (listed.setIfInBounds i true)=pre++post:=g2
   obtain⟨kk,k1⟩:=TS _ _ _ k1
   refine Jq hC hI hR xR k1 fun a1 κ1 e1 e2 e3 e4 e5 => ?_
   refine WR TS Ci hC Is fuel (listed.setIfInBounds i true) (fun p j hpj hj hp=>jT p j hpj hj (by
    rw[jf (by omega)]at hp
    split at hp
    ·cases hp
    ·exact hp)) (by simp[jm]) ?_ ?_ e2 e4 e1 (by rw[sP]; exact k2) fun a' κ' d1 d2 d3 d4 d5=>hQ a' κ' d1 d2 (e3.trans d3) d4 (e5.trans d5)
   ·have:rest ops listed=pre++i::post:=g1
    rw[this]at hfuel
    rw[sP]
    simp only[List.length_append,List.length_cons]at hfuel ⊢
    omega
   ·intro q hq O6 p hp qu
    rw[jf (by omega)]at O6 ⊢
    split
    ·rfl
    ·split at O6
     ·rename_i e; subst e; exact Cf p hp qu
     ·exact J8 q hq O6 p hp qu
theorem DK{kd:Nat→Nat}:∀ (l:List Nat) (s s':F×St),pR c n ops kd l s s'→Kl (fun i s s'=>gL c n ops i s s' (kd i)) l s s'
 | [],_,_,h=>h
 | i::l,s,s',⟨s1,h1,h2⟩=>⟨s1,h1,DK l s1 s' h2⟩
theorem JN{kd:Nat→Nat}{Q:Exit→Act→World→Prop}(hC:∀ g,Dl c.P g (c.fn g))(Is:bT ops.toList 0=true)
  {sf:F×St}:∀ (fuel:Nat) (listed:Array Bool) {κ:KS} {a:Act} {s:F×St},(∀ p i,p<i→i<ops.size→listed.getD p true=false→ordered (xE ops.toList []) p i=true∨Ind ops kd p i) →
  listed.size=ops.size→fuel=(rest ops listed).length→QH ops listed→Inv κ→Rel κ n s.1 a→κ.st=s.2→pR c n ops kd (rest ops listed) s sf →
  (∀ (a':Act) (κ':KS),κ'.st=sf.2→Inv κ'→Ext κ κ'→Rel κ' n sf.1 a'→lq ops a a'→Q .normal a' κ'.w)→wpAny c.P .any ops Q fuel listed a κ.w
 | fuel,listed,κ,a,s,jT,jm,hfuel,J8,hI,hR,xR,vZ,hQ =>
  WR (Stp:=fun i s s'=>gL c n ops i s s' (kd i)) (In:=fun p i=>Ind ops kd p i) (fun i s s' h=>⟨_,h⟩) (fun p i hi s s1 s2 h1 h2=>Gi hi h1 h2) hC Is fuel listed jT jm hfuel J8 hI hR xR (DK _ _ _ vZ) hQ
end
end Go.AM
namespace Go.AM
set_option linter.unusedSectionVars false
variable [uH] [BK]
open Go.RowKit
structure Up(κ κ':KS):Prop where
 same:F1 κ.w κ'.w κ.ok κ'.ok
 var:∀ (b:Nat) (d:D),κ.st[b]? = some (.var d)→(∃ d',κ'.st[b]? = some (.var d'))∧κ'.ph[b]? = κ.ph[b]?
 old:∀ (b qY:Nat),Old κ.st b qY→Old κ'.st b qY
 row:∀ (b v:Nat) (e:Ty) (xs:List (den e)),Old κ.st b v→κ'.st[b]? = some (.arr v e xs)→κ.st[b]? = some (.arr v e xs)∧κ'.ph[b]? = κ.ph[b]?
theorem RD.up{κ κ':KS}(x:Up κ κ'){d:D}{v:Value}(h:RD κ d v):RD κ' d v:=by
 induction h with
 | zU τ y cs h=>exact .zU τ y cs (h.mono x.same)
 | xJ e a=>exact .xJ e a
 | tight e l ne blk off f uv wm h hc=>exact .tight e l ne blk off f uv (x.same _ wm).1 (fun i hi=>(h i hi).mono x.same) fun i hi j v hv=>by rw[cv (x.same _ wm).2]; exact hc i hi j v hv
 | xw=>exact .xw
 | yI=>exact .yI
 | wb=>exact .wb
 | u9=>exact .u9
 | vX=>exact .vX
 | ZV v h=>exact .ZV v h
 | dp T=>exact .dp T
 | dU b T d hd =>
  obtain⟨⟨d',yZ⟩,hp⟩:=x.var b d hd
  exact .dU b T d' yZ
 | dD b T blk n d hd h =>
  obtain⟨⟨d',yZ⟩,hp⟩:=x.var b d hd
  exact .dD b T blk n d' yZ (hp.trans h)
 | ptr b off blk n d hd h =>
  obtain⟨⟨d',yZ⟩,hp⟩:=x.var b d hd
  exact .ptr b off blk n d' yZ (hp.trans h)
 | xx τ y cs blk off wm h hc=>exact .xx τ y cs blk off (x.same _ wm).1 (h.mono x.same) fun j v hv=>by rw[cv (x.same _ wm).2]; exact hc j v hv
 | uC b qY e idx off blk o hb h =>
  refine .uC b qY e idx off blk o (x.old b qY hb) fun xs hx hi => ?_
  obtain⟨h1,h2⟩:=x.row b qY e xs hb hx
  rw[h2]
  exact h xs h1 hi
 | ms b qY e off len cap a hb wH ha Z1 h =>
  refine .ms b qY e off len cap a (x.old b qY hb) wH ha Z1 fun xs hx => ?_
  obtain⟨h1,h2⟩:=x.row b qY e xs hb hx
  have:=h xs h1
  unfold LW at this ⊢
  rw[h2]
  exact this
 | xr f l vs hl h ih=>exact .xr f l vs hl ih
 | agg l vs hl ho h ih=>exact .agg l vs hl ho ih
 | gK l vs hl h ih=>exact .gK l vs hl ih
 | iface t d v h ih=>exact .iface t d v ih
structure Nob(κ:KS)(blk:Nat):Prop where
 lt:blk<κ.w.heap.size
 ok:¬ κ.ok blk
 ph:∀ (b n:Nat),κ.ph[b]? ≠ some (some (blk,n))
theorem Nob.ext{κ κ':KS}(x:Ext κ κ'){blk:Nat}(h:Nob κ blk):Nob κ' blk∧κ'.w.heap[blk]? = κ.w.heap[blk]? := by
 refine⟨⟨Nat.lt_of_lt_of_le h.lt x.size,fun hk => ?_,fun b n hb => ?_⟩,x.frame blk h.lt h.ph⟩
 ·rcases x.fresh blk hk with h1 | h1 | ⟨b,n,h1⟩
  ·exact h.ok h1
  ·have:=h.lt; omega
  ·exact h.ph b n h1
 ·rcases x.phs b blk n hb with h1 | h1
  ·exact h.ph b n h1
  ·have:=h.lt; omega
def KS.push(κ:KS)(blk n:Nat)(d:D):KS:={ κ with ph:=κ.ph++[some (blk,n)],st:=κ.st++[.var d] }
theorem nw{α:Type}{l:List α}{x y:α}{b:Nat}(h:l[b]? = some y):(l++[x])[b]? = some y:=by
 rw[List.getElem?_append_left (List.getElem?_eq_some_iff.1 h).1]; exact h
theorem tU{α:Type}{l:List α}{x y:α}{b:Nat}(h:(l++[x])[b]? = some y):l[b]? = some y∨(b=l.length∧y=x):=by
 by_cases hb:b<l.length
 ·rw[List.getElem?_append_left hb]at h; exact .inl h
 ·have hl:=(List.getElem?_eq_some_iff.1 h).1
  simp at hl
  have:b=l.length:=by omega
  subst this
  simp at h
  exact .inr ⟨rfl,h.symm⟩
theorem M0{κ:KS}(hI:Inv κ)(blk n:Nat)(d:D):Up κ (κ.push blk n d):=by
 have VL:∀ {b:Nat} {y:yp},κ.st[b]? = some y→(κ.ph++[some (blk,n)])[b]? = κ.ph[b]? := fun h=>by
  rw[List.getElem?_append_left]; rw[hI.len]; exact(List.getElem?_eq_some_iff.1 h).1
 refine⟨fun k hk=>⟨hk,rfl⟩,fun b d' h=>⟨⟨d',nw h⟩,VL h⟩,fun b qY h => ?_,fun b v e xs ho h => ?_⟩
 ·rcases h with h | ⟨v0,e0,ri,h,hv⟩
  ·exact .inl (nw h)
  ·exact .inr ⟨v0,e0,ri,nw h,hv⟩
 ·rcases tU h with h1 | ⟨_,h1⟩
  ·exact⟨h1,VL h1⟩
  ·cases h1
theorem z3J{κ0 κ:KS}{blk:Nat}{d:D}{z:Value}{t:TypeId}(hI:Inv κ)(hx:Ext κ0 κ)(hb:Nob κ blk)(h0:κ0.w.heap.size≤blk)(hz:RD κ d z)(ht:d.uE=false)(MA:∀ T,d.typed=some T→t=T)(hh:κ.w.heap[blk]? = some (.cells z.cells t (0,0))) :
  Inv (κ.push blk z.cells.size d)∧Ext κ0 (κ.push blk z.cells.size d)∧RD (κ.push blk z.cells.size d) (.ptr κ.st.length 0) (.pointer (some ⟨blk,0,none⟩)):=by
 have hu:=M0 hI blk z.cells.size d
 have xR:(κ.push blk z.cells.size d).st[κ.st.length]? = some (.var d):=by simp[KS.push]
 have VL:(κ.push blk z.cells.size d).ph[κ.st.length]? = some (some (blk,z.cells.size)):=by simp[KS.push,← hI.len]
 have PA:∀ {b k m:Nat},(κ.push blk z.cells.size d).ph[b]? = some (some (k,m))→κ.ph[b]? = some (some (k,m))∨(b=κ.ph.length∧k=blk):=by
  intro b k m h
  rcases tU h with h1 | ⟨h1,h2⟩
  ·exact .inl h1
  ·cases h2; exact .inr ⟨h1,rfl⟩
 refine⟨⟨by simp[KS.push,hI.len],hI.yi,fun b k m h => ?_,fun b b' k m m' h h' => ?_,fun b y h => ?_,hI.gl⟩,?_,.ptr _ 0 blk _ d xR VL⟩
 ·rcases PA h with h1 | ⟨_,rfl⟩
  ·exact hI.apart b k m h1
  ·exact⟨hb.lt,hb.ok⟩
 ·rcases PA h with h1 | ⟨h1,rfl⟩
  ·rcases PA h' with h2 | ⟨h2,rfl⟩
   ·exact hI.inj b b' k m m' h1 h2
   ·exact(hb.ph b m h1).elim
  ·rcases PA h' with h2 | ⟨h2,_⟩
   ·exact(hb.ph b' m' h2).elim
   ·omega
 ·rcases tU h with h1 | ⟨h1,h2⟩
  ·have hp:(κ.push blk z.cells.size d).ph[b]? = κ.ph[b]? := by
    show(κ.ph++[_])[b]? = _
    rw[List.getElem?_append_left]; rw[hI.len]; exact(List.getElem?_eq_some_iff.1 h1).1
   have hy:=hI.blk b y h1
   cases y with
   | dead=>trivial
   | var d' =>
    obtain⟨k,m,cs,T,g1,g2,g3,g4,g5⟩:=hy
    exact⟨k,m,cs,T,hp.trans g1,g2,g3,⟨g4.1,fun i h1 h2=>(g4.2 i h1 h2).up hu⟩,g5⟩
   | arr qY e xs =>
    obtain⟨g0,g⟩:=hy
    refine⟨g0,cp g (fun h=>⟨h.1,hp.trans h.2⟩) ?_⟩
    rintro⟨k,m,cs,T,g1,g2⟩
    exact⟨k,m,cs,T,hp.trans g1,g2⟩
  ·subst h1
   subst h2
   have hf:=jz hz ht
   exact⟨blk,z.cells.size,z.cells,t,VL,hh,rfl,⟨hf.1,fun i h1 h2=>(hf.2 i h1 h2).up hu⟩,jx hz,MA⟩
 ·refine⟨hx.os,hx.tape,hx.output,hx.size,hx.same,hx.fresh,fun b k m h => ?_,fun b d' h => ?_,fun b v0 e xs h => ?_,fun b h=>nw (hx.dead b h),Nat.le_trans hx.E6 (by simp[KS.push]),hx.frame⟩
  ·rcases PA h with h1 | ⟨_,rfl⟩
   ·exact hx.phs b k m h1
   ·exact .inr h0
  ·obtain⟨⟨d1,h1⟩,h2⟩:=hx.var b d' h
   obtain⟨h3,h4⟩:=hu.var b d1 h1
   exact⟨h3,h4.trans h2⟩
  ·rcases hx.arr b v0 e xs h with h1 | ⟨v1,zE,h1,h2,h3⟩
   ·exact .inl (nw h1)
   ·refine .inr ⟨v1,zE,nw h1,h2,fun he=>⟨?_,(h3 he).2⟩⟩
    have hp:(κ.push blk z.cells.size d).ph[b]? = κ.ph[b]? := by
     show(κ.ph++[_])[b]? = _
     rw[List.getElem?_append_left]; rw[hI.len]; exact(List.getElem?_eq_some_iff.1 h1).1
    exact hp.trans (h3 he).1
theorem z1I{κ:KS}(hI:Inv κ)(o:Obj):Inv { κ with w:=κ.w.alloc o }∧Ext κ { κ with w:=κ.w.alloc o }∧Nob { κ with w:=κ.w.alloc o } κ.w.heap.size∧(κ.w.alloc o).heap[κ.w.heap.size]? = some o:=by
 have hs:(κ.w.alloc o).heap.size=κ.w.heap.size+1:=by simp
 have hold:∀ k,k<κ.w.heap.size→(κ.w.alloc o).heap[k]? = κ.w.heap[k]? := fun k hk=>by
  show(κ.w.heap.push o)[k]? = _
  rw[Array.getElem?_push]
  rw[if_neg (by omega)]
 have hx:Ext κ { κ with w:=κ.w.alloc o }:=⟨rfl,rfl,rfl,by show κ.w.heap.size≤(κ.w.alloc o).heap.size; omega,fun k hk=>⟨hk,hold k (hI.yi k hk)⟩,fun k hk=>.inl hk,fun _ _ _ h=>.inl h,fun b d h=>⟨⟨d,h⟩,rfl⟩,
  fun b v0 e xs h=>.inr ⟨v0,xs,h,Nat.le_refl _,fun _=>⟨rfl,rfl⟩⟩,fun _ h=>h,Nat.le_refl _,fun k hk _=>hold k hk⟩
 refine⟨⟨hI.len,fun k hk => ?_,fun b blk n h => ?_,hI.inj,fun b y hy=>(hI.blk b y hy).mono hx rfl fun blk n h=>hold _ (hI.apart b blk n h).1,hI.gl.mono hx.same⟩,hx,⟨?_,fun hk => ?_,fun b n h => ?_⟩,?_⟩
 ·have:=hI.yi k hk; show k<(κ.w.alloc o).heap.size; omega
 ·have:=hI.apart b blk n h; exact⟨by show blk<(κ.w.alloc o).heap.size; omega,this.2⟩
 ·show κ.w.heap.size<(κ.w.alloc o).heap.size; omega
 ·have:=hI.yi _ hk; omega
 ·have:=(hI.apart b _ n h).1; omega
 ·show(κ.w.heap.push o)[κ.w.heap.size]? = some o
  simp
section
variable {c:Ctx} {n:Nat} {ops:Array Oper}
structure Em where
 i:Nat
 d:Nat
 blk:Nat
 t:TypeId
 z:Value
 D:D
structure Ft(c:Ctx)(ops:Array Oper)(κ0 κ:KS)(a:Act)(e:Em):Prop where
 op:∃ o,ops[e.i]? = some o∧o.op=.alloc e.t∧o.guard=none∧o.dst=some e.d
 zero:VT c e.t=some e.D
 z:∃ i,c.P.info? e.t=some i∧i.zero=some e.z∧ZD e.t e.D e.z
 val:a.tmps[e.d]? = some (.pointer (some ⟨e.blk,0,none⟩))
 heap:κ.w.heap[e.blk]? = some (.cells e.z.cells e.t (0,0))
 nob:Nob κ e.blk
 new:κ0.w.heap.size≤e.blk
theorem Ft.mono{κ0 κ κ':KS}{a a':Act}{e:Em}(h:Ft c ops κ0 κ a e)(x:Ext κ κ')(ha:a'.tmps[e.d]? = a.tmps[e.d]?):Ft c ops κ0 κ' a' e:=by
 obtain⟨h1,h2⟩:=h.nob.ext x
 exact⟨h.op,h.zero,h.z,ha.trans h.val,h2.trans h.heap,h1,h.new⟩
def yk(es:List Em)(f:F):F:=fun s=>if es.any (fun e=>Nat.beq e.d s)then none else f s
theorem Xc{es:List Em}{f:F}{s:Nat}(h:∀ e∈es,e.d≠s):yk es f s=f s:=by
 unfold yk
 rw[if_neg]
 intro hh
 obtain⟨e,he,hb⟩:=List.any_eq_true.1 hh
 exact h e he (Nat.eq_of_beq_eq_true hb)
theorem GZ{es:List Em}{f:F}{s:Nat}{d:D}(h:yk es f s=some d):f s=some d∧∀ e∈es,e.d≠s:=by
 unfold yk at h
 split at h
 ·cases h
 ·rename_i hh
  refine⟨h,fun e he hs=>hh (List.any_eq_true.2 ⟨e,he,?_⟩)⟩
  subst hs; simp
def iA(ops:Array Oper)(i:Nat):Prop:=∃ o,ops[i]? = some o∧Vd o=true
theorem No{o:Oper}(h:Vd o=true):∃ t d,o.op=.alloc t∧o.guard=none∧o.dst=some d:=by
 unfold Vd at h
 simp only[Bool.and_eq_true]at h
 obtain⟨⟨h1,h2⟩,h3⟩:=h
 split at h1
 ·rename_i t ht
  obtain⟨d,hd⟩:=Option.isSome_iff_exists.1 h3
  exact⟨t,d,ht,Option.isNone_iff_eq_none.1 h2,hd⟩
 ·cases h1
theorem Bv{o:Oper}{t d:Nat}(h1:o.op=.alloc t)(h2:o.guard=none)(h3:o.dst=some d):Vd o=true:=by
 unfold Vd; rw[h1,h2,h3]; rfl
theorem Cm{kd:Nat→Nat}:∀ {l:List Nat} {s sf:F×St} {i:Nat},pR c n ops kd l s sf→i∈l→∃ s1 s2,gL c n ops i s1 s2 (kd i)
 | [],_,_,_,_,h=>by cases h
 | j::l,s,sf,i,⟨s1,h1,h2⟩,h=>by
  rcases List.mem_cons.1 h with rfl | h
  ·exact⟨s,s1,h1⟩
  ·exact Cm h2 h
theorem JO{kd:Nat→Nat}{i t d:Nat}{o:Oper}(ho:ops[i]? = some o)(h1:o.op=.alloc t)(h2:o.guard=none)(h3:o.dst=some d){s s':F×St}(h:gL c n ops i s s' (kd i)) :
  ∃ D,VT c t=some D∧d<n∧s'=(yt s.1 (some d) (some (.ptr s.2.length 0)),s.2++[.var D]):=by
 obtain⟨o',ho',hd,h⟩:=h
 rw[ho]at ho'
 cases ho'
 rw[h3]at hd
 have qu:d<n:=Nat.le_of_ble_eq_true hd
 have hw:wD ops s.1 o=some true:=by unfold wD; rw[h2]
 rcases h with⟨_,_,D,zO,hl,rfl⟩ | ⟨hw',_,_⟩
 ·have he:xg c (qC s.1) o=o5 c t:=by
   obtain⟨dst,op,ty,pos,after,guard⟩:=o
   cases h1
   rfl
  rw[he]at hl
  unfold o5 at hl
  split at hl
  ·rename_i y hy
   simp only[zX,T.leads,Prod.mk.injEq]at hl
   obtain⟨rfl,rfl⟩:=hl
   exact⟨y,hy,qu,by rw[h3]⟩
  ·exact absurd hl zj
 ·rw[hw]at hw'; cases hw'
theorem Fb{es:List Em}{i k:Nat}{s s':F×St}(h:gL c n ops i s s' k)(hd:∀ o,ops[i]? = some o→∀ e∈es,e.d ∉ tmpsOf ops o) :
  gL c n ops i (yk es s.1,s.2) (yk es s'.1,s'.2) k:=by
 obtain⟨o,ho,zeh,h⟩:=h
 have BL:=hd o ho
 have IF:∀ x:Option D,yt (yk es s.1) o.dst x=yk es (yt s.1 o.dst x):=by
  intro x
  cases hds:o.dst with
  | none=>rfl
  | some t =>
   funext u
   simp only[yt,yk]
   by_cases hu:u=t
   ·subst hu
    rw[if_pos rfl]
    rw[if_neg,if_pos rfl]
    intro hh
    obtain⟨e,he,hb⟩:=List.any_eq_true.1 hh
    exact BL e he (by rw[Nat.eq_of_beq_eq_true hb]; exact y4 hds)
   ·rw[if_neg hu]
    split<;>rfl
 have mI:∀ x∈o.op.operands,qC (yk es s.1) x=qC s.1 x:=by
  intro x hx
  cases x with
  | tmp t=>exact Xc fun e he ht=>BL e he (ht▸sK hx)
  | _=>rfl
 have hw:wD ops (yk es s.1) o=wD ops s.1 o:=by
  unfold wD
  cases hg:o.guard with
  | none=>rfl
  | some jw =>
   obtain⟨j,w⟩:=jw
   simp only
   cases hs:uS ops j with
   | none=>rfl
   | some t =>
    simp only
    rw[Xc fun e he ht=>BL e he (ht▸rM hg hs)]
 refine⟨o,ho,zeh,?_⟩
 rcases h with⟨h1,h2,d,zO,h3,rfl⟩ | ⟨h1,h2,rfl⟩
 ·refine .inl ⟨hw.trans h1,?_,d,zO,?_,?_⟩
  ·rw[show xg c (qC (yk es s.1)) o=xg c (qC s.1) o from Qe o mI]; exact h2
  ·rw[show xg c (qC (yk es s.1)) o=xg c (qC s.1) o from Qe o mI]; exact h3
  ·rw[IF]
 ·exact .inr ⟨hw.trans h1,h2,by rw[IF]⟩
theorem NZ{κ:KS}{a:Act}{i k:Nat}{s s':F×St}(hC:∀ g,Dl c.P g (c.fn g))(hI:Inv κ)(hR:Rel κ n s.1 a)(xR:κ.st=s.2)(h:gL c n ops i s s' k){K:Act→World→Prop}{Q:Exit→Act→World→Prop}
  (hK:∀ (a':Act) (κ':KS),κ'.st=s'.2→Inv κ'→Ext κ κ'→Rel κ' n s'.1 a'→lq ops a a'→(∀ u:Nat,(∀ o,ops[i]? = some o→o.dst≠some u)→a'.tmps[u]? = a.tmps[u]?)→K a' κ'.w):wpOp c.P ops Q i K a κ.w:=by
 obtain⟨o,ho,hd,h⟩:=h
 have hu:∀ (v:Value) (u:Nat),(∀ o,ops[i]? = some o→o.dst≠some u)→(a.put o.dst v).tmps[u]? = a.tmps[u]? := by
  intro v u hn
  have:=hn o ho
  cases hds:o.dst with
  | none=>rfl
  | some t =>
   rw[hds]at this
   have uv:t≠u:=fun e=>this (by rw[e])
   simp[Act.put,Array.getElem?_setIfInBounds_ne uv]
 unfold wpOp
 rw[ho]
 simp only
 rcases h with⟨hw,_,d,zO,hl,rfl⟩ | ⟨hw,_,rfl⟩
 ·rw[if_pos (nF hR hw)]
  refine .inl (De hC hI hR (xR▸hl) fun v κ' h1 h2 h3 h4=>hK _ κ' h1 h2 h3 ((hR.mono h3).put hd h4) (rV ho) (hu v))
 ·rw[if_neg (by rw[nF hR hw]; exact Bool.false_ne_true)]
  exact hK _ κ xR hI (Ext.refl κ) (hR.put hd fun d' yZ=>by cases yZ; exact Td (v:=undef)) (rV ho) (hu undef)
def kd3(kd:Nat→Nat)(o:Oper)(i:Nat):Nat:=bif Vd o then 3 else kd i
def z1J(ops:Array Oper)(kd:Nat→Nat)(p i:Nat):Prop:=∀ x y,ops[p]? = some x→ops[i]? = some y →
 (∀ d,x.dst=some d→d ∉ tmpsOf ops y)∧(∀ d,y.dst=some d→d ∉ tmpsOf ops x)∧sC (kd3 kd x p) (kd3 kd y i)=false
theorem SY{k l:Nat}(hk:k≤2)(hl:l≤2)(h:sC k l=false):uF k l=false:=by
 have h1:Nat.beq k 3=false:=pC (by omega)
 have h2:Nat.beq l 3=false:=pC (by omega)
 simpa[sC,h1,h2]using h
theorem z2s{k l:Nat}(hl:l≤2)(h:sC 3 l=false):uF k l=false:=by
 have h2:Nat.beq l 3=false:=pC (by omega)
 have h3:uF 2 l=false:=by simpa[sC,h2]using h
 have h0:l=0:=by
  match l,hl,h3 with
  | 0,_,_=>rfl
  | 1,_,h3=>cases h3
  | 2,_,h3=>cases h3
 subst h0
 simp[uF]
theorem z1z{k l:Nat}(hk:k≤2)(h:sC k 3=false):uF k l=false:=by
 have h2:Nat.beq k 3=false:=pC (by omega)
 have h3:uF k 2=false:=by simpa[sC,h2]using h
 have h0:k=0:=by
  match k,hk,h3 with
  | 0,_,_=>rfl
  | 1,_,h3=>cases h3
  | 2,_,h3=>cases h3
 subst h0
 simp[uF]
theorem BE{kd:Nat→Nat}{p i:Nat}(h:z1J ops kd p i)(hp:kd p≤2)(hi:kd i≤2)(hn:¬ (iA ops p∧iA ops i)):Ind ops kd p i:=by
 intro x y hx hy
 obtain⟨h1,h2,h3⟩:=h x y hx hy
 refine⟨h1,h2,?_⟩
 unfold kd3 at h3
 cases hax:Vd x with
 | true =>
  cases hay:Vd y with
  | true=>exact(hn ⟨⟨x,hx,hax⟩,y,hy,hay⟩).elim
  | false=>rw[hax,hay]at h3; exact z2s hi h3
 | false =>
  cases hay:Vd y with
  | true=>rw[hax,hay]at h3; exact z1z hp h3
  | false=>rw[hax,hay]at h3; exact SY hp hi h3
theorem least{es:List Em}(h:es≠[]):∃ e∈es,∀ f∈es,e.i≤f.i:=by
 induction es with
 | nil=>exact absurd rfl h
 | cons e r ih =>
  by_cases hr:r=[]
  ·subst hr; exact⟨e,List.mem_cons_self,fun f hf=>by simp at hf; subst hf; exact Nat.le_refl _⟩
  ·obtain⟨g,hg,hm⟩:=ih hr
   by_cases hle:e.i≤g.i
   ·exact⟨e,List.mem_cons_self,fun f hf=>by
     rcases List.mem_cons.1 hf with rfl | hf
     ·exact Nat.le_refl _
     ·exact Nat.le_trans hle (hm f hf)⟩
   ·exact⟨g,List.mem_cons_of_mem _ hg,fun f hf=>by
     rcases List.mem_cons.1 hf with rfl | hf
     ·omega
     ·exact hm f hf⟩
def Dis(e f:Em):Prop:=e.i≠f.i∧e.blk≠f.blk∧e.d≠f.d
theorem Dis.symm{e f:Em}(h:Dis e f):Dis f e:=⟨h.1.symm,h.2.1.symm,h.2.2.symm⟩
theorem flush{kd:Nat→Nat}{κ0:KS}(jT:∀ p i,p<i→i<ops.size→ordered (xE ops.toList []) p i=true∨z1J ops kd p i)(gk:∀ i,i<ops.size→kd i≤2)
  {listed:Array Bool} (J8:QH ops listed) (na:∀ q,q<ops.size→iA ops q→listed.getD q true=true) {a:Act} {sf:F×St} :
  ∀ (m:Nat) (es:List Em) (qO:Array Bool) (κ:KS) (s:F×St),es.length=m→qO.size=ops.size→(∀ j,j<ops.size→qO.getD j true=true→listed.getD j true=true) →
  (∀ j,j<ops.size→listed.getD j true=true→qO.getD j true=false→∃ e∈es,e.i=j)→(∀ e∈es,e.i<ops.size∧listed.getD e.i true=true∧qO.getD e.i true=false)→es.Pairwise Dis →
  Inv κ→Rel κ n (yk es s.1) a→κ.st=s.2→Ext κ0 κ→(∀ e∈es,Ft c ops κ0 κ a e)→pR c n ops kd (rest ops qO) s sf →
  ∃ (κ':KS) (s':F×St),κ'.w=κ.w∧κ'.st=s'.2∧Inv κ'∧Ext κ0 κ'∧Rel κ' n s'.1 a∧pR c n ops kd (rest ops listed) s' sf:=by
 intro m
 induction m with
 | zero =>
  intro es qO κ s hl _ h1 h2 _ _ hI hR xR hx _ vZ
  obtain rfl:es=[]:=List.eq_nil_of_length_eq_zero hl
  refine⟨κ,s,rfl,xR,hI,hx,hR,?_⟩
  have:rest ops qO=rest ops listed:=by
   unfold rest
   refine List.filter_congr fun i hi => ?_
   have hi:=List.mem_range.1 hi
   cases ha:qO.getD i true with
   | true=>rw[h1 i hi ha]
   | false =>
    cases hb:listed.getD i true with
    | false=>rfl
    | true=>obtain⟨e,he,_⟩:=h2 i hi hb ha; cases he
  rw[← this]; exact vZ
 | succ m ih =>
  intro es qO κ s hl jm h1 h2 h3 Iw hI hR xR hx hem vZ
  obtain⟨e,he,z2O⟩:=least (es:=es) (fun h=>by rw[h]at hl; cases hl)
  obtain⟨l1,l2,rfl⟩:=List.append_of_mem he
  obtain⟨hei,hel,hea⟩:=h3 e he
  have Ul:∀ f,f∈l1++l2→f∈l1++e::l2:=fun f hf=>by
   rcases List.mem_append.1 hf with hf | hf
   ·exact List.mem_append_left _ hf
   ·exact List.mem_append_right _ (List.mem_cons_of_mem _ hf)
  have z4G:∀ f,f∈l1++e::l2→f=e∨f∈l1++l2:=fun f hf=>by
   rcases List.mem_append.1 hf with hf | hf
   ·exact .inr (List.mem_append_left _ hf)
   ·rcases List.mem_cons.1 hf with rfl | hf
    ·exact .inl rfl
    ·exact .inr (List.mem_append_right _ hf)
  have hde:∀ f∈l1++l2,Dis e f:=by
   intro f hf
   rw[List.pairwise_append]at Iw
   obtain⟨_,d2,d3⟩:=Iw
   rcases List.mem_append.1 hf with hf | hf
   ·exact(d3 f hf e List.mem_cons_self).symm
   ·exact(List.pairwise_cons.1 d2).1 f hf
  have Li:(l1++l2).Pairwise Dis:=Iw.sublist (List.Sublist.append_left (List.sublist_cons_self e l2) l1)
  obtain⟨pre,post,g1,g2,g3⟩:=bW (p:=fun i => !qO.getD i true) (q:=fun j => !(qO.setIfInBounds e.i true).getD j true) (i:=e.i) (List.range ops.size) List.pairwise_lt_range
   (List.mem_range.2 hei) (by simp[hea]) (fun j=>by
    rw[jf (by omega)]
    by_cases h:j=e.i
    ·subst h; simp
    ·simp[h])
  have Rh:∀ p∈pre,Ind ops kd p e.i:=by
   intro p hp
   obtain⟨q1,q2,q3⟩:=g3 p hp
   have q2:=List.mem_range.1 q2
   have hpa:qO.getD p true=false:=by simpa using q1
   have XA:listed.getD p true=false:=by
    cases hb:listed.getD p true with
    | false=>rfl
    | true =>
     obtain⟨f,hf,Dx⟩:=h2 p q2 hb hpa
     have:=z2O f hf
     omega
   have hna:¬ iA ops p:=fun h=>by rw[na p q2 h]at XA; cases XA
   rcases jT p e.i q3 hei with h | h
   ·have:=J8 e.i hei hel p h q2
    rw[this]at XA; cases XA
   ·exact BE h (gk p q2) (gk e.i hei) fun hh=>hna hh.1
  have Cr:pR c n ops kd (pre++e.i::post) s sf:=by
   have:rest ops qO=pre++e.i::post:=g1
   rw[← this]; exact vZ
  obtain⟨s1,k1,k2⟩:=JJ Rh Cr
  have hE:=hem e he
  obtain⟨o,o1,o2,o3,o4⟩:=hE.op
  obtain⟨D,d1,d2,rfl⟩:=JO o1 o2 o3 o4 k1
  obtain rfl:D=e.D:=Option.some.inj (d1.symm.trans hE.zero)
  obtain⟨iz,z1,z2,z3⟩:=hE.z
  obtain⟨p1,p2,p3⟩:=z3J hI hx hE.nob hE.new (z3.rd κ) z3.gK z3.ty hE.heap
  have hup:=M0 hI e.blk e.z.cells.size e.D
  refine ih (l1++l2) (qO.setIfInBounds e.i true) (κ.push e.blk e.z.cells.size e.D) (yt s.1 (some e.d) (some (.ptr s.2.length 0)),s.2++[.var e.D]) (by simp at hl ⊢; omega) (by simp[jm]) (fun j hj ha => ?_) (fun j hj hb ha => ?_) (fun f hf => ?_) Li p1 ?_ (by show κ.st++_=s.2++_; rw[xR]) p2 (fun f hf => ?_) ?_
  ·rw[jf (by omega)]at ha
   split at ha
   ·rename_i h; subst h; exact hel
   ·exact h1 j hj ha
  ·rw[jf (by omega)]at ha
   split at ha
   ·cases ha
   ·rename_i uv
    obtain⟨f,hf,Dx⟩:=h2 j hj hb ha
    rcases z4G f hf with rfl | hf
    ·exact absurd Dx.symm uv
    ·exact⟨f,hf,Dx⟩
  ·obtain⟨f1,f2,f3⟩:=h3 f (Ul f hf)
   refine⟨f1,f2,?_⟩
   rw[jf (by omega),if_neg (hde f hf).1.symm]
   exact f3
  ·refine⟨hR.size,hR.defers,fun u d0 hu => ?_⟩
   obtain⟨u1,u2⟩:=GZ hu
   simp only[yt]at u1
   by_cases hue:u=e.d
   ·subst hue
    rw[if_pos rfl]at u1
    cases u1
    rw[← xR]
    exact⟨_,hE.val,p3⟩
   ·rw[if_neg hue]at u1
    have:yk (l1++e::l2) s.1 u=some d0:=by
     rw[Xc fun f hf hfu => ?_]
     ·exact u1
     ·rcases z4G f hf with rfl | hf
      ·exact hue hfu.symm
      ·exact u2 f hf hfu
    obtain⟨v,v1,v2⟩:=hR.get u d0 this
    exact⟨v,v1,v2.up hup⟩
  ·have hF:=hem f (Ul f hf)
   refine⟨hF.op,hF.zero,hF.z,hF.val,hF.heap,⟨hF.nob.lt,hF.nob.ok,fun b m hb => ?_⟩,hF.new⟩
   rcases tU hb with hb | ⟨_,hb⟩
   ·exact hF.nob.ph b m hb
   ·exact(hde f hf).2.1 (congrArg Prod.fst (Option.some.inj hb)).symm
  ·have:rest ops (qO.setIfInBounds e.i true)=pre++post:=g2
   rw[this]; exact k2
theorem TF{listed:Array Bool}{i:Nat}(jm:listed.size=ops.size)(h1:i<ops.size)(h2:listed.getD i true=false):(rest ops listed).length=(rest ops (listed.setIfInBounds i true)).length+1:=by
 obtain⟨pre,post,g1,g2,_⟩:=bW (p:=fun i => !listed.getD i true) (q:=fun j => !(listed.setIfInBounds i true).getD j true) (i:=i) (List.range ops.size) List.pairwise_lt_range
  (List.mem_range.2 h1) (by simp[h2]) (fun j=>by
   rw[jf (by omega)]
   by_cases h:j=i
   ·subst h; simp
   ·simp[h])
 have e1:rest ops listed=pre++i::post:=g1
 have e2:rest ops (listed.setIfInBounds i true)=pre++post:=g2
 rw[e1,e2]
 simp only[List.length_append,List.length_cons]
 omega
theorem FR{listed:Array Bool}{i:Nat}(Is:bT ops.toList 0=true)(jm:listed.size=ops.size)(J8:QH ops listed)(h1:i<ops.size)
  (h3:∀ o,ops[i]? = some o→∀ e∈o.after.toList,Region.binds .any e=true→listed.getD e.on false=true) :
  (∀ p,ordered (xE ops.toList []) p i=true→p<ops.size→listed.getD p true=true)∧QH ops (listed.setIfInBounds i true):=by
 have Cf:∀ p,ordered (xE ops.toList []) p i=true→p<ops.size→listed.getD p true=true:=by
  intro p hp qu
  obtain⟨r,_,_,hb⟩:=pD ops.toList []
  obtain⟨e,k1,k2,k3⟩:=hb i ops[i] (by simp) p (by simpa[ordered]using hp)
  have hle:=h3 _ (Array.getElem?_eq_getElem h1) e k1 k2
  have Uj:=o9 ops.toList 0 Is i ops[i] (by simp) e k1 k2
  have YL:listed.getD e.on true=true:=by
   rw[Array.getD_eq_getD_getElem?]at hle ⊢
   rw[Array.getElem?_eq_getElem (by omega)]at hle ⊢
   exact hle
  rcases k3 with rfl | ⟨_,k3⟩
  ·exact YL
  ·exact J8 e.on (by omega) YL p k3 qu
 refine⟨Cf,fun q hq O6 p hp qu => ?_⟩
 rw[jf (by omega)]at O6 ⊢
 split
 ·rfl
 ·split at O6
  ·rename_i e; subst e; exact Cf p hp qu
  ·exact J8 q hq O6 p hp qu
theorem Bh{κ:KS}{a:Act}{es:List Em}{f:F}{e:Em}{v:Value}(hR:Rel κ n (yk es f) a):Rel κ n (yk (e::es) f) (a.put (some e.d) v):=by
 refine⟨by simp[Act.put,hR.size],hR.defers,fun u d hu => ?_⟩
 obtain⟨u1,u2⟩:=GZ hu
 have uv:e.d≠u:=u2 e List.mem_cons_self
 have:yk es f u=some d:=by rw[Xc fun g hg=>u2 g (List.mem_cons_of_mem _ hg)]; exact u1
 obtain⟨w,w1,w2⟩:=hR.get u d this
 exact⟨w,by simp[Act.put,Array.getElem?_setIfInBounds_ne uv]; exact w1,w2⟩
theorem Q4{kd:Nat→Nat}{Q:Exit→Act→World→Prop}(hC:∀ g,Dl c.P g (c.fn g))(Is:bT ops.toList 0=true)
  (jT:∀ p i,p<i→i<ops.size→ordered (xE ops.toList []) p i=true∨z1J ops kd p i) (gk:∀ i,i<ops.size→kd i≤2)
  (na:∀ p j,p<ops.size→iA ops p→j<ops.size→ordered (xE ops.toList []) p j=true→∀ q,q<ops.size→iA ops q→ordered (xE ops.toList []) q j=true)
  {κ0:KS} {a0:Act} {sf:F×St}:∀ (fuel:Nat) (listed qO:Array Bool) (es:List Em) {κ:KS} {a:Act} {s:F×St},
  listed.size=ops.size→qO.size=ops.size→fuel=(rest ops listed).length→QH ops listed→(∀ j,j<ops.size→qO.getD j true=true→listed.getD j true=true) →
  (∀ j,j<ops.size→listed.getD j true=true→qO.getD j true=false→∃ e∈es,e.i=j)→(∀ e∈es,e.i<ops.size∧listed.getD e.i true=true∧qO.getD e.i true=false)→es.Pairwise Dis →
  (∃ q,q<ops.size∧iA ops q∧listed.getD q true=false)→Inv κ→Rel κ n (yk es s.1) a→κ.st=s.2→Ext κ0 κ→(∀ e∈es,Ft c ops κ0 κ a e)→pR c n ops kd (rest ops qO) s sf→lq ops a0 a →
  (∀ (a':Act) (κ':KS),κ'.st=sf.2→Inv κ'→Ext κ0 κ'→Rel κ' n sf.1 a'→lq ops a0 a'→Q .normal a' κ'.w)→wpAny c.P .any ops Q fuel listed a κ.w
 | 0,listed,qO,es,κ,a,s,jm,hszA,hfuel,J8,h1,h2,h3,Iw,⟨q,q1,q2,q3⟩,hI,hR,xR,hx,hem,vZ,hkp,hQ=>by
  have OI:rest ops listed=[]:=List.eq_nil_of_length_eq_zero hfuel.symm
  have:q∈rest ops listed:=by simp only[rest,List.mem_filter,List.mem_range,Bool.not_eq_true']; exact⟨q1,q3⟩
  rw[OI]at this; cases this
 | fuel+1,listed,qO,es,κ,a,s,jm,hszA,hfuel,J8,h1,h2,h3,Iw,⟨q,q1,q2,q3⟩,hI,hR,xR,hx,hem,vZ,hkp,hQ=>by
  refine⟨fun h => ?_,fun i hi => ?_⟩
  ·have OI:=JW Is jm h
   have:q∈rest ops listed:=by simp only[rest,List.mem_filter,List.mem_range,Bool.not_eq_true']; exact⟨q1,q3⟩
   rw[OI]at this; cases this
  rw[nZ]at hi
  obtain⟨i1,i2,i3⟩:=hi
  obtain⟨Cf,Oa⟩:=FR Is jm J8 i1 i3
  have ET:fuel=(rest ops (listed.setIfInBounds i true)).length:=by have:=TF jm i1 i2; omega
  have hia:qO.getD i true=false:=by
   cases hb:qO.getD i true with
   | false=>rfl
   | true=>rw[h1 i i1 hb]at i2; cases i2
  have z09:∀ p,p<ops.size→iA ops p→ordered (xE ops.toList []) p i=true→False:=by
   intro p p1 p2 p3
   have:=Cf q (na p i p1 p2 i1 p3 q q1 q2) q1
   rw[q3]at this; cases this
  have lj:∀ j,(listed.setIfInBounds i true).getD j true=if j=i then true else listed.getD j true:=fun j=>jf (by omega)
  by_cases rv:iA ops i
  ·-- a new variable is laid
   obtain⟨o,ho,hao⟩:=rv
   obtain⟨t,d,o1,o2,o3⟩:=No hao
   have him:i∈rest ops qO:=by simp only[rest,List.mem_filter,List.mem_range,Bool.not_eq_true']; exact⟨i1,hia⟩
   obtain⟨t1,t2,hos⟩:=Cm vZ him
   obtain⟨D,d1,d2,_⟩:=JO ho o1 o2 o3 hos
   obtain⟨iz,z,z1,z2,z3⟩:=ig d1
   obtain⟨w1,w2,w3,w4⟩:=z1I hI (.cells z.cells t)
   let e:Em:=⟨i,d,κ.w.heap.size,t,z,D⟩
   have zcF:(execOp a.eval o).run c.P κ.w=.ok (.value (.pointer (some ⟨κ.w.heap.size,0,none⟩))) (κ.w.alloc (.cells z.cells t)):=by
    obtain⟨dst,op,ty,pos,after,guard⟩:=o
    cases o1
    simp[execOp,Instr.alloc,zeroValue,typeInfo,z1,z2,newVar,newRow]
   have zbE:Region.wanted o (yielded ops a.tmps)=true:=by unfold Region.wanted; rw[o2]
   unfold wpOp
   rw[ho]
   simp only
   rw[if_pos zbE]
   refine .inl ?_
   unfold Oper.wp
   rw[zcF]
   show wpAny c.P Region.Mode.any ops Q fuel (listed.setIfInBounds i true) (a.put o.dst (Value.pointer (some { block:=κ.w.heap.size,off:=0 }))) (κ.w.alloc (Obj.cells z.cells t))
   rw[o3]
   have uv:∀ f∈es,f.d≠d:=by
    intro f hf hfd
    obtain⟨f1,f2,f3⟩:=h3 f hf
    obtain⟨fo,fo1,fo2,fo3,fo4⟩:=(hem f hf).op
    have Dx:f.i≠i:=fun h=>by rw[h,i2]at f2; cases f2
    rcases Nat.lt_or_gt_of_ne Dx with qu | qu
    ·rcases jT f.i i qu i1 with h | h
     ·exact z09 f.i f1 ⟨fo,fo1,Bv fo2 fo3 fo4⟩ h
     ·exact(h fo o fo1 ho).1 f.d fo4 (hfd▸y4 o3)
    ·rcases jT i f.i qu f1 with h | h
     ·have:=J8 f.i f1 f2 i h i1; rw[i2]at this; cases this
     ·exact(h o fo ho fo1).1 d o3 (hfd▸y4 fo4)
   have zgY:Ft c ops κ0 { κ with w:=κ.w.alloc (.cells z.cells t) } (a.put (some d) (.pointer (some ⟨κ.w.heap.size,0,none⟩))) e :=
    ⟨⟨o,ho,o1,o2,o3⟩,d1,⟨iz,z1,z2,z3⟩,by simp[e,Act.put,hR.size,d2],w4,w3,hx.size⟩
   have z9y:∀ f∈e::es,Ft c ops κ0 { κ with w:=κ.w.alloc (.cells z.cells t) } (a.put (some d) (.pointer (some ⟨κ.w.heap.size,0,none⟩))) f:=by
    intro f hf
    rcases List.mem_cons.1 hf with rfl | hf
    ·exact zgY
    ·exact(hem f hf).mono w2 (by simp[Act.put,Array.getElem?_setIfInBounds_ne (fun e'=>uv f hf e'.symm)])
   have hR':Rel { κ with w:=κ.w.alloc (.cells z.cells t) } n (yk (e::es) s.1) (a.put (some d) (.pointer (some ⟨κ.w.heap.size,0,none⟩))):=Bh (e:=e) (hR.mono w2)
   have hdE:∀ f∈es,Dis e f:=by
    intro f hf
    unfold Dis
    refine⟨fun h => ?_,fun h => ?_,fun h=>uv f hf h.symm⟩
    ·have hf2:=(h3 f hf).2.1
     rw[← h]at hf2
     have i2':listed.getD e.i true=false:=i2
     rw[i2']at hf2
     cases hf2
    ·have hl:=(hem f hf).nob.lt
     rw[← h]at hl
     exact Nat.lt_irrefl _ hl
   have Li:(e::es).Pairwise Dis:=List.pairwise_cons.2 ⟨hdE,Iw⟩
   have zaK:lq ops a0 (a.put (some d) (.pointer (some ⟨κ.w.heap.size,0,none⟩))):=hkp.trans (by have:=rV (a:=a) (v:=.pointer (some ⟨κ.w.heap.size,0,none⟩)) ho; rw[o3]at this; exact this)
   have nG:∀ j,j<ops.size→qO.getD j true=true→(listed.setIfInBounds i true).getD j true=true:=fun j hj ha=>by
    rw[lj]; split
    ·rfl
    ·exact h1 j hj ha
   have h2':∀ j,j<ops.size→(listed.setIfInBounds i true).getD j true=true→qO.getD j true=false→∃ f∈e::es,f.i=j:=fun j hj hb ha=>by
    rw[lj]at hb
    split at hb
    ·rename_i h; exact⟨e,List.mem_cons_self,h.symm⟩
    ·obtain⟨f,hf,Dx⟩:=h2 j hj hb ha; exact⟨f,List.mem_cons_of_mem _ hf,Dx⟩
   have h3':∀ f∈e::es,f.i<ops.size∧(listed.setIfInBounds i true).getD f.i true=true∧qO.getD f.i true=false:=fun f hf=>by
    rcases List.mem_cons.1 hf with rfl | hf
    ·exact⟨i1,by rw[lj]; exact if_pos rfl,hia⟩
    ·obtain⟨f1,f2,f3⟩:=h3 f hf
     exact⟨f1,by rw[lj]; split<;>first | rfl | exact f2,f3⟩
   by_cases hmore:∃ q,q<ops.size∧iA ops q∧(listed.setIfInBounds i true).getD q true=false
   ·exact Q4 hC Is jT gk na fuel (listed.setIfInBounds i true) qO (e::es) (κ:={ κ with w:=κ.w.alloc (.cells z.cells t) }) (by simp[jm]) hszA ET Oa nG h2' h3' Li hmore w1 hR' xR (hx.trans w2) z9y vZ zaK hQ
   ·-- all are laid
    have z4B:∀ q,q<ops.size→iA ops q→(listed.setIfInBounds i true).getD q true=true:=fun q q1 q2=>by
     cases hb:(listed.setIfInBounds i true).getD q true with
     | true=>rfl
     | false=>exact(hmore ⟨q,q1,q2,hb⟩).elim
    obtain⟨κ',s',f1,f2,f3,f4,f5,f6⟩:=flush (c:=c) (n:=n) jT gk Oa z4B (e::es).length (e::es) qO { κ with w:=κ.w.alloc (.cells z.cells t) } s rfl hszA nG h2' h3' Li w1 hR' xR (hx.trans w2) z9y vZ
    have hgo:=JN (κ:=κ') hC Is fuel (listed.setIfInBounds i true) (Q:=Q) (fun p j hpj hj hp=>(jT p j hpj hj).elim .inl fun h=>.inr (BE h (gk p (by omega)) (gk j hj) fun hh=>by
     rw[z4B p (by omega) hh.1]at hp; cases hp)) (by simp[jm]) ET Oa f3 f5 f2 f6 fun a' Ol e1 e2 e3 e4 e5=>hQ a' Ol e1 e2 (f4.trans e3) e4 (zaK.trans e5)
    rw[f1]at hgo
    exact hgo
  ·-- another operation
   have z4D:∀ o,ops[i]? = some o→∀ e∈es,e.d ∉ tmpsOf ops o:=by
    intro o ho f hf
    obtain⟨f1,f2,f3⟩:=h3 f hf
    obtain⟨fo,fo1,fo2,fo3,fo4⟩:=(hem f hf).op
    have Dx:f.i≠i:=fun h=>by rw[h,i2]at f2; cases f2
    rcases Nat.lt_or_gt_of_ne Dx with qu | qu
    ·rcases jT f.i i qu i1 with h | h
     ·exact(z09 f.i f1 ⟨fo,fo1,Bv fo2 fo3 fo4⟩ h).elim
     ·exact(h fo o fo1 ho).1 f.d fo4
    ·rcases jT i f.i qu f1 with h | h
     ·have:=J8 f.i f1 f2 i h i1; rw[i2]at this; cases this
     ·exact(h o fo ho fo1).2.1 f.d fo4
   obtain⟨pre,post,g1,g2,g3⟩:=bW (p:=fun i => !qO.getD i true) (q:=fun j => !(qO.setIfInBounds i true).getD j true) (i:=i) (List.range ops.size) List.pairwise_lt_range
    (List.mem_range.2 i1) (by simp[hia]) (fun j=>by
     rw[jf (by omega)]
     by_cases h:j=i
     ·subst h; simp
     ·simp[h])
   have Rh:∀ p∈pre,Ind ops kd p i:=by
    intro p hp
    obtain⟨r1,r2,r3⟩:=g3 p hp
    have r2:=List.mem_range.1 r2
    have r1:qO.getD p true=false:=by simpa using r1
    rcases jT p i r3 i1 with h | h
    ·obtain⟨f,hf,Dx⟩:=h2 p r2 (Cf p h r2) r1
     obtain⟨fo,fo1,fo2,fo3,fo4⟩:=(hem f hf).op
     exact(z09 p r2 ⟨fo,by rw[← Dx]; exact fo1,Bv fo2 fo3 fo4⟩ h).elim
    ·exact BE h (gk p r2) (gk i i1) fun hh=>rv hh.2
   have Cr:pR c n ops kd (pre++i::post) s sf:=by
    have:rest ops qO=pre++i::post:=g1
    rw[← this]; exact vZ
   obtain⟨s1,k1,k2⟩:=JJ Rh Cr
   refine NZ (s:=(yk es s.1,s.2)) (s':=(yk es s1.1,s1.2)) hC hI hR xR (Fb k1 z4D) fun a1 κ1 e1 e2 e3 e4 e5 e6 => ?_
   have R6:∀ j,(qO.setIfInBounds i true).getD j true=if j=i then true else qO.getD j true:=fun j=>jf (by omega)
   refine Q4 hC Is jT gk na fuel (listed.setIfInBounds i true) (qO.setIfInBounds i true) es (κ:=κ1) (s:=s1) (by simp[jm]) (by simp[hszA]) ET Oa (fun j hj ha => ?_) (fun j hj hb ha => ?_) (fun f hf => ?_) Iw
    ⟨q,q1,q2,?_⟩ e2 e4 e1 (hx.trans e3) (fun f hf=>(hem f hf).mono e3 (e6 f.d fun o ho hod=>z4D o ho f hf (y4 hod))) ?_ (hkp.trans e5) hQ
   ·rw[R6]at ha; rw[lj]
    split
    ·rfl
    ·rename_i h; rw[if_neg h]at ha; exact h1 j hj ha
   ·rw[R6]at ha; rw[lj]at hb
    split at ha
    ·cases ha
    ·rename_i h; rw[if_neg h]at hb; exact h2 j hj hb ha
   ·obtain⟨f1,f2,f3⟩:=h3 f hf
    have Dx:f.i≠i:=fun h=>by rw[h,i2]at f2; cases f2
    exact⟨f1,by rw[lj,if_neg Dx]; exact f2,by rw[R6,if_neg Dx]; exact f3⟩
   ·have hqi:q≠i:=fun h=>rv (by rw[← h]; exact q2)
    rw[lj,if_neg hqi]; exact q3
   ·have:rest ops (qO.setIfInBounds i true)=pre++post:=g2
    rw[this]; exact k2
theorem Qi{kd:Nat→Nat}:∀ {l:List Oper} {ks:List Nat} {i j:Nat} {o:Oper},l[i]? = some o→ks[i]? = some (kd j)→(Jk l ks)[i]? = some (kd3 kd o j)
 | [],_,i,_,_,h,_=>by simp at h
 | _::_,[],i,_,_,_,h=>by simp at h
 | x::l,k::ks,0,j,o,h1,h2=>by simp at h1 h2; subst h1; subst h2; rfl
 | x::l,k::ks,i+1,j,o,h1,h2=>by
  have:=Qi (kd:=kd) (l:=l) (ks:=ks) (i:=i) (j:=j) (o:=o) (by simpa using h1) (by simpa using h2)
  simpa[Jk]using this
theorem Ha:∀ {l:List Oper} {k i:Nat} {o:Oper},l[i]? = some o→Vd o=true→k+i∈Km l k
 | [],_,_,_,h,_=>by simp at h
 | x::l,k,0,o,h1,h2=>by simp at h1; subst h1; simp[Km,h2]
 | x::l,k,i+1,o,h1,h2=>by
  have:=Ha (l:=l) (k:=k+1) (i:=i) (o:=o) (by simpa using h1) h2
  rw[show k+1+i=k+(i+1) by omega]at this
  simp only[Km]
  cases Vd x with
  | true=>exact List.mem_cons_of_mem _ this
  | false=>exact this
theorem Vv{kd:Nat→RK}:∀ (l:List Nat) (s s':F×St) (ks:List RK),IM c n ops l s s' ks→ks=l.map kd→Kl (fun i s s'=>ez c n ops i s s' (kd i)) l s s'
 | [],s,s',ks,h,_=>h.1
 | i::l,s,s',ks,⟨s1,k,Iy,e,h1,h2⟩,hk=>by
  subst e
  simp only[List.map_cons,List.cons.injEq]at hk
  obtain⟨rfl,hk⟩:=hk
  exact⟨s1,h1,Vv l s1 s' Iy h2 hk⟩
theorem Nk{κ:KS}{a:Act}{id:Nat}{draw:Bool}{fr:Fr}{kn:Kn}{s':fE}(hm:c.P.follows .mixedOrders=true)(hC:∀ g,Dl c.P g (c.fn g))(hI:Inv κ)(hR:Rel κ n fr.get a)(hk:u7 kn fr.get)
  (h:(ct c n ops draw fr kn κ.st).leads s') {Q:Exit→Act→World→Prop} (hQ:∀ (a':Act) (κ':KS),κ'.st=s'.st→Inv κ'→Ext κ κ'→Rel κ' n s'.fr.get a'→lq ops a a'→Q .normal a' κ'.w) :
  (Code.region id ops draw).wp c.P Q a κ.w∧u7 s'.kn s'.fr.get:=by
 simp only[ct,T.zY]at h
 obtain⟨s1,h1,h2⟩:=h
 obtain⟨ks,g1,g2,g3⟩:=pn ops.toList 0 ⟨fr,kn,κ.st,[],[]⟩ s1 (fun j=>.inl (by simp)) hk h1
 simp only[List.append_nil]at g3
 have hl:ops.toList.length=ops.size:=by simp
 rw[hl,← List.range_eq_range']at g1
 cases hd:(!draw||Q8 ops s1.ks.reverse s1.bk.reverse)with
 | false=>rw[hd]at h2; exact h2.elim
 | true =>
  rw[hd,cond_true]at h2
  cases h2
  refine⟨?_,g2⟩
  cases draw with
  | false=>exact wp_region (MO hC _ hI hR rfl g1 hQ)
  | true =>
   simp only[Bool.not_true,Bool.false_or,Q8,Bool.or_eq_true]at hd
   obtain⟨rks,r1,r3⟩:=VG (ops:=ops) ops.toList 0 ⟨fr,kn,κ.st,[],[]⟩ _ (fun j=>.inl (by simp)) hk h1
   simp only[List.append_nil]at r3
   rw[hl,← List.range_eq_range']at r1
   let kd:Nat→Nat:=fun i=>ks.getD i 0
   have FK:ks.length=ops.size:=by rw[CA _ _ _ _ g1]; simp
   have hks:ks=(List.range ops.size).map kd:=by
    apply List.ext_getElem?
    intro i
    by_cases hi:i<ops.size
    ·simp[kd,hi,List.getD,List.getElem?_eq_getElem (show i<ks.length by omega)]
    ·rw[List.getElem?_eq_none (by omega),List.getElem?_eq_none (by simp; omega)]
   have vZ:=KY (kd:=kd) _ _ _ _ g1 hks
   refine wp_region_any hm ?_
   let κd:KS:={ κ with w:=κ.w.drew }
   have hx:Ext κ κd:=⟨rfl,rfl,rfl,Nat.le_refl _,fun k hk=>⟨hk,rfl⟩,fun k hk=>.inl hk,fun _ _ _ h=>.inl h,fun b d h=>⟨⟨d,h⟩,rfl⟩,
    fun b v0 e xs h=>.inr ⟨v0,xs,h,Nat.le_refl _,fun _=>⟨rfl,rfl⟩⟩,fun _ h=>h,Nat.le_refl _,fun k _ _=>rfl⟩
   have hId:Inv κd:=⟨hI.len,hI.yi,hI.apart,hI.inj,fun b y hy=>(hI.blk b y hy).mono hx rfl fun _ _ _=>rfl,hI.gl.mono hx.same⟩
   have sP:rest ops (Array.replicate ops.size false)=List.range ops.size:=by
    unfold rest
    rw[List.filter_eq_self]
    intro i hi
    have:=List.mem_range.1 hi
    simp[Array.getD_eq_getD_getElem?,this]
   have GX:∀ j,j<ops.size→(Array.replicate ops.size false).getD j true=false:=fun j hj=>by simp[Array.getD_eq_getD_getElem?,hj]
   have z2S:QH ops (Array.replicate ops.size false):=fun q hq O6=>by rw[GX q hq]at O6; cases O6
   have CW:∀ i,i<ops.size→ks[i]? = some (kd i):=fun i hi=>by simp[kd,List.getD,List.getElem?_eq_getElem (show i<ks.length by omega)]
   have U4:∀ i (hi:i<ops.size),ops.toList[i]? = some ops[i]:=fun i hi=>by simp
   rcases hd with(hd | hd) | hd
   ·simp only[M8,Bool.and_eq_true]at hd
    obtain⟨d1,d2⟩:=hd
    rw[g3,List.reverse_reverse]at d2
    have jT:∀ p i,p<i→i<ops.size→ordered (xE ops.toList []) p i=true∨Ind ops kd p i:=by
     intro p i BJ hi
     have hp:=pd ops.toList ks 0 [] d2 i ops[i] (kd i) (U4 i hi) (CW i hi)
     have:=hp.2 p ops[p] (kd p) BJ (U4 p (by omega)) (CW p (by omega))
     simp only[Nat.zero_add]at this
     refine cp this (fun h=>h) fun hap x y hx hy => ?_
     rw[Array.getElem?_eq_getElem (by omega)]at hx hy
     cases hx
     cases hy
     exact hap
    exact JN (κ:=κd) hC d1 ops.size _ (fun p i h1 h2 _=>jT p i h1 h2) (by simp) (by rw[sP]; simp) z2S hId (hR.mono hx) rfl (by rw[sP]; exact vZ) fun a' κ' e1 e2 e3 e4 e5=>hQ a' κ' e1 e2 (hx.trans e3) e4 e5
   ·simp only[IJ,Bool.and_eq_true]at hd
    obtain⟨⟨⟨d1,d0⟩,d2⟩,d3⟩:=hd
    rw[g3,List.reverse_reverse]at d0 d2
    have gk:∀ i,i<ops.size→kd i≤2:=fun i hi=>Nat.le_of_ble_eq_true (List.all_eq_true.1 d0 _ (List.mem_of_getElem? (CW i hi)))
    have jT:∀ p i,p<i→i<ops.size→ordered (xE ops.toList []) p i=true∨z1J ops kd p i:=by
     intro p i BJ hi
     have hp:=pd ops.toList (Jk ops.toList ks) 0 [] d2 i ops[i] (kd3 kd ops[i] i) (U4 i hi) (Qi (U4 i hi) (CW i hi))
     have:=hp.2 p ops[p] (kd3 kd ops[p] p) BJ (U4 p (by omega)) (Qi (U4 p (by omega)) (CW p (by omega)))
     simp only[Nat.zero_add]at this
     refine cp this (fun h=>h) fun hap x y hx hy => ?_
     rw[Array.getElem?_eq_getElem (by omega)]at hx hy
     cases hx
     cases hy
     exact hap
    have na:∀ p j,p<ops.size→iA ops p→j<ops.size→ordered (xE ops.toList []) p j=true→∀ q,q<ops.size→iA ops q→ordered (xE ops.toList []) q j=true:=by
     intro p j hp hap hj ho q hq haq
     unfold D2 at d3
     have:=List.all_eq_true.1 d3 j (List.mem_range.2 (by simpa using hj))
     simp only[Bool.or_eq_true,Bool.not_eq_true',List.any_eq_false,List.all_eq_true]at this
     have hm:∀ r,iA ops r→r∈Km ops.toList 0:=fun r ⟨o,h1,h2⟩=>by
      have:=Ha (l:=ops.toList) (k:=0) (i:=r) (o:=o) (by rw[Array.getElem?_toList]; exact h1) h2
      rwa [Nat.zero_add]at this
     rcases this with h | h
     ·have:=h p (hm p hap); rw[ho]at this; exact absurd rfl this
     ·exact h q (hm q haq)
    by_cases hex:∃ q,q<ops.size∧iA ops q
    ·obtain⟨q,q1,q2⟩:=hex
     exact Q4 (κ0:=κd) (κ:=κd) (a0:=a) hC d1 jT gk na ops.size _ (Array.replicate ops.size false) [] (by simp) (by simp) (by rw[sP]; simp) z2S (fun j hj h=>by rw[GX j hj]at h; cases h)
      (fun j hj h _=>by rw[GX j hj]at h; cases h) (fun e he=>by cases he) .nil ⟨q,q1,q2,GX q q1⟩ hId (hR.mono hx) rfl (Ext.refl _) (fun e he=>by cases he) (by rw[sP]; exact vZ) (lq.refl _ _)
      fun a' κ' e1 e2 e3 e4 e5=>hQ a' κ' e1 e2 (hx.trans e3) e4 e5
    ·exact JN (κ:=κd) hC d1 ops.size _ (fun p i h1 h2 _=>(jT p i h1 h2).elim .inl fun h=>.inr (BE h (gk p (by omega)) (gk i h2) fun hh=>hex ⟨p,by omega,hh.1⟩)) (by simp) (by rw[sP]; simp) z2S hId (hR.mono hx) rfl (by rw[sP]; exact vZ) fun a' κ' e1 e2 e3 e4 e5=>hQ a' κ' e1 e2 (hx.trans e3) e4 e5
   ·simp only[MB,Bool.and_eq_true]at hd
    obtain⟨d1,d2⟩:=hd
    rw[r3,List.reverse_reverse]at d2
    let kr:Nat→RK:=fun i=>rks.getD i (.z 0)
    have hrl:rks.length=ops.size:=by rw[GV _ _ _ _ r1]; simp
    have zep:rks=(List.range ops.size).map kr:=by
     apply List.ext_getElem?
     intro i
     by_cases hi:i<ops.size
     ·simp[kr,hi,List.getD,List.getElem?_eq_getElem (show i<rks.length by omega)]
     ·rw[List.getElem?_eq_none (by omega),List.getElem?_eq_none (by simp; omega)]
    have z4u:∀ i,i<ops.size→rks[i]? = some (kr i):=fun i hi=>by simp[kr,List.getD,List.getElem?_eq_getElem (show i<rks.length by omega)]
    have zck:=Vv (kd:=kr) _ _ _ _ r1 zep
    have jT:∀ p i,p<i→i<ops.size→ordered (xE ops.toList []) p i=true∨z7X ops kr p i:=by
     intro p i BJ hi
     have hp:=pd ops.toList rks 0 [] d2 i ops[i] (kr i) (U4 i hi) (z4u i hi)
     have:=hp.2 p ops[p] (kr p) BJ (U4 p (by omega)) (z4u p (by omega))
     simp only[Nat.zero_add]at this
     refine cp this (fun h=>h) fun hap x y hx hy => ?_
     rw[Array.getElem?_eq_getElem (by omega)]at hx hy
     cases hx
     cases hy
     exact hap
    exact WR (κ:=κd) (Stp:=fun i s s'=>ez c n ops i s s' (kr i)) (In:=fun p i=>z7X ops kr p i) (fun i s s' h=>h.plain) (fun p i hi s s1 s2 h1 h2=>Ff hi h1 h2) hC d1 ops.size _ (fun p i h1 h2 _=>jT p i h1 h2) (by simp) (by rw[sP]; simp) z2S hId (hR.mono hx) rfl (by rw[sP]; exact zck) fun a' κ' e1 e2 e3 e4 e5=>hQ a' κ' e1 e2 (hx.trans e3) e4 e5
end
end Go.AM
namespace Go.AM
set_option linter.unusedSectionVars false
variable [uH] [BK]
def DR(κ:KS):Ex→Exit→Prop
 | .normal,e=>e=.normal
 | .exit id,e=>e=.exit id
 | .ret,e=>e=.ret
 | .cg d,e=>∃ v,e=.panic [{ v,recovered:=false }]∧RD κ d v
section
variable {c:Ctx} {n:Nat}
def vQ:Code→List (Nat×Code)
 | .seq a b=>vQ a++vQ b
 | .cond _ a b=>vQ a++vQ b
 | .block id (.loop b)=>[(id,b)]
 | .block _ a=>vQ a
 | _=>[]
theorem Oy{ops:Array Oper}{draw:Bool}{fr:Fr}{kn:Kn}{st:St}{s':fE}(hk:u7 kn fr.get)(h:(ct c n ops draw fr kn st).leads s'):u7 s'.kn s'.fr.get:=by
 simp only[ct,T.zY]at h
 obtain⟨s1,h1,h2⟩:=h
 obtain⟨ks,g1,g2,g3⟩:=pn ops.toList 0 ⟨fr,kn,st,[],[]⟩ s1 (fun j=>.inl (by simp)) hk h1
 cases hd:(!draw||Q8 ops s1.ks.reverse s1.bk.reverse)with
 | false=>rw[hd]at h2; exact h2.elim
 | true=>rw[hd,cond_true]at h2; cases h2; exact g2
theorem iF(f:F):u7 [] f:=fun t b h=>by cases h
theorem CE{id:Nat}{b:Code}(hb:∀ b',b≠.loop b'):vQ (.block id b)=vQ b:=by
 cases b<;>first | rfl | exact absurd rfl (hb _)
end
end Go.AM
namespace Go.AM
set_option linter.unusedSectionVars false
variable [uH] [BK]
section
variable {c:Ctx} {n:Nat}
theorem YY:∀ (ds:List D) (i s:Nat),(wL ds i).get s=if i≤s then ds[s-i]? else none
 | [],i,s=>by simp[wL,Fr.get]
 | d::r,i,s=>by
  simp only[wL,Fr.get]
  by_cases h:i=s
  ·subst h; simp
  ·rw[pC h,cond_false,YY r (i+1) s]
   by_cases h1:i+1≤s
   ·rw[if_pos h1,if_pos (by omega)]
    rw[show s-i=(s-(i+1))+1 by omega,List.getElem?_cons_succ]
   ·rw[if_neg h1,if_neg (by omega)]
theorem Wd{κ:KS}{args:List D}{qj:List Value}(h:xz κ args qj)(hn:args.length≤n) :
  Rel κ n (wL args 0).get { tmps:=qj.toArray++Array.replicate (n-qj.toArray.size) undef,defers:=BK.df }:=by
 have hl:=h.1
 refine⟨by simp; omega,rfl,fun s d hd => ?_⟩
 rw[YY]at hd
 simp only[Nat.zero_le,if_true,Nat.sub_zero]at hd
 obtain⟨v,h1,h2⟩:=h.get hd
 refine⟨v,?_,h2⟩
 have qu:=(List.getElem?_eq_some_iff.1 h1).1
 rw[Array.getElem?_append_left (by simpa using qu)]
 simpa using h1
theorem Q6{κ:KS}{fr:Fr}{a:Act}(hI:Inv κ)(hR:Rel κ n fr.get a):∀ (rvs:List ResultVar) (ds:List D),(dw c fr κ.st rvs).leads ds →
  ∃ vs:List Value,Sem.run c.P (rvs.mapM fun r=>match r with | ResultVar.tmp t=>(Pure.pure (a.tmps.getD t undef):Sem Value) | ResultVar.cell p t=>do loadVar t (← asAddr (a.tmps.getD p undef))) κ.w=Result.ok vs κ.w∧xz κ ds vs
 | [],ds,h=>by cases h; exact⟨[],by simp,.nil⟩
 | .tmp t::r,ds,h=>by
  simp only[dw]at h
  split at h
  ·rename_i d hd
   simp only[T.zY]at h
   obtain⟨l,hl,rfl⟩:=h
   obtain⟨v,h1,h2⟩:=hR.get t d hd
   obtain⟨vs,h3,h4⟩:=Q6 hI hR r l hl
   refine⟨v::vs,?_,.cons h2 h4⟩
   simp only[List.mapM_cons,Sem.run_bind,Sem.run_pure,Result.andThen_ok,h3]
   simp[Array.getD_eq_getD_getElem?,h1]
  ·exact h.elim
 | .cell p t::r,ds,h=>by
  simp only[dw]at h
  split at h
  ·rename_i b off hd
   split at h
   ·rename_i d hb
    split at h
    ·rename_i x hx
     simp only[T.zY]at h
     obtain⟨l,hl,rfl⟩:=h
     obtain⟨v,h1,h2⟩:=hR.get p _ hd
     obtain⟨vs,h3,h4⟩:=Q6 hI hR r l hl
     cases h2 with
     | ptr _ _ blk m d1 O3 hp =>
      obtain⟨mr,n',cs,T,g1,g2,g3,g4,g5⟩:=hI.blk b _ hb
      rw[hp]at g1
      cases g1
      obtain⟨u,e1,e2⟩:=KR (c:=c) (blk:=blk) 0 hx g4 g5.1 (fun j v hj=>by rw[tE g2]; simpa using hj)
      rw[Nat.zero_add]at e1
      refine⟨u::vs,?_,.cons e2 h4⟩
      have hA:(asAddr (a.tmps.getD p undef)).run c.P κ.w=.ok ⟨blk,off,none⟩ κ.w:=by simp[Array.getD_eq_getD_getElem?,h1,asAddr]
      simp only[List.mapM_cons,Sem.run_bind,hA,Result.andThen_ok,e1,h3,Sem.run_pure]
    ·exact h.elim
   ·exact h.elim
  ·exact h.elim
def TP:List Value→Value
 | [v]=>v
 | vs=>.tuple vs.toArray
theorem nX{κ:KS}{fr:Fr}{a:Act}{fn:Func}{ds:List D}(hI:Inv κ)(hR:Rel κ n fr.get a)(h:(dw c fr κ.st fn.results.toList).leads ds) :
  ∃ vs:List Value,(results fn a.tmps).run c.P κ.w=.ok (TP vs) κ.w∧xz κ ds vs:=by
 obtain⟨vs,h1,h2⟩:=Q6 hI hR _ _ h
 refine⟨vs,?_,h2⟩
 simp only[results,Array.mapM_eq_mapM_toList,Sem.run_bind,Sem.run_map]
 have key:∀ r:Result (List Value),r=.ok vs κ.w→((r.andThen fun a w'=>.ok a.toArray w').andThen fun a w'=>(Pure.pure (if h:a.size=1 then a[0]else .tuple a):Sem Value).run c.P w')=.ok (TP vs) κ.w:=by
  rintro _ rfl
  simp only[Result.andThen_ok,Sem.run_pure]
  congr 1
  match vs with
  | []=>rfl
  | [v]=>rfl
  | _::_::_=>rfl
 exact key _ h1
theorem Q7{κ:KS}{ds:List D}{vs:List Value}(h:xz κ ds vs):RD κ (gq ds) (TP vs):=by
 match ds,vs,h with
 | [],vs,h=>rw[h.qI]; exact .gK [] [] rfl (fun i h=>absurd h (Nat.not_lt_zero i))
 | [d],vs,h =>
  obtain⟨v,r,rfl,h1,h2⟩:=h.cons_inv
  rw[h2.qI]
  exact h1
 | d::e::r,vs,h =>
  obtain⟨v,us,rfl,h1,h2⟩:=h.cons_inv
  obtain⟨u,ws,rfl,h3,h4⟩:=h2.cons_inv
  exact .gK _ _ h.1 h.2
def KS.cut(κ:KS)(m:Nat):KS:={ κ with ph:=κ.ph.take m,st:=κ.st.take m }
theorem qs{α:Type}{l:List α}{m i:Nat}{a:α}(h:l[i]? = some a)(hi:i<m):(l.take m)[i]? = some a:=by rw[List.getElem?_take,if_pos hi]; exact h
theorem br{α:Type}{l:List α}{m i:Nat}{a:α}(h:(l.take m)[i]? = some a):l[i]? = some a∧i<m:=by
 rw[List.getElem?_take]at h
 split at h
 ·rename_i hi; exact⟨h,hi⟩
 ·cases h
theorem fb{κ:KS}{m:Nat}{d:D}{v:Value}(h:RD κ d v)(hd:vN m d=true):RD (κ.cut m) d v:=by
 cases h with
 | zU τ y cs h=>exact .zU τ y cs h
 | xJ e a=>exact .xJ e a
 | tight e l ne blk off f uv wm h hc=>exact .tight e l ne blk off f uv wm h hc
 | xw=>exact .xw
 | yI=>exact .yI
 | wb=>exact .wb
 | u9=>exact .u9
 | vX=>exact .vX
 | ZV v h=>exact .ZV v h
 | dp T=>exact .dp T
 | dU b T d hb=>exact .dU b T d (qs hb (Nat.le_of_ble_eq_true hd))
 | dD b T blk n d hb h=>exact .dD b T blk n d (qs hb (Nat.le_of_ble_eq_true hd)) (qs h (Nat.le_of_ble_eq_true hd))
 | ptr b off blk n d hb h=>exact .ptr b off blk n d (qs hb (Nat.le_of_ble_eq_true hd)) (qs h (Nat.le_of_ble_eq_true hd))
 | xx τ y cs blk off wm h hc=>exact .xx τ y cs blk off wm h hc
 | uC b qY e idx off blk o hb h =>
  have qu:b<m:=Nat.le_of_ble_eq_true hd
  refine .uC b qY e idx off blk o (cp hb (fun h=>qs h qu) ?_) fun xs hx hi => ?_
  ·rintro⟨v0,e0,x0,h1,h2⟩; exact⟨v0,e0,x0,qs h1 qu,h2⟩
  ·obtain⟨n,h1,h2⟩:=h xs (br hx).1 hi
   exact⟨n,qs h1 qu,h2⟩
 | ms b qY e off len cap a hb wH ha Z1 h =>
  have qu:b<m:=Nat.le_of_ble_eq_true hd
  refine .ms b qY e off len cap a (cp hb (fun h=>qs h qu) ?_) wH ha Z1 fun xs hx => ?_
  ·rintro⟨v0,e0,x0,h1,h2⟩; exact⟨v0,e0,x0,qs h1 qu,h2⟩
  ·obtain⟨h1,h2⟩:=h xs (br hx).1
   refine⟨h1,cp h2 ?_ ?_⟩
   ·rintro⟨g1,g2,g3,g4⟩; exact⟨g1,g2,g3,qs g4 qu⟩
   ·rintro⟨blk,n,o,Uy,g1,g2⟩; exact⟨blk,n,o,Uy,qs g1 qu,g2⟩
 | xr=>cases hd
 | agg=>cases hd
 | gK=>cases hd
 | iface=>cases hd
theorem F4{κ:KS}{m:Nat}{d:D}{v:Value}(h:RD κ d v)(hd:bO m d=true):RD (κ.cut m) d v:=by
 cases d with
 | xr f l =>
  cases h with
  | xr _ _ vs hl hh =>
   simp only[bO,List.all_eq_true]at hd
   exact .xr f l vs hl fun i h1 h2=>fb (hh i h1 h2) (hd _ (List.getElem_mem h1))
 | agg l =>
  cases h with
  | agg _ vs hl ho hh =>
   simp only[bO,List.all_eq_true]at hd
   exact .agg l vs hl ho fun i h1 h2=>fb (hh i h1 h2) (hd _ (List.getElem_mem h1))
 | gK l=>cases hd
 | iface t d =>
  cases h with
  | iface _ _ v h=>exact .iface t _ v (fb h hd)
 | _=>exact fb h hd
theorem LG{κ:KS}{m:Nat}{l:List D}{vs:List Value}(h:xz κ l vs)(hd:∀ d∈l,bO m d=true):xz (κ.cut m) l vs:=⟨h.1,fun i h1 h2=>F4 (h.2 i h1 h2) (hd _ (List.getElem_mem h1))⟩
theorem HC{m:Nat}{d:D}(h:bO m d=true):∀ x∈qt d,bO m x=true:=by
 have Wx:∀ (τ:Ty) (x:den τ),∀ y∈flat τ x,bO m y=true:=by
  intro τ x y hy
  have:=dK τ x y hy
  have:∃ σ z,y=.zU σ z:=by
   clear this h
   induction τ with
   | cons a b ia ib =>
    simp only[flat,List.mem_append]at hy
    rcases hy with hy | hy
    ·exact ia _ hy
    ·exact ib _ hy
   | nil=>simp[flat]at hy
   | expr=>simp[flat]at hy; rcases hy with rfl | rfl | rfl | rfl | rfl | rfl<;>exact⟨_,_,rfl⟩
   | _=>simp[flat]at hy; subst hy; exact⟨_,_,rfl⟩
  obtain⟨σ,z,rfl⟩:=this
  rfl
 cases d with
 | zU τ x=>exact Wx τ x
 | agg l =>
  intro x hx
  simp only[bO,List.all_eq_true]at h
  have:=h x hx
  cases x<;>first | exact this | cases this
 | gK l=>cases h
 | _=>intro x hx; simp[qt]at hx; subst hx; exact h
theorem z2b{κ:KS}{m:Nat}(hI:Inv κ)(hc:∀ x∈κ.st.take m,Hk m x=true):Inv (κ.cut m):=by
 refine⟨by simp[KS.cut,hI.len],hI.yi,fun b blk n h=>hI.apart b blk n (br h).1,fun b b' blk n n' h h'=>hI.inj b b' blk n n' (br h).1 (br h').1,fun b x h => ?_,hI.gl⟩
 obtain⟨h1,h2⟩:=br h
 have hb:=hI.blk b x h1
 have hcx:=hc x (List.mem_of_getElem? h)
 cases x with
 | dead=>trivial
 | var d =>
  obtain⟨blk,n,cs,t,g1,g2,g3,g4,g5⟩:=hb
  exact⟨blk,n,cs,t,qs g1 h2,g2,g3,LG g4 (HC hcx),g5⟩
 | arr qY e xs =>
  obtain⟨h0,hb⟩:=hb
  refine⟨h0,cp hb (fun h=>⟨h.1,qs h.2 h2⟩) ?_⟩
  rintro⟨blk,n,cs,t,g1,g2⟩
  exact⟨blk,n,cs,t,qs g1 h2,g2⟩
end
end Go.AM
namespace Go.AM
set_option linter.unusedSectionVars false
variable [uH]
section
variable {c:Ctx}
theorem k9{P:Program}{f:Nat}{fn:Func}{args:Array Value}(hf:P.funcs[f]? = some fn) (hn:(fn.name == "runtime.NumGoroutine")=false) (hb:fn.body.isNone=false) (w:World) :
  (callFunc f args).run P w=.ok (.enter f args) w:=by
 simp only[callFunc,Sem.run_bind,run_program,Result.andThen_ok,hf,hn,hb,Bool.false_eq_true,if_false,Sem.run_pure]
theorem OW{κ κe:KS}(hI:Inv κ)(xR:κ.st=[])(hIe:Inv κe)(hx:Ext κ κe):Inv (κe.bare (P9 κe))∧Ext κ (κe.bare (P9 κe)):=by
 have VL:κ.ph=[]:=List.eq_nil_of_length_eq_zero (by rw[hI.len,xR]; rfl)
 have qu:∀ k,P9 κe k→k<κe.w.heap.size:=by
  rintro k (hk | ⟨b,n,hk⟩)
  ·exact hIe.yi k hk
  ·exact(hIe.apart b k n hk).1
 refine⟨Jv hIe (fun _ h=>.inl h) qu,hx.os,hx.tape,hx.output,hx.size,fun k hk=>⟨.inl (hx.same k hk).1,(hx.same k hk).2⟩,?_,fun b blk n h=>by simp[KS.bare]at h,fun b d h=>by rw[xR]at h; simp at h,
  fun b v0 e xs h=>by rw[xR]at h; simp at h,fun b h=>by rw[xR]at h; simp at h,by rw[xR]; exact Nat.zero_le _,hx.frame⟩
 rintro k (hk | ⟨b,n,hk⟩)
 ·exact hx.fresh k hk
 ·rcases hx.phs b k n hk with h | h
  ·rw[VL]at h; simp at h
  ·exact .inr (.inl h)
end
end Go.AM
namespace Go.AM
set_option linter.unusedSectionVars false
variable [uH] [BK]
open Go.RowKit
def z2g(s:Nat)(fr:Fr)(st:St):T (Fr×St):=match fr.get s with
 | some (.ms b qY e off len)=>match st[b]? with
  | some (.arr kT e' xs)=>match(vW (a:=.sl e') (b:=.sl e) xs:Option (List (den e)))with
   | some ys=>.zd (qY=kT) (.ret ((s,some (.zU (.sl e) ((ys.take (off+len)).drop off)))::fr,st.set b .dead))
   | none=>.fail
  | _=>.fail
 | _=>.ret (fr,st)
def z2N(j i:Nat)(fr:Fr)(st:St):T (Fr×St):=match st[j]? with
 | some (.var (.agg ds))=>match ds[i]? with
  | some (.ms b qY e off len)=>match st[b]? with
   | some (.arr kT e' xs)=>match(vW (a:=.sl e') (b:=.sl e) xs:Option (List (den e)))with
    | some ys=>.zd (qY=kT) (.ret (fr,(st.set b .dead).set j (.var (.agg (ds.set i (.zU (.sl e) ((ys.take (off+len)).drop off)))))))
    | none=>.fail
   | _=>.fail
  | _=>.ret (fr,st)
 | _=>.ret (fr,st)
def z2o(s:Nat)(fr:Fr)(st:St):T (Fr×St):=bif Nat.ble 1000000 s then z2N ((s-1000000) / 1000) ((s-1000000) % 1000) fr st else z2g s fr st
def frz:List Nat→Fr→St→T (Fr×St)
 | [],fr,st=>.ret (fr,st)
 | s::r,fr,st=>(z2o s fr st).bind fun x=>frz r x.1 x.2
section
variable {c:Ctx} {κ:KS} {n:Nat}
theorem zap{b qY off len:Nat}{e:Ty}{xs:List (den e)}{v:Value}(hI:Inv κ)(h:RD κ (.ms b qY e off len) v)(hb:κ.st[b]? = some (.arr qY e xs)){Vi:Nat→Prop}(h1:∀ k,κ.ok k→Vi k)(h2:∀ k n,κ.ph[b]? = some (some (k,n))→Vi k) :
  Rc κ.w Vi (.sl e) ((xs.take (off+len)).drop off) [v]:=by
 obtain⟨YQ,_⟩:=F6 hI h hb
 obtain⟨a,cap,f,hve,wH,hn,g1,g2⟩:=YQ.ex
 have Nt:∀ blk o:Nat,v=.slice (some ⟨blk,o,none⟩) ((xs.take (off+len)).drop off).length cap→Vi blk:=by
  intro blk o he
  cases h with
  | ms _ _ _ _ _ Uy a' hold zb3 ha Z1 hm =>
   obtain⟨_,hm⟩:=hm xs hb
   rcases hm with⟨_,_,hv,_⟩ | ⟨mr,n',o',ziI,h3,h4,_⟩
   ·rw[hv]at he
    injection he with e1 e2 e3
    cases e1
   ·rw[h4]at he
    injection he with e1 e2 e3
    cases e1
    exact h2 _ _ h3
 rw[hve]
 cases a with
 | none=>obtain⟨k1,k2⟩:=hn rfl; rw[k1,k2]; exact .iG e none
 | some p =>
  rcases g2 p rfl with⟨k1,k2⟩ | ⟨hp,_,hc⟩
  ·rw[k1,k2]; exact .iG e _
  ·obtain⟨blk,o,sp⟩:=p
   simp only at hp
   subst hp
   exact .sl e _ blk o cap f (Nt blk o hve) wH (fun i hi=>(g1 i hi).mono fun k hk=>⟨h1 k hk,rfl⟩) hc
theorem N0{b qY:Nat}{e:Ty}{xs:List (den e)}(hb:κ.st[b]? = some (.arr qY e xs))(hI:Inv κ):∃ κ':KS,κ'.w=κ.w∧κ'.st=κ.st.set b .dead∧Inv κ'∧Ext κ κ' ∧
  ∀ (off len:Nat) (v:Value),RD κ (.ms b qY e off len) v→RD κ' (.zU (.sl e) ((xs.take (off+len)).drop off)) v:=by
 have qu:b<κ.st.length:=(List.getElem?_eq_some_iff.1 hb).1
 let κ':KS:=⟨κ.w,fun k=>κ.ok k∨∃ n,κ.ph[b]? = some (some (k,n)),κ.ph.set b none,κ.st.set b .dead⟩
 have xR:∀ i,i≠b→κ'.st[i]? = κ.st[i]? := fun i hi=>by show(κ.st.set b .dead)[i]? = _; rw[List.getElem?_set_ne (fun e=>hi e.symm)]
 have VL:∀ i,i≠b→κ'.ph[i]? = κ.ph[i]? := fun i hi=>by show(κ.ph.set b none)[i]? = _; rw[List.getElem?_set_ne (fun e=>hi e.symm)]
 have z2x:∀ (i blk m:Nat),κ'.ph[i]? = some (some (blk,m))→i≠b∧κ.ph[i]? = some (some (blk,m)):=by
  intro i blk m hi
  by_cases BG:i=b
  ·subst BG
   have:(κ.ph.set i none)[i]? = some (some (blk,m)):=hi
   rw[List.getElem?_set_self (by rw[hI.len]; exact qu)]at this
   cases this
  ·exact⟨BG,by rw[← VL i BG]; exact hi⟩
 have hx:Ext κ κ':=by
  refine⟨rfl,rfl,rfl,Nat.le_refl _,fun k hk=>⟨.inl hk,rfl⟩,?_,fun i blk m hi=>.inl (z2x i blk m hi).2,?_,?_,?_,by show _≤(κ.st.set b .dead).length; simp,fun _ _ _=>rfl⟩
  ·rintro k (hk | ⟨m,hk⟩)
   ·exact .inl hk
   ·exact .inr (.inr ⟨b,m,hk⟩)
  ·intro i d hi
   have BG:i≠b:=fun e=>by subst e; rw[hb]at hi; cases hi
   exact⟨⟨d,by rw[xR i BG]; exact hi⟩,VL i BG⟩
  ·intro i v0 e0 ri hi
   by_cases BG:i=b
   ·subst BG; exact .inl (by show(κ.st.set i .dead)[i]? = _; rw[List.getElem?_set_self qu])
   ·exact .inr ⟨v0,ri,by rw[xR i BG]; exact hi,Nat.le_refl _,fun _=>⟨VL i BG,rfl⟩⟩
  ·intro i hi
   have BG:i≠b:=fun e=>by subst e; rw[hb]at hi; cases hi
   rw[xR i BG]; exact hi
 have hI':Inv κ':=by
  refine⟨by show(κ.ph.set b none).length=(κ.st.set b .dead).length; simp[hI.len],?_,?_,?_,?_,hI.gl.mono hx.same⟩
  ·rintro k (hk | ⟨m,hk⟩)
   ·exact hI.yi k hk
   ·exact(hI.apart b k m hk).1
  ·intro i blk m hi
   obtain⟨BG,Yp⟩:=z2x i blk m hi
   obtain⟨g1,g2⟩:=hI.apart i blk m Yp
   refine⟨g1,?_⟩
   rintro(hk | ⟨m',hk⟩)
   ·exact g2 hk
   ·exact BG (hI.inj i b blk m m' Yp hk)
  ·intro i i' blk m m' hi Yp
   exact hI.inj i i' blk m m' (z2x i blk m hi).2 (z2x i' blk m' Yp).2
  ·intro i B hB
   by_cases BG:i=b
   ·subst BG
    have:(κ.st.set i .dead)[i]? = some B:=hB
    rw[List.getElem?_set_self qu]at this
    cases this
    trivial
   ·rw[xR i BG]at hB
    exact(hI.blk i B hB).mono hx (VL i BG) fun _ _ _=>rfl
 exact⟨κ',rfl,rfl,hI',hx,fun off len v hd=>RD.nD rfl (zap hI hd hb (fun k hk=>.inl hk) fun k m hk=>.inr ⟨m,hk⟩)⟩
theorem z2i{s:Nat}{fr:Fr}{a:Act}{r:Fr×St}(h:(z2g s fr κ.st).leads r)(hI:Inv κ)(hR:Rel κ n fr.get a):∃ κ':KS,κ'.w=κ.w∧κ'.st=r.2∧Inv κ'∧Ext κ κ'∧Rel κ' n r.1.get a:=by
 unfold z2g at h
 split at h
 ·rename_i b qY e off len hs
  split at h
  ·rename_i kT e' xs hb
   split at h
   ·rename_i ys hy
    obtain⟨he,hx⟩:=qE hy
    cases he
    cases hx
    obtain⟨rfl,h⟩:=h
    cases h
    obtain⟨v,hv,hd⟩:=hR.get s _ hs
    obtain⟨κ',e1,e2,hI',hx,hk⟩:=N0 hb hI
    refine⟨κ',e1,e2,hI',hx,hR.size,hR.defers,fun t d yZ => ?_⟩
    simp only[Fr.get]at yZ
    cases ht:Nat.beq s t with
    | true =>
     rw[ht,cond_true]at yZ
     cases yZ
     rw[← Nat.eq_of_beq_eq_true ht]
     exact⟨v,hv,hk _ _ _ hd⟩
    | false =>
     rw[ht,cond_false]at yZ
     obtain⟨u,g1,g2⟩:=hR.get t d yZ
     exact⟨u,g1,g2.mono hx⟩
   ·exact h.elim
  ·exact h.elim
 ·cases h; exact⟨κ,rfl,rfl,hI,Ext.refl κ,hR⟩
theorem O5{ds:List D}{i b qY off len:Nat}{e:Ty}{d':D}(hd:ds[i]? = some (.ms b qY e off len))(hn:b7 [d']=none){T:Nat}(h:b7 (ds.set i d')=some T):b7 ds=some T:=by
 cases ds with
 | nil=>cases hd
 | cons x r =>
  cases i with
  | zero =>
   rw[List.set_cons_zero]at h
   have:b7 (d'::r)=b7 [d']:=by cases d'<;>rfl
   rw[this,hn]at h
   cases h
  | succ i =>
   rw[List.set_cons_succ]at h
   have:∀ r':List D,b7 (x::r')=b7 [x]:=by intro r'; cases x<;>rfl
   rw[this]at h ⊢
   exact h
theorem z3V{j i:Nat}{fr:Fr}{a:Act}{r:Fr×St}(h:(z2N j i fr κ.st).leads r)(hI:Inv κ)(hR:Rel κ n fr.get a):∃ κ':KS,κ'.w=κ.w∧κ'.st=r.2∧Inv κ'∧Ext κ κ'∧Rel κ' n r.1.get a:=by
 unfold z2N at h
 split at h
 ·rename_i ds hj
  split at h
  ·rename_i b qY e off len hi
   split at h
   ·rename_i kT e' xs hb
    split at h
    ·rename_i ys hy
     obtain⟨he,hx⟩:=qE hy
     cases he
     cases hx
     obtain⟨rfl,h⟩:=h
     cases h
     obtain⟨κ1,e1,e2,Wy,hx1,hk⟩:=N0 hb hI
     have hjb:j≠b:=fun q=>by subst q; rw[hb]at hj; cases hj
     have hj1:κ1.st[j]? = some (.var (.agg ds)):=by rw[e2,List.getElem?_set_ne (fun q=>hjb q.symm)]; exact hj
     have MV:j<κ1.st.length:=(List.getElem?_eq_some_iff.1 hj1).1
     let d':D:=.zU (.sl e) ((xs.take (off+len)).drop off)
     let κ2:KS:={ κ1 with st:=κ1.st.set j (.var (.agg (ds.set i d'))) }
     have xR:∀ k,k≠j→κ2.st[k]? = κ1.st[k]? := fun k hk=>by show(κ1.st.set j _)[k]? = _; rw[List.getElem?_set_ne (fun q=>hk q.symm)]
     have z9R:κ2.st[j]? = some (.var (.agg (ds.set i d'))):=by show(κ1.st.set j _)[j]? = _; rw[List.getElem?_set_self MV]
     have Ef:Ext κ1 κ2:=by
      refine⟨rfl,rfl,rfl,Nat.le_refl _,fun k hk=>⟨hk,rfl⟩,fun k hk=>.inl hk,fun k blk m hk=>.inl hk,?_,?_,?_,by show _≤(κ1.st.set j _).length; simp,fun _ _ _=>rfl⟩
      ·intro k d hk
       by_cases q:k=j
       ·subst q; exact⟨⟨_,z9R⟩,rfl⟩
       ·exact⟨⟨d,by rw[xR k q]; exact hk⟩,rfl⟩
      ·intro k v0 e0 ri hk
       have q:k≠j:=fun q=>by subst q; rw[hj1]at hk; cases hk
       exact .inr ⟨v0,ri,by rw[xR k q]; exact hk,Nat.le_refl _,fun _=>⟨rfl,rfl⟩⟩
      ·intro k hk
       have q:k≠j:=fun q=>by subst q; rw[hj1]at hk; cases hk
       rw[xR k q]; exact hk
     have hI2:Inv κ2:=by
      refine⟨by show κ1.ph.length=(κ1.st.set j _).length; simp[Wy.len],Wy.yi,Wy.apart,Wy.inj,?_,Wy.gl⟩
      intro k B hB
      by_cases q:k=j
      ·subst q
       rw[z9R]at hB
       cases hB
       obtain⟨blk,m,cs,t,g1,g2,g3,g4,g5,g6⟩:=hI.blk k _ hj
       obtain⟨mr,m',lz,t',p1,p2,p3,p4,p5,p6⟩:=Wy.blk k _ hj1
       have VL:κ1.ph[k]? = κ.ph[k]? := (hx1.var k _ hj).2
       rw[VL,g1]at p1
       cases p1
       rw[e1,g2]at p2
       cases p2
       refine⟨blk,m,cs,t,VL.trans g1,by show κ1.w.heap[blk]? = _; rw[e1]; exact g2,g3,?_,?_,fun T hT=>g6 T (O5 hi rfl hT)⟩
       ·have p4':xz κ2 ds cs.toList:=xz.mono Ef p4
        refine⟨by show(ds.set i d').length=_; rw[List.length_set]; exact p4'.1,fun k' h1 h2 => ?_⟩
        have nG:k'<(ds.set i d').length:=h1
        rw[List.length_set]at nG
        show RD κ2 ((ds.set i d')[k']) _
        by_cases q:i=k'
        ·subst q
         have hdi:ds[i]'nG=.ms b qY e off len:=Option.some.inj ((List.getElem?_eq_getElem nG).symm.trans hi)
         have:=g4.2 i nG h2
         have Dx:(qt (D.agg ds))[i]'nG=.ms b qY e off len:=hdi
         rw[Dx]at this
         have e3:(ds.set i d')[i]'h1=d':=List.getElem_set_self _
         rw[e3]
         exact(hk _ _ _ this).mono Ef
        ·have e3:(ds.set i d')[k']'h1=ds[k']'nG:=List.getElem_set_ne q _
         rw[e3]
         exact p4'.2 k' nG h2
       ·intro x hx
        rcases List.mem_or_eq_of_mem_set hx with hx | rfl
        ·exact g5 x hx
        ·rfl
      ·rw[xR k q]at hB
       exact(Wy.blk k B hB).mono Ef rfl fun _ _ _=>rfl
     refine⟨κ2,e1,by show κ1.st.set j _=_; rw[e2],hI2,hx1.trans Ef,hR.size,hR.defers,fun t d yZ => ?_⟩
     obtain⟨u,q1,q2⟩:=hR.get t d yZ
     exact⟨u,q1,(q2.mono hx1).mono Ef⟩
    ·exact h.elim
   ·exact h.elim
  ·cases h; exact⟨κ,rfl,rfl,hI,Ext.refl κ,hR⟩
 ·cases h; exact⟨κ,rfl,rfl,hI,Ext.refl κ,hR⟩
theorem z13{s:Nat}{fr:Fr}{a:Act}{r:Fr×St}(h:(z2o s fr κ.st).leads r)(hI:Inv κ)(hR:Rel κ n fr.get a):∃ κ':KS,κ'.w=κ.w∧κ'.st=r.2∧Inv κ'∧Ext κ κ'∧Rel κ' n r.1.get a:=by
 unfold z2o at h
 cases hb:Nat.ble 1000000 s with
 | true=>rw[hb,cond_true]at h; exact z3V h hI hR
 | false=>rw[hb,cond_false]at h; exact z2i h hI hR
theorem T0:∀ (l:List Nat) {fr:Fr} {κ:KS} {a:Act} {r:Fr×St},(frz l fr κ.st).leads r→Inv κ→Rel κ n fr.get a→∃ κ':KS,κ'.w=κ.w∧κ'.st=r.2∧Inv κ'∧Ext κ κ'∧Rel κ' n r.1.get a
 | [],fr,κ,a,r,h,hI,hR=>by cases h; exact⟨κ,rfl,rfl,hI,Ext.refl κ,hR⟩
 | s::l,fr,κ,a,r,h,hI,hR=>by
  simp only[frz,T.zY]at h
  obtain⟨x,h1,h2⟩:=h
  obtain⟨κ1,e1,e2,e3,e4,e5⟩:=z13 h1 hI hR
  rw[← e2]at h2
  obtain⟨κ2,g1,g2,g3,g4,g5⟩:=T0 l h2 e3 e5
  exact⟨κ2,g1.trans e1,g2,g3,e4.trans g4,g5⟩
end
end Go.AM