/-
  The abstract machine, part C: texts of our own, the same for each claim.
-/
import Derived.Test.YthhgaidlooddpaaGreatDoorAmB
import Derived.Deep.LoopGhost
set_option linter.unusedVariables false
namespace Go.AM
set_option linter.unusedSectionVars false
variable [vi]
abbrev F:=Nat->Option D
def zW(f:F):Operand->Option D
 | .tmp t=>f t
 | .const v=>ri v
 | .global _=>none
 | .func g=>bif Nat.blt g 1000000 then some (.qE g [])else none
theorem kv(fr:Fr):vN fr=zW fr.get:=by rfl
def j8(f:F)(dst:Option Nat)(d:Option D):F:=match dst with
 | some t=>λs=>if s=t then d else f s
 | none=>f
theorem dH{a b:Nat}(h:a≠b):Nat.beq a b=false:=by
 cases hb:Nat.beq a b with
 | false=>rfl
 | true=>exact absurd (Nat.eq_of_beq_eq_true hb) h
theorem dt(fr:Fr)(dst:Option Nat)(d:Option D):(fr.put dst d).get=j8 fr.get dst d:=by
 cases dst with
 | none=>rfl
 | some t =>
  funext s
  simp only[Fr.put,Fr.get,j8]
  by_cases h:s=t
  ·subst h; simp
  ·rw[if_neg h,dH (λe=>h e.symm),cond_false]
section
variable (c:Ctx) (n:Nat) (ops:Array Oper)
def xF(f:F)(o:Oper):Option Bool:=match o.guard with
 | none=>some true
 | some (j,w)=>match vK ops j with
  | none=>none
  | some t=>match f t with
   | some (.zx .bool b)=>some (b==w)
   | some (.jW [])=>some false
   | _=>none
def jY(i:Nat)(s s':F×St)(k:Nat):Prop:=∃ o,ops[i]? = some o/\ve n o.dst=true /\
 ((xF ops s.1 o=some true/\k=(qm c (zW s.1) o).kind/\∃ d zl,(zr (qm c (zW s.1) o) s.2).leads (d,zl)/\s'=(j8 s.1 o.dst d,zl)) \/
  (xF ops s.1 o=some false/\k=0/\s'=(j8 s.1 o.dst (some Ce),s.2)))
def CU:List Nat->F×St->F×St->List Nat->Prop
 | [],s,s',ks=>s'=s/\ks=[]
 | i::l,s,s',ks=>∃ s1 k Kh,ks=k::Kh/\jY c n ops i s s1 k/\CU l s1 s' Kh
end
section
variable {c:Ctx} {n:Nat} {ops:Array Oper}
def wP(kn:Kn)(f:F):Prop:=∀ t b,kn.get t=some b->f t=some (.zx .bool b)
theorem Z9(t:Nat)(b:Option Bool)(kn:Kn)(s:Nat):Kn.get ((t,b)::kn) s=if s=t then b else kn.get s:=by
 simp only[Kn.get]
 by_cases h:s=t
 ·subst h; simp
 ·rw[if_neg h,dH (λe=>h e.symm),cond_false]
theorem yp{kn:Kn}{f:F}(h:wP kn f){x:Operand}{b:Bool}(hx:gm kn x=some b):zW f x=some (.zx .bool b):=by
 unfold gm at hx
 split at hx
 ·exact h _ _ hx
 ·cases hx; rfl
 ·cases hx
theorem Ju{kn:Kn}{fr:Fr}{o:Oper}(hk:wP kn fr.get){st:St}{r:Option D×St}(h:(zr (ep c kn fr o) st).leads r) :
  (zr (qm c (zW fr.get) o) st).leads r/\(ep c kn fr o).kind=(qm c (zW fr.get) o).kind/\∀ b,Qh kn o.op=some b->r.1=some (.zx .bool b):=by
 obtain⟨dst,op,ty,pos,after,guard⟩:=o
 rw[<- kv]
 cases op with
 | pick x a b =>
  simp only[ep]at h ⊢
  cases hx:gm kn x with
  | none =>
   rw[hx]at h
   refine⟨h,rfl,λb' hb => ?_⟩
   simp[Qh,hx]at hb
  | some bx =>
   rw[hx]at h
   have QB:=yp hk hx
   rw[<- kv]at QB
   have z0f:qm c (vN fr) ⟨dst,.pick x a b,ty,pos,after,guard⟩=.val (.ite bx (.ret (vN fr a)) (.ret (vN fr b))):=by
    simp only[qm,Yi,QB,asBool]
   rw[z0f]
   obtain⟨d,zl⟩:=r
   cases bx with
   | true =>
    simp only[wo,T.leads]at h ⊢
    refine⟨⟨.inl ⟨by first | rfl | trivial,h.1⟩,h.2⟩,rfl,λb' hb => ?_⟩
    simp only[Qh,hx]at hb
    have:=yp hk hb
    rw[<- kv]at this
    grind
   | false =>
    simp only[wo,T.leads]at h ⊢
    refine⟨⟨.inr ⟨by first | rfl | trivial,h.1⟩,h.2⟩,rfl,λb' hb => ?_⟩
    simp only[Qh,hx]at hb
    have:=yp hk hb
    rw[<- kv]at this
    grind
 | move x =>
  refine⟨h,rfl,λb hb => ?_⟩
  obtain⟨d,zl⟩:=r
  simp only[ep,qm,wo,T.leads]at h
  have:=yp hk (show gm kn x=some b from hb)
  rw[<- kv]at this
  grind
 | assign x =>
  refine⟨h,rfl,λb hb => ?_⟩
  obtain⟨d,zl⟩:=r
  simp only[ep,qm,wo,T.leads]at h
  have:=yp hk (show gm kn x=some b from hb)
  rw[<- kv]at this
  grind
 | _=>exact⟨h,rfl,λb hb=>by simp[Qh]at hb⟩
theorem GA{kn:Kn}{f:F}(hk:wP kn f){dst:Option Nat}{d:Option D}{b:Option Bool}(hb:∀ b',b=some b'->d=some (.zx .bool b')):wP (Qn kn dst b) (j8 f dst d):=by
 cases dst with
 | none=>exact hk
 | some t =>
  intro s b' h
  simp only[Qn,Z9]at h
  simp only[j8]
  split at h
  ·grind
  ·rename_i e; rw[if_neg e]; exact hk s b' h
theorem lq{kn:Kn}{f:F}(hk:wP kn f){t:Nat}{b:Bool}(hb:f t=some (.zx .bool b)):wP ((t,some b)::kn) f:=by
 intro s b' h
 rw[Z9]at h
 split at h
 ·grind
 ·exact hk s b' h
theorem sY{o:Oper}{s s':gz}(hk:wP s.kn s.fr.get)(h:(y3 c n o s).leads s') :
  ve n o.dst=true/\(∃ d zl,(zr (qm c (zW s.fr.get) o) s.st).leads (d,zl)/\s'.fr.get=j8 s.fr.get o.dst d/\s'.st=zl)/\wP s'.kn s'.fr.get/\s'.ks=(qm c (zW s.fr.get) o).kind::s.ks:=by
 unfold y3 at h
 cases hd:ve n o.dst with
 | false=>rw[hd]at h; exact h.elim
 | true =>
  rw[hd,cond_true]at h
  simp only[T.zp]at h
  obtain⟨⟨d,zl⟩,h1,rfl⟩:=h
  obtain⟨h2,h3,h4⟩:=Ju hk h1
  refine⟨rfl,⟨d,zl,h2,dt _ _ _,rfl⟩,?_,by grind⟩
  rw[dt]
  exact GA hk h4
theorem Hq{o:Oper}{s:gz}(hk:wP s.kn s.fr.get):wP (ur o s).kn (ur o s).fr.get:=by
 show wP (Qn s.kn o.dst none) (s.fr.put o.dst (some Ce)).get
 rw[dt]
 exact GA hk nofun
theorem QY{i:Nat}{o:Oper}{s s':gz}(ho:ops[i]? = some o)(hk:wP s.kn s.fr.get)(h:(stepG c n ops o s).leads s') :
  ∃ k,jY c n ops i (s.fr.get,s.st) (s'.fr.get,s'.st) k/\wP s'.kn s'.fr.get/\s'.ks=k::s.ks:=by
 have run:∀ (s0:gz),s0.fr=s.fr->s0.st=s.st->s0.ks=s.ks->wP s0.kn s0.fr.get->xF ops s.fr.get o=some true->(y3 c n o s0).leads s' ->
   ∃ k,jY c n ops i (s.fr.get,s.st) (s'.fr.get,s'.st) k/\wP s'.kn s'.fr.get/\s'.ks=k::s.ks:=by
  intro s0 e1 e2 e3 VI hw h
  obtain⟨h1,⟨d,zl,h2,h3,h4⟩,h5,h6⟩:=sY VI h
  rw[e1]at h2 h3 h6
  rw[e2]at h2
  rw[e3]at h6
  exact⟨_,⟨o,ho,h1,.inl ⟨hw,rfl,d,zl,h2,by rw[h3,h4]⟩⟩,h5,h6⟩
 have skip:∀ (s0:gz),s0.fr=s.fr->s0.st=s.st->s0.ks=s.ks->wP s0.kn s0.fr.get->xF ops s.fr.get o=some false->ve n o.dst=true->ur o s0=s' ->
   ∃ k,jY c n ops i (s.fr.get,s.st) (s'.fr.get,s'.st) k/\wP s'.kn s'.fr.get/\s'.ks=k::s.ks:=by
  intro s0 e1 e2 e3 VI hw hd h
  subst h
  refine⟨0,⟨o,ho,hd,.inr ⟨hw,rfl,?_⟩⟩,Hq VI,by simp[ur,e3]⟩
  simp only[ur,dt,e1,e2]
 unfold stepG at h
 split at h
 ·rename_i hg
  exact run s rfl rfl rfl hk (by simp[xF,hg]) h
 ·rename_i j w hg
  split at h
  ·exact h.elim
  ·rename_i t ht
   split at h
   ·rename_i b hb
    have hf:=hk t b hb
    have hw:xF ops s.fr.get o=some (b==w):=by simp[xF,hg,ht,hf]
    cases Dj:(b==w)with
    | true=>grind
    | false =>
     rw[Dj,cond_false]at h
     cases hd:ve n o.dst with
     | false=>rw[hd]at h; exact h.elim
     | true=>rw[hd,cond_true]at h; exact skip s rfl rfl rfl hk (by rw[hw,Dj]) hd h
   ·split at h
    ·rename_i x hx
     have hw:xF ops s.fr.get o=some (x==w):=by simp[xF,hg,ht,hx]
     cases hd:ve n o.dst with
     | false=>rw[hd]at h; exact h.elim
     | true =>
      rw[hd,cond_true]at h
      rcases h with⟨rfl,h⟩ | ⟨rfl,h⟩
      ·have WG:wP (s.ye t true).kn (s.ye t true).fr.get:=lq hk hx
       cases w with
       | true=>exact run (s.ye t true) rfl rfl rfl WG hw h
       | false=>exact skip (s.ye t true) rfl rfl rfl WG hw hd h
      ·have WG:wP (s.ye t false).kn (s.ye t false).fr.get:=lq hk hx
       cases w with
       | true=>exact skip (s.ye t false) rfl rfl rfl WG hw hd h
       | false=>exact run (s.ye t false) rfl rfl rfl WG hw h
    ·rename_i hx
     have hw:xF ops s.fr.get o=some false:=by simp[xF,hg,ht,hx]
     cases hd:ve n o.dst with
     | false=>rw[hd]at h; exact h.elim
     | true=>rw[hd,cond_true]at h; exact skip s rfl rfl rfl hk hw hd h
    ·exact h.elim
theorem bw:∀ (l:List Oper) (k0:Nat) (s s':gz),(∀ j,l[j]? = ops[k0+j]? \/ l.length<=j)->wP s.kn s.fr.get->(cd c n ops l s).leads s' ->
  ∃ ks,CU c n ops (List.range' k0 l.length) (s.fr.get,s.st) (s'.fr.get,s'.st) ks/\wP s'.kn s'.fr.get/\s'.ks=ks.reverse++s.ks
 | [],k0,s,s',_,hk,h=>by cases h; exact⟨[],⟨rfl,rfl⟩,hk,rfl⟩
 | o::l,k0,s,s',hl,hk,h=>by
  simp only[cd,T.zp]at h
  obtain⟨s1,h1,h2⟩:=h
  have ho:ops[k0]? = some o:=by rcases hl 0 with h | h<;>simp at h; exact h.symm
  obtain⟨k,g1,g2,g3⟩:=QY ho hk h1
  obtain⟨ks,g4,g5,g6⟩:=bw l (k0+1) s1 s' (λj=>by have:=hl (j+1); simpa[Nat.add_assoc,Nat.add_comm 1 j]using this) g2 h2
  refine⟨k::ks,?_,g5,by grind⟩
  exact⟨_,k,ks,rfl,g1,g4⟩
end
end Go.AM
namespace Go.AM
set_option linter.unusedSectionVars false
variable [vi]
section
variable {c:Ctx} {n:Nat} {ops:Array Oper}
theorem eS{α:Type}{ρ ρ':α->Option D}(L:List (Nat×α))(h:∀ p∈L,ρ p.2=ρ' p.2):(L.map λp=>(p.1,ρ p.2))=L.map λp=>(p.1,ρ' p.2) :=
 List.map_congr_left λp hp=>by rw[h p hp]
theorem mB{ρ ρ':Operand->Option D}(o:Oper)(h:∀ x∈o.op.operands,ρ x=ρ' x):qm c ρ o=qm c ρ' o:=by
 obtain⟨dst,op,ty,pos,after,guard⟩:=o
 cases op with
 | move x=>simp only[qm]; rw[h x (by simp[Op.operands])]
 | assign x=>simp only[qm]; rw[h x (by simp[Op.operands])]
 | pick x a b=>simp only[qm]; rw[h x (by simp[Op.operands]),h a (by simp[Op.operands]),h b (by simp[Op.operands])]
 | box t x=>simp only[qm]; rw[h x (by simp[Op.operands])]
 | load t x=>simp only[qm]; rw[h x (by simp[Op.operands])]
 | store t x y=>simp only[qm]; rw[h x (by simp[Op.operands]),h y (by simp[Op.operands])]
 | nilCheck x=>simp only[qm]; rw[h x (by simp[Op.operands])]
 | binOp op t x y _=>simp only[qm]; rw[h x (by simp[Op.operands]),h y (by simp[Op.operands])]
 | typeAssert x xt t ok=>simp only[qm]; rw[h x (by simp[Op.operands])]
 | unOp op t x=>simp only[qm]; rw[h x (by simp[Op.operands])]
 | convert s t x=>simp only[qm]; rw[h x (by simp[Op.operands])]
 | makeInterface t x=>simp only[qm]; rw[h x (by simp[Op.operands])]
 | makeFunc fn first cap =>
  cases fn<;>simp only[qm]
  rw[List.map_congr_left (l:=cap.toList) (λx hx=>h x (by simp[Op.operands,Array.mem_toList_iff.1 hx])),List.map_congr_left (l:=first.toList) (λx hx=>h x (by simp[Op.operands,Array.mem_toList_iff.1 hx]))]
 | makeSlice t x y=>simp only[qm]; rw[h x (by simp[Op.operands]),h y (by simp[Op.operands])]
 | slice t x lo hi mx =>
  simp only[qm]
  have ho:∀ o:Option Operand,(∀ y,o=some y->ρ y=ρ' y)->o.map ρ=o.map ρ':=λo ho=>by
   cases o with
   | none=>rfl
   | some y=>grind
  rw[h x (by simp[Op.operands]),ho lo (λy hy=>h y (by simp[Op.operands,hy])),ho hi (λy hy=>h y (by simp[Op.operands,hy])),ho mx (λy hy=>h y (by simp[Op.operands,hy]))]
 | fieldAddr s x f=>simp only[qm]; rw[h x (by simp[Op.operands])]
 | field s x f=>simp only[qm]; rw[h x (by simp[Op.operands])]
 | indexAddr t x y=>simp only[qm]; rw[h x (by simp[Op.operands]),h y (by simp[Op.operands])]
 | index t x y=>simp only[qm]; rw[h x (by simp[Op.operands]),h y (by simp[Op.operands])]
 | extract x i=>simp only[qm]; rw[h x (by simp[Op.operands])]
 | build t ps=>simp only[qm]; rw[eS ps.toList λp hp=>h p.2 (by simp[Op.operands]; exact⟨p.1,Array.mem_toList_iff.1 hp⟩)]
 | buildSlice t k ps=>simp only[qm]; rw[eS ps.toList λp hp=>h p.2 (by simp[Op.operands]; exact⟨p.1,Array.mem_toList_iff.1 hp⟩)]
 | call cl =>
  obtain⟨callee,args,eH⟩:=cl
  have yk:args.toList.map ρ=args.toList.map ρ':=List.map_congr_left λx hx=>h x (by simp[Op.operands,Call.operands,Array.mem_toList_iff.1 hx])
  cases callee with
  | builtin b=>simp only[qm]; rw[yk]
  | value f=>simp only[qm]; rw[yk,h f (by simp[Op.operands,Call.operands])]
  | invoke r m=>rfl
 | _=>rfl
theorem Xd{f:F}{dst:Option Nat}{d:Option D}{x:Operand}(h:∀ t,dst=some t->x≠.tmp t):zW (j8 f dst d) x=zW f x:=by
 cases dst with
 | none=>rfl
 | some t=>cases x with
  | tmp s=>simp only[zW,j8]; rw[if_neg (λe=>h t rfl (by rw[e]))]
  | _=>rfl
theorem kc(f:F){a b:Option Nat}(d e:Option D)(h:∀ t,a=some t->b≠some t):j8 (j8 f a d) b e=j8 (j8 f b e) a d:=by
 cases a with
 | none=>rfl
 | some s=>cases b with
  | none=>rfl
  | some t =>
   simp only[j8]
   grind
def Pj(ops:Array Oper)(kd:Nat->Nat)(p i:Nat):Prop:=∀ x y,ops[p]? = some x->ops[i]? = some y ->
 (∀ d,x.dst=some d->d ∉ tmpsOf ops y)/\(∀ d,y.dst=some d->d ∉ tmpsOf ops x)/\vF (kd p) (kd i)=false
theorem jd{o:Oper}{d:Nat}(h:o.dst=some d):d∈tmpsOf ops o:=by simp[tmpsOf,h]
theorem eY{o:Oper}{d:Nat}(h:Operand.tmp d∈o.op.operands):d∈tmpsOf ops o:=by
 simp only[tmpsOf,List.mem_append,List.mem_filterMap]
 exact .inr ⟨.tmp d,by grind,rfl⟩
theorem eX{o:Oper}{j:Nat}{w:Bool}{d:Nat}(h:o.guard=some (j,w))(hg:vK ops j=some d):d∈tmpsOf ops o:=by
 simp[tmpsOf,h,hg]
theorem xD{f:F}{o:Oper}{dst:Option Nat}{d:Option D}(h:∀ t,dst=some t->t ∉ tmpsOf ops o):xF ops (j8 f dst d) o=xF ops f o:=by
 unfold xF
 cases hg:o.guard with
 | none=>rfl
 | some jw =>
  obtain⟨j,w⟩:=jw
  simp only
  cases hs:vK ops j with
  | none=>rfl
  | some t =>
   simp only
   have:j8 f dst d t=f t:=by
    cases dst with
    | none=>rfl
    | some s=>simp only[j8]; rw[if_neg]; intro e; exact h s rfl (e▸eX hg hs)
   rw[this]
theorem j2{f:F}{o:Oper}{dst:Option Nat}{d:Option D}(h:∀ t,dst=some t->t ∉ tmpsOf ops o):qm c (zW (j8 f dst d)) o=qm c (zW f) o :=
 mB o λx hx=>Xd λt ht e=>h t ht (eY (ops:=ops) (e▸hx))
theorem bH{cl:yv}(h:cl.kind=0){st zl:St}{d:Option D}(hl:(zr cl st).leads (d,zl)):zl=st/\∀ uD,(zr cl uD).leads (d,uD):=by
 cases cl with
 | val t=>rw[wo]at hl; exact⟨hl.2,λuD=>by rw[wo]; exact⟨hl.1,rfl⟩⟩
 | rd k=>cases h
 | wr k=>cases h
theorem yN{cl:yv}(h:cl.kind<=1){st zl:St}{d:Option D}(hl:(zr cl st).leads (d,zl)):zl=st:=by
 cases cl with
 | val t=>rw[wo]at hl; exact hl.2
 | rd k=>rw[ct]at hl; exact hl.2
 | wr k=>simp[yv.kind]at h
theorem nQ(cl:yv):cl.kind<=2:=by cases cl<;>simp[yv.kind]
theorem XO{kd:Nat->Nat}{p i:Nat}(hi:Pj ops kd p i){s s1 s2:F×St}(h1:jY c n ops p s s1 (kd p))(h2:jY c n ops i s1 s2 (kd i)) :
  ∃ s',jY c n ops i s s' (kd i)/\jY c n ops p s' s2 (kd p):=by
 obtain⟨x,hx,Oj,JA⟩:=h1
 obtain⟨y,hy,Oz,NZ⟩:=h2
 obtain⟨a1,a2,a3⟩:=hi x y hx hy
 have Di:∀ t,x.dst=some t->y.dst≠some t:=λt ht e=>a1 t ht (jd e)
 obtain⟨f,st⟩:=s
 rcases JA with⟨hw,hk,d,y6,hl,rfl⟩ | ⟨hw,hk,rfl⟩
 ·rcases NZ with⟨nz,c8,e,uD,dF,rfl⟩ | ⟨nz,c8,rfl⟩
  ·simp only[xD a1,j2 (c:=c) a1]at nz c8 dF
   simp only at hw hk hl
   -- the two meet nowhere in the store
   have key:(zr (qm c (zW f) y) st).leads (e,(if(qm c (zW f) y).kind=2 then uD else st))/\(zr (qm c (zW f) x) (if(qm c (zW f) y).kind=2 then uD else st)).leads (d,uD):=by
    rw[hk,c8]at a3
    rcases Nat.lt_or_ge (qm c (zW f) y).kind 2 with Yp | Yp
    ·rw[if_neg (by omega)]
     have e2:=yN (by omega) dF
     subst e2
     rcases Nat.lt_or_ge (qm c (zW f) x).kind 2 with Ya | Ya
     ·have e1:=yN (by omega) hl
      grind
     ·have hx3:(qm c (zW f) x).kind=2:=Nat.le_antisymm (nQ _) Ya
      have RE:(qm c (zW f) y).kind=0:=by
       rw[hx3]at a3
       cases RE:(qm c (zW f) y).kind with
       | zero=>rfl
       | succ m=>rw[RE]at a3; simp[vF]at a3
      exact⟨(bH RE dF).2 st,hl⟩
    ·have MZ:(qm c (zW f) y).kind=2:=Nat.le_antisymm (nQ _) Yp
     rw[if_pos MZ]
     have sI:(qm c (zW f) x).kind=0:=by
      rw[MZ]at a3
      cases sI:(qm c (zW f) x).kind with
      | zero=>rfl
      | succ m=>rw[sI]at a3; simp[vF]at a3
     obtain⟨e1,h3⟩:=bH sI hl
     grind
   refine⟨_,⟨y,hy,Oz,.inl ⟨nz,c8,e,_,key.1,rfl⟩⟩,x,hx,Oj,.inl ⟨?_,?_,d,uD,?_,?_⟩⟩
   ·rw[xD a2]; exact hw
   ·rw[j2 (c:=c) a2]; exact hk
   ·rw[j2 (c:=c) a2]; exact key.2
   ·simp only[kc f d e Di]
  ·simp only[xD a1]at nz
   refine⟨_,⟨y,hy,Oz,.inr ⟨nz,c8,rfl⟩⟩,x,hx,Oj,.inl ⟨?_,?_,d,y6,?_,?_⟩⟩
   ·rw[xD a2]; exact hw
   ·rw[j2 (c:=c) a2]; exact hk
   ·rw[j2 (c:=c) a2]; exact hl
   ·simp only[kc f d (some Ce) Di]
 ·rcases NZ with⟨nz,c8,e,uD,dF,rfl⟩ | ⟨nz,c8,rfl⟩
  ·simp only[xD a1,j2 (c:=c) a1]at nz c8 dF
   refine⟨_,⟨y,hy,Oz,.inl ⟨nz,c8,e,uD,dF,rfl⟩⟩,x,hx,Oj,.inr ⟨?_,hk,?_⟩⟩
   ·rw[xD a2]; exact hw
   ·simp only[kc f (some Ce) e Di]
  ·simp only[xD a1]at nz
   refine⟨_,⟨y,hy,Oz,.inr ⟨nz,c8,rfl⟩⟩,x,hx,Oj,.inr ⟨?_,hk,?_⟩⟩
   ·rw[xD a2]; exact hw
   ·simp only[kc f (some Ce) (some Ce) Di]
def dV(c:Ctx)(n:Nat)(ops:Array Oper)(kd:Nat->Nat):List Nat->F×St->F×St->Prop
 | [],s,s'=>s'=s
 | i::l,s,s'=>∃ s1,jY c n ops i s s1 (kd i)/\dV c n ops kd l s1 s'
theorem Zy{kd:Nat->Nat}{i:Nat}{post:List Nat}{s':F×St}:∀ {pre:List Nat} {s:F×St},(∀ p∈pre,Pj ops kd p i)->dV c n ops kd (pre++i::post) s s' ->
  ∃ s1,jY c n ops i s s1 (kd i)/\dV c n ops kd (pre++post) s1 s'
 | [],s,_,h=>h
 | p::pre,s,hp,⟨sp,h1,h2⟩=>by
  obtain⟨s1,h3,h4⟩:=Zy (λq hq=>hp q (List.mem_cons_of_mem _ hq)) h2
  obtain⟨s2,h5,h6⟩:=XO (hp p List.mem_cons_self) h1 h3
  exact⟨s2,h5,s1,h6,h4⟩
end
end Go.AM
namespace Go.AM
set_option linter.unusedSectionVars false
variable [vi]
section
variable (c:Ctx) (n:Nat) (ops:Array Oper)
def yW(i:Nat)(s s':F×St)(k:RK):Prop:=∃ o,ops[i]? = some o/\ve n o.dst=true /\
 ((xF ops s.1 o=some true/\k=xH c (zW s.1) s.2 o/\∃ d zl,(zr (qm c (zW s.1) o) s.2).leads (d,zl)/\s'=(j8 s.1 o.dst d,zl)) \/
  (xF ops s.1 o=some false/\k=.z 0/\s'=(j8 s.1 o.dst (some Ce),s.2)))
def HV:List Nat->F×St->F×St->List RK->Prop
 | [],s,s',ks=>s'=s/\ks=[]
 | i::l,s,s',ks=>∃ s1 k Kh,ks=k::Kh/\yW c n ops i s s1 k/\HV l s1 s' Kh
end
section
variable {c:Ctx} {n:Nat} {ops:Array Oper}
theorem yW.plain{i:Nat}{s s':F×St}{k:RK}(h:yW c n ops i s s' k):∃ k',jY c n ops i s s' k':=by
 obtain⟨o,h1,h2,h3⟩:=h
 rcases h3 with⟨g1,_,g3⟩ | ⟨g1,_,g3⟩
 ·exact⟨_,o,h1,h2,.inl ⟨g1,rfl,g3⟩⟩
 ·exact⟨_,o,h1,h2,.inr ⟨g1,rfl,g3⟩⟩
theorem Kk{i:Nat}{o:Oper}{s s':gz}(ho:ops[i]? = some o)(hk:wP s.kn s.fr.get)(h:(stepG c n ops o s).leads s') :
  ∃ k,yW c n ops i (s.fr.get,s.st) (s'.fr.get,s'.st) k/\wP s'.kn s'.fr.get/\s'.bk=k::s.bk:=by
 have bkS:∀ {s0:gz},(y3 c n o s0).leads s'->s'.bk=xH c (vN s0.fr) s0.st o::s0.bk:=by
  intro s0 h
  unfold y3 at h
  cases hd:ve n o.dst with
  | false=>rw[hd]at h; exact h.elim
  | true =>
   rw[hd,cond_true]at h
   simp only[T.zp]at h
   obtain⟨⟨d,zl⟩,h1,rfl⟩:=h
   rfl
 have run:∀ (s0:gz),s0.fr=s.fr->s0.st=s.st->s0.bk=s.bk->wP s0.kn s0.fr.get->xF ops s.fr.get o=some true->(y3 c n o s0).leads s' ->
   ∃ k,yW c n ops i (s.fr.get,s.st) (s'.fr.get,s'.st) k/\wP s'.kn s'.fr.get/\s'.bk=k::s.bk:=by
  intro s0 e1 e2 e3 VI hw h
  obtain⟨h1,⟨d,zl,h2,h3,h4⟩,h5,h6⟩:=sY VI h
  have hb:=bkS h
  rw[e1]at h2 h3 hb
  rw[e2]at h2 hb
  rw[e3]at hb
  rw[kv]at hb
  exact⟨_,⟨o,ho,h1,.inl ⟨hw,rfl,d,zl,h2,by rw[h3,h4]⟩⟩,h5,hb⟩
 have skip:∀ (s0:gz),s0.fr=s.fr->s0.st=s.st->s0.bk=s.bk->wP s0.kn s0.fr.get->xF ops s.fr.get o=some false->ve n o.dst=true->ur o s0=s' ->
   ∃ k,yW c n ops i (s.fr.get,s.st) (s'.fr.get,s'.st) k/\wP s'.kn s'.fr.get/\s'.bk=k::s.bk:=by
  intro s0 e1 e2 e3 VI hw hd h
  subst h
  refine⟨.z 0,⟨o,ho,hd,.inr ⟨hw,rfl,?_⟩⟩,Hq VI,by simp[ur,e3]⟩
  simp only[ur,dt,e1,e2]
 unfold stepG at h
 split at h
 ·rename_i hg
  exact run s rfl rfl rfl hk (by simp[xF,hg]) h
 ·rename_i j w hg
  split at h
  ·exact h.elim
  ·rename_i t ht
   split at h
   ·rename_i b hb
    have hf:=hk t b hb
    have hw:xF ops s.fr.get o=some (b==w):=by simp[xF,hg,ht,hf]
    cases Dj:(b==w)with
    | true=>grind
    | false =>
     rw[Dj,cond_false]at h
     cases hd:ve n o.dst with
     | false=>rw[hd]at h; exact h.elim
     | true=>rw[hd,cond_true]at h; exact skip s rfl rfl rfl hk (by rw[hw,Dj]) hd h
   ·split at h
    ·rename_i x hx
     have hw:xF ops s.fr.get o=some (x==w):=by simp[xF,hg,ht,hx]
     cases hd:ve n o.dst with
     | false=>rw[hd]at h; exact h.elim
     | true =>
      rw[hd,cond_true]at h
      rcases h with⟨rfl,h⟩ | ⟨rfl,h⟩
      ·have WG:wP (s.ye t true).kn (s.ye t true).fr.get:=lq hk hx
       cases w with
       | true=>exact run (s.ye t true) rfl rfl rfl WG hw h
       | false=>exact skip (s.ye t true) rfl rfl rfl WG hw hd h
      ·have WG:wP (s.ye t false).kn (s.ye t false).fr.get:=lq hk hx
       cases w with
       | true=>exact skip (s.ye t false) rfl rfl rfl WG hw hd h
       | false=>exact run (s.ye t false) rfl rfl rfl WG hw h
    ·rename_i hx
     have hw:xF ops s.fr.get o=some false:=by simp[xF,hg,ht,hx]
     cases hd:ve n o.dst with
     | false=>rw[hd]at h; exact h.elim
     | true=>rw[hd,cond_true]at h; exact skip s rfl rfl rfl hk hw hd h
    ·exact h.elim
theorem rL:∀ (l:List Oper) (k0:Nat) (s s':gz),(∀ j,l[j]? = ops[k0+j]? \/ l.length<=j)->wP s.kn s.fr.get->(cd c n ops l s).leads s' ->
  ∃ ks,HV c n ops (List.range' k0 l.length) (s.fr.get,s.st) (s'.fr.get,s'.st) ks/\s'.bk=ks.reverse++s.bk
 | [],k0,s,s',_,hk,h=>by cases h; exact⟨[],⟨rfl,rfl⟩,rfl⟩
 | o::l,k0,s,s',hl,hk,h=>by
  simp only[cd,T.zp]at h
  obtain⟨s1,h1,h2⟩:=h
  have ho:ops[k0]? = some o:=by rcases hl 0 with h | h<;>simp at h; exact h.symm
  obtain⟨k,g1,g2,g3⟩:=Kk ho hk h1
  obtain⟨ks,g4,g6⟩:=rL l (k0+1) s1 s' (λj=>by have:=hl (j+1); simpa[Nat.add_assoc,Nat.add_comm 1 j]using this) g2 h2
  refine⟨k::ks,?_,by grind⟩
  exact⟨_,k,ks,rfl,g1,g4⟩
theorem Yz{m b:Nat}{l:List Nat}:b∈others m l↔b<m/\∀ x∈l,b≠x:=by
 simp only[others]
 simp
theorem Hi{d:Option D}{b:Nat}(h:RQ d=some b):(∃ off,d=some (.ptr b off))\/∃ v e i off,d=some (.vD b v e i off):=by
 cases d with
 | none=>cases h
 | some d=>cases d<;>first | (cases h; exact .inl ⟨_,rfl⟩) | (cases h; exact .inr ⟨_,_,_,_,rfl⟩) | cases h
theorem nW{bi:Builtin}{l:List (Option D)}:Bb bi l=.z 2\/∃ b v e off len x,bi=.append/\l=[some (.ms b v e off len),some x]/\Xs x=false/\Bb bi l=.up b:=by
 unfold Bb
 grind
theorem Z1(ρ:Operand->Option D)(st:St)(o:Oper):(xH c ρ st o).base=(qm c ρ o).kind:=by
 unfold xH
 split
 ·rename_i h
  rw[h]
  cases o.op with
  | load t a=>simp only; split<;>rfl
  | _=>rfl
 ·rename_i h
  rw[h]
  cases o.op with
  | call cl =>
   cases hc:cl.callee with
   | builtin bi =>
    simp only[hc]
    rcases nW (bi:=bi) (l:=cl.args.toList.map ρ)with e | ⟨b,v,e,off,len,x,_,_,_,e⟩<;>rw[e]<;>rfl
   | value f=>simp only[hc]; split<;>rfl
   | _=>simp only[hc]; rfl
  | store t a v=>simp only; split<;>rfl
  | _=>rfl
 ·rfl
theorem rE{ρ:Operand->Option D}{o:Oper}(h:(qm c ρ o).kind<=1)(st zl:St):xH c ρ st o=xH c ρ zl o:=by
 unfold xH
 grind
theorem nD{ρ:Operand->Option D}{st:St}{o:Oper}{b:Nat}(h:xH c ρ st o=.rd b){y6 uD U5:St}{d:Option D}(hl:(zr (qm c ρ o) y6).leads (d,U5))(hb:uD[b]? = y6[b]?):(zr (qm c ρ o) uD).leads (d,uD):=by
 obtain⟨dst,op,ty,pos,after,guard⟩:=o
 cases op with
 | load t a =>
  have h':(∃ off,ρ a=some (.ptr b off))\/∃ v e i off,ρ a=some (.vD b v e i off):=by
   unfold xH at h
   simp only at h
   split at h
   ·split at h
    ·rename_i b' ha; cases h; exact Hi ha
    ·cases h
   ·cases h
   ·cases h
  have he:qm c ρ ⟨dst,.load t a,ty,pos,after,guard⟩=Zi c t (ρ a):=rfl
  rcases h' with⟨off,ha⟩ | ⟨v,e,i,off,ha⟩
  all_goals
   rw[he,ha]at hl ⊢
   simp only[Zi]at hl ⊢
   rw[ct]at hl ⊢
   grind
 | call cl =>
  obtain⟨callee,args,eH⟩:=cl
  unfold xH at h
  split at h
  ·cases h
  ·cases callee with
   | builtin bi =>
    simp only at h
    rcases nW (bi:=bi) (l:=args.toList.map ρ)with e | ⟨b,v,e,off,len,x,_,_,_,e⟩<;>rw[e]at h<;>cases h
   | value f=>grind
   | _=>cases h
  ·cases h
 | _ =>
  unfold xH at h
  grind
theorem UT{ρ:Operand->Option D}{st:St}{o:Oper}{A:List Nat}(h:xH c ρ st o=.wr A){zl:St}{d:Option D}(hl:(zr (qm c ρ o) st).leads (d,zl)):∀ b∈A,zl[b]? = st[b]? := by
 obtain⟨dst,op,ty,pos,after,guard⟩:=o
 cases op with
 | alloc t =>
  have h':A=others st.length []:=by
   unfold xH at h
   grind
  subst h'
  intro b hb
  obtain⟨hb,_⟩:=Yz.1 hb
  have hl:(zr (cX c t) st).leads (d,zl):=hl
  unfold cX at hl
  split at hl
  ·rename_i z hz
   have hl:(some (D.ptr st.length 0),st++[jn.var z])=(d,zl):=hl
   grind
  ·exact absurd hl ze
 | store t a v =>
  exfalso
  unfold xH at h
  grind
 | call cl =>
  obtain⟨callee,args,eH⟩:=cl
  cases callee with
  | value f =>
   have h':(qm c ρ ⟨dst,.call ⟨.value f,args,eH⟩,ty,pos,after,guard⟩).kind=2/\∃ g caps l,ρ f=some (.qE g caps)/\vJ (args.toList.map ρ)=some l/\A=c.free (jM g) (ux g l caps) st:=by
    unfold xH at h
    grind
   obtain⟨hk,g,caps,l,hg,Lu,rfl⟩:=h'
   intro b hb
   have he:qm c ρ ⟨dst,.call ⟨.value f,args,eH⟩,ty,pos,after,guard⟩=gi c (ρ f) (args.toList.map ρ):=rfl
   rw[he,hg]at hl hk
   simp only[gi,Lu]at hl hk
   split at hl
   ·rename_i s hs
    rw[hs]at hk
    simp only[kB]at hk
    cases hn:(!(ux g l caps).any ZP)<;>rw[hn]at hk<;>simp[yv.kind]at hk
   ·simp only[iG,zr,T.zp]at hl
    obtain⟨⟨rs,y6⟩,h1,h2⟩:=hl
    cases rs with
    | ret ds=>cases h2; exact c.DF _ _ _ _ _ b h1 hb
    | jg p=>exact h2.elim
  | builtin bi =>
   exfalso
   unfold xH at h
   simp only at h
   split at h
   ·cases h
   ·rcases nW (bi:=bi) (l:=args.toList.map ρ)with e | ⟨b,v,e,off,len,x,_,_,_,e⟩<;>rw[e]at h<;>cases h
   ·cases h
  | invoke r m =>
   exfalso
   unfold xH at h
   simp only at h
   split at h<;>cases h
 | _ =>
  exfalso
  unfold xH at h
  simp only at h
  split at h
  ·first
    | cases h
    | (split at h<;>cases h)
  ·cases h
  ·cases h
theorem ob{ρ:Operand->Option D}{st:St}{o:Oper}{b:Nat}(h:xH c ρ st o=.up b){y6 U5:St}{d:Option D}(hl:(zr (qm c ρ o) y6).leads (d,U5)) :
  ∃ y,U5=y6.set b y/\∀ uD:St,uD[b]? = y6[b]? -> (zr (qm c ρ o) uD).leads (d,uD.set b y):=by
 obtain⟨dst,op,ty,pos,after,guard⟩:=o
 cases op with
 | store t a v =>
  have h':(∃ off,ρ a=some (.ptr b off))\/∃ v e i off,ρ a=some (.vD b v e i off):=by
   unfold xH at h
   simp only at h
   split at h
   ·cases h
   ·split at h
    ·rename_i b ha; cases h; exact Hi ha
    ·cases h
   ·cases h
  have he:qm c ρ ⟨dst,.store t a v,ty,pos,after,guard⟩=si c t (ρ a) (ρ v):=rfl
  rw[he]at hl ⊢
  cases hv:ρ v with
  | none =>
   rw[hv]at hl
   rcases h' with⟨off,ha⟩ | ⟨w,e,i,off,ha⟩<;>(rw[ha]at hl; exact absurd hl ze)
  | some x =>
   rw[hv]at hl
   rcases h' with⟨off,ha⟩ | ⟨w,e,i,off,ha⟩
   ·rw[ha]at hl ⊢
    have hl:(match y6[b]? with
     | some (.var d)=>match Jg c t d off x with | some r=>bif dM d r then T.ret ((none:Option D),y6.set b (.var r))else .fail | none=>.fail
     | _=>.fail:T (Option D×St)).leads (d,U5):=hl
    split at hl
    ·rename_i d0 hb
     split at hl
     ·rename_i r hr
      cases ho:dM d0 r with
      | false=>rw[ho]at hl; exact hl.elim
      | true =>
       rw[ho]at hl
       cases hl
       refine⟨.var r,rfl,λuD h2 => ?_⟩
       show(match uD[b]? with
        | some (.var d)=>match Jg c t d off x with | some r=>bif dM d r then T.ret ((none:Option D),uD.set b (.var r))else .fail | none=>.fail
        | _=>.fail:T (Option D×St)).leads _
       rw[h2,hb]
       simp only[hr,ho,cond_true]
       rfl
     ·exact hl.elim
    ·exact hl.elim
   ·rw[ha]at hl ⊢
    have hl:(match y6[b]? with
     | some (.arr uO e' xs)=>bif decide (e'=e)then
       .zC (w=uO/\i<xs.length) (match Jg c t (.zx e' (xs.getD i (zq e'))) off x with
        | some r=>match gX e' r with | some y=>T.ret ((none:Option D),y6.set b (.arr uO e' (xs.set i y))) | none=>.fail
        | none=>.fail)
      else .fail
     | _=>.fail:T (Option D×St)).leads (d,U5):=hl
    split at hl
    ·rename_i uO e' xs hb
     cases hd:decide (e'=e)with
     | false=>rw[hd]at hl; exact hl.elim
     | true =>
      rw[hd,cond_true]at hl
      obtain⟨ho,hl⟩:=hl
      split at hl
      ·rename_i r hr
       split at hl
       ·rename_i y hy
        cases hl
        refine⟨.arr uO e' (xs.set i y),rfl,λuD h2 => ?_⟩
        show(match uD[b]? with
         | some (.arr uO e' xs)=>bif decide (e'=e)then
           .zC (w=uO/\i<xs.length) (match Jg c t (.zx e' (xs.getD i (zq e'))) off x with
            | some r=>match gX e' r with | some y=>T.ret ((none:Option D),uD.set b (.arr uO e' (xs.set i y))) | none=>.fail
            | none=>.fail)
          else .fail
         | _=>.fail:T (Option D×St)).leads _
        rw[h2,hb]
        simp only[hd,cond_true,hr,hy]
        exact⟨ho,rfl⟩
       ·exact hl.elim
      ·exact hl.elim
    ·exact hl.elim
 | call cl =>
  obtain⟨callee,args,eH⟩:=cl
  cases callee with
  | builtin bi =>
   have h':bi=.append/\∃ v e off len x,args.toList.map ρ=[some (.ms b v e off len),some x]/\Xs x=false:=by
    unfold xH at h
    simp only at h
    split at h
    ·cases h
    ·rcases nW (bi:=bi) (l:=args.toList.map ρ)with e | ⟨b',v,e,off,len,x,h1,h2,h3,e'⟩
     ·grind
     ·rw[e']at h; cases h; exact⟨h1,v,e,off,len,x,h2,h3⟩
    ·cases h
   obtain⟨rfl,v,e,off,len,x,hx,hm⟩:=h'
   have he:qm c ρ ⟨dst,.call ⟨.builtin .append,args,eH⟩,ty,pos,after,guard⟩=cw c .append eH.toList (args.toList.map ρ):=rfl
   rw[he,hx]at hl ⊢
   -- what the row gets
   have one:∀ {e':Ty} {ys:List (den e')} {ne:Bool} {eF:Nat},(uR e' (.ms b v e off len) ys ne eF y6).leads (d,U5)->∃ y,U5=y6.set b y/\∀ uD:St,uD[b]? = y6[b]? -> (uR e' (.ms b v e off len) ys ne eF uD).leads (d,uD.set b y):=by
    intro e' ys ne eF hl
    simp only[uR]at hl
    split at hl
    ·rename_i uO e'' xs hb
     split at hl
     ·rename_i zs hz
      cases hd:decide (e=e')with
      | false=>rw[hd]at hl; exact hl.elim
      | true =>
       rw[hd,cond_true]at hl
       obtain⟨ho,hl⟩:=hl
       cases hl
       refine⟨_,rfl,λuD h2 => ?_⟩
       simp only[uR]
       rw[h2,hb]
       simp only[hz,hd,cond_true]
       exact⟨ho,rfl⟩
     ·exact hl.elim
    ·exact hl.elim
   have snp:∀ uD,eB uD x=.ret x:=λuD=>by cases x<;>first | rfl | cases hm
   generalize eH.toList=tl at hl ⊢
   rcases tl with _ | ⟨t,_ | ⟨t',_ | ⟨t'',tl⟩⟩⟩
   ·exact absurd hl ze
   ·exact absurd hl ze
   rotate_left
   ·exact absurd hl ze
   ·
    simp only[cw]at hl ⊢
    cases ht:Nat.beq t t' with
    | true =>
     rw[ht,cond_true]at hl
     simp only[cond_true]
     unfold oe at hl ⊢
     cases het:bO c t with
     | none=>rw[het]at hl; exact absurd hl ze
     | some et =>
      rw[het]at hl
      simp only at hl ⊢
      cases h1:V8 c 20 et with
      | none=>rw[h1]at hl; exact absurd hl ze
      | some ee =>
       rw[h1]at hl
       try simp only at hl ⊢
       cases h2:dQ c et with
       | none=>rw[h2]at hl; exact absurd hl ze
       | some bytes =>
        rw[h2]at hl
        simp only at hl ⊢
        cases hc:ja c et ee&&Nat.blt 0 ee.size&&Nat.blt 0 bytes&&(zeroOf c et ee).isSome with
        | false=>rw[hc]at hl; exact absurd hl ze
        | true =>
         rw[hc,cond_true]at hl
         simp only[cond_true,zr,snp,T.bind]at hl ⊢
         cases x<;>simp only at hl ⊢ <;> first | exact hl.elim | exact one hl | skip
         ·split at hl
          ·exact one hl
          ·exact hl.elim
         ·split at hl
          ·exact one hl
          ·exact hl.elim
    | false =>
     rw[ht,cond_false]at hl
     simp only[cond_false]
     unfold iH at hl ⊢
     cases het:bO c t with
     | none=>rw[het]at hl; exact absurd hl ze
     | some et =>
      rw[het]at hl
      simp only at hl ⊢
      split at hl
      ·rename_i bytes h1 h2 h3
       cases hc:ja c et (.int .u8)&&Nat.blt 0 bytes&&(zeroOf c et (.int .u8)).isSome with
       | false=>rw[hc]at hl; exact absurd hl ze
       | true =>
        rw[hc,cond_true]at hl
        simp only[cond_true]
        split at hl
        ·rename_i s l e1 e2
         cases e1
         cases e2
         simp only[zr]at hl ⊢
         exact one hl
        ·exact absurd hl ze
      ·exact absurd hl ze
  | _ =>
   exfalso
   unfold xH at h
   simp only at h
   split at h
   ·cases h
   ·first | cases h | (split at h<;>cases h)
   ·cases h
 | _ =>
  exfalso
  unfold xH at h
  simp only at h
  split at h
  ·first
    | cases h
    | (split at h<;>cases h)
  ·cases h
  ·cases h
theorem XA:∀ (l:List Nat) (s s':F×St) (ks:List RK),HV c n ops l s s' ks->ks.length=l.length
 | [],_,_,_,h=>by rw[h.2]; rfl
 | i::l,s,s',ks,⟨s1,k,Kh,e,h1,h2⟩=>by subst e; simp[XA l s1 s' Kh h2]
theorem fy{ρ:Operand->Option D}{st:St}{o:Oper}{b:Nat}(h:xH c ρ st o=.up b)(zl:St):xH c ρ zl o=.up b:=by
 obtain⟨dst,op,ty,pos,after,guard⟩:=o
 cases op with
 | alloc t =>
  unfold xH at h
  grind
 | call cl =>
  obtain⟨callee,args,eH⟩:=cl
  cases callee with
  | value f =>
   unfold xH at h
   grind
  | builtin bi=>cases bi<;>exact h
  | _=>exact h
 | _=>exact h
def RR(ops:Array Oper)(kd:Nat->RK)(p i:Nat):Prop:=∀ x y,ops[p]? = some x->ops[i]? = some y ->
 (∀ d,x.dst=some d->d ∉ tmpsOf ops y)/\(∀ d,y.dst=some d->d ∉ tmpsOf ops x)/\vA (kd p) (kd i)=false
theorem iN{f:F}{o:Oper}{dst:Option Nat}{d:Option D}{st:St}(h:∀ t,dst=some t->t ∉ tmpsOf ops o):xH c (zW (j8 f dst d)) st o=xH c (zW f) st o:=by
 have e1:qm c (zW (j8 f dst d)) o=qm c (zW f) o:=j2 h
 have e2:∀ x∈o.op.operands,zW (j8 f dst d) x=zW f x:=λx hx=>Xd λt ht e=>h t ht (eY (ops:=ops) (e▸hx))
 obtain⟨dd,op,ty,pos,after,guard⟩:=o
 unfold xH
 rw[e1]
 cases op with
 | load t a=>simp only[e2 a (by simp[Op.operands])]
 | store t a v=>simp only[e2 a (by simp[Op.operands])]
 | call cl =>
  obtain⟨callee,args,eH⟩:=cl
  cases callee with
  | value g =>
   have yk:args.toList.map (zW (j8 f dst d))=args.toList.map (zW f):=List.map_congr_left λx hx=>e2 x (by simp[Op.operands,Call.operands,Array.mem_toList_iff.1 hx])
   simp only[yk,e2 g (by simp[Op.operands,Call.operands])]
  | builtin bi =>
   have yk:args.toList.map (zW (j8 f dst d))=args.toList.map (zW f):=List.map_congr_left λx hx=>e2 x (by simp[Op.operands,Call.operands,Array.mem_toList_iff.1 hx])
   grind
  | _=>rfl
 | _=>rfl
theorem YH{kd:Nat->RK}{p i:Nat}(hi:RR ops kd p i){s s1 s2:F×St}(h1:yW c n ops p s s1 (kd p))(h2:yW c n ops i s1 s2 (kd i)) :
  ∃ s',yW c n ops i s s' (kd i)/\yW c n ops p s' s2 (kd p):=by
 obtain⟨x,hx,Oj,JA⟩:=h1
 obtain⟨y,hy,Oz,NZ⟩:=h2
 obtain⟨a1,a2,a3⟩:=hi x y hx hy
 have Di:∀ t,x.dst=some t->y.dst≠some t:=λt ht e=>a1 t ht (jd e)
 obtain⟨f,st⟩:=s
 rcases JA with⟨hw,hk,d,y6,hl,rfl⟩ | ⟨hw,hk,rfl⟩
 ·rcases NZ with⟨nz,c8,e,uD,dF,rfl⟩ | ⟨nz,c8,rfl⟩
  ·simp only[xD a1,j2 (c:=c) a1,iN (c:=c) a1]at nz c8 dF
   simp only at hw hk hl
   -- the two meet nowhere in the store
   have key:∃ zl,(zr (qm c (zW f) y) st).leads (e,zl)/\(zr (qm c (zW f) x) zl).leads (d,uD)/\xH c (zW f) st y=kd i/\xH c (zW f) zl x=kd p:=by
    have bx:=Z1 (c:=c) (zW f) st x
    have eF:=Z1 (c:=c) (zW f) y6 y
    rw[<- hk]at bx
    rw[<- c8]at eF
    rcases Nat.lt_or_ge (qm c (zW f) x).kind 2 with Ya | Ya
    ·-- x writes nothing
     have e1:=yN (by omega) hl
     subst e1
     refine⟨uD,dF,?_,c8.symm,(rE (by omega) uD y6).trans hk.symm⟩
     rcases Nat.lt_or_ge (qm c (zW f) y).kind 2 with Yp | Yp
     ·have e2:=yN (by omega) dF
      grind
     ·have MZ:(qm c (zW f) y).kind=2:=Nat.le_antisymm (nQ _) Yp
      cases hp:kd p with
      | rd b =>
       cases hq:kd i with
       | wr A =>
        rw[hp,hq]at a3
        simp only[vA,Bool.not_eq_false',List.any_eq_true]at a3
        obtain⟨b',VH,PK⟩:=a3
        have:=Nat.eq_of_beq_eq_true PK
        subst this
        exact nD (by rw[<- hk]; exact hp) hl (UT (by rw[<- c8]; exact hq) dF b VH)
       | rd b'=>rw[hq]at eF; simp[RK.base]at eF; omega
       | z k=>rw[hp,hq]at a3; rw[hq,MZ]at eF; simp only[RK.base]at eF; subst eF; simp[vA,vF,RK.base]at a3
       | up a =>
        rw[hp,hq]at a3
        have Uj:a≠b:=λe=>by subst e; simp[vA]at a3
        obtain⟨z,e1,_⟩:=ob (by rw[<- c8]; exact hq) dF
        subst e1
        exact nD (by rw[<- hk]; exact hp) hl (by rw[List.getElem?_set_ne Uj])
      | wr A=>rw[hp]at bx; simp[RK.base]at bx; omega
      | up A=>rw[hp]at bx; simp[RK.base]at bx; omega
      | z k =>
       rw[hp]at bx
       simp only[RK.base]at bx
       have VI:k=0:=by
        cases hq:kd i with
        | wr A =>
         rw[hp,hq]at a3
         simp only[vA,RK.base,vF]at a3
         cases k with
         | zero=>rfl
         | succ m=>simp at a3
        | rd b'=>rw[hq]at eF; simp[RK.base]at eF; omega
        | z k' =>
         rw[hq,MZ]at eF
         simp only[RK.base]at eF
         subst eF
         rw[hp,hq]at a3
         simp only[vA,RK.base,vF]at a3
         cases k with
         | zero=>rfl
         | succ m=>simp at a3
        | up A =>
         rw[hp,hq]at a3
         simp only[vA,RK.base,vF]at a3
         cases k with
         | zero=>rfl
         | succ m=>simp at a3
       subst VI
       exact(bH bx.symm hl).2 uD
    ·have hx3:(qm c (zW f) x).kind=2:=Nat.le_antisymm (nQ _) Ya
     -- x writes
     rcases Nat.lt_or_ge (qm c (zW f) y).kind 2 with Yp | Yp
     ·have e2:=yN (by omega) dF
      subst e2
      refine⟨st,?_,hl,(rE (by omega) st uD).trans c8.symm,hk.symm⟩
      cases hq:kd i with
      | wr A=>rw[hq]at eF; simp[RK.base]at eF; omega
      | up A=>rw[hq]at eF; simp[RK.base]at eF; omega
      | rd b =>
       cases hp:kd p with
       | wr A =>
        rw[hp,hq]at a3
        simp only[vA,Bool.not_eq_false',List.any_eq_true]at a3
        obtain⟨b',VH,PK⟩:=a3
        have:=Nat.eq_of_beq_eq_true PK
        subst this
        exact nD (st:=uD) (by rw[<- c8]; exact hq) dF (UT (by rw[<- hk]; exact hp) hl b VH).symm
       | up a =>
        rw[hp,hq]at a3
        have Uj:a≠b:=λe=>by subst e; simp[vA]at a3
        obtain⟨z,e1,_⟩:=ob (by rw[<- hk]; exact hp) hl
        subst e1
        exact nD (st:=st.set a z) (by rw[<- c8]; exact hq) dF (by rw[List.getElem?_set_ne Uj])
       | rd b'=>rw[hp]at bx; simp[RK.base]at bx; omega
       | z k=>rw[hp]at bx; simp only[RK.base]at bx; rw[hx3]at bx; subst bx; rw[hp,hq]at a3; simp[vA,RK.base,vF]at a3
      | z k =>
       rw[hq]at eF
       simp only[RK.base]at eF
       have VI:k=0:=by
        have a4:vA (kd p) (.z k)=false:=by rw[hq]at a3; exact a3
        have a5:vF 2 k=false:=by
         cases hp:kd p with
         | wr A=>rw[hp]at a4; exact a4
         | up A=>rw[hp]at a4; exact a4
         | rd b'=>rw[hp]at bx; simp[RK.base]at bx; omega
         | z k'=>rw[hp]at bx a4; simp only[RK.base]at bx; rw[hx3]at bx; subst bx; exact a4
        cases k with
        | zero=>rfl
        | succ m=>simp[vF]at a5
       subst VI
       exact(bH eF.symm dF).2 st
     ·have MZ:(qm c (zW f) y).kind=2:=Nat.le_antisymm (nQ _) Yp
      -- both write: one block each
      have hup:∃ a b,kd p=.up a/\kd i=.up b/\a≠b:=by
       cases hp:kd p with
       | rd b'=>rw[hp]at bx; simp[RK.base]at bx; omega
       | up a =>
        cases hq:kd i with
        | up b=>rw[hp,hq]at a3; exact⟨a,b,rfl,rfl,λe=>by subst e; simp[vA]at a3⟩
        | rd b'=>rw[hq]at eF; simp[RK.base]at eF; omega
        | wr A=>rw[hp,hq]at a3; simp[vA,RK.base,vF]at a3
        | z k=>rw[hq,MZ]at eF; simp only[RK.base]at eF; subst eF; rw[hp,hq]at a3; simp[vA,RK.base,vF]at a3
       | wr A =>
        cases hq:kd i with
        | up b=>rw[hp,hq]at a3; simp[vA,RK.base,vF]at a3
        | rd b'=>rw[hq]at eF; simp[RK.base]at eF; omega
        | wr B=>rw[hp,hq]at a3; simp[vA,RK.base,vF]at a3
        | z k=>rw[hq,MZ]at eF; simp only[RK.base]at eF; subst eF; rw[hp,hq]at a3; simp[vA,RK.base,vF]at a3
       | z k' =>
        rw[hp,hx3]at bx
        simp only[RK.base]at bx
        subst bx
        cases hq:kd i with
        | up b=>rw[hp,hq]at a3; simp[vA,RK.base,vF]at a3
        | rd b'=>rw[hq]at eF; simp[RK.base]at eF; omega
        | wr B=>rw[hp,hq]at a3; simp[vA,RK.base,vF]at a3
        | z k=>rw[hq,MZ]at eF; simp only[RK.base]at eF; subst eF; rw[hp,hq]at a3; simp[vA,RK.base,vF]at a3
      obtain⟨a,b,hp,hq,Uj⟩:=hup
      obtain⟨z1,e1,w1⟩:=ob (by rw[<- hk]; exact hp) hl
      subst e1
      obtain⟨z2,e2,w2⟩:=ob (by rw[<- c8]; exact hq) dF
      subst e2
      refine⟨st.set b z2,w2 st (by rw[List.getElem?_set_ne Uj]),?_,(fy (by rw[<- c8]; exact hq) st).trans hq.symm,(fy (by rw[<- hk]; exact hp) _).trans hp.symm⟩
      rw[List.set_comm _ _ Uj]
      exact w1 (st.set b z2) (by rw[List.getElem?_set_ne (λe=>Uj e.symm)])
   obtain⟨zl,k1,k2,k3,k4⟩:=key
   refine⟨_,⟨y,hy,Oz,.inl ⟨nz,k3.symm,e,_,k1,rfl⟩⟩,x,hx,Oj,.inl ⟨?_,?_,d,uD,?_,?_⟩⟩
   ·rw[xD a2]; exact hw
   ·rw[iN (c:=c) a2]; exact k4.symm
   ·rw[j2 (c:=c) a2]; exact k2
   ·simp only[kc f d e Di]
  ·simp only[xD a1]at nz
   refine⟨_,⟨y,hy,Oz,.inr ⟨nz,c8,rfl⟩⟩,x,hx,Oj,.inl ⟨?_,?_,d,y6,?_,?_⟩⟩
   ·rw[xD a2]; exact hw
   ·rw[iN (c:=c) a2]; exact hk
   ·rw[j2 (c:=c) a2]; exact hl
   ·simp only[kc f d (some Ce) Di]
 ·rcases NZ with⟨nz,c8,e,uD,dF,rfl⟩ | ⟨nz,c8,rfl⟩
  ·simp only[xD a1,j2 (c:=c) a1,iN (c:=c) a1]at nz c8 dF
   refine⟨_,⟨y,hy,Oz,.inl ⟨nz,c8,e,uD,dF,rfl⟩⟩,x,hx,Oj,.inr ⟨?_,hk,?_⟩⟩
   ·rw[xD a2]; exact hw
   ·simp only[kc f (some Ce) e Di]
  ·simp only[xD a1]at nz
   refine⟨_,⟨y,hy,Oz,.inr ⟨nz,c8,rfl⟩⟩,x,hx,Oj,.inr ⟨?_,hk,?_⟩⟩
   ·rw[xD a2]; exact hw
   ·simp only[kc f (some Ce) (some Ce) Di]
end
end Go.AM
namespace Go.AM
set_option linter.unusedSectionVars false
variable [vi]
class Qg where
 df:List Deferred
instance Zz:Qg:=⟨[]⟩
variable [Qg]
structure Rel(κ:KS)(n:Nat)(f:F)(a:Act):Prop where
 size:a.tmps.size=n
 defers:a.defers=Qg.df
 get:∀ (s:Nat) (d:D),f s=some d->∃ v,a.tmps[s]? = some v/\RD κ d v
section
variable {c:Ctx} {κ:KS} {n:Nat} {f:F} {a:Act}
theorem Rel.eval(h:Rel κ n f a){x:Operand}{d:D}(hx:zW f x=some d):RD κ d (a.eval x):=by
 cases x with
 | tmp t =>
  obtain⟨v,h1,h2⟩:=h.get t d hx
  simp only[Act.eval,Array.getD_eq_getD_getElem?,h1]
  exact h2
 | const v=>exact(ZS hx).1
 | global g=>cases hx
 | func g =>
  have hx:(bif Nat.blt g 1000000 then some (D.qE g [])else none)=some d:=hx
  cases hb:Nat.blt g 1000000 with
  | false=>grind
  | true =>
   rw[hb]at hx
   cases hx
   have:=RD.qE (κ:=κ) g [] [] rfl (λi h=>absurd h (Nat.not_lt_zero i))
   rwa [Vv hb]at this
theorem Rel.mono{κ':KS}(x:Ext κ κ')(h:Rel κ n f a):Rel κ' n f a:=⟨h.size,h.defers,λs d hd=>by obtain⟨v,h1,h2⟩:=h.get s d hd; exact⟨v,h1,h2.mono x⟩⟩
theorem Rel.put{dst:Option Nat}{d:Option D}{v:Value}(h:Rel κ n f a)(hd:ve n dst=true)(hv:∀ d',d=some d'->RD κ d' v):Rel κ n (j8 f dst d) (a.put dst v):=by
 cases dst with
 | none=>exact h
 | some t =>
  have qc:t<n:=Nat.le_of_ble_eq_true hd
  refine⟨by simp[Act.put,h.size],h.defers,λs d' hs => ?_⟩
  simp only[j8]at hs
  simp only[Act.put]
  by_cases e:s=t
  ·subst e
   rw[if_pos rfl]at hs
   exact⟨v,by simp[h.size,qc],hv d' hs⟩
  ·rw[if_neg e]at hs
   obtain⟨u,h1,h2⟩:=h.get s d' hs
   grind
theorem Ek{v:Value}:RD κ Ce undef:=.jW [] [] rfl (λi h=>absurd h (Nat.not_lt_zero i))
theorem LU{o:Oper}{d:Option D}{zl:St}(h:qg c.P (execOp a.eval o) κ d zl){K:Act->World->Prop}{Q:Exit->Act->World->Prop}
  (hK:∀ (v:Value) (κ':KS),κ'.st=zl->Inv κ'->Ext κ κ'->(∀ d',d=some d'->RD κ' d' v)->K (a.put o.dst v) κ'.w):o.wp c.P a κ.w K Q:=by
 obtain⟨κ',nx,v,h1,h2,h3,h4,h5,h6⟩:=h
 unfold Oper.wp
 rw[h1]
 rcases h2 with rfl | ⟨rfl,rfl⟩
 ·exact hK v κ' h3 h4 h5 h6
 ·exact hK undef κ' h3 h4 h5 h6
theorem G4(h:Rel κ n f a)(x:Option Operand):rN κ (x.map (zW f)) (x.map a.eval):=by
 cases x with
 | none=>trivial
 | some x=>exact λy hy=>h.eval hy
theorem Wr(hI:Inv κ)(hR:Rel κ n f a){b:Builtin}{args:Array Operand}{eH:Array TypeId}{o:Oper}(ho:o.op=.call ⟨.builtin b,args,eH⟩){d:Option D}{zl:St}
  (h:(zr (cw c b eH.toList (args.toList.map (zW f))) κ.st).leads (d,zl)):qg c.P (execOp a.eval o) κ d zl:=by
 have two:∀ {g:Value->Value->Sem Value} {m:Int->Int->Int},(∀ k k' a b,(g (.int k a) (.int k' b)).run c.P κ.w=.ok (.int k (m a b)) κ.w)->(zr (tE m (args.toList.map (zW f))) κ.st).leads (d,zl) ->
   (∀ p q,args = #[p,q]->execOp a.eval o=(do Pure.pure (.value (<- g (a.eval p) (a.eval q))):Sem Next))->qg c.P (execOp a.eval o) κ d zl:=by
  intro g m hg h he
  match hl:args.toList,h with
  | [p,q],h =>
   have Np:args = #[p,q]:=by rw[<- Array.toArray_toList (xs:=args),hl]
   rw[he p q Np]
   obtain⟨r,h1,rfl,h3⟩:=YS hg hI (λz hz=>hR.eval (x:=p) hz) (λz hz=>hR.eval (x:=q) hz) h
   exact⟨κ,.value r,r,by simp[h1],.inl rfl,rfl,hI,Ext.refl κ,h3⟩
  | [],h=>exact absurd h ze
  | [_],h=>exact absurd h ze
  | _::_::_::_,h=>exact absurd h ze
 unfold cw at h
 split at h
 ·rename_i t ts x xs h1 h2
  have ht:eH[0]? = some t:=by rw[<- Array.getElem?_toList,h1]; rfl
  obtain⟨y,hy,rfl⟩:∃ y,args[0]? = some y/\x=zW f y:=by
   cases hl:args.toList with
   | nil=>grind
   | cons y ys=>rw[hl]at h2; simp at h2; exact⟨y,by rw[<- Array.getElem?_toList,hl]; rfl,h2.1.symm⟩
  have:=Nc (c:=c) (ty:=o.type) (ts:=eH) (vs:=args.map a.eval) hI (λz hz=>hR.eval (x:=y) hz) ht (by simp[hy]) h
  simp only[execOp,ho,resolve,invoke,builtin,pure_bind]
  exact this
 ·rename_i t t' s x h1 h2
  obtain⟨p,q,rfl,rfl,Np⟩:∃ p q,s=zW f p/\x=zW f q/\args = #[p,q]:=by
   cases hl:args.toList with
   | nil=>grind
   | cons p r=>rw[hl]at h2; cases r with
    | nil=>simp at h2
    | cons q r=>cases r with
     | nil=>grind
     | cons _ _=>simp at h2
  subst Np
  cases hb:Nat.beq t t' with
  | false =>
   rw[hb,cond_false]at h
   have DD:eH = #[t,t']:=by rw[<- Array.toArray_toList (xs:=eH),h1]
   subst DD
   have:=ZJ (c:=c) (ty:=o.type) hI (λz hz=>hR.eval (x:=p) hz) (λz hz=>hR.eval (x:=q) hz) h
   have e2:(#[p,q]:Array Operand).map a.eval = #[a.eval p,a.eval q]:=by simp
   simp only[execOp,ho,resolve,invoke,builtin,pure_bind,e2]
   exact this
  | true =>
   rw[hb,cond_true]at h
   have e:=Nat.eq_of_beq_eq_true hb
   subst e
   have DD:eH = #[t,t]:=by rw[<- Array.toArray_toList (xs:=eH),h1]
   subst DD
   have:=Us (c:=c) (ty:=o.type) hI (λz hz=>hR.eval (x:=p) hz) (λz hz=>hR.eval (x:=q) hz) h
   have e2:(#[p,q]:Array Operand).map a.eval = #[a.eval p,a.eval q]:=by simp
   simp only[execOp,ho,resolve,invoke,builtin,pure_bind,e2]
   exact this
 ·rename_i t t' s x h1 h2
  obtain⟨p,q,rfl,rfl,Np⟩:∃ p q,s=zW f p/\x=zW f q/\args = #[p,q]:=by
   cases hl:args.toList with
   | nil=>grind
   | cons p r=>rw[hl]at h2; cases r with
    | nil=>simp at h2
    | cons q r=>cases r with
     | nil=>simp at h2; exact⟨p,q,h2.1.symm,h2.2.symm,by rw[<- Array.toArray_toList (xs:=args),hl]⟩
     | cons _ _=>simp at h2
  subst Np
  have DD:eH = #[t,t']:=by rw[<- Array.toArray_toList (xs:=eH),h1]
  subst DD
  have:=Cu (c:=c) (ty:=o.type) (t':=t') hI (λz hz=>hR.eval (x:=p) hz) (λz hz=>hR.eval (x:=q) hz) h
  have e2:(#[p,q]:Array Operand).map a.eval = #[a.eval p,a.eval q]:=by simp
  simp only[execOp,ho,resolve,invoke,builtin,pure_bind,e2]
  exact this
 ·rename_i h2
  exact two (g:=Builtin.min2) (λk k' a b=>by simp[Builtin.min2,YV]) h λp q Np=>by
   subst Np
   have e2:(#[p,q]:Array Operand).map a.eval = #[a.eval p,a.eval q]:=by simp
   simp only[execOp,ho,resolve,invoke,builtin,pure_bind,e2]
   simp[Builtin.min_]
 ·rename_i h2
  exact two (g:=Builtin.max2) (λk k' a b=>by simp[Builtin.max2,pz]) h λp q Np=>by
   subst Np
   have e2:(#[p,q]:Array Operand).map a.eval = #[a.eval p,a.eval q]:=by simp
   simp only[execOp,ho,resolve,invoke,builtin,pure_bind,e2]
   simp[Builtin.max_]
 ·exact absurd h ze
theorem LR{o:Oper}{g:Nat}{caps:Array Value}{args:Array Value}{R:Ending->World->Prop}(wO:(execOp a.eval o).run c.P κ.w=(callFunc g args).run c.P κ.w)
  (h:vL c.P g args κ.w R) {K:Act->World->Prop} {Q:Exit->Act->World->Prop} (hR:∀ e w',R e w'->∃ v,e=.returned v/\K (a.put o.dst v) w'):o.wp c.P a κ.w K Q:=by
 unfold Oper.wp
 rw[wO]
 rcases h with⟨h1,h2⟩ | ⟨v,w',h1,h2⟩
 ·rw[h1]
  refine h2.mono λe w' he => ?_
  grind
 ·rw[h1]
  obtain⟨u,hu,hk⟩:=hR _ _ h2
  cases hu
  exact hk
theorem Zo(g:Nat){l caps:List D}{vs us:List Value}(h1:qj κ l vs)(h2:qj κ caps us):qj κ (ux g l caps) (ux g vs us):=by
 unfold ux
 cases Nat.ble 1000000 g with
 | true=>exact h2.append h1
 | false=>exact h1.append h2
theorem UD{dst:Option Nat}{p:Operand}{args:Array Operand}{eH:Array TypeId}{ty:TypeId}{pos:String}{after:Array Edge}{guard:Option (Nat×Bool)}{g:Nat}{us:List Value}{P:Program}{w:World}(U2:a.eval p=eM g us) :
  (execOp a.eval ⟨dst,.call ⟨.value p,args,eH⟩,ty,pos,after,guard⟩).run P w=(callFunc (jM g) (ux g (args.toList.map a.eval) us).toArray).run P w:=by
 unfold eM at U2
 unfold jM ux
 cases hb:Nat.ble 1000000 g with
 | true =>
  rw[hb]at U2
  simp at U2 ⊢
  have e:us.toArray++args.map a.eval=(us++args.toList.map a.eval).toArray:=by apply Array.ext'; simp
  simp only[execOp,resolve,U2,Deferred.ofValue,pure_bind,invoke,Array.append_empty,e]
 | false =>
  rw[hb]at U2
  simp at U2 ⊢
  have e:args.map a.eval++us.toArray=(args.toList.map a.eval++us).toArray:=by apply Array.ext'; simp
  simp only[execOp,resolve,U2,Deferred.ofValue,pure_bind,invoke,Array.empty_append,e]
theorem JY{o:Oper}{d:Option D}{zl:St}(hC:∀ g,VJ c.P g (c.fn g))(hI:Inv κ)(hR:Rel κ n f a)(h:(zr (qm c (zW f) o) κ.st).leads (d,zl)){K:Act->World->Prop}{Q:Exit->Act->World->Prop}
  (hK:∀ (v:Value) (κ':KS),κ'.st=zl->Inv κ'->Ext κ κ'->(∀ d',d=some d'->RD κ' d' v)->K (a.put o.dst v) κ'.w):o.wp c.P a κ.w K Q:=by
 have bD:∀ (x:Operand) (z:D),zW f x=some z->RD κ z (a.eval x):=λx z hz=>hR.eval hz
 obtain⟨dst,op,ty,pos,after,guard⟩:=o
 have fin:qg c.P (execOp a.eval ⟨dst,op,ty,pos,after,guard⟩) κ d zl->Oper.wp c.P ⟨dst,op,ty,pos,after,guard⟩ a κ.w K Q:=λhd=>LU hd hK
 cases op with
 | move x =>
  simp only[qm,wo,T.leads]at h
  obtain⟨h,rfl⟩:=h
  exact fin (qg.val hI λd' jR=>bD x d' (h.trans jR))
 | assign x =>
  simp only[qm,wo,T.leads]at h
  obtain⟨h,rfl⟩:=h
  exact fin (qg.val hI λd' jR=>bD x d' (h.trans jR))
 | pick x p q =>
  simp only[qm,Yi]at h
  split at h
  ·rename_i b hb
   have hv:=iX hb (bD x)
   rw[wo]at h
   obtain⟨h,rfl⟩:=h
   refine fin ⟨κ,.value (if b then a.eval p else a.eval q),if b then a.eval p else a.eval q,?_,.inl rfl,rfl,hI,Ext.refl κ,λd' jR => ?_⟩
   ·simp[execOp,hv,Go.asBool]
   ·rcases h with⟨rfl,h⟩ | ⟨rfl,h⟩
    ·exact bD p d' (h.trans jR)
    ·exact bD q d' (h.trans jR)
  ·exact absurd h ze
 | alloc t=>exact fin (YG hI h)
 | box t x=>exact fin (KC hI (bD x) h)
 | load t x=>exact fin (CR hI (bD x) h)
 | store t x y=>exact fin (Yq hI (bD x) (bD y) h)
 | nilCheck x=>exact fin (QG rfl hI (bD x) h)
 | binOp op t x y ty' =>
  have h:(zr (Yk c op t y (zW f x) (zW f y)) κ.st).leads (d,zl):=h
  unfold Yk at h
  split at h
  ·exact fin (Yn hI (bD x) h)
  ·exact fin (Fh hI (bD x) (bD y) h)
 | typeAssert x xt t ok=>exact fin (rV hI (bD x) h)
 | unOp op t x=>exact fin (Mu hI (bD x) h)
 | convert s t x=>exact fin (V6 hI (bD x) h)
 | makeInterface t x=>exact fin (Zj hI (bD x) h)
 | makeFunc fn first cap =>
  cases fn with
  | func g =>
   simp only[qm]at h
   cases hb:Nat.beq first.size 0&&Nat.blt g 1000000 with
   | false =>
    rw[hb,cond_false]at h
    cases UE:Nat.beq cap.size 0&&Nat.blt g 1000000 with
    | false=>rw[UE]at h; exact absurd h ze
    | true =>
     rw[UE,cond_true]at h
     simp only[Bool.and_eq_true]at UE
     have hf:cap = #[]:=Array.eq_empty_of_size_eq_zero (Nat.eq_of_beq_eq_true UE.1)
     subst hf
     split at h
     ·rename_i l hl
      rw[uT]at h
      obtain⟨rfl,rfl⟩:=h
      have hr:=k9 (κ:=κ) (vs:=first.toList.map a.eval) hl (by simp) (λi d v hd hv=>by
       simp only[List.getElem?_map]at hd hv
       cases hi:first.toList[i]? with
       | none=>grind
       | some x=>rw[hi]at hd hv; simp at hd hv; subst hv; exact bD x d hd)
      refine fin (qg.pure hI ?_ (.qE (g+1000000) l _ hr.1 hr.2))
      have e:(first.toList.map a.eval).toArray=first.map a.eval:=by apply Array.ext'; simp
      rw[Ge UE.2,e]
      simp[Instr.makeFunc]
     ·exact absurd h ze
   | true =>
    rw[hb,cond_true]at h
    simp only[Bool.and_eq_true]at hb
    have hf:first = #[]:=Array.eq_empty_of_size_eq_zero (Nat.eq_of_beq_eq_true hb.1)
    subst hf
    split at h
    ·rename_i l hl
     rw[uT]at h
     obtain⟨rfl,rfl⟩:=h
     have hr:=k9 (κ:=κ) (vs:=cap.toList.map a.eval) hl (by simp) (λi d v hd hv=>by
      simp only[List.getElem?_map]at hd hv
      cases hi:cap.toList[i]? with
      | none=>grind
      | some x=>rw[hi]at hd hv; simp at hd hv; subst hv; exact bD x d hd)
     refine fin (qg.pure hI ?_ (.qE g l _ hr.1 hr.2))
     have e:(cap.toList.map a.eval).toArray=cap.map a.eval:=by apply Array.ext'; simp
     rw[Vv hb.2,e]
     simp[Instr.makeFunc]
    ·exact absurd h ze
  | _=>exact absurd h ze
 | makeSlice t x y=>exact fin (Cz hI (bD x) (bD y) h)
 | slice t x lo hi mx=>exact fin (KE hI (bD x) (G4 hR lo) (G4 hR hi) (G4 hR mx) h)
 | fieldAddr s x fl=>exact fin (tZ hI (bD x) h)
 | field s x fl=>exact fin (KP hI (bD x) h)
 | indexAddr t x i=>exact fin (Zr hI (bD x) (bD i) h)
 | index t x i=>exact fin (KW hI (bD x) (bD i) h)
 | extract x i=>exact fin (Wt hI (bD x) h)
 | build t ps =>
  have:=Kr (L:=ps.toList) (G:=a.eval) hI bD h
  refine fin ?_
  have e:(ps.toList.map λp=>(p.1,a.eval p.2)).toArray=ps.map λp=>(p.1,a.eval p.2):=by apply Array.ext'; simp
  rw[e]at this
  exact this
 | buildSlice t k ps =>
  have:=sa (L:=ps.toList) (G:=a.eval) hI bD h
  refine fin ?_
  have e:(ps.toList.map λp=>(p.1,a.eval p.2)).toArray=ps.map λp=>(p.1,a.eval p.2):=by apply Array.ext'; simp
  rw[e]at this
  exact this
 | call cl =>
  obtain⟨callee,args,eH⟩:=cl
  cases callee with
  | builtin b=>exact fin (Wr hI hR rfl h)
  | invoke r m=>exact absurd h ze
  | value p =>
   simp only[qm,gi]at h
   split at h
   ·rename_i g caps l hp hl
    have LD:=bD p _ hp
    have hr:=k9 (κ:=κ) (vs:=args.toList.map a.eval) hl (by simp) (λi d v hd hv=>by
      simp only[List.getElem?_map]at hd hv
      cases hi:args.toList[i]? with
      | none=>rw[hi]at hd; cases hd
      | some x=>rw[hi]at hd hv; simp at hd hv; subst hv; exact bD x d hd)
    generalize U2:a.eval p=pv at LD
    cases LD with
    | qE _ _ us dF hh2 =>
     have eG:=Zo g hr (⟨dF,hh2⟩:qj κ caps us)
     refine LR (c:=c) (κ:=κ) (g:=jM g) (caps := #[]) (args:=(ux g (args.toList.map a.eval) us).toArray) ?_ (Bz (hC (jM g)) hI eG h) ?_
     ·exact UD U2
     ·rintro e w' ⟨κ',v,rfl,h1,h2,h3,rfl,h4⟩
      exact⟨v,rfl,hK v κ' h1 h2 h3 h4⟩
   ·exact absurd h ze
 | _=>exact absurd h ze
end
end Go.AM
namespace Go.AM
set_option linter.unusedSectionVars false
variable [vi] [Qg]
section
variable {c:Ctx} {n:Nat} {ops:Array Oper}
theorem WI(j:Nat):vK ops j=(ops[j]?).bind (·.dst):=by
 unfold vK; cases ops[j]? <;> rfl
theorem cJ{κ:KS}{f:F}{a:Act}{o:Oper}{b:Bool}(hR:Rel κ n f a)(h:xF ops f o=some b):Region.wanted o (yielded ops a.tmps)=b:=by
 unfold xF at h
 unfold Region.wanted
 split at h
 ·grind
 ·rename_i j w hg
  rw[hg]
  split at h
  ·cases h
  ·rename_i t ht
   rw[WI]at ht
   simp only[yielded,ht,Option.bind_some]
   split at h
   ·rename_i x hx
    obtain⟨v,h1,h2⟩:=hR.get t _ hx
    have:=h2.uG
    cases h
    grind
   ·rename_i hx
    obtain⟨v,h1,h2⟩:=hR.get t _ hx
    cases h
    rw[h1]
    cases h2 with
    | jW _ vs hl hh=>rfl
   ·cases h
def b7(ops:Array Oper)(a a':Act):Prop:=∀ s:Nat,(∀ o∈ops.toList,o.dst≠some s)->a'.tmps[s]? = a.tmps[s]?
theorem b7.refl(ops:Array Oper)(a:Act):b7 ops a a:=λ_ _=>rfl
theorem b7.trans{ops:Array Oper}{a b d:Act}(h:b7 ops a b)(k:b7 ops b d):b7 ops a d:=λs hs=>(k s hs).trans (h s hs)
theorem fb{ops:Array Oper}{i:Nat}{o:Oper}{a:Act}{v:Value}(ho:ops[i]? = some o):b7 ops a (a.put o.dst v):=by
 intro s hs
 have hm:o∈ops.toList:=by have:=Array.mem_of_getElem? ho; simpa using this
 have:=hs o hm
 cases hd:o.dst with
 | none=>rfl
 | some t =>
  rw[hd]at this
  have vP:t≠s:=λe=>this (by rw[e])
  simp[Act.put,Array.getElem?_setIfInBounds_ne vP]
theorem Ze{κ:KS}{a:Act}{i k:Nat}{s s':F×St}(hC:∀ g,VJ c.P g (c.fn g))(hI:Inv κ)(hR:Rel κ n s.1 a)(xm:κ.st=s.2)(h:jY c n ops i s s' k){K:Act->World->Prop}{Q:Exit->Act->World->Prop}
  (hK:∀ (a':Act) (κ':KS),κ'.st=s'.2->Inv κ'->Ext κ κ'->Rel κ' n s'.1 a'->b7 ops a a'->K a' κ'.w):wpOp c.P ops Q i K a κ.w:=by
 obtain⟨o,ho,hd,h⟩:=h
 unfold wpOp
 rw[ho]
 simp only
 rcases h with⟨hw,_,d,zl,hl,rfl⟩ | ⟨hw,_,rfl⟩
 ·rw[if_pos (cJ hR hw)]
  refine .inl (JY hC hI hR (xm▸hl) λv κ' h1 h2 h3 h4=>hK _ κ' h1 h2 h3 ((hR.mono h3).put hd h4) (fb ho))
 ·rw[if_neg (by rw[cJ hR hw]; exact Bool.false_ne_true)]
  exact hK _ κ xm hI (Ext.refl κ) (hR.put hd λd' jR=>by cases jR; exact Ek (v:=undef)) (fb ho)
theorem Hm{Q:Exit->Act->World->Prop}(hC:∀ g,VJ c.P g (c.fn g)):∀ (l:List Nat) {κ:KS} {a:Act} {s s':F×St} {ks:List Nat},Inv κ->Rel κ n s.1 a->κ.st=s.2->CU c n ops l s s' ks ->
  (∀ (a':Act) (κ':KS),κ'.st=s'.2->Inv κ'->Ext κ κ'->Rel κ' n s'.1 a'->b7 ops a a'->Q .normal a' κ'.w)->wpOps c.P ops Q l a κ.w
 | [],κ,a,s,s',ks,hI,hR,xm,h,hQ=>by
  obtain⟨rfl,_⟩:=h
  exact hQ a κ xm hI (Ext.refl κ) hR (b7.refl _ _)
 | i::l,κ,a,s,s',ks,hI,hR,xm,h,hQ=>by
  obtain⟨s1,k,Kh,_,h1,h2⟩:=h
  refine Ze hC hI hR xm h1 λa1 κ1 g1 g2 g3 g4 g5 => ?_
  exact Hm hC l g2 g4 g1 h2 λa' κ' e1 e2 e3 e4 e5=>hQ a' κ' e1 e2 (g3.trans e3) e4 (g5.trans e5)
theorem pC{Q:Exit->Act->World->Prop}(hC:∀ g,VJ c.P g (c.fn g)):∀ (l m:List Nat) {κ:KS} {a:Act} {s s':F×St} {ks:List Nat},Inv κ->Rel κ n s.1 a->κ.st=s.2->CU c n ops l s s' ks ->
  (∀ (a':Act) (κ':KS),κ'.st=s'.2->Inv κ'->Ext κ κ'->Rel κ' n s'.1 a'->b7 ops a a'->wpOps c.P ops Q m a' κ'.w)->wpOps c.P ops Q (l++m) a κ.w
 | [],m,κ,a,s,s',ks,hI,hR,xm,h,hQ=>by
  obtain⟨rfl,_⟩:=h
  exact hQ a κ xm hI (Ext.refl κ) hR (b7.refl _ _)
 | i::l,m,κ,a,s,s',ks,hI,hR,xm,h,hQ=>by
  obtain⟨s1,k,Kh,_,h1,h2⟩:=h
  refine Ze hC hI hR xm h1 λa1 κ1 g1 g2 g3 g4 g5 => ?_
  exact pC hC l m g2 g4 g1 h2 λa' κ' e1 e2 e3 e4 e5=>hQ a' κ' e1 e2 (g3.trans e3) e4 (g5.trans e5)
theorem Zb{kd:Nat->Nat}:∀ (l:List Nat) (s s':F×St) (ks:List Nat),CU c n ops l s s' ks->ks=l.map kd->dV c n ops kd l s s'
 | [],s,s',ks,h,_=>h.1
 | i::l,s,s',ks,⟨s1,k,Kh,e,h1,h2⟩,hk=>by
  subst e
  simp at hk
  obtain⟨rfl,hk⟩:=hk
  exact⟨s1,h1,Zb l s1 s' Kh h2 hk⟩
theorem JX:∀ (l:List Nat) (s s':F×St) (ks:List Nat),CU c n ops l s s' ks->ks.length=l.length
 | [],_,_,_,h=>by rw[h.2]
 | i::l,s,s',ks,⟨s1,k,Kh,e,h1,h2⟩=>by subst e; simp[JX l s1 s' Kh h2]
theorem JR(acc:List Nat):∀ (es:List Edge) (s0 p:Nat),Nat.testBit (es.foldl (λs e=>bif Region.binds .any e then s ||| 2 ^ e.on ||| acc.getD e.on 0 else s) s0) p=true ->
  Nat.testBit s0 p=true\/∃ e∈es,Region.binds .any e=true/\(p=e.on\/Nat.testBit (acc.getD e.on 0) p=true)
 | [],s0,p,h=>.inl h
 | e::es,s0,p,h=>by
  rcases JR acc es _ p h with h1 | ⟨e',h1,h2⟩
  ·grind
  ·grind
theorem cT:∀ (l:List Oper) (acc:List Nat),∃ r,qP l acc=acc++r/\r.length=l.length /\
  ∀ j o,l[j]? = some o->∀ p,Nat.testBit ((qP l acc).getD (acc.length+j) 0) p=true ->
   ∃ e∈o.after.toList,Region.binds .any e=true/\(p=e.on\/(e.on<acc.length+j/\Nat.testBit ((qP l acc).getD e.on 0) p=true))
 | [],acc=>⟨[],by simp[qP],rfl,λj o h=>by simp at h⟩
 | o::l,acc=>by
  let b:=o.after.toList.foldl (λs e=>bif Region.binds .any e then s ||| 2 ^ e.on ||| acc.getD e.on 0 else s) 0
  obtain⟨r,h1,h2,h3⟩:=cT l (acc++[b])
  have hb:qP (o::l) acc=qP l (acc++[b]):=rfl
  have CX:∀ i,i<acc.length->(qP l (acc++[b])).getD i 0=acc.getD i 0:=λi hi=>by
   grind
  refine⟨b::r,by rw[hb,h1]; simp,by simp[h2],?_⟩
  rw[hb]
  intro j o' ho p hp
  cases j with
  | zero =>
   simp at ho
   subst ho
   have he:(qP l (acc++[b])).getD (acc.length+0) 0=b:=by rw[h1]; simp[List.getD]
   rw[he]at hp
   rcases JR acc _ 0 p hp with h | ⟨e,k1,k2,k3⟩
   ·simp at h
   ·grind
  | succ j =>
   have:=h3 j o' (by simpa using ho) p (by rw[show(acc++[b]).length+j=acc.length+(j+1) by simp; omega]; exact hp)
   grind
theorem dr:∀ (l:List Oper) (k:Nat),kI l k=true->∀ j o,l[j]? = some o->∀ e∈o.after.toList,Region.binds .any e=true->e.on<k+j
 | [],_,_,j,o,h,_,_,_=>by simp at h
 | o::l,k,h,j,o',ho,e,he,hb=>by
  simp only[kI,Bool.and_eq_true,List.all_eq_true]at h
  cases j with
  | zero =>
   simp at ho
   subst ho
   have:=h.1 e he
   rw[hb]at this
   exact Nat.le_of_ble_eq_true this
  | succ j =>
   have:=dr l (k+1) h.2 j o' (by grind) e he hb
   omega
def I6{K:Type}(cl:K->K->Bool)(ops:Array Oper)(x:Oper)(kx:K)(y:Oper)(ky:K):Prop:=(∀ d,x.dst=some d->d ∉ tmpsOf ops y)/\(∀ d,y.dst=some d->d ∉ tmpsOf ops x)/\cl kx ky=false
theorem Ut{K:Type}{cl:K->K->Bool}{bs:List Nat}{xs:List (Nat×Option Nat×List Nat×K)}{j:Nat}{ky:K}{y:Oper}(h:YW cl bs xs j y.dst (tmpsOf ops y) ky=true){i:Nat}{kx:K}{x:Oper}(hx:(i,x.dst,tmpsOf ops x,kx)∈xs) :
  ordered bs i j=true\/I6 cl ops x kx y ky:=by
 simp only[YW,List.all_eq_true]at h
 have:=h _ hx
 simp at this
 rcases this with h1 | ⟨⟨h1,h2⟩,h3⟩
 ·grind
 ·refine .inr ⟨λd hd hm => ?_,λd hd hm => ?_,h3⟩
  ·grind
  ·grind
theorem db{K:Type}{cl:K->K->Bool}{bs:List Nat}:∀ (l:List Oper) (ks:List K) (k0:Nat) (xs:List (Nat×Option Nat×List Nat×K)),cW cl ops bs l ks k0 xs=true ->
  (∀ j y ky,l[j]? = some y->ks[j]? = some ky->(∀ i x kx,(i,x.dst,tmpsOf ops x,kx)∈xs->ordered bs i (k0+j)=true\/I6 cl ops x kx y ky) /\
   (∀ i x kx,i<j->l[i]? = some x->ks[i]? = some kx->ordered bs (k0+i) (k0+j)=true\/I6 cl ops x kx y ky))
 | [],_,_,_,_,j,y,ky,hy,_=>by simp at hy
 | o::l,[],_,_,h,_,_,_,_,_=>by simp[cW]at h
 | o::l,k::ks,k0,xs,h,j,y,ky,hy,hk=>by
  simp only[cW,Bool.and_eq_true]at h
  obtain⟨h1,h2⟩:=h
  have ih:=db l ks (k0+1) _ h2
  cases j with
  | zero =>
   simp at hy hk
   subst hy hk
   exact⟨λi x kx hx=>by simpa using Ut h1 hx,λi x kx hi=>absurd hi (Nat.not_lt_zero i)⟩
  | succ j =>
   obtain⟨g1,g2⟩:=ih j y ky (by simpa using hy) (by simpa using hk)
   have e:k0+1+j=k0+(j+1):=by omega
   rw[e]at g1 g2
   refine⟨λi x kx hx=>g1 i x kx (List.mem_cons_of_mem _ hx),λi x kx hi hx hkx => ?_⟩
   cases i with
   | zero =>
    grind
   | succ i =>
    grind
def rest(ops:Array Oper)(listed:Array Bool):List Nat:=(List.range ops.size).filter λi => !listed.getD i true
def mN(ops:Array Oper)(listed:Array Bool):Prop:=∀ q,q<ops.size->listed.getD q true=true->∀ p,ordered (qP ops.toList []) p q=true->p<ops.size->listed.getD p true=true
theorem uc{listed:Array Bool}{i j:Nat}(hi:i<listed.size):(listed.setIfInBounds i true).getD j true=if j=i then true else listed.getD j true:=by
 simp
 grind
theorem kO{p q:Nat->Bool}{i:Nat}:∀ (l:List Nat),l.Pairwise (· < ·)->i∈l->p i=true->(∀ j,q j=(p j && !(j==i))) ->
  ∃ pre post,l.filter p=pre++i::post/\l.filter q=pre++post/\∀ x∈pre,p x=true/\x∈l/\x<i
 | [],_,hi,_,_=>by simp at hi
 | a::l,hn,hi,hp,hq=>by
  have SE:=List.pairwise_cons.1 hn
  by_cases ha:a=i
  ·subst ha
   refine⟨[],l.filter p,by grind,?_,by simp⟩
   have hqa:q a=false:=by rw[hq]; simp
   simp only[List.filter_cons,hqa]
   refine List.filter_congr λx hx => ?_
   rw[hq]
   have:(x==a)=false:=by simp; exact λe=>absurd (SE.1 x hx) (by omega)
   simp[this]
  ·have UY:i∈l:=by rcases List.mem_cons.1 hi with h | h; exact absurd h.symm ha; exact h
   obtain⟨pre,post,h1,h2,h3⟩:=kO l SE.2 UY hp hq
   grind
theorem cU{listed:Array Bool}{i:Nat}:i∈Region.ready .any ops listed↔i<ops.size/\listed.getD i true=false/\∀ o,ops[i]? = some o->∀ e∈o.after.toList,Region.binds .any e=true->listed.getD e.on false=true:=by
 unfold Region.ready
 simp only[List.mem_filter,List.mem_range,Bool.and_eq_true,Bool.not_eq_true']
 constructor
 ·rintro⟨h1,h2,h3⟩
  refine⟨h1,h2,λo ho e he hb => ?_⟩
  rw[ho]at h3
  simp only[Option.map_some,Option.getD_some,Array.all_eq_true_iff_forall_mem]at h3
  grind
 ·grind
theorem ZM(KU:kI ops.toList 0=true){listed:Array Bool}(vV:listed.size=ops.size):Region.ready .any ops listed=[]->rest ops listed=[]:=by
 intro hr
 cases Ob:rest ops listed with
 | nil=>rfl
 | cons i l =>
  have hi:i∈rest ops listed:=by rw[Ob]; exact List.mem_cons_self
  simp only[rest,List.mem_filter,List.mem_range,Bool.not_eq_true']at hi
  have Sh:∀ j,j<i->listed.getD j true=true:=by
   intro j hj
   cases hl:listed.getD j true with
   | true=>rfl
   | false =>
    have hpw:(rest ops listed).Pairwise (· < ·):=List.Pairwise.filter _ List.pairwise_lt_range
    have hjm:j∈rest ops listed:=by simp only[rest,List.mem_filter,List.mem_range,Bool.not_eq_true']; exact⟨by omega,hl⟩
    rw[Ob]at hpw hjm
    rcases List.mem_cons.1 hjm with rfl | hjm
    ·grind
    ·have:=(List.pairwise_cons.1 hpw).1 j hjm; omega
  have:i∈Region.ready .any ops listed:=by
   rw[cU]
   refine⟨hi.1,hi.2,λo ho e he hb => ?_⟩
   have qc:=dr ops.toList 0 KU i o (by grind) e he hb
   grind
  grind
def ZA(Stp:Nat->F×St->F×St->Prop):List Nat->F×St->F×St->Prop
 | [],s,s'=>s'=s
 | i::l,s,s'=>∃ s1,Stp i s s1/\ZA Stp l s1 s'
theorem Xi{Stp:Nat->F×St->F×St->Prop}{In:Nat->Nat->Prop}(J9:∀ p i,In p i->∀ s s1 s2,Stp p s s1->Stp i s1 s2->∃ s',Stp i s s'/\Stp p s' s2){i:Nat}{post:List Nat}{s':F×St}:∀ {pre:List Nat} {s:F×St},(∀ p∈pre,In p i)->ZA Stp (pre++i::post) s s' ->
  ∃ s1,Stp i s s1/\ZA Stp (pre++post) s1 s'
 | [],s,_,h=>h
 | p::pre,s,hp,⟨sp,h1,h2⟩=>by
  obtain⟨s1,h3,h4⟩:=Xi J9 (λq hq=>hp q (List.mem_cons_of_mem _ hq)) h2
  obtain⟨s2,h5,h6⟩:=J9 _ _ (hp p List.mem_cons_self) _ _ _ h1 h3
  exact⟨s2,h5,s1,h6,h4⟩
theorem pc{Stp:Nat->F×St->F×St->Prop}{In:Nat->Nat->Prop}(Ii:∀ i s s',Stp i s s'->∃ k,jY c n ops i s s' k)(J9:∀ p i,In p i->∀ s s1 s2,Stp p s s1->Stp i s1 s2->∃ s',Stp i s s'/\Stp p s' s2){Q:Exit->Act->World->Prop}(hC:∀ g,VJ c.P g (c.fn g))(KU:kI ops.toList 0=true)
  {sf:F×St}:∀ (fuel:Nat) (listed:Array Bool) {κ:KS} {a:Act} {s:F×St},(∀ p i,p<i->i<ops.size->listed.getD p true=false->ordered (qP ops.toList []) p i=true\/In p i) ->
  listed.size=ops.size->fuel=(rest ops listed).length->mN ops listed->Inv κ->Rel κ n s.1 a->κ.st=s.2->ZA Stp (rest ops listed) s sf ->
  (∀ (a':Act) (κ':KS),κ'.st=sf.2->Inv κ'->Ext κ κ'->Rel κ' n sf.1 a'->b7 ops a a'->Q .normal a' κ'.w)->wpAny c.P .any ops Q fuel listed a κ.w
 | fuel,listed,κ,a,s,jj,vV,hfuel,sx,hI,hR,xm,wO,hQ=>by
  have RH:=ZM KU (listed:=listed) vV
  have By:rest ops listed=[]->Q .normal a κ.w:=by
   intro h
   rw[h]at wO
   cases wO
   exact hQ a κ xm hI (Ext.refl κ) hR (b7.refl _ _)
  cases fuel with
  | zero =>
   have Ob:rest ops listed=[]:=List.eq_nil_of_length_eq_zero hfuel.symm
   refine⟨?_,By Ob⟩
   apply List.eq_nil_iff_forall_not_mem.2
   intro i hi
   rw[cU]at hi
   have:i∈rest ops listed:=by simp only[rest,List.mem_filter,List.mem_range,Bool.not_eq_true']; exact⟨hi.1,hi.2.1⟩
   grind
  | succ fuel =>
   refine⟨λh=>By (RH h),λi hi => ?_⟩
   rw[cU]at hi
   obtain⟨h1,h2,h3⟩:=hi
   have ho:ops[i]? = some ops[i]:=Array.getElem?_eq_getElem h1
   obtain⟨pre,post,g1,g2,g3⟩:=kO (p:=λi => !listed.getD i true) (q:=λj => !(listed.setIfInBounds i true).getD j true) (i:=i) (List.range ops.size) List.pairwise_lt_range
    (List.mem_range.2 h1) (by simp[h2]) (λj=>by
     rw[uc (by omega)]
     by_cases h:j=i
     ·grind
     ·simp[h])
   have L5:∀ p,ordered (qP ops.toList []) p i=true->p<ops.size->listed.getD p true=true:=by
    intro p hp qc
    obtain⟨r,_,_,hb⟩:=cT ops.toList []
    obtain⟨e,k1,k2,k3⟩:=hb i ops[i] (by simp) p (by simpa[ordered]using hp)
    have hle:=h3 _ ho e k1 k2
    have Qa:=dr ops.toList 0 KU i ops[i] (by simp) e k1 k2
    have Q8:listed.getD e.on true=true:=by
     grind
    rcases k3 with rfl | ⟨_,k3⟩
    ·exact Q8
    ·exact sx e.on (by omega) Q8 p k3 qc
   have EN:∀ p∈pre,In p i:=by
    grind
   have Uc:ZA Stp (pre++i::post) s sf:=by
    have:rest ops listed=pre++i::post:=g1
    grind
   obtain⟨s1,k1,k2⟩:=Xi J9 EN Uc
   have iA:rest ops (listed.setIfInBounds i true)=pre++post:=g2
   obtain⟨kk,k1⟩:=Ii _ _ _ k1
   refine Ze hC hI hR xm k1 λa1 κ1 e1 e2 e3 e4 e5 => ?_
   refine pc Ii J9 hC KU fuel (listed.setIfInBounds i true) (λp j hpj hj hp=>jj p j hpj hj (by
    rw[uc (by omega)]at hp
    split at hp
    ·cases hp
    ·exact hp)) (by simp[vV]) ?_ ?_ e2 e4 e1 (by rw[iA]; exact k2) λa' κ' d1 d2 d3 d4 d5=>hQ a' κ' d1 d2 (e3.trans d3) d4 (e5.trans d5)
   ·have:rest ops listed=pre++i::post:=g1
    rw[this]at hfuel
    rw[iA]
    simp only[List.length_append,List.length_cons]at hfuel ⊢
    omega
   ·intro q hq Co p hp qc
    rw[uc (by omega)]at Co ⊢
    split
    ·rfl
    ·split at Co
     ·rename_i e; subst e; exact L5 p hp qc
     ·exact sx q hq Co p hp qc
theorem Jo{kd:Nat->Nat}:∀ (l:List Nat) (s s':F×St),dV c n ops kd l s s'->ZA (λi s s'=>jY c n ops i s s' (kd i)) l s s'
 | [],_,_,h=>h
 | i::l,s,s',⟨s1,h1,h2⟩=>⟨s1,h1,Jo l s1 s' h2⟩
theorem tv{kd:Nat->Nat}{Q:Exit->Act->World->Prop}(hC:∀ g,VJ c.P g (c.fn g))(KU:kI ops.toList 0=true)
  {sf:F×St}:∀ (fuel:Nat) (listed:Array Bool) {κ:KS} {a:Act} {s:F×St},(∀ p i,p<i->i<ops.size->listed.getD p true=false->ordered (qP ops.toList []) p i=true\/Pj ops kd p i) ->
  listed.size=ops.size->fuel=(rest ops listed).length->mN ops listed->Inv κ->Rel κ n s.1 a->κ.st=s.2->dV c n ops kd (rest ops listed) s sf ->
  (∀ (a':Act) (κ':KS),κ'.st=sf.2->Inv κ'->Ext κ κ'->Rel κ' n sf.1 a'->b7 ops a a'->Q .normal a' κ'.w)->wpAny c.P .any ops Q fuel listed a κ.w
 | fuel,listed,κ,a,s,jj,vV,hfuel,sx,hI,hR,xm,wO,hQ =>
  pc (Stp:=λi s s'=>jY c n ops i s s' (kd i)) (In:=λp i=>Pj ops kd p i) (λi s s' h=>⟨_,h⟩) (λp i hi s s1 s2 h1 h2=>XO hi h1 h2) hC KU fuel listed jj vV hfuel sx hI hR xm (Jo _ _ _ wO) hQ
end
end Go.AM
namespace Go.AM
set_option linter.unusedSectionVars false
variable [vi] [Qg]
open Go.RowKit
structure Up(κ κ':KS):Prop where
 same:Yf κ.w κ'.w κ.ok κ'.ok
 var:∀ (b:Nat) (d:D),κ.st[b]? = some (.var d)->(∃ d',κ'.st[b]? = some (.var d'))/\κ'.ph[b]? = κ.ph[b]?
 old:∀ (b qh:Nat),Old κ.st b qh->Old κ'.st b qh
 row:∀ (b v:Nat) (e:Ty) (xs:List (den e)),Old κ.st b v->κ'.st[b]? = some (.arr v e xs)->κ.st[b]? = some (.arr v e xs)/\κ'.ph[b]? = κ.ph[b]?
theorem RD.up{κ κ':KS}(x:Up κ κ'){d:D}{v:Value}(h:RD κ d v):RD κ' d v:=by
 induction h with
 | zx τ y cs h=>exact .zx τ y cs (h.mono x.same)
 | qL e a=>exact .qL e a
 | tight e l ne blk off f vP xO h hc=>exact .tight e l ne blk off f vP (x.same _ xO).1 (λi hi=>(h i hi).mono x.same) λi hi j v hv=>by rw[yo (x.same _ xO).2]; exact hc i hi j v hv
 | qZ=>exact .qZ
 | jF=>exact .jF
 | qB=>exact .qB
 | vj=>exact .vj
 | vf=>exact .vf
 | lI v h=>exact .lI v h
 | yK T=>exact .yK T
 | yG b T d hd =>
  obtain⟨⟨d',jR⟩,hp⟩:=x.var b d hd
  exact .yG b T d' jR
 | yF b T blk n d hd h =>
  obtain⟨⟨d',jR⟩,hp⟩:=x.var b d hd
  exact .yF b T blk n d' jR (hp.trans h)
 | ptr b off blk n d hd h =>
  obtain⟨⟨d',jR⟩,hp⟩:=x.var b d hd
  exact .ptr b off blk n d' jR (hp.trans h)
 | qA τ y cs blk off xO h hc=>exact .qA τ y cs blk off (x.same _ xO).1 (h.mono x.same) λj v hv=>by rw[yo (x.same _ xO).2]; exact hc j v hv
 | vD b qh e idx off blk o hb h =>
  refine .vD b qh e idx off blk o (x.old b qh hb) λxs hx hi => ?_
  obtain⟨h1,h2⟩:=x.row b qh e xs hb hx
  grind
 | ms b qh e off len cap a hb wD ha fI h =>
  refine .ms b qh e off len cap a (x.old b qh hb) wD ha fI λxs hx => ?_
  obtain⟨h1,h2⟩:=x.row b qh e xs hb hx
  have:=h xs h1
  unfold Gn at this ⊢
  grind
 | qE f l vs hl h ih=>exact .qE f l vs hl ih
 | agg l vs hl ho h ih=>exact .agg l vs hl ho ih
 | jW l vs hl h ih=>exact .jW l vs hl ih
 | iface t d v h ih=>exact .iface t d v ih
structure SZ(κ:KS)(blk:Nat):Prop where
 lt:blk<κ.w.heap.size
 ok:¬ κ.ok blk
 ph:∀ (b n:Nat),κ.ph[b]? ≠ some (some (blk,n))
theorem SZ.ext{κ κ':KS}(x:Ext κ κ'){blk:Nat}(h:SZ κ blk):SZ κ' blk/\κ'.w.heap[blk]? = κ.w.heap[blk]? := by
 refine⟨⟨Nat.lt_of_lt_of_le h.lt x.size,λhk => ?_,λb n hb => ?_⟩,x.frame blk h.lt h.ph⟩
 ·rcases x.fresh blk hk with h1 | h1 | ⟨b,n,h1⟩
  ·exact h.ok h1
  ·have:=h.lt; omega
  ·exact h.ph b n h1
 ·rcases x.Lk b blk n hb with h1 | h1
  ·exact h.ph b n h1
  ·have:=h.lt; omega
def KS.push(κ:KS)(blk n:Nat)(d:D):KS:={ κ with ph:=κ.ph++[some (blk,n)],st:=κ.st++[.var d] }
theorem cv{α:Type}{l:List α}{x y:α}{b:Nat}(h:l[b]? = some y):(l++[x])[b]? = some y:=by grind
theorem lg{α:Type}{l:List α}{x y:α}{b:Nat}(h:(l++[x])[b]? = some y):l[b]? = some y\/(b=l.length/\y=x):=by grind
theorem HK{κ:KS}(hI:Inv κ)(blk n:Nat)(d:D):Up κ (κ.push blk n d):=by
 have X0:∀ {b:Nat} {y:jn},κ.st[b]? = some y->(κ.ph++[some (blk,n)])[b]? = κ.ph[b]? := λh=>by
  rw[List.getElem?_append_left]; rw[hI.len]; exact(List.getElem?_eq_some_iff.1 h).1
 refine⟨λk hk=>⟨hk,rfl⟩,λb d' h=>⟨⟨d',cv h⟩,X0 h⟩,λb qh h => ?_,λb v e xs ho h => ?_⟩
 ·rcases h with h | ⟨v0,e0,mc,h,hv⟩
  ·exact .inl (cv h)
  ·exact .inr ⟨v0,e0,mc,cv h,hv⟩
 ·rcases lg h with h1 | ⟨_,h1⟩
  ·exact⟨h1,X0 h1⟩
  ·cases h1
theorem N8{κ0 κ:KS}{blk:Nat}{d:D}{z:Value}{t:TypeId}(hI:Inv κ)(hx:Ext κ0 κ)(hb:SZ κ blk)(h0:κ0.w.heap.size<=blk)(hz:RD κ d z)(ht:d.vS=false)(Gi:∀ T,d.typed=some T->t=T)(hh:κ.w.heap[blk]? = some (.cells z.cells t (0,0))) :
  Inv (κ.push blk z.cells.size d)/\Ext κ0 (κ.push blk z.cells.size d)/\RD (κ.push blk z.cells.size d) (.ptr κ.st.length 0) (.pointer (some ⟨blk,0,none⟩)):=by
 have hu:=HK hI blk z.cells.size d
 have xm:(κ.push blk z.cells.size d).st[κ.st.length]? = some (.var d):=by simp[KS.push]
 have X0:(κ.push blk z.cells.size d).ph[κ.st.length]? = some (some (blk,z.cells.size)):=by simp[KS.push,<- hI.len]
 have Lc:∀ {b k m:Nat},(κ.push blk z.cells.size d).ph[b]? = some (some (k,m))->κ.ph[b]? = some (some (k,m))\/(b=κ.ph.length/\k=blk):=by
  intro b k m h
  rcases lg h with h1 | ⟨h1,h2⟩
  ·grind
  ·grind
 refine⟨⟨by simp[KS.push,hI.len],hI.jN,λb k m h => ?_,λb b' k m m' h h' => ?_,λb y h => ?_,hI.gl⟩,?_,.ptr _ 0 blk _ d xm X0⟩
 ·rcases Lc h with h1 | ⟨_,rfl⟩
  ·exact hI.apart b k m h1
  ·exact⟨hb.lt,hb.ok⟩
 ·rcases Lc h with h1 | ⟨h1,rfl⟩
  ·rcases Lc h' with h2 | ⟨h2,rfl⟩
   ·exact hI.inj b b' k m m' h1 h2
   ·exact(hb.ph b m h1).elim
  ·rcases Lc h' with h2 | ⟨h2,_⟩
   ·exact(hb.ph b' m' h2).elim
   ·omega
 ·rcases lg h with h1 | ⟨h1,h2⟩
  ·have hp:(κ.push blk z.cells.size d).ph[b]? = κ.ph[b]? := by
    show(κ.ph++[_])[b]? = _
    grind
   have hy:=hI.blk b y h1
   cases y with
   | dead=>trivial
   | var d' =>
    obtain⟨k,m,cs,T,g1,g2,g3,g4,g5⟩:=hy
    exact⟨k,m,cs,T,hp.trans g1,g2,g3,⟨g4.1,λi h1 h2=>(g4.2 i h1 h2).up hu⟩,g5⟩
   | arr qh e xs =>
    obtain⟨g0,g⟩:=hy
    refine⟨g0,hJ g (λh=>⟨h.1,hp.trans h.2⟩) ?_⟩
    rintro⟨k,m,cs,T,g1,g2⟩
    exact⟨k,m,cs,T,hp.trans g1,g2⟩
  ·subst h1
   subst h2
   have hf:=uj hz ht
   exact⟨blk,z.cells.size,z.cells,t,X0,hh,rfl,⟨hf.1,λi h1 h2=>(hf.2 i h1 h2).up hu⟩,ug hz,Gi⟩
 ·refine⟨hx.os,hx.tape,hx.output,hx.size,hx.same,hx.fresh,λb k m h => ?_,λb d' h => ?_,λb v0 e xs h => ?_,λb h=>cv (hx.dead b h),Nat.le_trans hx.Uu (by simp[KS.push]),hx.frame⟩
  ·rcases Lc h with h1 | ⟨_,rfl⟩
   ·exact hx.Lk b k m h1
   ·exact .inr h0
  ·obtain⟨⟨d1,h1⟩,h2⟩:=hx.var b d' h
   obtain⟨h3,h4⟩:=hu.var b d1 h1
   exact⟨h3,h4.trans h2⟩
  ·rcases hx.arr b v0 e xs h with h1 | ⟨v1,yd,h1,h2,h3⟩
   ·exact .inl (cv h1)
   ·refine .inr ⟨v1,yd,cv h1,h2,λhe=>⟨?_,(h3 he).2⟩⟩
    have hp:(κ.push blk z.cells.size d).ph[b]? = κ.ph[b]? := by
     show(κ.ph++[_])[b]? = _
     rw[List.getElem?_append_left]; rw[hI.len]; exact(List.getElem?_eq_some_iff.1 h1).1
    exact hp.trans (h3 he).1
theorem O6{κ:KS}(hI:Inv κ)(o:Obj):Inv { κ with w:=κ.w.alloc o }/\Ext κ { κ with w:=κ.w.alloc o }/\SZ { κ with w:=κ.w.alloc o } κ.w.heap.size/\(κ.w.alloc o).heap[κ.w.heap.size]? = some o:=by
 have hs:(κ.w.alloc o).heap.size=κ.w.heap.size+1:=by simp
 have hold:∀ k,k<κ.w.heap.size->(κ.w.alloc o).heap[k]? = κ.w.heap[k]? := λk hk=>by
  show(κ.w.heap.push o)[k]? = _
  grind
 have hx:Ext κ { κ with w:=κ.w.alloc o }:=⟨rfl,rfl,rfl,by simp,λk hk=>⟨hk,hold k (hI.jN k hk)⟩,λk hk=>.inl hk,λ_ _ _ h=>.inl h,λb d h=>⟨⟨d,h⟩,rfl⟩,
  λb v0 e xs h=>.inr ⟨v0,xs,h,Nat.le_refl _,λ_=>⟨rfl,rfl⟩⟩,λ_ h=>h,Nat.le_refl _,λk hk _=>hold k hk⟩
 refine⟨⟨hI.len,λk hk => ?_,λb blk n h => ?_,hI.inj,λb y hy=>(hI.blk b y hy).mono hx rfl λblk n h=>hold _ (hI.apart b blk n h).1,hI.gl.mono hx.same⟩,hx,⟨?_,λhk => ?_,λb n h => ?_⟩,?_⟩
 ·have:=hI.jN k hk; show k<(κ.w.alloc o).heap.size; omega
 ·have:=hI.apart b blk n h; exact⟨by grind,this.2⟩
 ·simp
 ·have:=hI.jN _ hk; omega
 ·have:=(hI.apart b _ n h).1; omega
 ·show(κ.w.heap.push o)[κ.w.heap.size]? = some o
  simp
section
variable {c:Ctx} {n:Nat} {ops:Array Oper}
structure Em where
 i:Nat
 d:Nat
 blk:Nat
 t:TypeId
 z:Value
 D:D
structure G7(c:Ctx)(ops:Array Oper)(κ0 κ:KS)(a:Act)(e:Em):Prop where
 op:∃ o,ops[e.i]? = some o/\o.op=.alloc e.t/\o.guard=none/\o.dst=some e.d
 zero:rF c e.t=some e.D
 z:∃ i,c.P.info? e.t=some i/\i.zero=some e.z/\ZD e.t e.D e.z
 val:a.tmps[e.d]? = some (.pointer (some ⟨e.blk,0,none⟩))
 heap:κ.w.heap[e.blk]? = some (.cells e.z.cells e.t (0,0))
 SN:SZ κ e.blk
 new:κ0.w.heap.size<=e.blk
theorem G7.mono{κ0 κ κ':KS}{a a':Act}{e:Em}(h:G7 c ops κ0 κ a e)(x:Ext κ κ')(ha:a'.tmps[e.d]? = a.tmps[e.d]?):G7 c ops κ0 κ' a' e:=by
 obtain⟨h1,h2⟩:=h.SN.ext x
 exact⟨h.op,h.zero,h.z,ha.trans h.val,h2.trans h.heap,h1,h.new⟩
def jh(es:List Em)(f:F):F:=λs=>if es.any (λe=>Nat.beq e.d s)then none else f s
theorem n7{es:List Em}{f:F}{s:Nat}(h:∀ e∈es,e.d≠s):jh es f s=f s:=by
 unfold jh
 rw[if_neg]
 intro hh
 obtain⟨e,he,hb⟩:=List.any_eq_true.1 hh
 exact h e he (Nat.eq_of_beq_eq_true hb)
theorem XP{es:List Em}{f:F}{s:Nat}{d:D}(h:jh es f s=some d):f s=some d/\∀ e∈es,e.d≠s:=by
 unfold jh at h
 split at h
 ·cases h
 ·rename_i hh
  refine⟨h,λe he hs=>hh (List.any_eq_true.2 ⟨e,he,?_⟩)⟩
  subst hs; simp
def bu(ops:Array Oper)(i:Nat):Prop:=∃ o,ops[i]? = some o/\s9 o=true
theorem BN{o:Oper}(h:s9 o=true):∃ t d,o.op=.alloc t/\o.guard=none/\o.dst=some d:=by
 unfold s9 at h
 simp only[Bool.and_eq_true]at h
 obtain⟨⟨h1,h2⟩,h3⟩:=h
 split at h1
 ·rename_i t ht
  obtain⟨d,hd⟩:=Option.isSome_iff_exists.1 h3
  exact⟨t,d,ht,Option.isNone_iff_eq_none.1 h2,hd⟩
 ·cases h1
theorem W8{o:Oper}{t d:Nat}(h1:o.op=.alloc t)(h2:o.guard=none)(h3:o.dst=some d):s9 o=true:=by
 unfold s9; rw[h1,h2,h3]; rfl
theorem Un{kd:Nat->Nat}:∀ {l:List Nat} {s sf:F×St} {i:Nat},dV c n ops kd l s sf->i∈l->∃ s1 s2,jY c n ops i s1 s2 (kd i)
 | [],_,_,_,_,h=>by cases h
 | j::l,s,sf,i,⟨s1,h1,h2⟩,h=>by
  rcases List.mem_cons.1 h with rfl | h
  ·grind
  ·exact Un h2 h
theorem Z8{kd:Nat->Nat}{i t d:Nat}{o:Oper}(ho:ops[i]? = some o)(h1:o.op=.alloc t)(h2:o.guard=none)(h3:o.dst=some d){s s':F×St}(h:jY c n ops i s s' (kd i)) :
  ∃ D,rF c t=some D/\d<n/\s'=(j8 s.1 (some d) (some (.ptr s.2.length 0)),s.2++[.var D]):=by
 obtain⟨o',P2,hd,h⟩:=h
 rw[ho]at P2
 cases P2
 rw[h3]at hd
 have qc:d<n:=Nat.le_of_ble_eq_true hd
 have hw:xF ops s.1 o=some true:=by unfold xF; rw[h2]
 rcases h with⟨_,_,D,zl,hl,rfl⟩ | ⟨hw',_,_⟩
 ·have he:qm c (zW s.1) o=cX c t:=by
   obtain⟨dst,op,ty,pos,after,guard⟩:=o
   cases h1
   rfl
  rw[he]at hl
  unfold cX at hl
  split at hl
  ·rename_i y hy
   simp only[zr,T.leads]at hl
   grind
  ·exact absurd hl ze
 ·grind
theorem Yx{es:List Em}{i k:Nat}{s s':F×St}(h:jY c n ops i s s' k)(hd:∀ o,ops[i]? = some o->∀ e∈es,e.d ∉ tmpsOf ops o) :
  jY c n ops i (jh es s.1,s.2) (jh es s'.1,s'.2) k:=by
 obtain⟨o,ho,NU,h⟩:=h
 have ya:=hd o ho
 have z0u:∀ x:Option D,j8 (jh es s.1) o.dst x=jh es (j8 s.1 o.dst x):=by
  intro x
  cases RL:o.dst with
  | none=>rfl
  | some t =>
   funext u
   simp only[j8,jh]
   by_cases hu:u=t
   ·subst hu
    rw[if_pos rfl]
    rw[if_neg,if_pos rfl]
    intro hh
    obtain⟨e,he,hb⟩:=List.any_eq_true.1 hh
    exact ya e he (by rw[Nat.eq_of_beq_eq_true hb]; exact jd RL)
   ·grind
 have bD:∀ x∈o.op.operands,zW (jh es s.1) x=zW s.1 x:=by
  intro x hx
  cases x with
  | tmp t=>exact n7 λe he ht=>ya e he (ht▸eY hx)
  | _=>rfl
 have hw:xF ops (jh es s.1) o=xF ops s.1 o:=by
  unfold xF
  cases hg:o.guard with
  | none=>rfl
  | some jw =>
   obtain⟨j,w⟩:=jw
   simp only
   cases hs:vK ops j with
   | none=>rfl
   | some t =>
    simp only
    rw[n7 λe he ht=>ya e he (ht▸eX hg hs)]
 refine⟨o,ho,NU,?_⟩
 rcases h with⟨h1,h2,d,zl,h3,rfl⟩ | ⟨h1,h2,rfl⟩
 ·refine .inl ⟨hw.trans h1,?_,d,zl,?_,?_⟩
  ·rw[show qm c (zW (jh es s.1)) o=qm c (zW s.1) o from mB o bD]; exact h2
  ·rw[show qm c (zW (jh es s.1)) o=qm c (zW s.1) o from mB o bD]; exact h3
  ·rw[z0u]
 ·grind
theorem CG{κ:KS}{a:Act}{i k:Nat}{s s':F×St}(hC:∀ g,VJ c.P g (c.fn g))(hI:Inv κ)(hR:Rel κ n s.1 a)(xm:κ.st=s.2)(h:jY c n ops i s s' k){K:Act->World->Prop}{Q:Exit->Act->World->Prop}
  (hK:∀ (a':Act) (κ':KS),κ'.st=s'.2->Inv κ'->Ext κ κ'->Rel κ' n s'.1 a'->b7 ops a a'->(∀ u:Nat,(∀ o,ops[i]? = some o->o.dst≠some u)->a'.tmps[u]? = a.tmps[u]?)->K a' κ'.w):wpOp c.P ops Q i K a κ.w:=by
 obtain⟨o,ho,hd,h⟩:=h
 have hu:∀ (v:Value) (u:Nat),(∀ o,ops[i]? = some o->o.dst≠some u)->(a.put o.dst v).tmps[u]? = a.tmps[u]? := by
  intro v u hn
  have:=hn o ho
  cases RL:o.dst with
  | none=>rfl
  | some t =>
   rw[RL]at this
   have vP:t≠u:=λe=>this (by rw[e])
   simp[Act.put,Array.getElem?_setIfInBounds_ne vP]
 unfold wpOp
 rw[ho]
 simp only
 rcases h with⟨hw,_,d,zl,hl,rfl⟩ | ⟨hw,_,rfl⟩
 ·rw[if_pos (cJ hR hw)]
  refine .inl (JY hC hI hR (xm▸hl) λv κ' h1 h2 h3 h4=>hK _ κ' h1 h2 h3 ((hR.mono h3).put hd h4) (fb ho) (hu v))
 ·rw[if_neg (by rw[cJ hR hw]; exact Bool.false_ne_true)]
  exact hK _ κ xm hI (Ext.refl κ) (hR.put hd λd' jR=>by cases jR; exact Ek (v:=undef)) (fb ho) (hu undef)
def SL(kd:Nat->Nat)(o:Oper)(i:Nat):Nat:=bif s9 o then 3 else kd i
def M8(ops:Array Oper)(kd:Nat->Nat)(p i:Nat):Prop:=∀ x y,ops[p]? = some x->ops[i]? = some y ->
 (∀ d,x.dst=some d->d ∉ tmpsOf ops y)/\(∀ d,y.dst=some d->d ∉ tmpsOf ops x)/\ij (SL kd x p) (SL kd y i)=false
theorem EM{k l:Nat}(hk:k<=2)(hl:l<=2)(h:ij k l=false):vF k l=false:=by
 have h1:Nat.beq k 3=false:=dH (by omega)
 have h2:Nat.beq l 3=false:=dH (by omega)
 simpa[ij,h1,h2]using h
theorem LF{k l:Nat}(hl:l<=2)(h:ij 3 l=false):vF k l=false:=by
 have h2:Nat.beq l 3=false:=dH (by omega)
 have h3:vF 2 l=false:=by simpa[ij,h2]using h
 have h0:l=0:=by
  match l,hl,h3 with
  | 0,_,_=>rfl
  | 1,_,h3=>cases h3
  | 2,_,h3=>cases h3
 subst h0
 simp[vF]
theorem NM{k l:Nat}(hk:k<=2)(h:ij k 3=false):vF k l=false:=by
 have h2:Nat.beq k 3=false:=dH (by omega)
 have h3:vF k 2=false:=by simpa[ij,h2]using h
 have h0:k=0:=by
  match k,hk,h3 with
  | 0,_,_=>rfl
  | 1,_,h3=>cases h3
  | 2,_,h3=>cases h3
 subst h0
 simp[vF]
theorem V7{kd:Nat->Nat}{p i:Nat}(h:M8 ops kd p i)(hp:kd p<=2)(hi:kd i<=2)(hn:¬ (bu ops p/\bu ops i)):Pj ops kd p i:=by
 intro x y hx hy
 obtain⟨h1,h2,h3⟩:=h x y hx hy
 refine⟨h1,h2,?_⟩
 unfold SL at h3
 cases hax:s9 x with
 | true =>
  cases hay:s9 y with
  | true=>exact(hn ⟨⟨x,hx,hax⟩,y,hy,hay⟩).elim
  | false=>rw[hax,hay]at h3; exact LF hi h3
 | false =>
  cases hay:s9 y with
  | true=>rw[hax,hay]at h3; exact NM hp h3
  | false=>rw[hax,hay]at h3; exact EM hp hi h3
theorem least{es:List Em}(h:es≠[]):∃ e∈es,∀ f∈es,e.i<=f.i:=by
 induction es with
 | nil=>grind
 | cons e r ih =>
  by_cases hr:r=[]
  ·subst hr; exact⟨e,List.mem_cons_self,λf hf=>by grind⟩
  ·grind
def LC(e f:Em):Prop:=e.i≠f.i/\e.blk≠f.blk/\e.d≠f.d
theorem LC.symm{e f:Em}(h:LC e f):LC f e:=⟨h.1.symm,h.2.1.symm,h.2.2.symm⟩
theorem flush{kd:Nat->Nat}{κ0:KS}(jj:∀ p i,p<i->i<ops.size->ordered (qP ops.toList []) p i=true\/M8 ops kd p i)(c8:∀ i,i<ops.size->kd i<=2)
  {listed:Array Bool} (sx:mN ops listed) (eG:∀ q,q<ops.size->bu ops q->listed.getD q true=true) {a:Act} {sf:F×St} :
  ∀ (m:Nat) (es:List Em) (qe:Array Bool) (κ:KS) (s:F×St),es.length=m->qe.size=ops.size->(∀ j,j<ops.size->qe.getD j true=true->listed.getD j true=true) ->
  (∀ j,j<ops.size->listed.getD j true=true->qe.getD j true=false->∃ e∈es,e.i=j)->(∀ e∈es,e.i<ops.size/\listed.getD e.i true=true/\qe.getD e.i true=false)->es.Pairwise LC ->
  Inv κ->Rel κ n (jh es s.1) a->κ.st=s.2->Ext κ0 κ->(∀ e∈es,G7 c ops κ0 κ a e)->dV c n ops kd (rest ops qe) s sf ->
  ∃ (κ':KS) (s':F×St),κ'.w=κ.w/\κ'.st=s'.2/\Inv κ'/\Ext κ0 κ'/\Rel κ' n s'.1 a/\dV c n ops kd (rest ops listed) s' sf:=by
 intro m
 induction m with
 | zero =>
  intro es qe κ s hl _ h1 h2 _ _ hI hR xm hx _ wO
  obtain rfl:es=[]:=List.eq_nil_of_length_eq_zero hl
  refine⟨κ,s,rfl,xm,hI,hx,hR,?_⟩
  have:rest ops qe=rest ops listed:=by
   unfold rest
   refine List.filter_congr λi hi => ?_
   grind
  grind
 | succ m ih =>
  intro es qe κ s hl vV h1 h2 h3 Yh hI hR xm hx Lw wO
  obtain⟨e,he,Sh⟩:=least (es:=es) (λh=>by rw[h]at hl; cases hl)
  obtain⟨l1,l2,rfl⟩:=List.append_of_mem he
  obtain⟨hei,OA,hea⟩:=h3 e he
  have o9:∀ f,f∈l1++l2->f∈l1++e::l2:=λf hf=>by
   grind
  have Pk:∀ f,f∈l1++e::l2->f=e\/f∈l1++l2:=λf hf=>by
   rcases List.mem_append.1 hf with hf | hf
   ·exact .inr (List.mem_append_left _ hf)
   ·rcases List.mem_cons.1 hf with rfl | hf
    ·exact .inl rfl
    ·exact .inr (List.mem_append_right _ hf)
  have LB:∀ f∈l1++l2,LC e f:=by
   intro f hf
   rw[List.pairwise_append]at Yh
   obtain⟨_,d2,d3⟩:=Yh
   rcases List.mem_append.1 hf with hf | hf
   ·exact(d3 f hf e List.mem_cons_self).symm
   ·exact(List.pairwise_cons.1 d2).1 f hf
  have Hk:(l1++l2).Pairwise LC:=Yh.sublist (List.Sublist.append_left (List.sublist_cons_self e l2) l1)
  obtain⟨pre,post,g1,g2,g3⟩:=kO (p:=λi => !qe.getD i true) (q:=λj => !(qe.setIfInBounds e.i true).getD j true) (i:=e.i) (List.range ops.size) List.pairwise_lt_range
   (List.mem_range.2 hei) (by simp[hea]) (λj=>by
    rw[uc (by omega)]
    by_cases h:j=e.i
    ·subst h; simp
    ·simp[h])
  have EN:∀ p∈pre,Pj ops kd p e.i:=by
   intro p hp
   obtain⟨q1,q2,q3⟩:=g3 p hp
   have q2:=List.mem_range.1 q2
   have hpa:qe.getD p true=false:=by simpa using q1
   have ZZ:listed.getD p true=false:=by
    cases hb:listed.getD p true with
    | false=>rfl
    | true =>
     obtain⟨f,hf,UQ⟩:=h2 p q2 hb hpa
     have:=Sh f hf
     omega
   have hna:¬ bu ops p:=λh=>by rw[eG p q2 h]at ZZ; cases ZZ
   rcases jj p e.i q3 hei with h | h
   ·have:=sx e.i hei OA p h q2
    rw[this]at ZZ; cases ZZ
   ·exact V7 h (c8 p q2) (c8 e.i hei) λhh=>hna hh.1
  have Uc:dV c n ops kd (pre++e.i::post) s sf:=by
   have:rest ops qe=pre++e.i::post:=g1
   rw[<- this]; exact wO
  obtain⟨s1,k1,k2⟩:=Zy EN Uc
  have hE:=Lw e he
  obtain⟨o,o1,o2,o3,o4⟩:=hE.op
  obtain⟨D,d1,d2,rfl⟩:=Z8 o1 o2 o3 o4 k1
  obtain rfl:D=e.D:=Option.some.inj (d1.symm.trans hE.zero)
  obtain⟨iz,z1,z2,z3⟩:=hE.z
  obtain⟨p1,p2,p3⟩:=N8 hI hx hE.SN hE.new (z3.rd κ) z3.jW z3.ty hE.heap
  have hup:=HK hI e.blk e.z.cells.size e.D
  refine ih (l1++l2) (qe.setIfInBounds e.i true) (κ.push e.blk e.z.cells.size e.D) (j8 s.1 (some e.d) (some (.ptr s.2.length 0)),s.2++[.var e.D]) (by simp at hl ⊢; omega) (by simp[vV]) (λj hj ha => ?_) (λj hj hb ha => ?_) (λf hf => ?_) Hk p1 ?_ (by show κ.st++_=s.2++_; rw[xm]) p2 (λf hf => ?_) ?_
  ·rw[uc (by omega)]at ha
   split at ha
   ·rename_i h; subst h; exact OA
   ·exact h1 j hj ha
  ·rw[uc (by omega)]at ha
   split at ha
   ·cases ha
   ·rename_i vP
    obtain⟨f,hf,UQ⟩:=h2 j hj hb ha
    rcases Pk f hf with rfl | hf
    ·exact absurd UQ.symm vP
    ·exact⟨f,hf,UQ⟩
  ·obtain⟨f1,f2,f3⟩:=h3 f (o9 f hf)
   refine⟨f1,f2,?_⟩
   rw[uc (by omega),if_neg (LB f hf).1.symm]
   exact f3
  ·refine⟨hR.size,hR.defers,λu d0 hu => ?_⟩
   obtain⟨u1,u2⟩:=XP hu
   simp only[j8]at u1
   by_cases T0:u=e.d
   ·subst T0
    rw[if_pos rfl]at u1
    cases u1
    rw[<- xm]
    exact⟨_,hE.val,p3⟩
   ·rw[if_neg T0]at u1
    have:jh (l1++e::l2) s.1 u=some d0:=by
     rw[n7 λf hf hfu => ?_]
     ·exact u1
     ·rcases Pk f hf with rfl | hf
      ·exact T0 hfu.symm
      ·exact u2 f hf hfu
    obtain⟨v,v1,v2⟩:=hR.get u d0 this
    exact⟨v,v1,v2.up hup⟩
  ·have hF:=Lw f (o9 f hf)
   refine⟨hF.op,hF.zero,hF.z,hF.val,hF.heap,⟨hF.SN.lt,hF.SN.ok,λb m hb => ?_⟩,hF.new⟩
   rcases lg hb with hb | ⟨_,hb⟩
   ·exact hF.SN.ph b m hb
   ·exact(LB f hf).2.1 (congrArg Prod.fst (Option.some.inj hb)).symm
  ·have:rest ops (qe.setIfInBounds e.i true)=pre++post:=g2
   rw[this]; exact k2
theorem EX{listed:Array Bool}{i:Nat}(vV:listed.size=ops.size)(h1:i<ops.size)(h2:listed.getD i true=false):(rest ops listed).length=(rest ops (listed.setIfInBounds i true)).length+1:=by
 obtain⟨pre,post,g1,g2,_⟩:=kO (p:=λi => !listed.getD i true) (q:=λj => !(listed.setIfInBounds i true).getD j true) (i:=i) (List.range ops.size) List.pairwise_lt_range
  (List.mem_range.2 h1) (by grind) (λj=>by
   rw[uc (by omega)]
   by_cases h:j=i
   ·grind
   ·simp[h])
 have e1:rest ops listed=pre++i::post:=g1
 have e2:rest ops (listed.setIfInBounds i true)=pre++post:=g2
 grind
theorem KN{listed:Array Bool}{i:Nat}(KU:kI ops.toList 0=true)(vV:listed.size=ops.size)(sx:mN ops listed)(h1:i<ops.size)
  (h3:∀ o,ops[i]? = some o->∀ e∈o.after.toList,Region.binds .any e=true->listed.getD e.on false=true) :
  (∀ p,ordered (qP ops.toList []) p i=true->p<ops.size->listed.getD p true=true)/\mN ops (listed.setIfInBounds i true):=by
 have L5:∀ p,ordered (qP ops.toList []) p i=true->p<ops.size->listed.getD p true=true:=by
  intro p hp qc
  obtain⟨r,_,_,hb⟩:=cT ops.toList []
  obtain⟨e,k1,k2,k3⟩:=hb i ops[i] (by simp) p (by simpa[ordered]using hp)
  have Qa:=dr ops.toList 0 KU i ops[i] (by simp) e k1 k2
  have Q8:listed.getD e.on true=true:=by
   grind
  rcases k3 with rfl | ⟨_,k3⟩
  ·exact Q8
  ·exact sx e.on (by omega) Q8 p k3 qc
 refine⟨L5,λq hq Co p hp qc => ?_⟩
 rw[uc (by omega)]at Co ⊢
 split
 ·rfl
 ·split at Co
  ·grind
  ·exact sx q hq Co p hp qc
theorem Vo{κ:KS}{a:Act}{es:List Em}{f:F}{e:Em}{v:Value}(hR:Rel κ n (jh es f) a):Rel κ n (jh (e::es) f) (a.put (some e.d) v):=by
 refine⟨by simp[Act.put,hR.size],hR.defers,λu d hu => ?_⟩
 obtain⟨u1,u2⟩:=XP hu
 have vP:e.d≠u:=u2 e List.mem_cons_self
 have:jh es f u=some d:=by rw[n7 λg hg=>u2 g (List.mem_cons_of_mem _ hg)]; exact u1
 obtain⟨w,w1,w2⟩:=hR.get u d this
 exact⟨w,by simp[Act.put,Array.getElem?_setIfInBounds_ne vP]; exact w1,w2⟩
theorem mP{kd:Nat->Nat}{Q:Exit->Act->World->Prop}(hC:∀ g,VJ c.P g (c.fn g))(KU:kI ops.toList 0=true)
  (jj:∀ p i,p<i->i<ops.size->ordered (qP ops.toList []) p i=true\/M8 ops kd p i) (c8:∀ i,i<ops.size->kd i<=2)
  (eG:∀ p j,p<ops.size->bu ops p->j<ops.size->ordered (qP ops.toList []) p j=true->∀ q,q<ops.size->bu ops q->ordered (qP ops.toList []) q j=true)
  {κ0:KS} {a0:Act} {sf:F×St}:∀ (fuel:Nat) (listed qe:Array Bool) (es:List Em) {κ:KS} {a:Act} {s:F×St},
  listed.size=ops.size->qe.size=ops.size->fuel=(rest ops listed).length->mN ops listed->(∀ j,j<ops.size->qe.getD j true=true->listed.getD j true=true) ->
  (∀ j,j<ops.size->listed.getD j true=true->qe.getD j true=false->∃ e∈es,e.i=j)->(∀ e∈es,e.i<ops.size/\listed.getD e.i true=true/\qe.getD e.i true=false)->es.Pairwise LC ->
  (∃ q,q<ops.size/\bu ops q/\listed.getD q true=false)->Inv κ->Rel κ n (jh es s.1) a->κ.st=s.2->Ext κ0 κ->(∀ e∈es,G7 c ops κ0 κ a e)->dV c n ops kd (rest ops qe) s sf->b7 ops a0 a ->
  (∀ (a':Act) (κ':KS),κ'.st=sf.2->Inv κ'->Ext κ0 κ'->Rel κ' n sf.1 a'->b7 ops a0 a'->Q .normal a' κ'.w)->wpAny c.P .any ops Q fuel listed a κ.w
 | 0,listed,qe,es,κ,a,s,vV,hszA,hfuel,sx,h1,h2,h3,Yh,⟨q,q1,q2,q3⟩,hI,hR,xm,hx,Lw,wO,hkp,hQ=>by
  have Ob:rest ops listed=[]:=List.eq_nil_of_length_eq_zero hfuel.symm
  have:q∈rest ops listed:=by simp only[rest,List.mem_filter,List.mem_range,Bool.not_eq_true']; exact⟨q1,q3⟩
  grind
 | fuel+1,listed,qe,es,κ,a,s,vV,hszA,hfuel,sx,h1,h2,h3,Yh,⟨q,q1,q2,q3⟩,hI,hR,xm,hx,Lw,wO,hkp,hQ=>by
  refine⟨λh => ?_,λi hi => ?_⟩
  ·have Ob:=ZM KU vV h
   grind
  rw[cU]at hi
  obtain⟨i1,i2,i3⟩:=hi
  obtain⟨L5,BW⟩:=KN KU vV sx i1 i3
  have K7:fuel=(rest ops (listed.setIfInBounds i true)).length:=by have:=EX vV i1 i2; omega
  have hia:qe.getD i true=false:=by
   grind
  have Dv:∀ p,p<ops.size->bu ops p->ordered (qP ops.toList []) p i=true->False:=by
   grind
  have yU:∀ j,(listed.setIfInBounds i true).getD j true=if j=i then true else listed.getD j true:=λj=>uc (by omega)
  by_cases oh:bu ops i
  ·-- a new variable is laid
   obtain⟨o,ho,hao⟩:=oh
   obtain⟨t,d,o1,o2,o3⟩:=BN hao
   have him:i∈rest ops qe:=by simp only[rest,List.mem_filter,List.mem_range,Bool.not_eq_true']; exact⟨i1,hia⟩
   obtain⟨t1,t2,hos⟩:=Un wO him
   obtain⟨D,d1,d2,_⟩:=Z8 ho o1 o2 o3 hos
   obtain⟨iz,z,z1,z2,z3⟩:=gU d1
   obtain⟨w1,w2,w3,w4⟩:=O6 hI (.cells z.cells t)
   let e:Em:=⟨i,d,κ.w.heap.size,t,z,D⟩
   have Ti:(execOp a.eval o).run c.P κ.w=.ok (.value (.pointer (some ⟨κ.w.heap.size,0,none⟩))) (κ.w.alloc (.cells z.cells t)):=by
    obtain⟨dst,op,ty,pos,after,guard⟩:=o
    cases o1
    simp[execOp,Instr.alloc,zeroValue,typeInfo,z1,z2,newVar,newRow]
   have z34:Region.wanted o (yielded ops a.tmps)=true:=by unfold Region.wanted; rw[o2]
   unfold wpOp
   rw[ho]
   simp only
   rw[if_pos z34]
   refine .inl ?_
   unfold Oper.wp
   rw[Ti]
   show wpAny c.P Region.Mode.any ops Q fuel (listed.setIfInBounds i true) (a.put o.dst (Value.pointer (some { block:=κ.w.heap.size,off:=0 }))) (κ.w.alloc (Obj.cells z.cells t))
   rw[o3]
   have vP:∀ f∈es,f.d≠d:=by
    intro f hf OO
    obtain⟨f1,f2,f3⟩:=h3 f hf
    obtain⟨fo,N2,fo2,fo3,Of⟩:=(Lw f hf).op
    have UQ:f.i≠i:=λh=>by rw[h,i2]at f2; cases f2
    rcases Nat.lt_or_gt_of_ne UQ with qc | qc
    ·rcases jj f.i i qc i1 with h | h
     ·exact Dv f.i f1 ⟨fo,N2,W8 fo2 fo3 Of⟩ h
     ·exact(h fo o N2 ho).1 f.d Of (OO▸jd o3)
    ·rcases jj i f.i qc f1 with h | h
     ·have:=sx f.i f1 f2 i h i1; rw[i2]at this; cases this
     ·exact(h o fo ho N2).1 d o3 (OO▸jd Of)
   have z5d:G7 c ops κ0 { κ with w:=κ.w.alloc (.cells z.cells t) } (a.put (some d) (.pointer (some ⟨κ.w.heap.size,0,none⟩))) e :=
    ⟨⟨o,ho,o1,o2,o3⟩,d1,⟨iz,z1,z2,z3⟩,by simp[e,Act.put,hR.size,d2],w4,w3,hx.size⟩
   have z1w:∀ f∈e::es,G7 c ops κ0 { κ with w:=κ.w.alloc (.cells z.cells t) } (a.put (some d) (.pointer (some ⟨κ.w.heap.size,0,none⟩))) f:=by
    intro f hf
    rcases List.mem_cons.1 hf with rfl | hf
    ·exact z5d
    ·exact(Lw f hf).mono w2 (by simp[Act.put,Array.getElem?_setIfInBounds_ne (λe'=>vP f hf e'.symm)])
   have M0:Rel { κ with w:=κ.w.alloc (.cells z.cells t) } n (jh (e::es) s.1) (a.put (some d) (.pointer (some ⟨κ.w.heap.size,0,none⟩))):=Vo (e:=e) (hR.mono w2)
   have hdE:∀ f∈es,LC e f:=by
    intro f hf
    unfold LC
    refine⟨λh => ?_,λh => ?_,λh=>vP f hf h.symm⟩
    ·have hf2:=(h3 f hf).2.1
     rw[<- h]at hf2
     have i2':listed.getD e.i true=false:=i2
     rw[i2']at hf2
     cases hf2
    ·have hl:=(Lw f hf).SN.lt
     rw[<- h]at hl
     exact Nat.lt_irrefl _ hl
   have Hk:(e::es).Pairwise LC:=List.pairwise_cons.2 ⟨hdE,Yh⟩
   have TT:b7 ops a0 (a.put (some d) (.pointer (some ⟨κ.w.heap.size,0,none⟩))):=hkp.trans (by have:=fb (a:=a) (v:=.pointer (some ⟨κ.w.heap.size,0,none⟩)) ho; rw[o3]at this; exact this)
   have rX:∀ j,j<ops.size->qe.getD j true=true->(listed.setIfInBounds i true).getD j true=true:=λj hj ha=>by
    rw[yU]; split
    ·rfl
    ·exact h1 j hj ha
   have Pc:∀ j,j<ops.size->(listed.setIfInBounds i true).getD j true=true->qe.getD j true=false->∃ f∈e::es,f.i=j:=λj hj hb ha=>by
    rw[yU]at hb
    split at hb
    ·rename_i h; exact⟨e,List.mem_cons_self,h.symm⟩
    ·obtain⟨f,hf,UQ⟩:=h2 j hj hb ha; exact⟨f,List.mem_cons_of_mem _ hf,UQ⟩
   have h3':∀ f∈e::es,f.i<ops.size/\(listed.setIfInBounds i true).getD f.i true=true/\qe.getD f.i true=false:=λf hf=>by
    rcases List.mem_cons.1 hf with rfl | hf
    ·exact⟨i1,by rw[yU]; exact if_pos rfl,hia⟩
    ·obtain⟨f1,f2,f3⟩:=h3 f hf
     exact⟨f1,by rw[yU]; split<;>first | rfl | exact f2,f3⟩
   by_cases hmore:∃ q,q<ops.size/\bu ops q/\(listed.setIfInBounds i true).getD q true=false
   ·exact mP hC KU jj c8 eG fuel (listed.setIfInBounds i true) qe (e::es) (κ:={ κ with w:=κ.w.alloc (.cells z.cells t) }) (by simp[vV]) hszA K7 BW rX Pc h3' Hk hmore w1 M0 xm (hx.trans w2) z1w wO TT hQ
   ·-- all are laid
    have OP:∀ q,q<ops.size->bu ops q->(listed.setIfInBounds i true).getD q true=true:=λq q1 q2=>by
     cases hb:(listed.setIfInBounds i true).getD q true with
     | true=>rfl
     | false=>exact(hmore ⟨q,q1,q2,hb⟩).elim
    obtain⟨κ',s',f1,f2,f3,f4,f5,f6⟩:=flush (c:=c) (n:=n) jj c8 BW OP (e::es).length (e::es) qe { κ with w:=κ.w.alloc (.cells z.cells t) } s rfl hszA rX Pc h3' Hk w1 M0 xm (hx.trans w2) z1w wO
    have hgo:=tv (κ:=κ') hC KU fuel (listed.setIfInBounds i true) (Q:=Q) (λp j hpj hj hp=>(jj p j hpj hj).elim .inl λh=>.inr (V7 h (c8 p (by omega)) (c8 j hj) λhh=>by
     rw[OP p (by omega) hh.1]at hp; cases hp)) (by simp[vV]) K7 BW f3 f5 f2 f6 λa' C4 e1 e2 e3 e4 e5=>hQ a' C4 e1 e2 (f4.trans e3) e4 (TT.trans e5)
    rw[f1]at hgo
    exact hgo
  ·-- another operation
   have Pl:∀ o,ops[i]? = some o->∀ e∈es,e.d ∉ tmpsOf ops o:=by
    intro o ho f hf
    obtain⟨f1,f2,f3⟩:=h3 f hf
    obtain⟨fo,N2,fo2,fo3,Of⟩:=(Lw f hf).op
    have UQ:f.i≠i:=λh=>by rw[h,i2]at f2; cases f2
    rcases Nat.lt_or_gt_of_ne UQ with qc | qc
    ·rcases jj f.i i qc i1 with h | h
     ·exact(Dv f.i f1 ⟨fo,N2,W8 fo2 fo3 Of⟩ h).elim
     ·exact(h fo o N2 ho).1 f.d Of
    ·rcases jj i f.i qc f1 with h | h
     ·have:=sx f.i f1 f2 i h i1; rw[i2]at this; cases this
     ·exact(h o fo ho N2).2.1 f.d Of
   obtain⟨pre,post,g1,g2,g3⟩:=kO (p:=λi => !qe.getD i true) (q:=λj => !(qe.setIfInBounds i true).getD j true) (i:=i) (List.range ops.size) List.pairwise_lt_range
    (List.mem_range.2 i1) (by simp[hia]) (λj=>by
     rw[uc (by omega)]
     by_cases h:j=i
     ·subst h; simp
     ·simp[h])
   have EN:∀ p∈pre,Pj ops kd p i:=by
    intro p hp
    obtain⟨r1,r2,r3⟩:=g3 p hp
    have r2:=List.mem_range.1 r2
    have r1:qe.getD p true=false:=by simpa using r1
    rcases jj p i r3 i1 with h | h
    ·obtain⟨f,hf,UQ⟩:=h2 p r2 (L5 p h r2) r1
     obtain⟨fo,N2,fo2,fo3,Of⟩:=(Lw f hf).op
     exact(Dv p r2 ⟨fo,by rw[<- UQ]; exact N2,W8 fo2 fo3 Of⟩ h).elim
    ·exact V7 h (c8 p r2) (c8 i i1) λhh=>oh hh.2
   have Uc:dV c n ops kd (pre++i::post) s sf:=by
    have:rest ops qe=pre++i::post:=g1
    rw[<- this]; exact wO
   obtain⟨s1,k1,k2⟩:=Zy EN Uc
   refine CG (s:=(jh es s.1,s.2)) (s':=(jh es s1.1,s1.2)) hC hI hR xm (Yx k1 Pl) λa1 κ1 e1 e2 e3 e4 e5 e6 => ?_
   have IM:∀ j,(qe.setIfInBounds i true).getD j true=if j=i then true else qe.getD j true:=λj=>uc (by omega)
   refine mP hC KU jj c8 eG fuel (listed.setIfInBounds i true) (qe.setIfInBounds i true) es (κ:=κ1) (s:=s1) (by simp[vV]) (by simp[hszA]) K7 BW (λj hj ha => ?_) (λj hj hb ha => ?_) (λf hf => ?_) Yh
    ⟨q,q1,q2,?_⟩ e2 e4 e1 (hx.trans e3) (λf hf=>(Lw f hf).mono e3 (e6 f.d λo ho hod=>Pl o ho f hf (jd hod))) ?_ (hkp.trans e5) hQ
   ·rw[IM]at ha; rw[yU]
    split
    ·rfl
    ·rename_i h; rw[if_neg h]at ha; exact h1 j hj ha
   ·rw[IM]at ha; rw[yU]at hb
    split at ha
    ·cases ha
    ·rename_i h; rw[if_neg h]at hb; exact h2 j hj hb ha
   ·obtain⟨f1,f2,f3⟩:=h3 f hf
    have UQ:f.i≠i:=λh=>by rw[h,i2]at f2; cases f2
    exact⟨f1,by rw[yU,if_neg UQ]; exact f2,by rw[IM,if_neg UQ]; exact f3⟩
   ·have hqi:q≠i:=λh=>oh (by rw[<- h]; exact q2)
    rw[yU,if_neg hqi]; exact q3
   ·have:rest ops (qe.setIfInBounds i true)=pre++post:=g2
    rw[this]; exact k2
theorem mM{kd:Nat->Nat}:∀ {l:List Oper} {ks:List Nat} {i j:Nat} {o:Oper},l[i]? = some o->ks[i]? = some (kd j)->(Zq l ks)[i]? = some (SL kd o j)
 | [],_,i,_,_,h,_=>by simp at h
 | _::_,[],i,_,_,_,h=>by simp at h
 | x::l,k::ks,0,j,o,h1,h2=>by simp at h1 h2; subst h1; subst h2; rfl
 | x::l,k::ks,i+1,j,o,h1,h2=>by
  have:=mM (kd:=kd) (l:=l) (ks:=ks) (i:=i) (j:=j) (o:=o) (by grind) (by grind)
  simpa[Zq]using this
theorem Xx:∀ {l:List Oper} {k i:Nat} {o:Oper},l[i]? = some o->s9 o=true->k+i∈ZX l k
 | [],_,_,_,h,_=>by simp at h
 | x::l,k,0,o,h1,h2=>by simp at h1; subst h1; simp[ZX,h2]
 | x::l,k,i+1,o,h1,h2=>by
  have:=Xx (l:=l) (k:=k+1) (i:=i) (o:=o) (by grind) h2
  simp only[ZX]
  grind
theorem ru{kd:Nat->RK}:∀ (l:List Nat) (s s':F×St) (ks:List RK),HV c n ops l s s' ks->ks=l.map kd->ZA (λi s s'=>yW c n ops i s s' (kd i)) l s s'
 | [],s,s',ks,h,_=>h.1
 | i::l,s,s',ks,⟨s1,k,Kh,e,h1,h2⟩,hk=>by
  subst e
  simp at hk
  obtain⟨rfl,hk⟩:=hk
  exact⟨s1,h1,ru l s1 s' Kh h2 hk⟩
theorem BT{κ:KS}{a:Act}{id:Nat}{draw:Bool}{fr:Fr}{kn:Kn}{s':gz}(hm:c.P.follows .mixedOrders=true)(hC:∀ g,VJ c.P g (c.fn g))(hI:Inv κ)(hR:Rel κ n fr.get a)(hk:wP kn fr.get)
  (h:(yq c n ops draw fr kn κ.st).leads s') {Q:Exit->Act->World->Prop} (hQ:∀ (a':Act) (κ':KS),κ'.st=s'.st->Inv κ'->Ext κ κ'->Rel κ' n s'.fr.get a'->b7 ops a a'->Q .normal a' κ'.w) :
  (Code.region id ops draw).wp c.P Q a κ.w/\wP s'.kn s'.fr.get:=by
 simp only[yq,T.zp]at h
 obtain⟨s1,h1,h2⟩:=h
 obtain⟨ks,g1,g2,g3⟩:=bw ops.toList 0 ⟨fr,kn,κ.st,[],[]⟩ s1 (λj=>.inl (by simp)) hk h1
 simp only[List.append_nil]at g3
 have hl:ops.toList.length=ops.size:=by simp
 rw[hl,<- List.range_eq_range']at g1
 cases hd:(!draw||mV ops s1.ks.reverse s1.bk.reverse)with
 | false=>rw[hd]at h2; exact h2.elim
 | true =>
  rw[hd,cond_true]at h2
  cases h2
  refine⟨?_,g2⟩
  cases draw with
  | false=>exact wp_region (Hm hC _ hI hR rfl g1 hQ)
  | true =>
   simp only[Bool.not_true,Bool.false_or,mV,Bool.or_eq_true]at hd
   obtain⟨PU,r1,r3⟩:=rL (ops:=ops) ops.toList 0 ⟨fr,kn,κ.st,[],[]⟩ _ (λj=>.inl (by simp)) hk h1
   simp only[List.append_nil]at r3
   rw[hl,<- List.range_eq_range']at r1
   let kd:Nat->Nat:=λi=>ks.getD i 0
   have hkl:ks.length=ops.size:=by rw[JX _ _ _ _ g1]; simp
   have hks:ks=(List.range ops.size).map kd:=by
    apply List.ext_getElem?
    intro i
    grind
   have wO:=Zb (kd:=kd) _ _ _ _ g1 hks
   refine wp_region_any hm ?_
   let κd:KS:={ κ with w:=κ.w.drew }
   have hx:Ext κ κd:=⟨rfl,rfl,rfl,Nat.le_refl _,λk hk=>⟨hk,rfl⟩,λk hk=>.inl hk,λ_ _ _ h=>.inl h,λb d h=>⟨⟨d,h⟩,rfl⟩,
    λb v0 e xs h=>.inr ⟨v0,xs,h,Nat.le_refl _,λ_=>⟨rfl,rfl⟩⟩,λ_ h=>h,Nat.le_refl _,λk _ _=>rfl⟩
   have hId:Inv κd:=⟨hI.len,hI.jN,hI.apart,hI.inj,λb y hy=>(hI.blk b y hy).mono hx rfl λ_ _ _=>rfl,hI.gl.mono hx.same⟩
   have iA:rest ops (Array.replicate ops.size false)=List.range ops.size:=by
    unfold rest
    rw[List.filter_eq_self]
    intro i hi
    have:=List.mem_range.1 hi
    simp[Array.getD_eq_getD_getElem?,this]
   have XB:∀ j,j<ops.size->(Array.replicate ops.size false).getD j true=false:=λj hj=>by simp[Array.getD_eq_getD_getElem?,hj]
   have Oo:mN ops (Array.replicate ops.size false):=λq hq Co=>by rw[XB q hq]at Co; cases Co
   have JM:∀ i,i<ops.size->ks[i]? = some (kd i):=λi hi=>by simp[kd,List.getD,List.getElem?_eq_getElem (show i<ks.length by omega)]
   have rP:∀ i (hi:i<ops.size),ops.toList[i]? = some ops[i]:=λi hi=>by simp
   rcases hd with(hd | hd) | hd
   ·simp only[Hb,Bool.and_eq_true]at hd
    obtain⟨d1,d2⟩:=hd
    rw[g3,List.reverse_reverse]at d2
    have jj:∀ p i,p<i->i<ops.size->ordered (qP ops.toList []) p i=true\/Pj ops kd p i:=by
     intro p i VK hi
     have hp:=db ops.toList ks 0 [] d2 i ops[i] (kd i) (rP i hi) (JM i hi)
     have:=hp.2 p ops[p] (kd p) VK (rP p (by omega)) (JM p (by omega))
     simp only[Nat.zero_add]at this
     refine hJ this (λh=>h) λSs x y hx hy => ?_
     rw[Array.getElem?_eq_getElem (by omega)]at hx hy
     cases hx
     cases hy
     exact Ss
    exact tv (κ:=κd) hC d1 ops.size _ (λp i h1 h2 _=>jj p i h1 h2) (by simp) (by rw[iA]; simp) Oo hId (hR.mono hx) rfl (by rw[iA]; exact wO) λa' κ' e1 e2 e3 e4 e5=>hQ a' κ' e1 e2 (hx.trans e3) e4 e5
   ·simp only[HT,Bool.and_eq_true]at hd
    obtain⟨⟨⟨d1,d0⟩,d2⟩,d3⟩:=hd
    rw[g3,List.reverse_reverse]at d0 d2
    have c8:∀ i,i<ops.size->kd i<=2:=λi hi=>Nat.le_of_ble_eq_true (List.all_eq_true.1 d0 _ (List.mem_of_getElem? (JM i hi)))
    have jj:∀ p i,p<i->i<ops.size->ordered (qP ops.toList []) p i=true\/M8 ops kd p i:=by
     intro p i VK hi
     have hp:=db ops.toList (Zq ops.toList ks) 0 [] d2 i ops[i] (SL kd ops[i] i) (rP i hi) (mM (rP i hi) (JM i hi))
     have:=hp.2 p ops[p] (SL kd ops[p] p) VK (rP p (by omega)) (mM (rP p (by omega)) (JM p (by omega)))
     simp only[Nat.zero_add]at this
     refine hJ this (λh=>h) λSs x y hx hy => ?_
     rw[Array.getElem?_eq_getElem (by omega)]at hx hy
     cases hx
     cases hy
     exact Ss
    have eG:∀ p j,p<ops.size->bu ops p->j<ops.size->ordered (qP ops.toList []) p j=true->∀ q,q<ops.size->bu ops q->ordered (qP ops.toList []) q j=true:=by
     intro p j hp Ss hj ho q hq haq
     unfold Jx at d3
     have:=List.all_eq_true.1 d3 j (List.mem_range.2 (by simpa using hj))
     simp only[Bool.or_eq_true,Bool.not_eq_true',List.any_eq_false,List.all_eq_true]at this
     have hm:∀ r,bu ops r->r∈ZX ops.toList 0:=λr ⟨o,h1,h2⟩=>by
      have:=Xx (l:=ops.toList) (k:=0) (i:=r) (o:=o) (by rw[Array.getElem?_toList]; exact h1) h2
      rwa [Nat.zero_add]at this
     rcases this with h | h
     ·have:=h p (hm p Ss); rw[ho]at this; exact absurd rfl this
     ·exact h q (hm q haq)
    by_cases hex:∃ q,q<ops.size/\bu ops q
    ·obtain⟨q,q1,q2⟩:=hex
     exact mP (κ0:=κd) (κ:=κd) (a0:=a) hC d1 jj c8 eG ops.size _ (Array.replicate ops.size false) [] (by simp) (by simp) (by rw[iA]; simp) Oo (λj hj h=>by rw[XB j hj]at h; cases h)
      (λj hj h _=>by rw[XB j hj]at h; cases h) (λe he=>by cases he) .nil ⟨q,q1,q2,XB q q1⟩ hId (hR.mono hx) rfl (Ext.refl _) (λe he=>by cases he) (by rw[iA]; exact wO) (b7.refl _ _)
      λa' κ' e1 e2 e3 e4 e5=>hQ a' κ' e1 e2 (hx.trans e3) e4 e5
    ·exact tv (κ:=κd) hC d1 ops.size _ (λp i h1 h2 _=>(jj p i h1 h2).elim .inl λh=>.inr (V7 h (c8 p (by omega)) (c8 i h2) λhh=>hex ⟨p,by omega,hh.1⟩)) (by simp) (by rw[iA]; simp) Oo hId (hR.mono hx) rfl (by rw[iA]; exact wO) λa' κ' e1 e2 e3 e4 e5=>hQ a' κ' e1 e2 (hx.trans e3) e4 e5
   ·simp only[HE,Bool.and_eq_true]at hd
    obtain⟨d1,d2⟩:=hd
    rw[r3,List.reverse_reverse]at d2
    let kr:Nat->RK:=λi=>PU.getD i (.z 0)
    have hrl:PU.length=ops.size:=by rw[XA _ _ _ _ r1]; simp
    have z69:PU=(List.range ops.size).map kr:=by
     apply List.ext_getElem?
     intro i
     by_cases hi:i<ops.size
     ·simp[kr,hi,List.getD,List.getElem?_eq_getElem (show i<PU.length by omega)]
     ·rw[List.getElem?_eq_none (by omega),List.getElem?_eq_none (by simp; omega)]
    have OJ:∀ i,i<ops.size->PU[i]? = some (kr i):=λi hi=>by simp[kr,List.getD,List.getElem?_eq_getElem (show i<PU.length by omega)]
    have z1s:=ru (kd:=kr) _ _ _ _ r1 z69
    have jj:∀ p i,p<i->i<ops.size->ordered (qP ops.toList []) p i=true\/RR ops kr p i:=by
     intro p i VK hi
     have hp:=db ops.toList PU 0 [] d2 i ops[i] (kr i) (rP i hi) (OJ i hi)
     have:=hp.2 p ops[p] (kr p) VK (rP p (by omega)) (OJ p (by omega))
     simp only[Nat.zero_add]at this
     refine hJ this (λh=>h) λSs x y hx hy => ?_
     rw[Array.getElem?_eq_getElem (by omega)]at hx hy
     cases hx
     cases hy
     exact Ss
    exact pc (κ:=κd) (Stp:=λi s s'=>yW c n ops i s s' (kr i)) (In:=λp i=>RR ops kr p i) (λi s s' h=>h.plain) (λp i hi s s1 s2 h1 h2=>YH hi h1 h2) hC d1 ops.size _ (λp i h1 h2 _=>jj p i h1 h2) (by simp) (by rw[iA]; simp) Oo hId (hR.mono hx) rfl (by rw[iA]; exact z1s) λa' κ' e1 e2 e3 e4 e5=>hQ a' κ' e1 e2 (hx.trans e3) e4 e5
end
end Go.AM
namespace Go.AM
set_option linter.unusedSectionVars false
variable [vi] [Qg]
def Jb(κ:KS):Ex->Exit->Prop
 | .normal,e=>e=.normal
 | .exit id,e=>e=.exit id
 | .ret,e=>e=.ret
 | .jg d,e=>∃ v,e=.panic [{ v,recovered:=false }]/\RD κ d v
section
variable {c:Ctx} {n:Nat}
def qU:Code->List (Nat×Code)
 | .seq a b=>qU a++qU b
 | .cond _ a b=>qU a++qU b
 | .block id (.loop b)=>[(id,b)]
 | .block _ a=>qU a
 | _=>[]
theorem Bs{ops:Array Oper}{draw:Bool}{fr:Fr}{kn:Kn}{st:St}{s':gz}(hk:wP kn fr.get)(h:(yq c n ops draw fr kn st).leads s'):wP s'.kn s'.fr.get:=by
 simp only[yq,T.zp]at h
 obtain⟨s1,h1,h2⟩:=h
 obtain⟨ks,g1,g2,g3⟩:=bw ops.toList 0 ⟨fr,kn,st,[],[]⟩ s1 (λj=>.inl (by simp)) hk h1
 cases hd:(!draw||mV ops s1.ks.reverse s1.bk.reverse)with
 | false=>rw[hd]at h2; exact h2.elim
 | true=>rw[hd,cond_true]at h2; cases h2; exact g2
theorem yH(f:F):wP [] f:=by nofun
theorem VX{id:Nat}{b:Code}(hb:∀ b',b≠.loop b'):qU (.block id b)=qU b:=by
 cases b<;>first | rfl | exact absurd rfl (hb _)
end
end Go.AM
namespace Go.AM
set_option linter.unusedSectionVars false
variable [vi] [Qg]
section
variable {c:Ctx} {n:Nat}
theorem X9:∀ (ds:List D) (i s:Nat),(xN ds i).get s=if i<=s then ds[s-i]? else none
 | [],i,s=>by simp[xN,Fr.get]
 | d::r,i,s=>by
  simp only[xN,Fr.get]
  by_cases h:i=s
  ·subst h; simp
  ·rw[dH h,cond_false,X9 r (i+1) s]
   grind
theorem nb{κ:KS}{args:List D}{zn:List Value}(h:qj κ args zn)(hn:args.length<=n) :
  Rel κ n (xN args 0).get { tmps:=zn.toArray++Array.replicate (n-zn.toArray.size) undef,defers:=Qg.df }:=by
 have hl:=h.1
 refine⟨by grind,rfl,λs d hd => ?_⟩
 rw[X9]at hd
 obtain⟨v,h1,h2⟩:=h.get hd
 grind
theorem mn{κ:KS}{fr:Fr}{a:Act}(hI:Inv κ)(hR:Rel κ n fr.get a):∀ (rvs:List ResultVar) (ds:List D),(ym c fr κ.st rvs).leads ds ->
  ∃ vs:List Value,Sem.run c.P (rvs.mapM λr=>match r with | ResultVar.tmp t=>(Pure.pure (a.tmps.getD t undef):Sem Value) | ResultVar.cell p t=>do loadVar t (<- asAddr (a.tmps.getD p undef))) κ.w=Result.ok vs κ.w/\qj κ ds vs
 | [],ds,h=>by cases h; exact⟨[],by simp,.nil⟩
 | .tmp t::r,ds,h=>by
  simp only[ym]at h
  split at h
  ·rename_i d hd
   simp only[T.zp]at h
   obtain⟨l,hl,rfl⟩:=h
   obtain⟨v,h1,h2⟩:=hR.get t d hd
   obtain⟨vs,h3,h4⟩:=mn hI hR r l hl
   refine⟨v::vs,?_,.cons h2 h4⟩
   simp only[List.mapM_cons,Sem.run_bind,Sem.run_pure,Result.andThen_ok,h3]
   simp[h1]
  ·exact h.elim
 | .cell p t::r,ds,h=>by
  simp only[ym]at h
  split at h
  ·rename_i b off hd
   split at h
   ·rename_i d hb
    split at h
    ·rename_i x hx
     simp only[T.zp]at h
     obtain⟨l,hl,rfl⟩:=h
     obtain⟨v,h1,h2⟩:=hR.get p _ hd
     obtain⟨vs,h3,h4⟩:=mn hI hR r l hl
     cases h2 with
     | ptr _ _ blk m d1 C8 hp =>
      obtain⟨cC,n',cs,T,g1,g2,g3,g4,g5⟩:=hI.blk b _ hb
      rw[hp]at g1
      cases g1
      obtain⟨u,e1,e2⟩:=Zg (c:=c) (blk:=blk) 0 hx g4 g5.1 (λj v hj=>by rw[l8 g2]; simpa using hj)
      rw[Nat.zero_add]at e1
      refine⟨u::vs,?_,.cons e2 h4⟩
      have hA:(asAddr (a.tmps.getD p undef)).run c.P κ.w=.ok ⟨blk,off,none⟩ κ.w:=by simp[h1,asAddr]
      simp only[List.mapM_cons,Sem.run_bind,hA,Result.andThen_ok,e1,h3,Sem.run_pure]
    ·exact h.elim
   ·exact h.elim
  ·exact h.elim
def Ft:List Value->Value
 | [v]=>v
 | vs=>.tuple vs.toArray
theorem dD{κ:KS}{fr:Fr}{a:Act}{fn:Func}{ds:List D}(hI:Inv κ)(hR:Rel κ n fr.get a)(h:(ym c fr κ.st fn.results.toList).leads ds) :
  ∃ vs:List Value,(results fn a.tmps).run c.P κ.w=.ok (Ft vs) κ.w/\qj κ ds vs:=by
 obtain⟨vs,h1,h2⟩:=mn hI hR _ _ h
 simp only[results,Array.mapM_eq_mapM_toList,Sem.run_bind,Sem.run_map]
 have key:∀ r:Result (List Value),r=.ok vs κ.w->((r.andThen λa w'=>.ok a.toArray w').andThen λa w'=>(Pure.pure (if h:a.size=1 then a[0]else .tuple a):Sem Value).run c.P w')=.ok (Ft vs) κ.w:=by
  rintro _ rfl
  match vs with
  | []=>rfl
  | [v]=>rfl
  | _::_::_=>rfl
 grind
theorem me{κ:KS}{ds:List D}{vs:List Value}(h:qj κ ds vs):RD κ (jG ds) (Ft vs):=by
 match ds,vs,h with
 | [],vs,h=>rw[h.zN]; exact .jW [] [] rfl (λi h=>absurd h (Nat.not_lt_zero i))
 | [d],vs,h =>
  obtain⟨v,r,rfl,h1,h2⟩:=h.cons_inv
  rw[h2.zN]
  exact h1
 | d::e::r,vs,h =>
  obtain⟨v,us,rfl,h1,h2⟩:=h.cons_inv
  obtain⟨u,ws,rfl,h3,h4⟩:=h2.cons_inv
  exact .jW _ _ h.1 h.2
def KS.cut(κ:KS)(m:Nat):KS:={ κ with ph:=κ.ph.take m,st:=κ.st.take m }
theorem zL{α:Type}{l:List α}{m i:Nat}{a:α}(h:l[i]? = some a)(hi:i<m):(l.take m)[i]? = some a:=by grind
theorem y8{α:Type}{l:List α}{m i:Nat}{a:α}(h:(l.take m)[i]? = some a):l[i]? = some a/\i<m:=by grind
theorem gI{κ:KS}{m:Nat}{d:D}{v:Value}(h:RD κ d v)(hd:va m d=true):RD (κ.cut m) d v:=by
 cases h with
 | zx τ y cs h=>exact .zx τ y cs h
 | qL e a=>exact .qL e a
 | tight e l ne blk off f vP xO h hc=>exact .tight e l ne blk off f vP xO h hc
 | qZ=>exact .qZ
 | jF=>exact .jF
 | qB=>exact .qB
 | vj=>exact .vj
 | vf=>exact .vf
 | lI v h=>exact .lI v h
 | yK T=>exact .yK T
 | yG b T d hb=>exact .yG b T d (zL hb (Nat.le_of_ble_eq_true hd))
 | yF b T blk n d hb h=>exact .yF b T blk n d (zL hb (Nat.le_of_ble_eq_true hd)) (zL h (Nat.le_of_ble_eq_true hd))
 | ptr b off blk n d hb h=>exact .ptr b off blk n d (zL hb (Nat.le_of_ble_eq_true hd)) (zL h (Nat.le_of_ble_eq_true hd))
 | qA τ y cs blk off xO h hc=>exact .qA τ y cs blk off xO h hc
 | vD b qh e idx off blk o hb h =>
  have qc:b<m:=Nat.le_of_ble_eq_true hd
  refine .vD b qh e idx off blk o (hJ hb (λh=>zL h qc) ?_) λxs hx hi => ?_
  ·rintro⟨v0,e0,x0,h1,h2⟩; exact⟨v0,e0,x0,zL h1 qc,h2⟩
  ·obtain⟨n,h1,h2⟩:=h xs (y8 hx).1 hi
   exact⟨n,zL h1 qc,h2⟩
 | ms b qh e off len cap a hb wD ha fI h =>
  have qc:b<m:=Nat.le_of_ble_eq_true hd
  refine .ms b qh e off len cap a (hJ hb (λh=>zL h qc) ?_) wD ha fI λxs hx => ?_
  ·rintro⟨v0,e0,x0,h1,h2⟩; exact⟨v0,e0,x0,zL h1 qc,h2⟩
  ·obtain⟨h1,h2⟩:=h xs (y8 hx).1
   refine⟨h1,hJ h2 ?_ ?_⟩
   ·rintro⟨g1,g2,g3,g4⟩; exact⟨g1,g2,g3,zL g4 qc⟩
   ·rintro⟨blk,n,o,Kf,g1,g2⟩; exact⟨blk,n,o,Kf,zL g1 qc,g2⟩
 | qE=>cases hd
 | agg=>cases hd
 | jW=>cases hd
 | iface=>cases hd
theorem YR{κ:KS}{m:Nat}{d:D}{v:Value}(h:RD κ d v)(hd:kM m d=true):RD (κ.cut m) d v:=by
 cases d with
 | qE f l =>
  cases h with
  | qE _ _ vs hl hh =>
   simp only[kM,List.all_eq_true]at hd
   exact .qE f l vs hl λi h1 h2=>gI (hh i h1 h2) (hd _ (List.getElem_mem h1))
 | agg l =>
  cases h with
  | agg _ vs hl ho hh =>
   simp only[kM,List.all_eq_true]at hd
   exact .agg l vs hl ho λi h1 h2=>gI (hh i h1 h2) (hd _ (List.getElem_mem h1))
 | jW l=>cases hd
 | iface t d =>
  cases h with
  | iface _ _ v h=>exact .iface t _ v (gI h hd)
 | _=>exact gI h hd
theorem GR{κ:KS}{m:Nat}{l:List D}{vs:List Value}(h:qj κ l vs)(hd:∀ d∈l,kM m d=true):qj (κ.cut m) l vs:=⟨h.1,λi h1 h2=>YR (h.2 i h1 h2) (hd _ (List.getElem_mem h1))⟩
theorem Va{m:Nat}{d:D}(h:kM m d=true):∀ x∈zR d,kM m x=true:=by
 have J1:∀ (τ:Ty) (x:den τ),∀ y∈flat τ x,kM m y=true:=by
  intro τ x y hy
  have:∃ σ z,y=.zx σ z:=by
   induction τ with
   | cons a b ia ib =>
    simp only[flat]at hy
    grind
   | nil=>simp[flat]at hy
   | expr=>simp[flat]at hy; rcases hy with rfl | rfl | rfl | rfl | rfl | rfl<;>exact⟨_,_,rfl⟩
   | _=>simp[flat]at hy; subst hy; exact⟨_,_,rfl⟩
  obtain⟨σ,z,rfl⟩:=this
  rfl
 cases d with
 | zx τ x=>exact J1 τ x
 | agg l =>
  intro x hx
  simp only[kM,List.all_eq_true]at h
  have:=h x hx
  cases x<;>first | exact this | cases this
 | jW l=>cases h
 | _=>intro x hx; simp[zR]at hx; subst hx; exact h
theorem NH{κ:KS}{m:Nat}(hI:Inv κ)(hc:∀ x∈κ.st.take m,V3 m x=true):Inv (κ.cut m):=by
 refine⟨by simp[KS.cut,hI.len],hI.jN,λb blk n h=>hI.apart b blk n (y8 h).1,λb b' blk n n' h h'=>hI.inj b b' blk n n' (y8 h).1 (y8 h').1,λb x h => ?_,hI.gl⟩
 obtain⟨h1,h2⟩:=y8 h
 have hb:=hI.blk b x h1
 have hcx:=hc x (List.mem_of_getElem? h)
 cases x with
 | dead=>trivial
 | var d =>
  obtain⟨blk,n,cs,t,g1,g2,g3,g4,g5⟩:=hb
  exact⟨blk,n,cs,t,zL g1 h2,g2,g3,GR g4 (Va hcx),g5⟩
 | arr qh e xs =>
  obtain⟨h0,hb⟩:=hb
  refine⟨h0,hJ hb (λh=>⟨h.1,zL h.2 h2⟩) ?_⟩
  rintro⟨blk,n,cs,t,g1,g2⟩
  exact⟨blk,n,cs,t,zL g1 h2,g2⟩
end
end Go.AM
namespace Go.AM
set_option linter.unusedSectionVars false
variable [vi]
section
variable {c:Ctx}
theorem wc{P:Program}{f:Nat}{fn:Func}{args:Array Value}(hf:P.funcs[f]? = some fn) (hn:(fn.name == "runtime.NumGoroutine")=false) (hb:fn.body.isNone=false) (w:World) :
  (callFunc f args).run P w=.ok (.enter f args) w:=by
 simp only[callFunc,Sem.run_bind,run_program,Result.andThen_ok,hf,hn,hb,Bool.false_eq_true,if_false,Sem.run_pure]
theorem Bt{κ κe:KS}(hI:Inv κ)(xm:κ.st=[])(hIe:Inv κe)(hx:Ext κ κe):Inv (κe.bare (Dd κe))/\Ext κ (κe.bare (Dd κe)):=by
 have qc:∀ k,Dd κe k->k<κe.w.heap.size:=by
  rintro k (hk | ⟨b,n,hk⟩)
  ·exact hIe.jN k hk
  ·exact(hIe.apart b k n hk).1
 refine⟨Zd hIe (λ_ h=>.inl h) qc,hx.os,hx.tape,hx.output,hx.size,λk hk=>⟨.inl (hx.same k hk).1,(hx.same k hk).2⟩,?_,λb blk n h=>by simp[KS.bare]at h,λb d h=>by grind,
  λb v0 e xs h=>by grind,λb h=>by grind,by grind,hx.frame⟩
 rintro k (hk | ⟨b,n,hk⟩)
 ·exact hx.fresh k hk
 ·rcases hx.Lk b k n hk with h | h
  ·grind
  ·grind
end
end Go.AM
namespace Go.AM
set_option linter.unusedSectionVars false
variable [vi] [Qg]
open Go.RowKit
def Mk(s:Nat)(fr:Fr)(st:St):T (Fr×St):=match fr.get s with
 | some (.ms b qh e off len)=>match st[b]? with
  | some (.arr uO e' xs)=>match(we (a:=.sl e') (b:=.sl e) xs:Option (List (den e)))with
   | some ys=>.zC (qh=uO) (.ret ((s,some (.zx (.sl e) ((ys.take (off+len)).drop off)))::fr,st.set b .dead))
   | none=>.fail
  | _=>.fail
 | _=>.ret (fr,st)
def Ow(j i:Nat)(fr:Fr)(st:St):T (Fr×St):=match st[j]? with
 | some (.var (.agg ds))=>match ds[i]? with
  | some (.ms b qh e off len)=>match st[b]? with
   | some (.arr uO e' xs)=>match(we (a:=.sl e') (b:=.sl e) xs:Option (List (den e)))with
    | some ys=>.zC (qh=uO) (.ret (fr,(st.set b .dead).set j (.var (.agg (ds.set i (.zx (.sl e) ((ys.take (off+len)).drop off)))))))
    | none=>.fail
   | _=>.fail
  | _=>.ret (fr,st)
 | _=>.ret (fr,st)
def Nq(s:Nat)(fr:Fr)(st:St):T (Fr×St):=bif Nat.ble 1000000 s then Ow ((s-1000000) / 1000) ((s-1000000) % 1000) fr st else Mk s fr st
def Lv:List Nat->Fr->St->T (Fr×St)
 | [],fr,st=>.ret (fr,st)
 | s::r,fr,st=>(Nq s fr st).bind λx=>Lv r x.1 x.2
section
variable {c:Ctx} {κ:KS} {n:Nat}
theorem z2Z{b qh off len:Nat}{e:Ty}{xs:List (den e)}{v:Value}(hI:Inv κ)(h:RD κ (.ms b qh e off len) v)(hb:κ.st[b]? = some (.arr qh e xs)){rR:Nat->Prop}(h1:∀ k,κ.ok k->rR k)(h2:∀ k n,κ.ph[b]? = some (some (k,n))->rR k) :
  Rc κ.w rR (.sl e) ((xs.take (off+len)).drop off) [v]:=by
 obtain⟨WW,_⟩:=K9 hI h hb
 obtain⟨a,cap,f,hve,wD,hn,g1,g2⟩:=WW.ex
 have ER:∀ blk o:Nat,v=.slice (some ⟨blk,o,none⟩) ((xs.take (off+len)).drop off).length cap->rR blk:=by
  intro blk o he
  cases h with
  | ms _ _ _ _ _ Kf a' hold z1T ha fI hm =>
   obtain⟨_,hm⟩:=hm xs hb
   grind
 rw[hve]
 cases a with
 | none=>obtain⟨k1,k2⟩:=hn rfl; rw[k1,k2]; exact .bI e none
 | some p =>
  rcases g2 p rfl with⟨k1,k2⟩ | ⟨hp,_,hc⟩
  ·rw[k1,k2]; exact .bI e _
  ·obtain⟨blk,o,sp⟩:=p
   subst hp
   exact .sl e _ blk o cap f (ER blk o hve) wD (λi hi=>(g1 i hi).mono λk hk=>⟨h1 k hk,rfl⟩) hc
theorem H7{b qh:Nat}{e:Ty}{xs:List (den e)}(hb:κ.st[b]? = some (.arr qh e xs))(hI:Inv κ):∃ κ':KS,κ'.w=κ.w/\κ'.st=κ.st.set b .dead/\Inv κ'/\Ext κ κ' /\
  ∀ (off len:Nat) (v:Value),RD κ (.ms b qh e off len) v->RD κ' (.zx (.sl e) ((xs.take (off+len)).drop off)) v:=by
 have qc:b<κ.st.length:=(List.getElem?_eq_some_iff.1 hb).1
 let κ':KS:=⟨κ.w,λk=>κ.ok k\/∃ n,κ.ph[b]? = some (some (k,n)),κ.ph.set b none,κ.st.set b .dead⟩
 have xm:∀ i,i≠b->κ'.st[i]? = κ.st[i]? := λi hi=>by show(κ.st.set b .dead)[i]? = _; rw[List.getElem?_set_ne (λe=>hi e.symm)]
 have X0:∀ i,i≠b->κ'.ph[i]? = κ.ph[i]? := λi hi=>by show(κ.ph.set b none)[i]? = _; rw[List.getElem?_set_ne (λe=>hi e.symm)]
 have M7:∀ (i blk m:Nat),κ'.ph[i]? = some (some (blk,m))->i≠b/\κ.ph[i]? = some (some (blk,m)):=by
  grind
 have hx:Ext κ κ':=by
  refine⟨rfl,rfl,rfl,Nat.le_refl _,λk hk=>⟨.inl hk,rfl⟩,?_,λi blk m hi=>.inl (M7 i blk m hi).2,?_,?_,?_,by show _<=(κ.st.set b .dead).length; simp,λ_ _ _=>rfl⟩
  ·grind
  ·grind
  ·grind
  ·grind
 have NV:Inv κ':=by
  refine⟨by show(κ.ph.set b none).length=(κ.st.set b .dead).length; simp[hI.len],?_,?_,?_,?_,hI.gl.mono hx.same⟩
  ·rintro k (hk | ⟨m,hk⟩)
   ·exact hI.jN k hk
   ·exact(hI.apart b k m hk).1
  ·intro i blk m hi
   obtain⟨hib,UY⟩:=M7 i blk m hi
   obtain⟨g1,g2⟩:=hI.apart i blk m UY
   refine⟨g1,?_⟩
   rintro(hk | ⟨m',hk⟩)
   ·exact g2 hk
   ·exact hib (hI.inj i b blk m m' UY hk)
  ·intro i i' blk m m' hi UY
   exact hI.inj i i' blk m m' (M7 i blk m hi).2 (M7 i' blk m' UY).2
  ·intro i B hB
   by_cases hib:i=b
   ·subst hib
    have:(κ.st.set i .dead)[i]? = some B:=hB
    rw[List.getElem?_set_self qc]at this
    cases this
    trivial
   ·rw[xm i hib]at hB
    exact(hI.blk i B hB).mono hx (X0 i hib) λ_ _ _=>rfl
 exact⟨κ',rfl,rfl,NV,hx,λoff len v hd=>RD.dN rfl (z2Z hI hd hb (λk hk=>.inl hk) λk m hk=>.inr ⟨m,hk⟩)⟩
theorem MA{s:Nat}{fr:Fr}{a:Act}{r:Fr×St}(h:(Mk s fr κ.st).leads r)(hI:Inv κ)(hR:Rel κ n fr.get a):∃ κ':KS,κ'.w=κ.w/\κ'.st=r.2/\Inv κ'/\Ext κ κ'/\Rel κ' n r.1.get a:=by
 unfold Mk at h
 split at h
 ·rename_i b qh e off len hs
  split at h
  ·rename_i uO e' xs hb
   split at h
   ·rename_i ys hy
    obtain⟨he,hx⟩:=zX hy
    obtain⟨rfl,h⟩:=h
    cases h
    obtain⟨v,hv,hd⟩:=hR.get s _ hs
    obtain⟨κ',e1,e2,NV,hx,hk⟩:=H7 hb hI
    refine⟨κ',e1,e2,NV,hx,hR.size,hR.defers,λt d jR => ?_⟩
    simp only[Fr.get]at jR
    cases ht:Nat.beq s t with
    | true =>
     rw[<- Nat.eq_of_beq_eq_true ht]
     grind
    | false =>
     rw[ht,cond_false]at jR
     obtain⟨u,g1,g2⟩:=hR.get t d jR
     exact⟨u,g1,g2.mono hx⟩
   ·exact h.elim
  ·exact h.elim
 ·cases h; exact⟨κ,rfl,rfl,hI,Ext.refl κ,hR⟩
theorem Bu{ds:List D}{i b qh off len:Nat}{e:Ty}{d':D}(hd:ds[i]? = some (.ms b qh e off len))(hn:kL [d']=none){T:Nat}(h:kL (ds.set i d')=some T):kL ds=some T:=by
 cases ds with
 | nil=>cases hd
 | cons x r =>
  cases i with
  | zero =>
   have:kL (d'::r)=kL [d']:=by cases d'<;>rfl
   grind
  | succ i =>
   have:∀ r':List D,kL (x::r')=kL [x]:=by intro r'; cases x<;>rfl
   grind
theorem Ny{j i:Nat}{fr:Fr}{a:Act}{r:Fr×St}(h:(Ow j i fr κ.st).leads r)(hI:Inv κ)(hR:Rel κ n fr.get a):∃ κ':KS,κ'.w=κ.w/\κ'.st=r.2/\Inv κ'/\Ext κ κ'/\Rel κ' n r.1.get a:=by
 unfold Ow at h
 split at h
 ·rename_i ds hj
  split at h
  ·rename_i b qh e off len hi
   split at h
   ·rename_i uO e' xs hb
    split at h
    ·rename_i ys hy
     obtain⟨he,hx⟩:=zX hy
     cases he
     cases hx
     obtain⟨rfl,h⟩:=h
     cases h
     obtain⟨κ1,e1,e2,oy,S4,hk⟩:=H7 hb hI
     have hjb:j≠b:=λq=>by subst q; rw[hb]at hj; cases hj
     have hj1:κ1.st[j]? = some (.var (.agg ds)):=by rw[e2,List.getElem?_set_ne (λq=>hjb q.symm)]; exact hj
     have Dg:j<κ1.st.length:=(List.getElem?_eq_some_iff.1 hj1).1
     let d':D:=.zx (.sl e) ((xs.take (off+len)).drop off)
     let κ2:KS:={ κ1 with st:=κ1.st.set j (.var (.agg (ds.set i d'))) }
     have xm:∀ k,k≠j->κ2.st[k]? = κ1.st[k]? := λk hk=>by show(κ1.st.set j _)[k]? = _; rw[List.getElem?_set_ne (λq=>hk q.symm)]
     have z4Y:κ2.st[j]? = some (.var (.agg (ds.set i d'))):=by show(κ1.st.set j _)[j]? = _; rw[List.getElem?_set_self Dg]
     have Ya:Ext κ1 κ2:=by
      refine⟨rfl,rfl,rfl,Nat.le_refl _,λk hk=>⟨hk,rfl⟩,λk hk=>.inl hk,λk blk m hk=>.inl hk,?_,?_,?_,by show _<=(κ1.st.set j _).length; simp,λ_ _ _=>rfl⟩
      ·grind
      ·grind
      ·grind
     have hI2:Inv κ2:=by
      refine⟨by show κ1.ph.length=(κ1.st.set j _).length; simp[oy.len],oy.jN,oy.apart,oy.inj,?_,oy.gl⟩
      intro k B hB
      by_cases q:k=j
      ·subst q
       rw[z4Y]at hB
       cases hB
       obtain⟨blk,m,cs,t,g1,g2,g3,g4,g5,g6⟩:=hI.blk k _ hj
       obtain⟨cC,m',yB,t',p1,p2,p3,p4,p5,p6⟩:=oy.blk k _ hj1
       have X0:κ1.ph[k]? = κ.ph[k]? := (S4.var k _ hj).2
       rw[X0,g1]at p1
       cases p1
       rw[e1,g2]at p2
       cases p2
       refine⟨blk,m,cs,t,X0.trans g1,by show κ1.w.heap[blk]? = _; rw[e1]; exact g2,g3,?_,?_,λT hT=>g6 T (Bu hi rfl hT)⟩
       ·have p4':qj κ2 ds cs.toList:=qj.mono Ya p4
        refine⟨by show(ds.set i d').length=_; rw[List.length_set]; exact p4'.1,λk' h1 h2 => ?_⟩
        have rX:k'<(ds.set i d').length:=h1
        rw[List.length_set]at rX
        show RD κ2 ((ds.set i d')[k']) _
        by_cases q:i=k'
        ·subst q
         have hdi:ds[i]'rX=.ms b qh e off len:=Option.some.inj ((List.getElem?_eq_getElem rX).symm.trans hi)
         have:=g4.2 i rX h2
         have UQ:(zR (D.agg ds))[i]'rX=.ms b qh e off len:=hdi
         rw[UQ]at this
         have e3:(ds.set i d')[i]'h1=d':=List.getElem_set_self _
         rw[e3]
         exact(hk _ _ _ this).mono Ya
        ·have e3:(ds.set i d')[k']'h1=ds[k']'rX:=List.getElem_set_ne q _
         rw[e3]
         exact p4'.2 k' rX h2
       ·intro x hx
        rcases List.mem_or_eq_of_mem_set hx with hx | rfl
        ·exact g5 x hx
        ·rfl
      ·rw[xm k q]at hB
       exact(oy.blk k B hB).mono Ya rfl λ_ _ _=>rfl
     refine⟨κ2,e1,by show κ1.st.set j _=_; rw[e2],hI2,S4.trans Ya,hR.size,hR.defers,λt d jR => ?_⟩
     obtain⟨u,q1,q2⟩:=hR.get t d jR
     exact⟨u,q1,(q2.mono S4).mono Ya⟩
    ·exact h.elim
   ·exact h.elim
  ·cases h; exact⟨κ,rfl,rfl,hI,Ext.refl κ,hR⟩
 ·cases h; exact⟨κ,rfl,rfl,hI,Ext.refl κ,hR⟩
theorem NJ{s:Nat}{fr:Fr}{a:Act}{r:Fr×St}(h:(Nq s fr κ.st).leads r)(hI:Inv κ)(hR:Rel κ n fr.get a):∃ κ':KS,κ'.w=κ.w/\κ'.st=r.2/\Inv κ'/\Ext κ κ'/\Rel κ' n r.1.get a:=by
 unfold Nq at h
 cases hb:Nat.ble 1000000 s with
 | true=>rw[hb,cond_true]at h; exact Ny h hI hR
 | false=>rw[hb,cond_false]at h; exact MA h hI hR
theorem I0:∀ (l:List Nat) {fr:Fr} {κ:KS} {a:Act} {r:Fr×St},(Lv l fr κ.st).leads r->Inv κ->Rel κ n fr.get a->∃ κ':KS,κ'.w=κ.w/\κ'.st=r.2/\Inv κ'/\Ext κ κ'/\Rel κ' n r.1.get a
 | [],fr,κ,a,r,h,hI,hR=>by cases h; exact⟨κ,rfl,rfl,hI,Ext.refl κ,hR⟩
 | s::l,fr,κ,a,r,h,hI,hR=>by
  simp only[Lv,T.zp]at h
  obtain⟨x,h1,h2⟩:=h
  obtain⟨κ1,e1,e2,e3,e4,e5⟩:=NJ h1 hI hR
  rw[<- e2]at h2
  obtain⟨κ2,g1,g2,g3,g4,g5⟩:=I0 l h2 e3 e5
  exact⟨κ2,g1.trans e1,g2,g3,e4.trans g4,g5⟩
end
end Go.AM