/-
  The abstract machine, part C: texts of our own, the same for each claim.
-/
import Derived.Test.YtjklmealdnfhfaaGreatDoorAmB
import Derived.Deep.LoopGhost
set_option linter.unusedVariables false
open Go.Op renaming operands -> B
open Nat renaming eq_of_beq_eq_true -> E, le_of_ble_eq_true -> X, beq -> zU, le_antisymm -> qC, le_refl -> qG, lt_or_ge -> qH, blt -> qL, not_lt_zero -> qN, zero_add -> qO, testBit -> qS
open List renaming mem_range -> V, getElem?_set_ne -> zE, getElem?_append_left -> zI, all_eq_true -> zJ, mem_cons_self -> zK, map_congr_left -> zM, pairwise_lt_range -> zN, any_eq_true -> zO, getElem?_eq_some_iff -> zQ, mem_cons_of_mem -> zS, getElem?_eq_getElem -> zT, eq_nil_of_length_eq_zero -> zW, mem_filter -> zX, mem_cons -> qA, pairwise_cons -> qE, range -> qF, getElem?_eq_none -> qJ, reverse_reverse -> qM, any_eq_false -> qQ, getElem?_map -> qR, getElem_mem -> qV, getElem?_set_self -> qX, mem_append -> xA, mem_of_getElem? -> xB, range_eq_range' -> xC, getD -> xF
open Bool renaming and_eq_true -> zF, not_eq_true' -> zL, not_eq_false' -> qD
open Array renaming mem_toList_iff -> zG, getElem?_setIfInBounds_ne -> zH, getElem?_eq_getElem -> zP, toArray_toList -> zR, eq_empty_of_size_eq_zero -> zV, getD_eq_getD_getElem? -> zY, replicate -> qB, getElem?_toList -> qI, ext' -> qP
open Go.Region renaming binds -> zZ, wanted -> qU, ready -> qY
open Go.Call renaming operands -> qK
open Go.Result renaming andThen_ok -> qT
open Go.Act renaming put -> qW
open Go.Sem renaming run_bind -> qZ, run_pure -> xD
open Go.Deferred renaming ofValue -> xE
open Pure renaming pure -> xG
namespace Go.AM
set_option linter.unusedSectionVars false
variable [yY]
abbrev F:=Nat->Option D
def wA(f:F):Operand->Option D
 | .tmp t=>f t
 | .const v=>JT v
 | .global _=>none
 | .func g=>bif qL g 1000000 then some (.wi g [])else none
theorem ij(fr:Fr):bu fr=wA fr.get:=by rfl
def dS(f:F)(dst:Option Nat)(d:Option D):F:=match dst with
 | some t=>λs=>if s=t then d else f s
 | none=>f
theorem ZW{a b:Nat}(h:a≠b):zU a b=false:=by
 cases I:zU a b with
 | false=>rfl
 | true=>exact absurd (E I) h
theorem ZI(fr:Fr)(dst:Option Nat)(d:Option D):(fr.put dst d).get=dS fr.get dst d:=by
 cases dst with
 | none=>rfl
 | some t =>
  funext s
  simp only[Fr.put,Fr.get,dS]
  by_cases h:s=t
  ·subst h; simp
  ·rw[if_neg h,ZW (λe=>h e.symm),cond_false]
section
variable (c:Ctx) (n:Nat) (ops:Array Oper)
def jE(f:F)(o:Oper):Option Bool:=match o.guard with
 | none=>some true
 | some (j,w)=>match bA ops j with
  | none=>none
  | some t=>match f t with
   | some (.qi .bool b)=>some (b==w)
   | some (.eG [])=>some false
   | _=>none
def ff(i:Nat)(s s':F×St)(k:Nat):Prop:=∃ o,ops[i]? = some o/\ga n o.dst=true /\
 ((jE ops s.1 o=some true/\k=(wP c (wA s.1) o).kind/\∃ d ql,(qu (wP c (wA s.1) o) s.2).leads (d,ql)/\s'=(dS s.1 o.dst d,ql)) \/
  (jE ops s.1 o=some false/\k=0/\s'=(dS s.1 o.dst (some T0),s.2)))
def Rb:List Nat->F×St->F×St->List Nat->Prop
 | [],s,s',ks=>s'=s/\ks=[]
 | i::l,s,s',ks=>∃ s1 k La,ks=k::La/\ff c n ops i s s1 k/\Rb l s1 s' La
end
section
variable {c:Ctx} {n:Nat} {ops:Array Oper}
def yC(kn:Kn)(f:F):Prop:=∀ t b,kn.get t=some b->f t=some (.qi .bool b)
theorem YC(t:Nat)(b:Option Bool)(kn:Kn)(s:Nat):Kn.get ((t,b)::kn) s=if s=t then b else kn.get s:=by
 simp only[Kn.get]
 by_cases h:s=t
 ·subst h; simp
 ·rw[if_neg h,ZW (λe=>h e.symm),cond_false]
theorem lY{kn:Kn}{f:F}(h:yC kn f){x:Operand}{b:Bool}(N:ru kn x=some b):wA f x=some (.qi .bool b):=by
 unfold ru at N
 split at N
 ·exact h _ _ N
 ·cases N; rfl
 ·cases N
theorem Ee{kn:Kn}{fr:Fr}{o:Oper}(hk:yC kn fr.get){st:St}{r:Option D×St}(h:(qu (Qn c kn fr o) st).leads r) :
  (qu (wP c (wA fr.get) o) st).leads r/\(Qn c kn fr o).kind=(wP c (wA fr.get) o).kind/\∀ b,H8 kn o.op=some b->r.1=some (.qi .bool b):=by
 obtain⟨dst,op,ty,pos,after,guard⟩:=o
 rw[<- ij]
 cases op with
 | pick x a b =>
  simp only[Qn]at h ⊢
  cases N:ru kn x with
  | none =>
   rw[N]at h
   refine⟨h,rfl,λb' I => ?_⟩
   simp[H8,N]at I
  | some bx =>
   rw[N]at h
   have hval:=lY hk N
   rw[<- ij]at hval
   have zgm:wP c (bu fr) ⟨dst,.pick x a b,ty,pos,after,guard⟩=.val (.ite bx (.ret (bu fr a)) (.ret (bu fr b))):=by
    simp only[wP,Lx,hval,asBool]
   rw[zgm]
   obtain⟨d,ql⟩:=r
   cases bx with
   | true =>
    simp only[kP,T.leads]at h ⊢
    refine⟨⟨.inl ⟨by first | rfl | trivial,h.1⟩,h.2⟩,rfl,λb' I => ?_⟩
    simp only[H8,N]at I
    have:=lY hk I
    rw[<- ij]at this
    grind
   | false =>
    simp only[kP,T.leads]at h ⊢
    refine⟨⟨.inr ⟨by first | rfl | trivial,h.1⟩,h.2⟩,rfl,λb' I => ?_⟩
    simp only[H8,N]at I
    have:=lY hk I
    rw[<- ij]at this
    grind
 | move x =>
  refine⟨h,rfl,λb I => ?_⟩
  obtain⟨d,ql⟩:=r
  simp only[Qn,wP,kP,T.leads]at h
  have:=lY hk (show ru kn x=some b from I)
  rw[<- ij]at this
  grind
 | assign x =>
  refine⟨h,rfl,λb I => ?_⟩
  obtain⟨d,ql⟩:=r
  simp only[Qn,wP,kP,T.leads]at h
  have:=lY hk (show ru kn x=some b from I)
  rw[<- ij]at this
  grind
 | _=>exact⟨h,rfl,λb I=>by simp[H8]at I⟩
theorem Pl{kn:Kn}{f:F}(hk:yC kn f){dst:Option Nat}{d:Option D}{b:Option Bool}(I:∀ b',b=some b'->d=some (.qi .bool b')):yC (He kn dst b) (dS f dst d):=by
 cases dst with
 | none=>exact hk
 | some t =>
  intro s b' h
  simp only[He,YC]at h
  simp only[dS]
  split at h
  ·grind
  ·rename_i e; rw[if_neg e]; exact hk s b' h
theorem XT{kn:Kn}{f:F}(hk:yC kn f){t:Nat}{b:Bool}(I:f t=some (.qi .bool b)):yC ((t,some b)::kn) f:=by
 intro s b' h
 rw[YC]at h
 split at h
 ·grind
 ·exact hk s b' h
theorem Gn{o:Oper}{s s':om}(hk:yC s.kn s.fr.get)(h:(l0 c n o s).leads s') :
  ga n o.dst=true/\(∃ d ql,(qu (wP c (wA s.fr.get) o) s.st).leads (d,ql)/\s'.fr.get=dS s.fr.get o.dst d/\s'.st=ql)/\yC s'.kn s'.fr.get/\s'.ks=(wP c (wA s.fr.get) o).kind::s.ks:=by
 unfold l0 at h
 cases J:ga n o.dst with
 | false=>rw[J]at h; exact h.elim
 | true =>
  rw[J,cond_true]at h
  simp only[T.xg]at h
  obtain⟨⟨d,ql⟩,h1,rfl⟩:=h
  obtain⟨M,h3,h4⟩:=Ee hk h1
  refine⟨rfl,⟨d,ql,M,ZI _ _ _,rfl⟩,?_,xz⟩
  rw[ZI]
  exact Pl hk h4
theorem Pv{o:Oper}{s:om}(hk:yC s.kn s.fr.get):yC (cI o s).kn (cI o s).fr.get:=by
 show yC (He s.kn o.dst none) (s.fr.put o.dst (some T0)).get
 rw[ZI]
 exact Pl hk nofun
theorem BD{i:Nat}{o:Oper}{s s':om}(ho:ops[i]? = some o)(hk:yC s.kn s.fr.get)(h:(stepG c n ops o s).leads s') :
  ∃ k,ff c n ops i (s.fr.get,s.st) (s'.fr.get,s'.st) k/\yC s'.kn s'.fr.get/\s'.ks=k::s.ks:=by
 have run:∀ (s0:om),s0.fr=s.fr->s0.st=s.st->s0.ks=s.ks->yC s0.kn s0.fr.get->jE ops s.fr.get o=some true->(l0 c n o s0).leads s' ->
   ∃ k,ff c n ops i (s.fr.get,s.st) (s'.fr.get,s'.st) k/\yC s'.kn s'.fr.get/\s'.ks=k::s.ks:=by
  intro s0 e1 e2 e3 Dt hw h
  obtain⟨h1,⟨d,ql,M,h3,h4⟩,h5,h6⟩:=Gn Dt h
  rw[e1]at M h3 h6
  rw[e2]at M
  rw[e3]at h6
  exact⟨_,⟨o,ho,h1,.inl ⟨hw,rfl,d,ql,M,by rw[h3,h4]⟩⟩,h5,h6⟩
 have skip:∀ (s0:om),s0.fr=s.fr->s0.st=s.st->s0.ks=s.ks->yC s0.kn s0.fr.get->jE ops s.fr.get o=some false->ga n o.dst=true->cI o s0=s' ->
   ∃ k,ff c n ops i (s.fr.get,s.st) (s'.fr.get,s'.st) k/\yC s'.kn s'.fr.get/\s'.ks=k::s.ks:=by
  intro s0 e1 e2 e3 Dt hw J h
  subst h
  refine⟨0,⟨o,ho,J,.inr ⟨hw,rfl,?_⟩⟩,Pv Dt,by simp[cI,e3]⟩
  simp only[cI,ZI,e1,e2]
 unfold stepG at h
 split at h
 ·rename_i hg
  exact run s rfl rfl rfl hk (by simp[jE,hg]) h
 ·rename_i j w hg
  split at h
  ·exact h.elim
  ·rename_i t ht
   split at h
   ·rename_i b I
    have hf:=hk t b I
    have hw:jE ops s.fr.get o=some (b==w):=by simp[jE,hg,ht,hf]
    cases T8:(b==w)with
    | true=>grind
    | false =>
     rw[T8,cond_false]at h
     cases J:ga n o.dst with
     | false=>rw[J]at h; exact h.elim
     | true=>rw[J,cond_true]at h; exact skip s rfl rfl rfl hk (by rw[hw,T8]) J h
   ·split at h
    ·rename_i x N
     have hw:jE ops s.fr.get o=some (x==w):=by simp[jE,hg,ht,N]
     cases J:ga n o.dst with
     | false=>rw[J]at h; exact h.elim
     | true =>
      rw[J,cond_true]at h
      rcases h with⟨rfl,h⟩ | ⟨rfl,h⟩
      ·have Kz:yC (s.lg t true).kn (s.lg t true).fr.get:=XT hk N
       cases w with
       | true=>exact run (s.lg t true) rfl rfl rfl Kz hw h
       | false=>exact skip (s.lg t true) rfl rfl rfl Kz hw J h
      ·have Kz:yC (s.lg t false).kn (s.lg t false).fr.get:=XT hk N
       cases w with
       | true=>exact skip (s.lg t false) rfl rfl rfl Kz hw J h
       | false=>exact run (s.lg t false) rfl rfl rfl Kz hw h
    ·rename_i N
     have hw:jE ops s.fr.get o=some false:=by simp[jE,hg,ht,N]
     cases J:ga n o.dst with
     | false=>rw[J]at h; exact h.elim
     | true=>rw[J,cond_true]at h; exact skip s rfl rfl rfl hk hw J h
    ·exact h.elim
theorem rR:∀ (l:List Oper) (k0:Nat) (s s':om),(∀ j,l[j]? = ops[k0+j]? \/ l.length<=j)->yC s.kn s.fr.get->(tz c n ops l s).leads s' ->
  ∃ ks,Rb c n ops (List.range' k0 l.length) (s.fr.get,s.st) (s'.fr.get,s'.st) ks/\yC s'.kn s'.fr.get/\s'.ks=ks.reverse++s.ks
 | [],k0,s,s',_,hk,h=>by cases h; exact⟨[],⟨rfl,rfl⟩,hk,rfl⟩
 | o::l,k0,s,s',R,hk,h=>by
  simp only[tz,T.xg]at h
  obtain⟨s1,h1,M⟩:=h
  have ho:ops[k0]? = some o:=by rcases R 0 with h | h<;>simp at h; exact h.symm
  obtain⟨k,g1,g2,g3⟩:=BD ho hk h1
  obtain⟨ks,g4,g5,g6⟩:=rR l (k0+1) s1 s' (λj=>by have:=R (j+1); simpa[Nat.add_assoc,Nat.add_comm 1 j]using this) g2 M
  refine⟨k::ks,?_,g5,xz⟩
  exact⟨_,k,ks,rfl,g1,g4⟩
end
end Go.AM
namespace Go.AM
set_option linter.unusedSectionVars false
variable [yY]
section
variable {c:Ctx} {n:Nat} {ops:Array Oper}
theorem Xd{α:Type}{ρ ρ':α->Option D}(L:List (Nat×α))(h:∀ p∈L,ρ p.2=ρ' p.2):(L.map λp=>(p.1,ρ p.2))=L.map λp=>(p.1,ρ' p.2) :=
 zM λp hp=>by rw[h p hp]
theorem WX{ρ ρ':Operand->Option D}(o:Oper)(h:∀ x∈o.op.operands,ρ x=ρ' x):wP c ρ o=wP c ρ' o:=by
 obtain⟨dst,op,ty,pos,after,guard⟩:=o
 cases op with
 | move x=>simp only[wP]; rw[h x (by simp[B])]
 | assign x=>simp only[wP]; rw[h x (by simp[B])]
 | pick x a b=>simp only[wP]; rw[h x (by simp[B]),h a (by simp[B]),h b (by simp[B])]
 | box t x=>simp only[wP]; rw[h x (by simp[B])]
 | load t x=>simp only[wP]; rw[h x (by simp[B])]
 | store t x y=>simp only[wP]; rw[h x (by simp[B]),h y (by simp[B])]
 | nilCheck x=>simp only[wP]; rw[h x (by simp[B])]
 | binOp op t x y _=>simp only[wP]; rw[h x (by simp[B]),h y (by simp[B])]
 | typeAssert x xt t ok=>simp only[wP]; rw[h x (by simp[B])]
 | unOp op t x=>simp only[wP]; rw[h x (by simp[B])]
 | convert s t x=>simp only[wP]; rw[h x (by simp[B])]
 | makeInterface t x=>simp only[wP]; rw[h x (by simp[B])]
 | makeFunc fn first cap =>
  cases fn<;>simp only[wP]
  rw[zM (l:=cap.toList) (λx N=>h x (by simp[B,zG.1 N])),zM (l:=first.toList) (λx N=>h x (by simp[B,zG.1 N]))]
 | makeSlice t x y=>simp only[wP]; rw[h x (by simp[B]),h y (by simp[B])]
 | slice t x lo hi mx =>
  simp only[wP]
  have ho:∀ o:Option Operand,(∀ y,o=some y->ρ y=ρ' y)->o.map ρ=o.map ρ':=λo ho=>by
   cases o with
   | none=>rfl
   | some y=>grind
  rw[h x (by simp[B]),ho lo (λy hy=>h y (by simp[B,hy])),ho hi (λy hy=>h y (by simp[B,hy])),ho mx (λy hy=>h y (by simp[B,hy]))]
 | fieldAddr s x f=>simp only[wP]; rw[h x (by simp[B])]
 | field s x f=>simp only[wP]; rw[h x (by simp[B])]
 | indexAddr t x y=>simp only[wP]; rw[h x (by simp[B]),h y (by simp[B])]
 | lookup t x y _=>simp only[wP]; rw[h x (by simp[B]),h y (by simp[B])]
 | mapUpdate t x y z=>simp only[wP]; rw[h x (by simp[B]),h y (by simp[B]),h z (by simp[B])]
 | index t x y=>simp only[wP]; rw[h x (by simp[B]),h y (by simp[B])]
 | extract x i=>simp only[wP]; rw[h x (by simp[B])]
 | build t ps=>simp only[wP]; rw[Xd ps.toList λp hp=>h p.2 (by simp[B]; exact⟨p.1,zG.1 hp⟩)]
 | buildSlice t k ps=>simp only[wP]; rw[Xd ps.toList λp hp=>h p.2 (by simp[B]; exact⟨p.1,zG.1 hp⟩)]
 | call cl =>
  obtain⟨callee,args,sr⟩:=cl
  have fp:args.toList.map ρ=args.toList.map ρ':=zM λx N=>h x (by simp[B,qK,zG.1 N])
  cases callee with
  | builtin b=>simp only[wP]; rw[fp]
  | value f=>simp only[wP]; rw[fp,h f (by simp[B,qK])]
  | invoke r m=>rfl
 | _=>rfl
theorem HI{f:F}{dst:Option Nat}{d:Option D}{x:Operand}(h:∀ t,dst=some t->x≠.tmp t):wA (dS f dst d) x=wA f x:=by
 cases dst with
 | none=>rfl
 | some t=>cases x with
  | tmp s=>simp only[wA,dS]; rw[if_neg (λe=>h t rfl (by rw[e]))]
  | _=>rfl
theorem fA(f:F){a b:Option Nat}(d e:Option D)(h:∀ t,a=some t->b≠some t):dS (dS f a d) b e=dS (dS f b e) a d:=by
 cases a with
 | none=>rfl
 | some s=>cases b with
  | none=>rfl
  | some t =>
   simp only[dS]
   grind
def Ind(ops:Array Oper)(kd:Nat->Nat)(p i:Nat):Prop:=∀ x y,ops[p]? = some x->ops[i]? = some y ->
 (∀ d,x.dst=some d->d ∉ tmpsOf ops y)/\(∀ d,y.dst=some d->d ∉ tmpsOf ops x)/\bO (kd p) (kd i)=false
theorem dP{o:Oper}{d:Nat}(h:o.dst=some d):d∈tmpsOf ops o:=by simp[tmpsOf,h]
theorem Xf{o:Oper}{d:Nat}(h:Operand.tmp d∈o.op.operands):d∈tmpsOf ops o:=by
 simp only[tmpsOf,xA,List.mem_filterMap]
 exact .inr ⟨.tmp d,xz,rfl⟩
theorem Xe{o:Oper}{j:Nat}{w:Bool}{d:Nat}(h:o.guard=some (j,w))(hg:bA ops j=some d):d∈tmpsOf ops o:=by
 simp[tmpsOf,h,hg]
theorem jz{f:F}{o:Oper}{dst:Option Nat}{d:Option D}(h:∀ t,dst=some t->t ∉ tmpsOf ops o):jE ops (dS f dst d) o=jE ops f o:=by
 unfold jE
 cases hg:o.guard with
 | none=>rfl
 | some jw =>
  obtain⟨j,w⟩:=jw
  simp only
  cases hs:bA ops j with
  | none=>rfl
  | some t =>
   simp only
   have:dS f dst d t=f t:=by
    cases dst with
    | none=>rfl
    | some s=>simp only[dS]; rw[if_neg]; intro e; exact h s rfl (e▸Xe hg hs)
   rw[this]
theorem dn{f:F}{o:Oper}{dst:Option Nat}{d:Option D}(h:∀ t,dst=some t->t ∉ tmpsOf ops o):wP c (wA (dS f dst d)) o=wP c (wA f) o :=
 WX o λx N=>HI λt ht e=>h t ht (Xf (ops:=ops) (e▸N))
theorem sM{cl:dT}(h:cl.kind=0){st ql:St}{d:Option D}(R:(qu cl st).leads (d,ql)):ql=st/\∀ yZ,(qu cl yZ).leads (d,yZ):=by
 cases cl with
 | val t=>rw[kP]at R; exact⟨R.2,λyZ=>by rw[kP]; exact⟨R.1,rfl⟩⟩
 | rd k=>cases h
 | wr k=>cases h
theorem nf{cl:dT}(h:cl.kind<=1){st ql:St}{d:Option D}(R:(qu cl st).leads (d,ql)):ql=st:=by
 cases cl with
 | val t=>rw[kP]at R; exact R.2
 | rd k=>rw[rF]at R; exact R.2
 | wr k=>simp[dT.kind]at h
theorem U9(cl:dT):cl.kind<=2:=by cases cl<;>simp[dT.kind]
theorem BE{kd:Nat->Nat}{p i:Nat}(hi:Ind ops kd p i){s s1 s2:F×St}(h1:ff c n ops p s s1 (kd p))(M:ff c n ops i s1 s2 (kd i)) :
  ∃ s',ff c n ops i s s' (kd i)/\ff c n ops p s' s2 (kd p):=by
 obtain⟨x,N,hdx,GM⟩:=h1
 obtain⟨y,hy,hdy,hy'⟩:=M
 obtain⟨a1,a2,a3⟩:=hi x y N hy
 have hdd:∀ t,x.dst=some t->y.dst≠some t:=λt ht e=>a1 t ht (dP e)
 obtain⟨f,st⟩:=s
 rcases GM with⟨hw,hk,d,dE,R,rfl⟩ | ⟨hw,hk,rfl⟩
 ·rcases hy' with⟨Kg,mZ,e,yZ,ZL,rfl⟩ | ⟨Kg,mZ,rfl⟩
  ·simp only[jz a1,dn (c:=c) a1]at Kg mZ ZL
   simp only at hw hk R
   -- the two meet nowhere in the store
   have key:(qu (wP c (wA f) y) st).leads (e,(if(wP c (wA f) y).kind=2 then yZ else st))/\(qu (wP c (wA f) x) (if(wP c (wA f) y).kind=2 then yZ else st)).leads (d,yZ):=by
    rw[hk,mZ]at a3
    rcases qH (wP c (wA f) y).kind 2 with hy2 | hy2
    ·rw[if_neg (O)]
     have e2:=nf (O) ZL
     subst e2
     rcases qH (wP c (wA f) x).kind 2 with MV | MV
     ·have e1:=nf (O) R
      grind
     ·have hx3:(wP c (wA f) x).kind=2:=qC (U9 _) MV
      have hy0:(wP c (wA f) y).kind=0:=by
       rw[hx3]at a3
       cases hy0:(wP c (wA f) y).kind with
       | zero=>rfl
       | succ m=>rw[hy0]at a3; simp[bO]at a3
      exact⟨(sM hy0 ZL).2 st,R⟩
    ·have hy3:(wP c (wA f) y).kind=2:=qC (U9 _) hy2
     rw[if_pos hy3]
     have KA:(wP c (wA f) x).kind=0:=by
      rw[hy3]at a3
      cases KA:(wP c (wA f) x).kind with
      | zero=>rfl
      | succ m=>rw[KA]at a3; simp[bO]at a3
     obtain⟨e1,h3⟩:=sM KA R
     grind
   refine⟨_,⟨y,hy,hdy,.inl ⟨Kg,mZ,e,_,key.1,rfl⟩⟩,x,N,hdx,.inl ⟨?_,?_,d,yZ,?_,?_⟩⟩
   ·rw[jz a2]; exact hw
   ·rw[dn (c:=c) a2]; exact hk
   ·rw[dn (c:=c) a2]; exact key.2
   ·simp only[fA f d e hdd]
  ·simp only[jz a1]at Kg
   refine⟨_,⟨y,hy,hdy,.inr ⟨Kg,mZ,rfl⟩⟩,x,N,hdx,.inl ⟨?_,?_,d,dE,?_,?_⟩⟩
   ·rw[jz a2]; exact hw
   ·rw[dn (c:=c) a2]; exact hk
   ·rw[dn (c:=c) a2]; exact R
   ·simp only[fA f d (some T0) hdd]
 ·rcases hy' with⟨Kg,mZ,e,yZ,ZL,rfl⟩ | ⟨Kg,mZ,rfl⟩
  ·simp only[jz a1,dn (c:=c) a1]at Kg mZ ZL
   refine⟨_,⟨y,hy,hdy,.inl ⟨Kg,mZ,e,yZ,ZL,rfl⟩⟩,x,N,hdx,.inr ⟨?_,hk,?_⟩⟩
   ·rw[jz a2]; exact hw
   ·simp only[fA f (some T0) e hdd]
  ·simp only[jz a1]at Kg
   refine⟨_,⟨y,hy,hdy,.inr ⟨Kg,mZ,rfl⟩⟩,x,N,hdx,.inr ⟨?_,hk,?_⟩⟩
   ·rw[jz a2]; exact hw
   ·simp only[fA f (some T0) (some T0) hdd]
def Qf(c:Ctx)(n:Nat)(ops:Array Oper)(kd:Nat->Nat):List Nat->F×St->F×St->Prop
 | [],s,s'=>s'=s
 | i::l,s,s'=>∃ s1,ff c n ops i s s1 (kd i)/\Qf c n ops kd l s1 s'
theorem Gt{kd:Nat->Nat}{i:Nat}{post:List Nat}{s':F×St}:∀ {pre:List Nat} {s:F×St},(∀ p∈pre,Ind ops kd p i)->Qf c n ops kd (pre++i::post) s s' ->
  ∃ s1,ff c n ops i s s1 (kd i)/\Qf c n ops kd (pre++post) s1 s'
 | [],s,_,h=>h
 | p::pre,s,hp,⟨sp,h1,M⟩=>by
  obtain⟨s1,h3,h4⟩:=Gt (λq hq=>hp q (zS _ hq)) M
  obtain⟨s2,h5,h6⟩:=BE (hp p zK) h1 h3
  exact⟨s2,h5,s1,h6,h4⟩
end
end Go.AM
namespace Go.AM
set_option linter.unusedSectionVars false
variable [yY]
section
variable (c:Ctx) (n:Nat) (ops:Array Oper)
def nD(i:Nat)(s s':F×St)(k:RK):Prop:=∃ o,ops[i]? = some o/\ga n o.dst=true /\
 ((jE ops s.1 o=some true/\k=vu c (wA s.1) s.2 o/\∃ d ql,(qu (wP c (wA s.1) o) s.2).leads (d,ql)/\s'=(dS s.1 o.dst d,ql)) \/
  (jE ops s.1 o=some false/\k=.z 0/\s'=(dS s.1 o.dst (some T0),s.2)))
def Mp:List Nat->F×St->F×St->List RK->Prop
 | [],s,s',ks=>s'=s/\ks=[]
 | i::l,s,s',ks=>∃ s1 k La,ks=k::La/\nD c n ops i s s1 k/\Mp l s1 s' La
end
section
variable {c:Ctx} {n:Nat} {ops:Array Oper}
theorem nD.plain{i:Nat}{s s':F×St}{k:RK}(h:nD c n ops i s s' k):∃ k',ff c n ops i s s' k':=by
 obtain⟨o,h1,M,h3⟩:=h
 rcases h3 with⟨g1,_,g3⟩ | ⟨g1,_,g3⟩
 ·exact⟨_,o,h1,M,.inl ⟨g1,rfl,g3⟩⟩
 ·exact⟨_,o,h1,M,.inr ⟨g1,rfl,g3⟩⟩
theorem LS{i:Nat}{o:Oper}{s s':om}(ho:ops[i]? = some o)(hk:yC s.kn s.fr.get)(h:(stepG c n ops o s).leads s') :
  ∃ k,nD c n ops i (s.fr.get,s.st) (s'.fr.get,s'.st) k/\yC s'.kn s'.fr.get/\s'.bk=k::s.bk:=by
 have bkS:∀ {s0:om},(l0 c n o s0).leads s'->s'.bk=vu c (bu s0.fr) s0.st o::s0.bk:=by
  intro s0 h
  unfold l0 at h
  cases J:ga n o.dst with
  | false=>rw[J]at h; exact h.elim
  | true =>
   rw[J,cond_true]at h
   simp only[T.xg]at h
   obtain⟨⟨d,ql⟩,h1,rfl⟩:=h
   rfl
 have run:∀ (s0:om),s0.fr=s.fr->s0.st=s.st->s0.bk=s.bk->yC s0.kn s0.fr.get->jE ops s.fr.get o=some true->(l0 c n o s0).leads s' ->
   ∃ k,nD c n ops i (s.fr.get,s.st) (s'.fr.get,s'.st) k/\yC s'.kn s'.fr.get/\s'.bk=k::s.bk:=by
  intro s0 e1 e2 e3 Dt hw h
  obtain⟨h1,⟨d,ql,M,h3,h4⟩,h5,h6⟩:=Gn Dt h
  have I:=bkS h
  rw[e1]at M h3 I
  rw[e2]at M I
  rw[e3]at I
  rw[ij]at I
  exact⟨_,⟨o,ho,h1,.inl ⟨hw,rfl,d,ql,M,by rw[h3,h4]⟩⟩,h5,I⟩
 have skip:∀ (s0:om),s0.fr=s.fr->s0.st=s.st->s0.bk=s.bk->yC s0.kn s0.fr.get->jE ops s.fr.get o=some false->ga n o.dst=true->cI o s0=s' ->
   ∃ k,nD c n ops i (s.fr.get,s.st) (s'.fr.get,s'.st) k/\yC s'.kn s'.fr.get/\s'.bk=k::s.bk:=by
  intro s0 e1 e2 e3 Dt hw J h
  subst h
  refine⟨.z 0,⟨o,ho,J,.inr ⟨hw,rfl,?_⟩⟩,Pv Dt,by simp[cI,e3]⟩
  simp only[cI,ZI,e1,e2]
 unfold stepG at h
 split at h
 ·rename_i hg
  exact run s rfl rfl rfl hk (by simp[jE,hg]) h
 ·rename_i j w hg
  split at h
  ·exact h.elim
  ·rename_i t ht
   split at h
   ·rename_i b I
    have hf:=hk t b I
    have hw:jE ops s.fr.get o=some (b==w):=by simp[jE,hg,ht,hf]
    cases T8:(b==w)with
    | true=>grind
    | false =>
     rw[T8,cond_false]at h
     cases J:ga n o.dst with
     | false=>rw[J]at h; exact h.elim
     | true=>rw[J,cond_true]at h; exact skip s rfl rfl rfl hk (by rw[hw,T8]) J h
   ·split at h
    ·rename_i x N
     have hw:jE ops s.fr.get o=some (x==w):=by simp[jE,hg,ht,N]
     cases J:ga n o.dst with
     | false=>rw[J]at h; exact h.elim
     | true =>
      rw[J,cond_true]at h
      rcases h with⟨rfl,h⟩ | ⟨rfl,h⟩
      ·have Kz:yC (s.lg t true).kn (s.lg t true).fr.get:=XT hk N
       cases w with
       | true=>exact run (s.lg t true) rfl rfl rfl Kz hw h
       | false=>exact skip (s.lg t true) rfl rfl rfl Kz hw J h
      ·have Kz:yC (s.lg t false).kn (s.lg t false).fr.get:=XT hk N
       cases w with
       | true=>exact skip (s.lg t false) rfl rfl rfl Kz hw J h
       | false=>exact run (s.lg t false) rfl rfl rfl Kz hw h
    ·rename_i N
     have hw:jE ops s.fr.get o=some false:=by simp[jE,hg,ht,N]
     cases J:ga n o.dst with
     | false=>rw[J]at h; exact h.elim
     | true=>rw[J,cond_true]at h; exact skip s rfl rfl rfl hk hw J h
    ·exact h.elim
theorem JZ:∀ (l:List Oper) (k0:Nat) (s s':om),(∀ j,l[j]? = ops[k0+j]? \/ l.length<=j)->yC s.kn s.fr.get->(tz c n ops l s).leads s' ->
  ∃ ks,Mp c n ops (List.range' k0 l.length) (s.fr.get,s.st) (s'.fr.get,s'.st) ks/\s'.bk=ks.reverse++s.bk
 | [],k0,s,s',_,hk,h=>by cases h; exact⟨[],⟨rfl,rfl⟩,rfl⟩
 | o::l,k0,s,s',R,hk,h=>by
  simp only[tz,T.xg]at h
  obtain⟨s1,h1,M⟩:=h
  have ho:ops[k0]? = some o:=by rcases R 0 with h | h<;>simp at h; exact h.symm
  obtain⟨k,g1,g2,g3⟩:=LS ho hk h1
  obtain⟨ks,g4,g6⟩:=JZ l (k0+1) s1 s' (λj=>by have:=R (j+1); simpa[Nat.add_assoc,Nat.add_comm 1 j]using this) g2 M
  refine⟨k::ks,?_,xz⟩
  exact⟨_,k,ks,rfl,g1,g4⟩
theorem YQ{m b:Nat}{l:List Nat}:b∈others m l↔b<m/\∀ x∈l,b≠x:=by
 simp only[others]
 simp
theorem CZ{d:Option D}{b:Nat}(h:zd0 d=some b):(∃ off,d=some (.ptr b off))\/∃ v e i off,d=some (.gJ b v e i off):=by
 cases d with
 | none=>cases h
 | some d=>cases d<;>first | (cases h; exact .inl ⟨_,rfl⟩) | (cases h; exact .inr ⟨_,_,_,_,rfl⟩) | cases h
theorem rq{bi:Builtin}{l:List (Option D)}{st:St}:HU bi l st=.z 2\/(∃ b v e off len x,bi=.append/\l=[some (.ms b v e off len),some x]/\U7 x=false/\HU bi l st=.up b)\/∃ x,bi=.append/\l=[some .wF,some x]/\U7 x=false/\HU bi l st=.wr (others st.length []):=by
 unfold HU
 grind
theorem Yy(ρ:Operand->Option D)(st:St)(o:Oper):(vu c ρ st o).base=(wP c ρ o).kind:=by
 unfold vu
 split
 ·rename_i h
  rw[h]
  cases o.op with
  | load t a=>simp only; split<;>rfl
  | _=>rfl
 ·rename_i h
  rw[h]
  cases o.op with
  | call cl =>
   cases hc:cl.callee with
   | builtin bi =>
    simp only[hc]
    rcases rq (bi:=bi) (l:=cl.args.toList.map ρ)with e | ⟨b,v,e,off,len,x,_,_,_,e⟩ | ⟨x,_,_,_,e⟩<;>rw[e]<;>rfl
   | value f=>simp only[hc]; split<;>first | rfl | (split<;>rfl)
   | _=>simp only[hc]; rfl
  | store t a v=>simp only; split<;>rfl
  | _=>rfl
 ·rfl
theorem JL{ρ:Operand->Option D}{o:Oper}(h:(wP c ρ o).kind<=1)(st ql:St):vu c ρ st o=vu c ρ ql o:=by
 unfold vu
 grind
theorem nc{ρ:Operand->Option D}{st:St}{o:Oper}{b:Nat}(h:vu c ρ st o=.rd b){dE yZ Hg:St}{d:Option D}(R:(qu (wP c ρ o) dE).leads (d,Hg))(I:yZ[b]? = dE[b]?):(qu (wP c ρ o) yZ).leads (d,yZ):=by
 obtain⟨dst,op,ty,pos,after,guard⟩:=o
 cases op with
 | load t a =>
  have h':(∃ off,ρ a=some (.ptr b off))\/∃ v e i off,ρ a=some (.gJ b v e i off):=by
   unfold vu at h
   simp only at h
   split at h
   ·split at h
    ·rename_i b' ha; cases h; exact CZ ha
    ·cases h
   ·cases h
   ·cases h
  have he:wP c ρ ⟨dst,.load t a,ty,pos,after,guard⟩=V3 c t (ρ a):=rfl
  rcases h' with⟨off,ha⟩ | ⟨v,e,i,off,ha⟩
  all_goals
   rw[he,ha]at R ⊢
   simp only[V3]at R ⊢
   rw[rF]at R ⊢
   grind
 | call cl =>
  obtain⟨callee,args,sr⟩:=cl
  unfold vu at h
  split at h
  ·cases h
  ·cases callee with
   | builtin bi =>
    simp only at h
    rcases rq (bi:=bi) (l:=args.toList.map ρ)with e | ⟨b,v,e,off,len,x,_,_,_,e⟩ | ⟨x,_,_,_,e⟩<;>rw[e]at h<;>cases h
   | value f=>grind
   | _=>cases h
  ·cases h
 | _ =>
  unfold vu at h
  grind
theorem ER{ρ:Operand->Option D}{st:St}{o:Oper}{A:List Nat}(h:vu c ρ st o=.wr A){ql:St}{d:Option D}(R:(qu (wP c ρ o) st).leads (d,ql)):∀ b∈A,ql[b]? = st[b]? := by
 obtain⟨dst,op,ty,pos,after,guard⟩:=o
 cases op with
 | alloc t =>
  exfalso
  unfold vu at h
  grind
 | store t a v =>
  exfalso
  unfold vu at h
  grind
 | call cl =>
  obtain⟨callee,args,sr⟩:=cl
  cases callee with
  | value f =>
   have h':(wP c ρ ⟨dst,.call ⟨.value f,args,sr⟩,ty,pos,after,guard⟩).kind=2/\∃ g caps l,ρ f=some (.wi g caps)/\gC (args.toList.map ρ)=some l/\A=c.free (ed g) (bK g l caps) st:=by
    unfold vu at h
    grind
   obtain⟨hk,g,caps,l,hg,L4,rfl⟩:=h'
   intro b I
   have he:wP c ρ ⟨dst,.call ⟨.value f,args,sr⟩,ty,pos,after,guard⟩=eR c (ρ f) (args.toList.map ρ):=rfl
   rw[he,hg]at R hk
   simp only[eR,L4]at R hk
   split at R
   ·rename_i s hs
    rw[hs]at hk
    simp only[ep]at hk
    cases hn:(!(bK g l caps).any Jm)<;>rw[hn]at hk<;>simp[dT.kind]at hk
   ·simp only[sx,qu,T.xg]at R
    obtain⟨⟨rs,dE⟩,h1,M⟩:=R
    cases rs with
    | ret ds=>cases M; exact c.z0a _ _ _ _ _ b h1 I
    | b9 p=>exact M.elim
  | builtin bi =>
   have h':bi=.append/\∃ x,args.toList.map ρ=[some .wF,some x]/\U7 x=false/\A=others st.length []:=by
    unfold vu at h
    simp only at h
    split at h
    ·cases h
    ·rcases rq (bi:=bi) (l:=args.toList.map ρ) (st:=st)with e | ⟨b,v,e,off,len,x,_,_,_,e⟩ | ⟨x,h1,M,h3,e⟩<;>rw[e]at h<;>cases h
     exact⟨h1,x,M,h3,rfl⟩
    ·cases h
   obtain⟨rfl,x,N,hm,rfl⟩:=h'
   have he:wP c ρ ⟨dst,.call ⟨.builtin .append,args,sr⟩,ty,pos,after,guard⟩=lI c .append sr.toList (args.toList.map ρ):=rfl
   rw[he,N]at R
   intro b I
   have I:=(YQ.1 I).1
   have one:∀ {e':Ty} {ys:List (den e')} {ne:Bool} {XH:Nat},(bp e' .wF ys ne XH st).leads (d,ql)->ql[b]? = st[b]? := by
    intro e' ys ne XH R
    simp only[bp,pc]at R
    cases ne with
    | true=>obtain⟨_,R⟩:=R; cases R; exact zI I
    | false =>
     rcases R with⟨_,R⟩ | ⟨_,R⟩
     ·cases R; rfl
     ·obtain⟨_,R⟩:=R; cases R; exact zI I
   have snp:∀ yZ,Zc yZ x=.ret x:=λyZ=>by cases x<;>first | rfl | cases hm
   generalize sr.toList=tl at R
   rcases tl with _ | ⟨t,_ | ⟨t',_ | ⟨t'',tl⟩⟩⟩
   ·exact absurd R zh
   ·exact absurd R zh
   rotate_left
   ·exact absurd R zh
   ·
    simp only[lI]at R
    cases ht:zU t t' with
    | true =>
     rw[ht,cond_true]at R
     unfold QE at R
     cases het:mU c t with
     | none=>rw[het]at R; exact absurd R zh
     | some et =>
      rw[het]at R
      simp only at R
      cases h1:Gw c 20 et with
      | none=>rw[h1]at R; exact absurd R zh
      | some ee =>
       rw[h1]at R
       try simp only at R
       cases M:pF c et with
       | none=>rw[M]at R; exact absurd R zh
       | some bytes =>
        rw[M]at R
        simp only at R
        cases hc:ca c et ee&&qL 0 ee.size&&qL 0 bytes&&(zeroOf c et ee).isSome with
        | false=>rw[hc]at R; exact absurd R zh
        | true =>
         rw[hc,cond_true]at R
         simp only[cond_true,qu,snp,T.bind]at R
         cases x<;>simp only at R<;>first | exact R.elim | exact one R | skip
         ·split at R
          ·exact one R
          ·exact R.elim
         ·split at R
          ·exact one R
          ·exact R.elim
    | false =>
     rw[ht,cond_false]at R
     unfold tI at R
     cases het:mU c t with
     | none=>rw[het]at R; exact absurd R zh
     | some et =>
      rw[het]at R
      simp only at R
      split at R
      ·rename_i bytes h1 M h3
       cases hc:ca c et (.int .u8)&&qL 0 bytes&&(zeroOf c et (.int .u8)).isSome with
       | false=>rw[hc]at R; exact absurd R zh
       | true =>
        rw[hc,cond_true]at R
        split at R
        ·rename_i s l e1 e2
         cases e1
         cases e2
         simp only[qu]at R
         exact one R
        ·exact absurd R zh
      ·exact absurd R zh
  | invoke r m =>
   exfalso
   unfold vu at h
   simp only at h
   split at h<;>cases h
 | _ =>
  exfalso
  unfold vu at h
  simp only at h
  split at h
  ·first
    | cases h
    | (split at h<;>cases h)
  ·cases h
  ·cases h
theorem Yx{ρ:Operand->Option D}{st:St}{o:Oper}{A:List Nat}(h:vu c ρ st o=.al A){ql:St}{d:Option D}(R:(qu (wP c ρ o) st).leads (d,ql)) :
  (∀ b∈A,ql[b]? = st[b]?)/\A=others st.length []/\∃ z,ql=st++[.var z]/\d=some (.ptr st.length 0)/\∀ yZ:St,(qu (wP c ρ o) yZ).leads (some (.ptr yZ.length 0),yZ++[.var z])/\vu c ρ yZ o=.al (others yZ.length []):=by
 obtain⟨dst,op,ty,pos,after,guard⟩:=o
 cases op with
 | alloc t =>
  have M:(wP c ρ ⟨dst,.alloc t,ty,pos,after,guard⟩).kind=2/\A=others st.length []:=by
   unfold vu at h
   grind
  obtain⟨hk,rfl⟩:=M
  have R:(qu (ot c t) st).leads (d,ql):=R
  unfold ot at R
  split at R
  ·rename_i z hz
   have R:(some (D.ptr st.length 0),st++[cL.var z])=(d,ql):=R
   cases R
   refine⟨λb I => ?_,rfl,z,rfl,rfl,λyZ=>⟨?_,?_⟩⟩
   ·obtain⟨I,_⟩:=YQ.1 I
    exact zI I
   ·show(qu (ot c t) yZ).leads _
    unfold ot
    rw[hz]
    rfl
   ·unfold vu
    simp only[hk]
  ·exact absurd R zh
 | call cl =>
  exfalso
  obtain⟨callee,args,sr⟩:=cl
  unfold vu at h
  cases callee with
  | builtin bi =>
   simp only at h
   split at h
   ·cases h
   ·rcases rq (bi:=bi) (l:=args.toList.map ρ)with e | ⟨b,v,e,off,len,x,_,_,_,e⟩ | ⟨x,_,_,_,e⟩<;>rw[e]at h<;>cases h
   ·cases h
  | value f=>grind
  | invoke r m=>grind
 | _ =>
  exfalso
  unfold vu at h
  grind
theorem YA{ρ:Operand->Option D}{st:St}{o:Oper}{oE:List Nat}(h:vu c ρ st o=.wc oE){ql:St}{d:Option D}(R:(qu (wP c ρ o) st).leads (d,ql)) :
  ql.length=st.length/\(∀ b,b<st.length->b ∉ oE->ql[b]? = st[b]?)/\(∀ x,(qu (wP c ρ o) (st++[x])).leads (d,ql++[x]))/\∀ yZ,vu c ρ yZ o=.wc oE:=by
 obtain⟨dst,op,ty,pos,after,guard⟩:=o
 cases op with
 | call cl =>
  obtain⟨callee,args,sr⟩:=cl
  cases callee with
  | value f =>
   have h':(wP c ρ ⟨dst,.call ⟨.value f,args,sr⟩,ty,pos,after,guard⟩).kind=2/\∃ g caps l,ρ f=some (.wi g caps)/\gC (args.toList.map ρ)=some l/\c.Qs (ed g) (bK g l caps)=some oE:=by
    unfold vu at h
    grind
   obtain⟨hk,g,caps,l,hg,L4,hU⟩:=h'
   have mZ:=hk
   have he:wP c ρ ⟨dst,.call ⟨.value f,args,sr⟩,ty,pos,after,guard⟩=eR c (ρ f) (args.toList.map ρ):=rfl
   rw[he,hg]at R hk
   simp only[eR,L4]at R hk
   split at R
   ·rename_i s hs
    rw[hs]at hk
    simp only[ep]at hk
    cases hn:(!(bK g l caps).any Jm)<;>rw[hn]at hk<;>simp[dT.kind]at hk
   ·rename_i hs
    simp only[sx,qu,T.xg]at R
    obtain⟨⟨rs,dE⟩,h1,M⟩:=R
    cases rs with
    | b9 p=>exact M.elim
    | ret ds =>
     cases M
     obtain⟨q1,q2,q3⟩:=c.PA _ _ _ _ _ _ hU h1
     refine⟨q1,q2,λx => ?_,λyZ => ?_⟩
     ·rw[he,hg]
      simp only[eR,L4,hs]
      simp only[sx,qu,T.xg]
      exact⟨_,q3 x,rfl⟩
     ·unfold vu
      rw[mZ]
      simp only[hg,L4,hU]
  | builtin bi =>
   exfalso
   unfold vu at h
   simp only at h
   split at h
   ·cases h
   ·rcases rq (bi:=bi) (l:=args.toList.map ρ)with e | ⟨b,v,e,off,len,x,_,_,_,e⟩ | ⟨x,_,_,_,e⟩<;>rw[e]at h<;>cases h
   ·cases h
  | invoke r m =>
   exfalso
   unfold vu at h
   grind
 | _ =>
  exfalso
  unfold vu at h
  grind
theorem Yz{ρ:Operand->Option D}{st:St}{o:Oper}{b:Nat}(h:vu c ρ st o=.rd b){dE Hg:St}{d:Option D}(R:(qu (wP c ρ o) dE).leads (d,Hg)):b<dE.length:=by
 rcases qH b dE.length with g | g
 ·exact g
 ·exfalso
  have hn:dE[b]? = none:=qJ g
  obtain⟨dst,op,ty,pos,after,guard⟩:=o
  cases op with
  | load t a =>
   have h':(∃ off,ρ a=some (.ptr b off))\/∃ v e i off,ρ a=some (.gJ b v e i off):=by
    unfold vu at h
    simp only at h
    split at h
    ·split at h
     ·rename_i b' ha; cases h; exact CZ ha
     ·cases h
    ·cases h
    ·cases h
   have he:wP c ρ ⟨dst,.load t a,ty,pos,after,guard⟩=V3 c t (ρ a):=rfl
   rcases h' with⟨off,ha⟩ | ⟨v,e,i,off,ha⟩
   all_goals
    rw[he,ha]at R
    simp only[V3]at R
    rw[rF]at R
    simp only[hn]at R
    exact R.1.elim
  | call cl =>
   obtain⟨callee,args,sr⟩:=cl
   unfold vu at h
   split at h
   ·cases h
   ·cases callee with
    | builtin bi =>
     simp only at h
     rcases rq (bi:=bi) (l:=args.toList.map ρ)with e | ⟨b,v,e,off,len,x,_,_,_,e⟩ | ⟨x,_,_,_,e⟩<;>rw[e]at h<;>cases h
    | value f=>grind
    | _=>cases h
   ·cases h
  | _ =>
   unfold vu at h
   grind
theorem U8{ρ:Operand->Option D}{st:St}{o:Oper}{b:Nat}(h:vu c ρ st o=.up b){dE Hg:St}{d:Option D}(R:(qu (wP c ρ o) dE).leads (d,Hg)) :
  ∃ y,Hg=dE.set b y/\∀ yZ:St,yZ[b]? = dE[b]? -> (qu (wP c ρ o) yZ).leads (d,yZ.set b y):=by
 obtain⟨dst,op,ty,pos,after,guard⟩:=o
 cases op with
 | store t a v =>
  have h':(∃ off,ρ a=some (.ptr b off))\/∃ v e i off,ρ a=some (.gJ b v e i off):=by
   unfold vu at h
   simp only at h
   split at h
   ·cases h
   ·split at h
    ·rename_i b ha; cases h; exact CZ ha
    ·cases h
   ·cases h
  have he:wP c ρ ⟨dst,.store t a v,ty,pos,after,guard⟩=KO c t (ρ a) (ρ v):=rfl
  rw[he]at R ⊢
  cases hv:ρ v with
  | none =>
   rw[hv]at R
   rcases h' with⟨off,ha⟩ | ⟨w,e,i,off,ha⟩<;>(rw[ha]at R; exact absurd R zh)
  | some x =>
   rw[hv]at R
   rcases h' with⟨off,ha⟩ | ⟨w,e,i,off,ha⟩
   ·rw[ha]at R ⊢
    have R:(match dE[b]? with
     | some (.var d)=>match Hd c t d off x with | some r=>bif ZX d r then T.ret ((none:Option D),dE.set b (.var r))else .fail | none=>.fail
     | _=>.fail:T (Option D×St)).leads (d,Hg):=R
    split at R
    ·rename_i d0 I
     split at R
     ·rename_i r hr
      cases ho:ZX d0 r with
      | false=>rw[ho]at R; exact R.elim
      | true =>
       rw[ho]at R
       cases R
       refine⟨.var r,rfl,λyZ M => ?_⟩
       show(match yZ[b]? with
        | some (.var d)=>match Hd c t d off x with | some r=>bif ZX d r then T.ret ((none:Option D),yZ.set b (.var r))else .fail | none=>.fail
        | _=>.fail:T (Option D×St)).leads _
       rw[M,I]
       simp only[hr,ho,cond_true]
       rfl
     ·exact R.elim
    ·exact R.elim
   ·rw[ha]at R ⊢
    have R:(match dE[b]? with
     | some (.arr dF e' xs)=>bif decide (e'=e)then
       .W (w=dF/\i<xs.length) (match Hd c t (.qi e' (xs.getD i (zb e'))) off x with
        | some r=>match ov e' r with | some y=>T.ret ((none:Option D),dE.set b (.arr dF e' (xs.set i y))) | none=>.fail
        | none=>.fail)
      else .fail
     | _=>.fail:T (Option D×St)).leads (d,Hg):=R
    split at R
    ·rename_i dF e' xs I
     cases J:decide (e'=e)with
     | false=>rw[J]at R; exact R.elim
     | true =>
      rw[J,cond_true]at R
      obtain⟨ho,R⟩:=R
      split at R
      ·rename_i r hr
       split at R
       ·rename_i y hy
        cases R
        refine⟨.arr dF e' (xs.set i y),rfl,λyZ M => ?_⟩
        show(match yZ[b]? with
         | some (.arr dF e' xs)=>bif decide (e'=e)then
           .W (w=dF/\i<xs.length) (match Hd c t (.qi e' (xs.getD i (zb e'))) off x with
            | some r=>match ov e' r with | some y=>T.ret ((none:Option D),yZ.set b (.arr dF e' (xs.set i y))) | none=>.fail
            | none=>.fail)
          else .fail
         | _=>.fail:T (Option D×St)).leads _
        rw[M,I]
        simp only[J,cond_true,hr,hy]
        exact⟨ho,rfl⟩
       ·exact R.elim
      ·exact R.elim
    ·exact R.elim
 | call cl =>
  obtain⟨callee,args,sr⟩:=cl
  cases callee with
  | builtin bi =>
   have h':bi=.append/\∃ v e off len x,args.toList.map ρ=[some (.ms b v e off len),some x]/\U7 x=false:=by
    unfold vu at h
    simp only at h
    split at h
    ·cases h
    ·rcases rq (bi:=bi) (l:=args.toList.map ρ) (st:=st)with e | ⟨b',v,e,off,len,x,h1,M,h3,e'⟩ | ⟨x,h1,M,h3,e'⟩
     ·grind
     ·rw[e']at h; cases h; exact⟨h1,v,e,off,len,x,M,h3⟩
     ·rw[e']at h; cases h
    ·cases h
   obtain⟨rfl,v,e,off,len,x,N,hm⟩:=h'
   have he:wP c ρ ⟨dst,.call ⟨.builtin .append,args,sr⟩,ty,pos,after,guard⟩=lI c .append sr.toList (args.toList.map ρ):=rfl
   rw[he,N]at R ⊢
   -- what the row gets
   have one:∀ {e':Ty} {ys:List (den e')} {ne:Bool} {XH:Nat},(bp e' (.ms b v e off len) ys ne XH dE).leads (d,Hg)->∃ y,Hg=dE.set b y/\∀ yZ:St,yZ[b]? = dE[b]? -> (bp e' (.ms b v e off len) ys ne XH yZ).leads (d,yZ.set b y):=by
    intro e' ys ne XH R
    simp only[bp]at R
    split at R
    ·rename_i dF e'' xs I
     split at R
     ·rename_i zs hz
      cases J:decide (e=e')with
      | false=>rw[J]at R; exact R.elim
      | true =>
       rw[J,cond_true]at R
       obtain⟨ho,R⟩:=R
       cases R
       refine⟨_,rfl,λyZ M => ?_⟩
       simp only[bp]
       rw[M,I]
       simp only[hz,J,cond_true]
       exact⟨ho,rfl⟩
     ·exact R.elim
    ·exact R.elim
   have snp:∀ yZ,Zc yZ x=.ret x:=λyZ=>by cases x<;>first | rfl | cases hm
   generalize sr.toList=tl at R ⊢
   rcases tl with _ | ⟨t,_ | ⟨t',_ | ⟨t'',tl⟩⟩⟩
   ·exact absurd R zh
   ·exact absurd R zh
   rotate_left
   ·exact absurd R zh
   ·
    simp only[lI]at R ⊢
    cases ht:zU t t' with
    | true =>
     rw[ht,cond_true]at R
     simp only[cond_true]
     unfold QE at R ⊢
     cases het:mU c t with
     | none=>rw[het]at R; exact absurd R zh
     | some et =>
      rw[het]at R
      simp only at R ⊢
      cases h1:Gw c 20 et with
      | none=>rw[h1]at R; exact absurd R zh
      | some ee =>
       rw[h1]at R
       try simp only at R ⊢
       cases M:pF c et with
       | none=>rw[M]at R; exact absurd R zh
       | some bytes =>
        rw[M]at R
        simp only at R ⊢
        cases hc:ca c et ee&&qL 0 ee.size&&qL 0 bytes&&(zeroOf c et ee).isSome with
        | false=>rw[hc]at R; exact absurd R zh
        | true =>
         rw[hc,cond_true]at R
         simp only[cond_true,qu,snp,T.bind]at R ⊢
         cases x<;>simp only at R ⊢ <;> first | exact R.elim | exact one R | skip
         ·split at R
          ·exact one R
          ·exact R.elim
         ·split at R
          ·exact one R
          ·exact R.elim
    | false =>
     rw[ht,cond_false]at R
     simp only[cond_false]
     unfold tI at R ⊢
     cases het:mU c t with
     | none=>rw[het]at R; exact absurd R zh
     | some et =>
      rw[het]at R
      simp only at R ⊢
      split at R
      ·rename_i bytes h1 M h3
       cases hc:ca c et (.int .u8)&&qL 0 bytes&&(zeroOf c et (.int .u8)).isSome with
       | false=>rw[hc]at R; exact absurd R zh
       | true =>
        rw[hc,cond_true]at R
        simp only[cond_true]
        split at R
        ·rename_i s l e1 e2
         cases e1
         cases e2
         simp only[qu]at R ⊢
         exact one R
        ·exact absurd R zh
      ·exact absurd R zh
  | _ =>
   exfalso
   unfold vu at h
   simp only at h
   split at h
   ·cases h
   ·first | cases h | (split at h<;>first | cases h | (split at h<;>cases h))
   ·cases h
 | _ =>
  exfalso
  unfold vu at h
  simp only at h
  split at h
  ·first
    | cases h
    | (split at h<;>cases h)
  ·cases h
  ·cases h
theorem Bo:∀ (l:List Nat) (s s':F×St) (ks:List RK),Mp c n ops l s s' ks->ks.length=l.length
 | [],_,_,_,h=>by rw[h.2]; rfl
 | i::l,s,s',ks,⟨s1,k,La,e,h1,M⟩=>by subst e; simp[Bo l s1 s' La M]
theorem X7{ρ:Operand->Option D}{st:St}{o:Oper}{b:Nat}(h:vu c ρ st o=.up b)(ql:St):vu c ρ ql o=.up b:=by
 obtain⟨dst,op,ty,pos,after,guard⟩:=o
 cases op with
 | alloc t =>
  unfold vu at h
  grind
 | call cl =>
  obtain⟨callee,args,sr⟩:=cl
  cases callee with
  | value f =>
   unfold vu at h
   grind
  | builtin bi =>
   unfold vu at h ⊢
   simp only at h ⊢
   unfold HU at h ⊢
   grind
  | _=>exact h
 | _=>exact h
def zaE(ops:Array Oper)(kd:Nat->RK)(p i:Nat):Prop:=∀ x y,ops[p]? = some x->ops[i]? = some y ->
 (∀ d,x.dst=some d->d ∉ tmpsOf ops y)/\(∀ d,y.dst=some d->d ∉ tmpsOf ops x)/\yE (kd p) (kd i)=false
theorem XS{f:F}{o:Oper}{dst:Option Nat}{d:Option D}{st:St}(h:∀ t,dst=some t->t ∉ tmpsOf ops o):vu c (wA (dS f dst d)) st o=vu c (wA f) st o:=by
 have e1:wP c (wA (dS f dst d)) o=wP c (wA f) o:=dn h
 have e2:∀ x∈o.op.operands,wA (dS f dst d) x=wA f x:=λx N=>HI λt ht e=>h t ht (Xf (ops:=ops) (e▸N))
 obtain⟨dd,op,ty,pos,after,guard⟩:=o
 unfold vu
 rw[e1]
 cases op with
 | load t a=>simp only[e2 a (by simp[B])]
 | store t a v=>simp only[e2 a (by simp[B])]
 | call cl =>
  obtain⟨callee,args,sr⟩:=cl
  cases callee with
  | value g =>
   have fp:args.toList.map (wA (dS f dst d))=args.toList.map (wA f):=zM λx N=>e2 x (by simp[B,qK,zG.1 N])
   simp only[fp,e2 g (by simp[B,qK])]
  | builtin bi =>
   have fp:args.toList.map (wA (dS f dst d))=args.toList.map (wA f):=zM λx N=>e2 x (by simp[B,qK,zG.1 N])
   grind
  | _=>rfl
 | _=>rfl
theorem LU{kd:Nat->RK}{p i:Nat}(hi:zaE ops kd p i){s s1 s2:F×St}(h1:nD c n ops p s s1 (kd p))(M:nD c n ops i s1 s2 (kd i)) :
  ∃ s',nD c n ops i s s' (kd i)/\nD c n ops p s' s2 (kd p):=by
 obtain⟨x,N,hdx,GM⟩:=h1
 obtain⟨y,hy,hdy,hy'⟩:=M
 obtain⟨a1,a2,a3⟩:=hi x y N hy
 have hdd:∀ t,x.dst=some t->y.dst≠some t:=λt ht e=>a1 t ht (dP e)
 obtain⟨f,st⟩:=s
 rcases GM with⟨hw,hk,d,dE,R,rfl⟩ | ⟨hw,hk,rfl⟩
 ·rcases hy' with⟨Kg,mZ,e,yZ,ZL,rfl⟩ | ⟨Kg,mZ,rfl⟩
  ·simp only[jz a1,dn (c:=c) a1,XS (c:=c) a1]at Kg mZ ZL
   simp only at hw hk R
   -- the two meet nowhere in the store
   have key:∃ ql,(qu (wP c (wA f) y) st).leads (e,ql)/\(qu (wP c (wA f) x) ql).leads (d,yZ)/\vu c (wA f) st y=kd i/\vu c (wA f) ql x=kd p:=by
    have bx:=Yy (c:=c) (wA f) st x
    have XH:=Yy (c:=c) (wA f) dE y
    rw[<- hk]at bx
    rw[<- mZ]at XH
    rcases qH (wP c (wA f) x).kind 2 with MV | MV
    ·-- x writes nothing
     have e1:=nf (O) R
     subst e1
     refine⟨yZ,ZL,?_,mZ.symm,(JL (O) yZ dE).trans hk.symm⟩
     rcases qH (wP c (wA f) y).kind 2 with hy2 | hy2
     ·have e2:=nf (O) ZL
      grind
     ·have hy3:(wP c (wA f) y).kind=2:=qC (U9 _) hy2
      cases hp:kd p with
      | rd b =>
       cases hq:kd i with
       | wr A =>
        rw[hp,hq]at a3
        simp only[yE,qD,zO]at a3
        obtain⟨b',Ke,IT⟩:=a3
        have:=E IT
        subst this
        exact nc (by rw[<- hk]; exact hp) R (ER (by rw[<- mZ]; exact hq) ZL b Ke)
       | al A =>
        rw[hp,hq]at a3
        simp only[yE,qD,zO]at a3
        obtain⟨b',Ke,IT⟩:=a3
        have:=E IT
        subst this
        exact nc (by rw[<- hk]; exact hp) R ((Yx (by rw[<- mZ]; exact hq) ZL).1 b Ke)
       | wc oE =>
        rw[hp,hq]at a3
        have hbu:b ∉ oE:=λhm=>by
         simp only[yE,qQ]at a3
         exact a3 b hm (Nat.beq_refl b)
        exact nc (by rw[<- hk]; exact hp) R ((YA (by rw[<- mZ]; exact hq) ZL).2.1 b (Yz (by rw[<- hk]; exact hp) R) hbu)
       | rd b'=>rw[hq]at XH; simp[RK.base]at XH; omega
       | z k=>rw[hp,hq]at a3; rw[hq,hy3]at XH; simp only[RK.base]at XH; subst XH; simp[yE,bO,RK.base]at a3
       | up a =>
        rw[hp,hq]at a3
        have hab:a≠b:=λe=>by subst e; simp[yE]at a3
        obtain⟨z,e1,_⟩:=U8 (by rw[<- mZ]; exact hq) ZL
        subst e1
        exact nc (by rw[<- hk]; exact hp) R (by rw[zE hab])
      | wr A=>rw[hp]at bx; simp[RK.base]at bx; omega
      | al A=>rw[hp]at bx; simp[RK.base]at bx; omega
      | wc A=>rw[hp]at bx; simp[RK.base]at bx; omega
      | up A=>rw[hp]at bx; simp[RK.base]at bx; omega
      | z k =>
       rw[hp]at bx
       simp only[RK.base]at bx
       have Dt:k=0:=by
        cases hq:kd i with
        | wr A =>
         rw[hp,hq]at a3
         simp only[yE,RK.base,bO]at a3
         cases k with
         | zero=>rfl
         | succ m=>simp at a3
        | al A =>
         rw[hp,hq]at a3
         simp only[yE,RK.base,bO]at a3
         cases k with
         | zero=>rfl
         | succ m=>simp at a3
        | wc A =>
         rw[hp,hq]at a3
         simp only[yE,RK.base,bO]at a3
         cases k with
         | zero=>rfl
         | succ m=>simp at a3
        | rd b'=>rw[hq]at XH; simp[RK.base]at XH; omega
        | z k' =>
         rw[hq,hy3]at XH
         simp only[RK.base]at XH
         subst XH
         rw[hp,hq]at a3
         simp only[yE,RK.base,bO]at a3
         cases k with
         | zero=>rfl
         | succ m=>simp at a3
        | up A =>
         rw[hp,hq]at a3
         simp only[yE,RK.base,bO]at a3
         cases k with
         | zero=>rfl
         | succ m=>simp at a3
       subst Dt
       exact(sM bx.symm R).2 yZ
    ·have hx3:(wP c (wA f) x).kind=2:=qC (U9 _) MV
     -- x writes
     rcases qH (wP c (wA f) y).kind 2 with hy2 | hy2
     ·have e2:=nf (O) ZL
      subst e2
      refine⟨st,?_,R,(JL (O) st yZ).trans mZ.symm,hk.symm⟩
      cases hq:kd i with
      | wr A=>rw[hq]at XH; simp[RK.base]at XH; omega
      | al A=>rw[hq]at XH; simp[RK.base]at XH; omega
      | wc A=>rw[hq]at XH; simp[RK.base]at XH; omega
      | up A=>rw[hq]at XH; simp[RK.base]at XH; omega
      | rd b =>
       cases hp:kd p with
       | wr A =>
        rw[hp,hq]at a3
        simp only[yE,qD,zO]at a3
        obtain⟨b',Ke,IT⟩:=a3
        have:=E IT
        subst this
        exact nc (st:=yZ) (by rw[<- mZ]; exact hq) ZL (ER (by rw[<- hk]; exact hp) R b Ke).symm
       | al A =>
        rw[hp,hq]at a3
        simp only[yE,qD,zO]at a3
        obtain⟨b',Ke,IT⟩:=a3
        have:=E IT
        subst this
        exact nc (st:=yZ) (by rw[<- mZ]; exact hq) ZL ((Yx (by rw[<- hk]; exact hp) R).1 b Ke).symm
       | wc oE =>
        rw[hp,hq]at a3
        have hbu:b ∉ oE:=λhm=>by
         simp only[yE,qQ]at a3
         exact a3 b hm (Nat.beq_refl b)
        obtain⟨q1,q2,_⟩:=YA (by rw[<- hk]; exact hp) R
        have wM:=Yz (by rw[<- mZ]; exact hq) ZL
        exact nc (st:=yZ) (by rw[<- mZ]; exact hq) ZL (q2 b (O) hbu).symm
       | up a =>
        rw[hp,hq]at a3
        have hab:a≠b:=λe=>by subst e; simp[yE]at a3
        obtain⟨z,e1,_⟩:=U8 (by rw[<- hk]; exact hp) R
        subst e1
        exact nc (st:=st.set a z) (by rw[<- mZ]; exact hq) ZL (by rw[zE hab])
       | rd b'=>rw[hp]at bx; simp[RK.base]at bx; omega
       | z k=>rw[hp]at bx; simp only[RK.base]at bx; rw[hx3]at bx; subst bx; rw[hp,hq]at a3; simp[yE,RK.base,bO]at a3
      | z k =>
       rw[hq]at XH
       simp only[RK.base]at XH
       have Dt:k=0:=by
        have a4:yE (kd p) (.z k)=false:=by rw[hq]at a3; exact a3
        have a5:bO 2 k=false:=by
         cases hp:kd p with
         | wr A=>rw[hp]at a4; exact a4
         | al A=>rw[hp]at a4; exact a4
         | wc A=>rw[hp]at a4; exact a4
         | up A=>rw[hp]at a4; exact a4
         | rd b'=>rw[hp]at bx; simp[RK.base]at bx; omega
         | z k'=>rw[hp]at bx a4; simp only[RK.base]at bx; rw[hx3]at bx; subst bx; exact a4
        cases k with
        | zero=>rfl
        | succ m=>simp[bO]at a5
       subst Dt
       exact(sM XH.symm ZL).2 st
     ·have hy3:(wP c (wA f) y).kind=2:=qC (U9 _) hy2
      -- both write: one block each
      have hup:(∃ a b,kd p=.up a/\kd i=.up b/\a≠b)\/∃ oE A,kd p=.wc oE/\kd i=.al A:=by
       rw[hx3]at bx
       rw[hy3]at XH
       cases hp:kd p<;>cases hq:kd i<;>rw[hp,hq]at a3<;>rw[hp]at bx<;>rw[hq]at XH<;>simp only[RK.base]at bx XH <;>
        first
         | exact .inr ⟨_,_,rfl,rfl⟩
         | exact .inl ⟨_,_,rfl,rfl,λe=>by subst e; simp[yE]at a3⟩
         | (exfalso; omega)
         | (exfalso; subst bx; simp[yE,RK.base,bO]at a3; done)
         | (exfalso; subst XH; simp[yE,RK.base,bO]at a3; done)
         | (exfalso; simp[yE,RK.base,bO]at a3; done)
         | (exfalso; subst bx XH; simp[yE,RK.base,bO]at a3; done)
      rcases hup with hup | ⟨oE,A,hp,hq⟩
      rotate_left
      ·obtain⟨q1,q2,q3,q4⟩:=YA (by rw[<- hk]; exact hp) R
       obtain⟨_,r2,z,r3,r4,r5⟩:=Yx (by rw[<- mZ]; exact hq) ZL
       subst r3 r4
       refine⟨st++[.var z],?_,q3 _,?_,(q4 _).trans hp.symm⟩
       ·rw[q1]; exact(r5 st).1
       ·rw[(r5 st).2,hq,r2,q1]
      obtain⟨a,b,hp,hq,hab⟩:=hup
      obtain⟨z1,e1,w1⟩:=U8 (by rw[<- hk]; exact hp) R
      subst e1
      obtain⟨z2,e2,w2⟩:=U8 (by rw[<- mZ]; exact hq) ZL
      subst e2
      refine⟨st.set b z2,w2 st (by rw[zE hab]),?_,(X7 (by rw[<- mZ]; exact hq) st).trans hq.symm,(X7 (by rw[<- hk]; exact hp) _).trans hp.symm⟩
      rw[List.set_comm _ _ hab]
      exact w1 (st.set b z2) (by rw[zE (λe=>hab e.symm)])
   obtain⟨ql,k1,k2,k3,k4⟩:=key
   refine⟨_,⟨y,hy,hdy,.inl ⟨Kg,k3.symm,e,_,k1,rfl⟩⟩,x,N,hdx,.inl ⟨?_,?_,d,yZ,?_,?_⟩⟩
   ·rw[jz a2]; exact hw
   ·rw[XS (c:=c) a2]; exact k4.symm
   ·rw[dn (c:=c) a2]; exact k2
   ·simp only[fA f d e hdd]
  ·simp only[jz a1]at Kg
   refine⟨_,⟨y,hy,hdy,.inr ⟨Kg,mZ,rfl⟩⟩,x,N,hdx,.inl ⟨?_,?_,d,dE,?_,?_⟩⟩
   ·rw[jz a2]; exact hw
   ·rw[XS (c:=c) a2]; exact hk
   ·rw[dn (c:=c) a2]; exact R
   ·simp only[fA f d (some T0) hdd]
 ·rcases hy' with⟨Kg,mZ,e,yZ,ZL,rfl⟩ | ⟨Kg,mZ,rfl⟩
  ·simp only[jz a1,dn (c:=c) a1,XS (c:=c) a1]at Kg mZ ZL
   refine⟨_,⟨y,hy,hdy,.inl ⟨Kg,mZ,e,yZ,ZL,rfl⟩⟩,x,N,hdx,.inr ⟨?_,hk,?_⟩⟩
   ·rw[jz a2]; exact hw
   ·simp only[fA f (some T0) e hdd]
  ·simp only[jz a1]at Kg
   refine⟨_,⟨y,hy,hdy,.inr ⟨Kg,mZ,rfl⟩⟩,x,N,hdx,.inr ⟨?_,hk,?_⟩⟩
   ·rw[jz a2]; exact hw
   ·simp only[fA f (some T0) (some T0) hdd]
end
end Go.AM
namespace Go.AM
set_option linter.unusedSectionVars false
variable [yY]
class Hp where
 df:List Deferred
instance Yc:Hp:=⟨[]⟩
variable [Hp]
structure Rel(Z:KS)(n:Nat)(f:F)(a:Act):Prop where
 size:a.tmps.size=n
 defers:a.defers=Hp.df
 get:∀ (s:Nat) (d:D),f s=some d->∃ v,a.tmps[s]? = some v/\RD Z d v
section
variable {c:Ctx} {Z:KS} {n:Nat} {f:F} {a:Act}
theorem Rel.eval(h:Rel Z n f a){x:Operand}{d:D}(N:wA f x=some d):RD Z d (a.eval x):=by
 cases x with
 | tmp t =>
  obtain⟨v,h1,M⟩:=h.get t d N
  simp only[Act.eval,zY,h1]
  exact M
 | const v=>exact(G1 N).1
 | global g=>cases N
 | func g =>
  have N:(bif qL g 1000000 then some (D.wi g [])else none)=some d:=N
  cases I:qL g 1000000 with
  | false=>grind
  | true =>
   rw[I]at N
   cases N
   have:=RD.wi (Z:=Z) g [] [] rfl (λi h=>absurd h (qN i))
   rwa [C6 I]at this
theorem Rel.mono{Y:KS}(x:Ext Z Y)(h:Rel Z n f a):Rel Y n f a:=⟨h.size,h.defers,λs d J=>by obtain⟨v,h1,M⟩:=h.get s d J; exact⟨v,h1,M.mono x⟩⟩
theorem Rel.put{dst:Option Nat}{d:Option D}{v:Value}(h:Rel Z n f a)(J:ga n dst=true)(hv:∀ d',d=some d'->RD Z d' v):Rel Z n (dS f dst d) (a.put dst v):=by
 cases dst with
 | none=>exact h
 | some t =>
  have wM:t<n:=X J
  refine⟨by simp[qW,h.size],h.defers,λs d' hs => ?_⟩
  simp only[dS]at hs
  simp only[qW]
  by_cases e:s=t
  ·subst e
   rw[if_pos rfl]at hs
   exact⟨v,by simp[h.size,wM],hv d' hs⟩
  ·rw[if_neg e]at hs
   obtain⟨u,h1,M⟩:=h.get s d' hs
   grind
theorem z2Q{v:Value}:RD Z T0 undef:=.eG [] [] rfl (λi h=>absurd h (qN i))
theorem z8k{o:Oper}{d:Option D}{ql:St}(h:wz c.P (execOp a.eval o) Z d ql){K:Act->World->Prop}{Q:Exit->Act->World->Prop}
  (hK:∀ (v:Value) (Y:KS),Y.st=ql->Inv Y->Ext Z Y->(∀ d',d=some d'->RD Y d' v)->K (a.put o.dst v) Y.w):o.wp c.P a Z.w K Q:=by
 obtain⟨Y,nx,v,h1,M,h3,h4,h5,h6⟩:=h
 unfold Oper.wp
 rw[h1]
 rcases M with rfl | ⟨rfl,rfl⟩
 ·exact hK v Y h3 h4 h5 h6
 ·exact hK undef Y h3 h4 h5 h6
theorem Ls(h:Rel Z n f a)(x:Option Operand):Jv Z (x.map (wA f)) (x.map a.eval):=by
 cases x with
 | none=>trivial
 | some x=>exact λy hy=>h.eval hy
theorem C4(hI:Inv Z)(hR:Rel Z n f a){b:Builtin}{args:Array Operand}{sr:Array TypeId}{o:Oper}(ho:o.op=.call ⟨.builtin b,args,sr⟩){d:Option D}{ql:St}
  (h:(qu (lI c b sr.toList (args.toList.map (wA f))) Z.st).leads (d,ql)):wz c.P (execOp a.eval o) Z d ql:=by
 have two:∀ {g:Value->Value->Sem Value} {m:Int->Int->Int},(∀ k k' a b,(g (.int k a) (.int k' b)).run c.P Z.w=.ok (.int k (m a b)) Z.w)->(qu (YS m (args.toList.map (wA f))) Z.st).leads (d,ql) ->
   (∀ p q,args = #[p,q]->execOp a.eval o=(do xG (.value (<- g (a.eval p) (a.eval q))):Sem Next))->wz c.P (execOp a.eval o) Z d ql:=by
  intro g m hg h he
  match R:args.toList,h with
  | [p,q],h =>
   have hpq:args = #[p,q]:=by rw[<- zR (xs:=args),R]
   rw[he p q hpq]
   obtain⟨r,h1,rfl,h3⟩:=Lg hg hI (λz hz=>hR.eval (x:=p) hz) (λz hz=>hR.eval (x:=q) hz) h
   exact⟨Z,.value r,r,by simp[h1],.inl rfl,rfl,hI,Ext.refl Z,h3⟩
  | [],h=>exact absurd h zh
  | [_],h=>exact absurd h zh
  | _::_::_::_,h=>exact absurd h zh
 unfold lI at h
 split at h
 ·rename_i t ts x xs h1 M
  have ht:sr[0]? = some t:=by rw[<- qI,h1]; rfl
  obtain⟨y,hy,rfl⟩:∃ y,args[0]? = some y/\x=wA f y:=by
   cases R:args.toList with
   | nil=>grind
   | cons y ys=>rw[R]at M; simp at M; exact⟨y,by rw[<- qI,R]; rfl,M.1.symm⟩
  have:=z6q (c:=c) (ty:=o.type) (ts:=sr) (vs:=args.map a.eval) hI (λz hz=>hR.eval (x:=y) hz) ht (by simp[hy]) h
  simp only[execOp,ho,resolve,invoke,builtin,pure_bind]
  exact this
 ·rename_i t t' s x h1 M
  obtain⟨p,q,rfl,rfl,hpq⟩:∃ p q,s=wA f p/\x=wA f q/\args = #[p,q]:=by
   cases R:args.toList with
   | nil=>grind
   | cons p r=>rw[R]at M; cases r with
    | nil=>simp at M
    | cons q r=>cases r with
     | nil=>grind
     | cons _ _=>simp at M
  subst hpq
  cases I:zU t t' with
  | false =>
   rw[I,cond_false]at h
   have z16:sr = #[t,t']:=by rw[<- zR (xs:=sr),h1]
   subst z16
   have:=KX (c:=c) (ty:=o.type) hI (λz hz=>hR.eval (x:=p) hz) (λz hz=>hR.eval (x:=q) hz) h
   have e2:(#[p,q]:Array Operand).map a.eval = #[a.eval p,a.eval q]:=qz
   simp only[execOp,ho,resolve,invoke,builtin,pure_bind,e2]
   exact this
  | true =>
   rw[I,cond_true]at h
   have e:=E I
   subst e
   have z16:sr = #[t,t]:=by rw[<- zR (xs:=sr),h1]
   subst z16
   have:=DK (c:=c) (ty:=o.type) hI (λz hz=>hR.eval (x:=p) hz) (λz hz=>hR.eval (x:=q) hz) h
   have e2:(#[p,q]:Array Operand).map a.eval = #[a.eval p,a.eval q]:=qz
   simp only[execOp,ho,resolve,invoke,builtin,pure_bind,e2]
   exact this
 ·rename_i t t' s x h1 M
  obtain⟨p,q,rfl,rfl,hpq⟩:∃ p q,s=wA f p/\x=wA f q/\args = #[p,q]:=by
   cases R:args.toList with
   | nil=>grind
   | cons p r=>rw[R]at M; cases r with
    | nil=>simp at M
    | cons q r=>cases r with
     | nil=>simp at M; exact⟨p,q,M.1.symm,M.2.symm,by rw[<- zR (xs:=args),R]⟩
     | cons _ _=>simp at M
  subst hpq
  have z16:sr = #[t,t']:=by rw[<- zR (xs:=sr),h1]
  subst z16
  have:=Rt (c:=c) (ty:=o.type) (t':=t') hI (λz hz=>hR.eval (x:=p) hz) (λz hz=>hR.eval (x:=q) hz) h
  have e2:(#[p,q]:Array Operand).map a.eval = #[a.eval p,a.eval q]:=qz
  simp only[execOp,ho,resolve,invoke,builtin,pure_bind,e2]
  exact this
 ·rename_i M
  exact two (g:=Builtin.min2) (λk k' a b=>by simp[Builtin.min2,V5]) h λp q hpq=>by
   subst hpq
   have e2:(#[p,q]:Array Operand).map a.eval = #[a.eval p,a.eval q]:=qz
   simp only[execOp,ho,resolve,invoke,builtin,pure_bind,e2]
   simp[Builtin.min_]
 ·rename_i M
  exact two (g:=Builtin.max2) (λk k' a b=>by simp[Builtin.max2,lh]) h λp q hpq=>by
   subst hpq
   have e2:(#[p,q]:Array Operand).map a.eval = #[a.eval p,a.eval q]:=qz
   simp only[execOp,ho,resolve,invoke,builtin,pure_bind,e2]
   simp[Builtin.max_]
 ·exact absurd h zh
theorem z5g{o:Oper}{g:Nat}{caps:Array Value}{args:Array Value}{hl:Ending->World->Prop}(jL:(execOp a.eval o).run c.P Z.w=(callFunc g args).run c.P Z.w)
  (h:gA c.P g args Z.w hl) {K:Act->World->Prop} {Q:Exit->Act->World->Prop} (hR:∀ e w',hl e w'->∃ v,e=.returned v/\K (a.put o.dst v) w'):o.wp c.P a Z.w K Q:=by
 unfold Oper.wp
 rw[jL]
 rcases h with⟨h1,M⟩ | ⟨v,w',h1,M⟩
 ·rw[h1]
  refine M.mono λe w' he => ?_
  grind
 ·rw[h1]
  obtain⟨u,hu,hk⟩:=hR _ _ M
  cases hu
  exact hk
theorem Y6(g:Nat){l caps:List D}{vs us:List Value}(h1:wN Z l vs)(M:wN Z caps us):wN Z (bK g l caps) (bK g vs us):=by
 unfold bK
 cases Nat.ble 1000000 g with
 | true=>exact M.append h1
 | false=>exact h1.append M
theorem DT{dst:Option Nat}{p:Operand}{args:Array Operand}{sr:Array TypeId}{ty:TypeId}{pos:String}{after:Array Edge}{guard:Option (Nat×Bool)}{g:Nat}{us:List Value}{P:Program}{w:World}(EG:a.eval p=Qw g us) :
  (execOp a.eval ⟨dst,.call ⟨.value p,args,sr⟩,ty,pos,after,guard⟩).run P w=(callFunc (ed g) (bK g (args.toList.map a.eval) us).toArray).run P w:=by
 unfold Qw at EG
 unfold ed bK
 cases I:Nat.ble 1000000 g with
 | true =>
  rw[I]at EG
  simp at EG ⊢
  have e:us.toArray++args.map a.eval=(us++args.toList.map a.eval).toArray:=by apply qP; simp
  simp only[execOp,resolve,EG,xE,pure_bind,invoke,Array.append_empty,e]
 | false =>
  rw[I]at EG
  simp at EG ⊢
  have e:args.map a.eval++us.toArray=(args.toList.map a.eval++us).toArray:=by apply qP; simp
  simp only[execOp,resolve,EG,xE,pure_bind,invoke,Array.empty_append,e]
theorem Fh{o:Oper}{d:Option D}{ql:St}(hC:∀ g,Dp c.P g (c.fn g))(hI:Inv Z)(hR:Rel Z n f a)(h:(qu (wP c (wA f) o) Z.st).leads (d,ql)){K:Act->World->Prop}{Q:Exit->Act->World->Prop}
  (hK:∀ (v:Value) (Y:KS),Y.st=ql->Inv Y->Ext Z Y->(∀ d',d=some d'->RD Y d' v)->K (a.put o.dst v) Y.w):o.wp c.P a Z.w K Q:=by
 have lr:∀ (x:Operand) (z:D),wA f x=some z->RD Z z (a.eval x):=λx z hz=>hR.eval hz
 obtain⟨dst,op,ty,pos,after,guard⟩:=o
 have fin:wz c.P (execOp a.eval ⟨dst,op,ty,pos,after,guard⟩) Z d ql->Oper.wp c.P ⟨dst,op,ty,pos,after,guard⟩ a Z.w K Q:=λJ=>z8k J hK
 cases op with
 | move x =>
  simp only[wP,kP,T.leads]at h
  obtain⟨h,rfl⟩:=h
  exact fin (wz.val hI λd' ef=>lr x d' (h.trans ef))
 | assign x =>
  simp only[wP,kP,T.leads]at h
  obtain⟨h,rfl⟩:=h
  exact fin (wz.val hI λd' ef=>lr x d' (h.trans ef))
 | pick x p q =>
  simp only[wP,Lx]at h
  split at h
  ·rename_i b I
   have hv:=tJ I (lr x)
   rw[kP]at h
   obtain⟨h,rfl⟩:=h
   refine fin ⟨Z,.value (if b then a.eval p else a.eval q),if b then a.eval p else a.eval q,?_,.inl rfl,rfl,hI,Ext.refl Z,λd' ef => ?_⟩
   ·simp[execOp,hv,Go.asBool]
   ·rcases h with⟨rfl,h⟩ | ⟨rfl,h⟩
    ·exact lr p d' (h.trans ef)
    ·exact lr q d' (h.trans ef)
  ·exact absurd h zh
 | alloc t=>exact fin (Ib hI h)
 | box t x=>exact fin (Iu hI (lr x) h)
 | load t x=>exact fin (Sv hI (lr x) h)
 | store t x y=>exact fin (LV hI (lr x) (lr y) h)
 | nilCheck x=>exact fin (Ha rfl hI (lr x) h)
 | binOp op t x y ty' =>
  have h:(qu (Io c op t y (wA f x) (wA f y)) Z.st).leads (d,ql):=h
  unfold Io at h
  split at h
  ·exact fin (Li hI (lr x) h)
  ·exact fin (Lk hI (lr x) (λh=>Y2 hI (lr x) (lr _) h) h)
  ·exact fin (Lj hI (lr x) (λh=>Y2 hI (lr x) (lr _) h) h)
  ·exact fin (Y2 hI (lr x) (lr y) h)
 | typeAssert x xt t ok=>exact fin (Kk hI (lr x) h)
 | unOp op t x=>exact fin (z94 hI (lr x) h)
 | convert s t x=>exact fin (C9 hI (lr x) h)
 | makeInterface t x=>exact fin (YM hI (lr x) h)
 | makeFunc fn first cap =>
  cases fn with
  | func g =>
   simp only[wP]at h
   cases I:zU first.size 0&&qL g 1000000 with
   | false =>
    rw[I,cond_false]at h
    cases Ew:zU cap.size 0&&qL g 1000000 with
    | false=>rw[Ew]at h; exact absurd h zh
    | true =>
     rw[Ew,cond_true]at h
     simp only[zF]at Ew
     have hf:cap = #[]:=zV (E Ew.1)
     subst hf
     split at h
     ·rename_i l R
      rw[dx]at h
      obtain⟨rfl,rfl⟩:=h
      have hr:=fB (Z:=Z) (vs:=first.toList.map a.eval) R (qz) (λi d v J hv=>by
       simp only[qR]at J hv
       cases hi:first.toList[i]? with
       | none=>grind
       | some x=>rw[hi]at J hv; simp at J hv; subst hv; exact lr x d J)
      refine fin (wz.pure hI ?_ (.wi (g+1000000) l _ hr.1 hr.2))
      have e:(first.toList.map a.eval).toArray=first.map a.eval:=by apply qP; simp
      rw[Iz Ew.2,e]
      simp[Instr.makeFunc]
     ·exact absurd h zh
   | true =>
    rw[I,cond_true]at h
    simp only[zF]at I
    have hf:first = #[]:=zV (E I.1)
    subst hf
    split at h
    ·rename_i l R
     rw[dx]at h
     obtain⟨rfl,rfl⟩:=h
     have hr:=fB (Z:=Z) (vs:=cap.toList.map a.eval) R (qz) (λi d v J hv=>by
      simp only[qR]at J hv
      cases hi:cap.toList[i]? with
      | none=>grind
      | some x=>rw[hi]at J hv; simp at J hv; subst hv; exact lr x d J)
     refine fin (wz.pure hI ?_ (.wi g l _ hr.1 hr.2))
     have e:(cap.toList.map a.eval).toArray=cap.map a.eval:=by apply qP; simp
     rw[C6 I.2,e]
     simp[Instr.makeFunc]
    ·exact absurd h zh
  | _=>exact absurd h zh
 | makeSlice t x y=>exact fin (Sx hI (lr x) (lr y) h)
 | slice t x lo hi mx=>exact fin (LM hI (lr x) (Ls hR lo) (Ls hR hi) (Ls hR mx) h)
 | fieldAddr s x fl=>exact fin (Yf hI (lr x) h)
 | field s x fl=>exact fin (IJ hI (lr x) h)
 | indexAddr t x i=>exact fin (Yq hI (lr x) (lr i) h)
 | index t x i=>exact fin (L7 hI (lr x) (lr i) h)
 | extract x i=>exact fin (Ci hI (lr x) h)
 | build t ps =>
  have:=Iw (L:=ps.toList) (G:=a.eval) hI lr h
  refine fin ?_
  have e:(ps.toList.map λp=>(p.1,a.eval p.2)).toArray=ps.map λp=>(p.1,a.eval p.2):=by apply qP; simp
  rw[e]at this
  exact this
 | buildSlice t k ps =>
  have h:(qu (bif z2W c dst&&zU k 0&&zU ps.size 0 then VG c t (bP c t k (ps.toList.map λp=>(p.1,wA f p.2)))else bP c t k (ps.toList.map λp=>(p.1,wA f p.2))) Z.st).leads (d,ql):=h
  refine fin ?_
  have e:(ps.toList.map λp=>(p.1,a.eval p.2)).toArray=ps.map λp=>(p.1,a.eval p.2):=by apply qP; simp
  have key:(qu (bP c t k (ps.toList.map λp=>(p.1,wA f p.2))) Z.st).leads (d,ql)->wz c.P (do xG (.value (<- Instr.buildSlice t k (ps.map λp=>(p.1,a.eval p.2))))) Z d ql:=λh=>by
   have:=Kb (L:=ps.toList) (G:=a.eval) hI lr h
   rw[e]at this
   exact this
  cases I:z2W c dst&&zU k 0&&zU ps.size 0 with
  | false=>rw[I]at h; exact key h
  | true =>
   rw[I,cond_true]at h
   simp only[zF]at I
   have hk:=E I.1.2
   have hp:ps = #[]:=zV (E I.2)
   subst hk hp
   have e0:((#[]:Array (Nat×Operand)).map λp=>(p.1,a.eval p.2)) = #[]:=qz
   rw[e0]at key
   have r:=GS hI key h
   rw[<- e0]at r
   exact r
 | call cl =>
  obtain⟨callee,args,sr⟩:=cl
  cases callee with
  | builtin b=>exact fin (C4 hI hR rfl h)
  | invoke r m=>exact absurd h zh
  | value p =>
   simp only[wP,eR]at h
   split at h
   ·rename_i g caps l hp R
    have hpv:=lr p _ hp
    have hr:=fB (Z:=Z) (vs:=args.toList.map a.eval) R (qz) (λi d v J hv=>by
      simp only[qR]at J hv
      cases hi:args.toList[i]? with
      | none=>rw[hi]at J; cases J
      | some x=>rw[hi]at J hv; simp at J hv; subst hv; exact lr x d J)
    generalize EG:a.eval p=pv at hpv
    cases hpv with
    | wi _ _ us ZL hh2 =>
     have ZK:=Y6 g hr (⟨ZL,hh2⟩:wN Z caps us)
     refine z5g (c:=c) (Z:=Z) (g:=ed g) (caps := #[]) (args:=(bK g (args.toList.map a.eval) us).toArray) ?_ (Rq (hC (ed g)) hI ZK h) ?_
     ·exact DT EG
     ·rintro e w' ⟨Y,v,rfl,h1,M,h3,rfl,h4⟩
      exact⟨v,rfl,hK v Y h1 M h3 h4⟩
   ·exact absurd h zh
 | makeMap t r=>exact fin (CH hI h)
 | lookup t m x ok=>exact fin (ET hI (lr m) (lr x) h)
 | mapUpdate t m x y=>exact fin (YP hI (lr m) (lr x) (lr y) h)
 | _=>exact absurd h zh
end
end Go.AM
namespace Go.AM
set_option linter.unusedSectionVars false
variable [yY] [Hp]
section
variable {c:Ctx} {n:Nat} {ops:Array Oper}
theorem Cp(j:Nat):bA ops j=(ops[j]?).bind (·.dst):=by
 unfold bA; cases ops[j]? <;> rfl
theorem Zf{Z:KS}{f:F}{a:Act}{o:Oper}{b:Bool}(hR:Rel Z n f a)(h:jE ops f o=some b):qU o (yielded ops a.tmps)=b:=by
 unfold jE at h
 unfold qU
 split at h
 ·grind
 ·rename_i j w hg
  rw[hg]
  split at h
  ·cases h
  ·rename_i t ht
   rw[Cp]at ht
   simp only[yielded,ht,Option.bind_some]
   split at h
   ·rename_i x N
    obtain⟨v,h1,M⟩:=hR.get t _ N
    have:=M.cr
    cases h
    grind
   ·rename_i N
    obtain⟨v,h1,M⟩:=hR.get t _ N
    cases h
    rw[h1]
    cases M with
    | eG _ vs R hh=>rfl
   ·cases h
def pC(ops:Array Oper)(a a':Act):Prop:=∀ s:Nat,(∀ o∈ops.toList,o.dst≠some s)->a'.tmps[s]? = a.tmps[s]?
theorem pC.refl(ops:Array Oper)(a:Act):pC ops a a:=λ_ _=>rfl
theorem pC.trans{ops:Array Oper}{a b d:Act}(h:pC ops a b)(k:pC ops b d):pC ops a d:=λs hs=>(k s hs).trans (h s hs)
theorem X6{ops:Array Oper}{i:Nat}{o:Oper}{a:Act}{v:Value}(ho:ops[i]? = some o):pC ops a (a.put o.dst v):=by
 intro s hs
 have hm:o∈ops.toList:=by have:=Array.mem_of_getElem? ho; simpa using this
 have:=hs o hm
 cases J:o.dst with
 | none=>rfl
 | some t =>
  rw[J]at this
  have jZ:t≠s:=λe=>this (by rw[e])
  simp[qW,zH jZ]
theorem G4{Z:KS}{a:Act}{i k:Nat}{s s':F×St}(hC:∀ g,Dp c.P g (c.fn g))(hI:Inv Z)(hR:Rel Z n s.1 a)(vX:Z.st=s.2)(h:ff c n ops i s s' k){K:Act->World->Prop}{Q:Exit->Act->World->Prop}
  (hK:∀ (a':Act) (Y:KS),Y.st=s'.2->Inv Y->Ext Z Y->Rel Y n s'.1 a'->pC ops a a'->K a' Y.w):wpOp c.P ops Q i K a Z.w:=by
 obtain⟨o,ho,J,h⟩:=h
 unfold wpOp
 rw[ho]
 simp only
 rcases h with⟨hw,_,d,ql,R,rfl⟩ | ⟨hw,_,rfl⟩
 ·rw[if_pos (Zf hR hw)]
  refine .inl (Fh hC hI hR (vX▸R) λv Y h1 M h3 h4=>hK _ Y h1 M h3 ((hR.mono h3).put J h4) (X6 ho))
 ·rw[if_neg (by rw[Zf hR hw]; exact Bool.false_ne_true)]
  exact hK _ Z vX hI (Ext.refl Z) (hR.put J λd' ef=>by cases ef; exact z2Q (v:=undef)) (X6 ho)
theorem Pg{Q:Exit->Act->World->Prop}(hC:∀ g,Dp c.P g (c.fn g)):∀ (l:List Nat) {Z:KS} {a:Act} {s s':F×St} {ks:List Nat},Inv Z->Rel Z n s.1 a->Z.st=s.2->Rb c n ops l s s' ks ->
  (∀ (a':Act) (Y:KS),Y.st=s'.2->Inv Y->Ext Z Y->Rel Y n s'.1 a'->pC ops a a'->Q .normal a' Y.w)->wpOps c.P ops Q l a Z.w
 | [],Z,a,s,s',ks,hI,hR,vX,h,hQ=>by
  obtain⟨rfl,_⟩:=h
  exact hQ a Z vX hI (Ext.refl Z) hR (pC.refl _ _)
 | i::l,Z,a,s,s',ks,hI,hR,vX,h,hQ=>by
  obtain⟨s1,k,La,_,h1,M⟩:=h
  refine G4 hC hI hR vX h1 λa1 κ1 g1 g2 g3 g4 g5 => ?_
  exact Pg hC l g2 g4 g1 M λa' Y e1 e2 e3 e4 e5=>hQ a' Y e1 e2 (g3.trans e3) e4 (g5.trans e5)
theorem Jo{Q:Exit->Act->World->Prop}(hC:∀ g,Dp c.P g (c.fn g)):∀ (l m:List Nat) {Z:KS} {a:Act} {s s':F×St} {ks:List Nat},Inv Z->Rel Z n s.1 a->Z.st=s.2->Rb c n ops l s s' ks ->
  (∀ (a':Act) (Y:KS),Y.st=s'.2->Inv Y->Ext Z Y->Rel Y n s'.1 a'->pC ops a a'->wpOps c.P ops Q m a' Y.w)->wpOps c.P ops Q (l++m) a Z.w
 | [],m,Z,a,s,s',ks,hI,hR,vX,h,hQ=>by
  obtain⟨rfl,_⟩:=h
  exact hQ a Z vX hI (Ext.refl Z) hR (pC.refl _ _)
 | i::l,m,Z,a,s,s',ks,hI,hR,vX,h,hQ=>by
  obtain⟨s1,k,La,_,h1,M⟩:=h
  refine G4 hC hI hR vX h1 λa1 κ1 g1 g2 g3 g4 g5 => ?_
  exact Jo hC l m g2 g4 g1 M λa' Y e1 e2 e3 e4 e5=>hQ a' Y e1 e2 (g3.trans e3) e4 (g5.trans e5)
theorem G3{kd:Nat->Nat}:∀ (l:List Nat) (s s':F×St) (ks:List Nat),Rb c n ops l s s' ks->ks=l.map kd->Qf c n ops kd l s s'
 | [],s,s',ks,h,_=>h.1
 | i::l,s,s',ks,⟨s1,k,La,e,h1,M⟩,hk=>by
  subst e
  simp at hk
  obtain⟨rfl,hk⟩:=hk
  exact⟨s1,h1,G3 l s1 s' La M hk⟩
theorem Fk:∀ (l:List Nat) (s s':F×St) (ks:List Nat),Rb c n ops l s s' ks->ks.length=l.length
 | [],_,_,_,h=>by rw[h.2]
 | i::l,s,s',ks,⟨s1,k,La,e,h1,M⟩=>by subst e; simp[Fk l s1 s' La M]
theorem En(acc:List Nat):∀ (es:List Edge) (s0 p:Nat),qS (es.foldl (λs e=>bif zZ .any e then s ||| 2 ^ e.on ||| acc.getD e.on 0 else s) s0) p=true ->
  qS s0 p=true\/∃ e∈es,zZ .any e=true/\(p=e.on\/qS (acc.getD e.on 0) p=true)
 | [],s0,p,h=>.inl h
 | e::es,s0,p,h=>by
  rcases En acc es _ p h with h1 | ⟨e',h1,M⟩
  ·grind
  ·grind
theorem Zm:∀ (l:List Oper) (acc:List Nat),∃ r,vW l acc=acc++r/\r.length=l.length /\
  ∀ j o,l[j]? = some o->∀ p,qS ((vW l acc).getD (acc.length+j) 0) p=true ->
   ∃ e∈o.after.toList,zZ .any e=true/\(p=e.on\/(e.on<acc.length+j/\qS ((vW l acc).getD e.on 0) p=true))
 | [],acc=>⟨[],by simp[vW],rfl,λj o h=>by simp at h⟩
 | o::l,acc=>by
  let b:=o.after.toList.foldl (λs e=>bif zZ .any e then s ||| 2 ^ e.on ||| acc.getD e.on 0 else s) 0
  obtain⟨r,h1,M,h3⟩:=Zm l (acc++[b])
  have I:vW (o::l) acc=vW l (acc++[b]):=rfl
  have RP:∀ i,i<acc.length->(vW l (acc++[b])).getD i 0=acc.getD i 0:=λi hi=>by
   grind
  refine⟨b::r,by rw[I,h1]; simp,by simp[M],?_⟩
  rw[I]
  intro j o' ho p hp
  cases j with
  | zero =>
   simp at ho
   subst ho
   have he:(vW l (acc++[b])).getD (acc.length+0) 0=b:=by rw[h1]; simp[xF]
   rw[he]at hp
   rcases En acc _ 0 p hp with h | ⟨e,k1,k2,k3⟩
   ·simp at h
   ·grind
  | succ j =>
   have:=h3 j o' (by simpa using ho) p (by rw[show(acc++[b]).length+j=acc.length+(j+1) by simp; omega]; exact hp)
   grind
theorem Zy:∀ (l:List Oper) (k:Nat),fY l k=true->∀ j o,l[j]? = some o->∀ e∈o.after.toList,zZ .any e=true->e.on<k+j
 | [],_,_,j,o,h,_,_,_=>by simp at h
 | o::l,k,h,j,o',ho,e,he,I=>by
  simp only[fY,zF,zJ]at h
  cases j with
  | zero =>
   simp at ho
   subst ho
   have:=h.1 e he
   rw[I]at this
   exact X this
  | succ j =>
   have:=Zy l (k+1) h.2 j o' (xz) e he I
   omega
def Tj{K:Type}(cl:K->K->Bool)(ops:Array Oper)(x:Oper)(kx:K)(y:Oper)(ky:K):Prop:=(∀ d,x.dst=some d->d ∉ tmpsOf ops y)/\(∀ d,y.dst=some d->d ∉ tmpsOf ops x)/\cl kx ky=false
theorem Fm{K:Type}{cl:K->K->Bool}{bs:List Nat}{xs:List (Nat×Option Nat×List Nat×K)}{j:Nat}{ky:K}{y:Oper}(h:Lw cl bs xs j y.dst (tmpsOf ops y) ky=true){i:Nat}{kx:K}{x:Oper}(N:(i,x.dst,tmpsOf ops x,kx)∈xs) :
  ordered bs i j=true\/Tj cl ops x kx y ky:=by
 simp only[Lw,zJ]at h
 have:=h _ N
 simp at this
 rcases this with h1 | ⟨⟨h1,M⟩,h3⟩
 ·grind
 ·refine .inr ⟨λd J hm => ?_,λd J hm => ?_,h3⟩
  ·grind
  ·grind
theorem Q0{K:Type}{cl:K->K->Bool}{bs:List Nat}:∀ (l:List Oper) (ks:List K) (k0:Nat) (xs:List (Nat×Option Nat×List Nat×K)),ZZ cl ops bs l ks k0 xs=true ->
  (∀ j y ky,l[j]? = some y->ks[j]? = some ky->(∀ i x kx,(i,x.dst,tmpsOf ops x,kx)∈xs->ordered bs i (k0+j)=true\/Tj cl ops x kx y ky) /\
   (∀ i x kx,i<j->l[i]? = some x->ks[i]? = some kx->ordered bs (k0+i) (k0+j)=true\/Tj cl ops x kx y ky))
 | [],_,_,_,_,j,y,ky,hy,_=>by simp at hy
 | o::l,[],_,_,h,_,_,_,_,_=>by simp[ZZ]at h
 | o::l,k::ks,k0,xs,h,j,y,ky,hy,hk=>by
  simp only[ZZ,zF]at h
  obtain⟨h1,M⟩:=h
  have ih:=Q0 l ks (k0+1) _ M
  cases j with
  | zero =>
   simp at hy hk
   subst hy hk
   exact⟨λi x kx N=>by simpa using Fm h1 N,λi x kx hi=>absurd hi (qN i)⟩
  | succ j =>
   obtain⟨g1,g2⟩:=ih j y ky (by simpa using hy) (by simpa using hk)
   have e:k0+1+j=k0+(j+1):=O
   rw[e]at g1 g2
   refine⟨λi x kx N=>g1 i x kx (zS _ N),λi x kx hi N hkx => ?_⟩
   cases i with
   | zero =>
    grind
   | succ i =>
    grind
def rest(ops:Array Oper)(listed:Array Bool):List Nat:=(qF ops.size).filter λi => !listed.getD i true
def WL(ops:Array Oper)(listed:Array Bool):Prop:=∀ q,q<ops.size->listed.getD q true=true->∀ p,ordered (vW ops.toList []) p q=true->p<ops.size->listed.getD p true=true
theorem cu{listed:Array Bool}{i j:Nat}(hi:i<listed.size):(listed.setIfInBounds i true).getD j true=if j=i then true else listed.getD j true:=by
 simp
 grind
theorem iu{p q:Nat->Bool}{i:Nat}:∀ (l:List Nat),l.Pairwise (· < ·)->i∈l->p i=true->(∀ j,q j=(p j && !(j==i))) ->
  ∃ pre post,l.filter p=pre++i::post/\l.filter q=pre++post/\∀ x∈pre,p x=true/\x∈l/\x<i
 | [],_,hi,_,_=>by simp at hi
 | a::l,hn,hi,hp,hq=>by
  have hn':=qE.1 hn
  by_cases ha:a=i
  ·subst ha
   refine⟨[],l.filter p,xz,?_,qz⟩
   have hqa:q a=false:=by rw[hq]; simp
   simp only[List.filter_cons,hqa]
   refine List.filter_congr λx N => ?_
   rw[hq]
   have:(x==a)=false:=by simp; exact λe=>absurd (hn'.1 x N) (O)
   simp[this]
  ·have Ky:i∈l:=by rcases qA.1 hi with h | h; exact absurd h.symm ha; exact h
   obtain⟨pre,post,h1,M,h3⟩:=iu l hn'.2 Ky hp hq
   grind
theorem Q4{listed:Array Bool}{i:Nat}:i∈qY .any ops listed↔i<ops.size/\listed.getD i true=false/\∀ o,ops[i]? = some o->∀ e∈o.after.toList,zZ .any e=true->listed.getD e.on false=true:=by
 unfold qY
 simp only[zX,V,zF,zL]
 constructor
 ·rintro⟨h1,M,h3⟩
  refine⟨h1,M,λo ho e he I => ?_⟩
  rw[ho]at h3
  simp only[Option.map_some,Option.getD_some,Array.all_eq_true_iff_forall_mem]at h3
  grind
 ·grind
theorem Gd(IW:fY ops.toList 0=true){listed:Array Bool}(bM:listed.size=ops.size):qY .any ops listed=[]->rest ops listed=[]:=by
 intro hr
 cases hre:rest ops listed with
 | nil=>rfl
 | cons i l =>
  have hi:i∈rest ops listed:=by rw[hre]; exact zK
  simp only[rest,zX,V,zL]at hi
  have zbL:∀ j,j<i->listed.getD j true=true:=by
   intro j hj
   cases R:listed.getD j true with
   | true=>rfl
   | false =>
    have hpw:(rest ops listed).Pairwise (· < ·):=List.Pairwise.filter _ zN
    have hjm:j∈rest ops listed:=by simp only[rest,zX,V,zL]; exact⟨O,R⟩
    rw[hre]at hpw hjm
    rcases qA.1 hjm with rfl | hjm
    ·grind
    ·have:=(qE.1 hpw).1 j hjm; omega
  have:i∈qY .any ops listed:=by
   rw[Q4]
   refine⟨hi.1,hi.2,λo ho e he I => ?_⟩
   have wM:=Zy ops.toList 0 IW i o (xz) e he I
   grind
  grind
def KR(Stp:Nat->F×St->F×St->Prop):List Nat->F×St->F×St->Prop
 | [],s,s'=>s'=s
 | i::l,s,s'=>∃ s1,Stp i s s1/\KR Stp l s1 s'
theorem BI{Stp:Nat->F×St->F×St->Prop}{In:Nat->Nat->Prop}(Ey:∀ p i,In p i->∀ s s1 s2,Stp p s s1->Stp i s1 s2->∃ s',Stp i s s'/\Stp p s' s2){i:Nat}{post:List Nat}{s':F×St}:∀ {pre:List Nat} {s:F×St},(∀ p∈pre,In p i)->KR Stp (pre++i::post) s s' ->
  ∃ s1,Stp i s s1/\KR Stp (pre++post) s1 s'
 | [],s,_,h=>h
 | p::pre,s,hp,⟨sp,h1,M⟩=>by
  obtain⟨s1,h3,h4⟩:=BI Ey (λq hq=>hp q (zS _ hq)) M
  obtain⟨s2,h5,h6⟩:=Ey _ _ (hp p zK) _ _ _ h1 h3
  exact⟨s2,h5,s1,h6,h4⟩
theorem Jn{Stp:Nat->F×St->F×St->Prop}{In:Nat->Nat->Prop}(z13:∀ i s s',Stp i s s'->∃ k,ff c n ops i s s' k)(Ey:∀ p i,In p i->∀ s s1 s2,Stp p s s1->Stp i s1 s2->∃ s',Stp i s s'/\Stp p s' s2){Q:Exit->Act->World->Prop}(hC:∀ g,Dp c.P g (c.fn g))(IW:fY ops.toList 0=true)
  {sf:F×St}:∀ (fuel:Nat) (listed:Array Bool) {Z:KS} {a:Act} {s:F×St},(∀ p i,p<i->i<ops.size->listed.getD p true=false->ordered (vW ops.toList []) p i=true\/In p i) ->
  listed.size=ops.size->fuel=(rest ops listed).length->WL ops listed->Inv Z->Rel Z n s.1 a->Z.st=s.2->KR Stp (rest ops listed) s sf ->
  (∀ (a':Act) (Y:KS),Y.st=sf.2->Inv Y->Ext Z Y->Rel Y n sf.1 a'->pC ops a a'->Q .normal a' Y.w)->wpAny c.P .any ops Q fuel listed a Z.w
 | fuel,listed,Z,a,s,dX,bM,hfuel,Kx,hI,hR,vX,jL,hQ=>by
  have zbR:=Gd IW (listed:=listed) bM
  have z0P:rest ops listed=[]->Q .normal a Z.w:=by
   intro h
   rw[h]at jL
   cases jL
   exact hQ a Z vX hI (Ext.refl Z) hR (pC.refl _ _)
  cases fuel with
  | zero =>
   have hre:rest ops listed=[]:=zW hfuel.symm
   refine⟨?_,z0P hre⟩
   apply List.eq_nil_iff_forall_not_mem.2
   intro i hi
   rw[Q4]at hi
   have:i∈rest ops listed:=by simp only[rest,zX,V,zL]; exact⟨hi.1,hi.2.1⟩
   grind
  | succ fuel =>
   refine⟨λh=>z0P (zbR h),λi hi => ?_⟩
   rw[Q4]at hi
   obtain⟨h1,M,h3⟩:=hi
   have ho:ops[i]? = some ops[i]:=zP h1
   obtain⟨pre,post,g1,g2,g3⟩:=iu (p:=λi => !listed.getD i true) (q:=λj => !(listed.setIfInBounds i true).getD j true) (i:=i) (qF ops.size) zN
    (V.2 h1) (by simp[M]) (λj=>by
     rw[cu (O)]
     by_cases h:j=i
     ·grind
     ·simp[h])
   have z0J:∀ p,ordered (vW ops.toList []) p i=true->p<ops.size->listed.getD p true=true:=by
    intro p hp wM
    obtain⟨r,_,_,I⟩:=Zm ops.toList []
    obtain⟨e,k1,k2,k3⟩:=I i ops[i] (qz) p (by simpa[ordered]using hp)
    have hle:=h3 _ ho e k1 k2
    have H3:=Zy ops.toList 0 IW i ops[i] (qz) e k1 k2
    have H0:listed.getD e.on true=true:=by
     grind
    rcases k3 with rfl | ⟨_,k3⟩
    ·exact H0
    ·exact Kx e.on (O) H0 p k3 wM
   have z0U:∀ p∈pre,In p i:=by
    grind
   have EH:KR Stp (pre++i::post) s sf:=by
    have:rest ops listed=pre++i::post:=g1
    grind
   obtain⟨s1,k1,k2⟩:=BI Ey z0U EH
   have X1:rest ops (listed.setIfInBounds i true)=pre++post:=g2
   obtain⟨kk,k1⟩:=z13 _ _ _ k1
   refine G4 hC hI hR vX k1 λa1 κ1 e1 e2 e3 e4 e5 => ?_
   refine Jn z13 Ey hC IW fuel (listed.setIfInBounds i true) (λp j hpj hj hp=>dX p j hpj hj (by
    rw[cu (O)]at hp
    split at hp
    ·cases hp
    ·exact hp)) (by simp[bM]) ?_ ?_ e2 e4 e1 (by rw[X1]; exact k2) λa' Y d1 d2 d3 d4 d5=>hQ a' Y d1 d2 (e3.trans d3) d4 (e5.trans d5)
   ·have:rest ops listed=pre++i::post:=g1
    rw[this]at hfuel
    rw[X1]
    simp only[List.length_append,List.length_cons]at hfuel ⊢
    omega
   ·intro q hq RR p hp wM
    rw[cu (O)]at RR ⊢
    split
    ·rfl
    ·split at RR
     ·rename_i e; subst e; exact z0J p hp wM
     ·exact Kx q hq RR p hp wM
theorem Fj{kd:Nat->Nat}:∀ (l:List Nat) (s s':F×St),Qf c n ops kd l s s'->KR (λi s s'=>ff c n ops i s s' (kd i)) l s s'
 | [],_,_,h=>h
 | i::l,s,s',⟨s1,h1,M⟩=>⟨s1,h1,Fj l s1 s' M⟩
theorem G2{kd:Nat->Nat}{Q:Exit->Act->World->Prop}(hC:∀ g,Dp c.P g (c.fn g))(IW:fY ops.toList 0=true)
  {sf:F×St}:∀ (fuel:Nat) (listed:Array Bool) {Z:KS} {a:Act} {s:F×St},(∀ p i,p<i->i<ops.size->listed.getD p true=false->ordered (vW ops.toList []) p i=true\/Ind ops kd p i) ->
  listed.size=ops.size->fuel=(rest ops listed).length->WL ops listed->Inv Z->Rel Z n s.1 a->Z.st=s.2->Qf c n ops kd (rest ops listed) s sf ->
  (∀ (a':Act) (Y:KS),Y.st=sf.2->Inv Y->Ext Z Y->Rel Y n sf.1 a'->pC ops a a'->Q .normal a' Y.w)->wpAny c.P .any ops Q fuel listed a Z.w
 | fuel,listed,Z,a,s,dX,bM,hfuel,Kx,hI,hR,vX,jL,hQ =>
  Jn (Stp:=λi s s'=>ff c n ops i s s' (kd i)) (In:=λp i=>Ind ops kd p i) (λi s s' h=>⟨_,h⟩) (λp i hi s s1 s2 h1 M=>BE hi h1 M) hC IW fuel listed dX bM hfuel Kx hI hR vX (Fj _ _ _ jL) hQ
end
end Go.AM
namespace Go.AM
set_option linter.unusedSectionVars false
variable [yY] [Hp]
open Go.RowKit
structure Up(Z Y:KS):Prop where
 same:I9 Z.w Y.w Z.ok Y.ok
 var:∀ (b:Nat) (d:D),Z.st[b]? = some (.var d)->(∃ d',Y.st[b]? = some (.var d'))/\Y.ph[b]? = Z.ph[b]?
 old:∀ (b vi:Nat),Old Z.st b vi->Old Y.st b vi
 row:∀ (b v:Nat) (e:Ty) (xs:List (den e)),Old Z.st b v->Y.st[b]? = some (.arr v e xs)->Z.st[b]? = some (.arr v e xs)/\Y.ph[b]? = Z.ph[b]?
theorem RD.up{Z Y:KS}(x:Up Z Y){d:D}{v:Value}(h:RD Z d v):RD Y d v:=by
 induction h with
 | qi τ y cs h=>exact .qi τ y cs (h.mono x.same)
 | so e l b v h ht hf=>exact .so e l b v (h.mono x.same) ht hf
 | vy e a=>exact .vy e a
 | tight e l ne blk off f jZ j3 h hc=>exact .tight e l ne blk off f jZ (x.same _ j3).1 (λi hi=>(h i hi).mono x.same) λi hi j v hv=>by rw[lJ (x.same _ j3).2]; exact hc i hi j v hv
 | wF=>exact .wF
 | gX=>exact .gX
 | v8=>exact .v8
 | gj=>exact .gj
 | uT=>exact .uT
 | WI v h=>exact .WI v h
 | mP T=>exact .mP T
 | nk b T d J =>
  obtain⟨⟨d',ef⟩,hp⟩:=x.var b d J
  exact .nk b T d' ef
 | yL b blk n d J h =>
  obtain⟨⟨d',ef⟩,hp⟩:=x.var b d J
  exact .yL b blk n d' ef (hp.trans h)
 | nn b T blk n d J h =>
  obtain⟨⟨d',ef⟩,hp⟩:=x.var b d J
  exact .nn b T blk n d' ef (hp.trans h)
 | ptr b off blk n d J h =>
  obtain⟨⟨d',ef⟩,hp⟩:=x.var b d J
  exact .ptr b off blk n d' ef (hp.trans h)
 | vz τ y cs blk off j3 h hc=>exact .vz τ y cs blk off (x.same _ j3).1 (h.mono x.same) λj v hv=>by rw[lJ (x.same _ j3).2]; exact hc j v hv
 | gJ b vi e idx off blk o I h =>
  refine .gJ b vi e idx off blk o (x.old b vi I) λxs N hi => ?_
  obtain⟨h1,M⟩:=x.row b vi e xs I N
  grind
 | ms b vi e off len cap a I jg ha Ws h =>
  refine .ms b vi e off len cap a (x.old b vi I) jg ha Ws λxs N => ?_
  obtain⟨h1,M⟩:=x.row b vi e xs I N
  have:=h xs h1
  unfold Mo at this ⊢
  grind
 | wi f l vs R h ih=>exact .wi f l vs R ih
 | agg l vs R ho h ih=>exact .agg l vs R ho ih
 | eG l vs R h ih=>exact .eG l vs R ih
 | iface t d v h ih=>exact .iface t d v ih
structure Nob(Z:KS)(blk:Nat):Prop where
 lt:blk<Z.w.heap.size
 ok:¬ Z.ok blk
 ph:∀ (b n:Nat),Z.ph[b]? ≠ some (some (blk,n))
theorem Nob.ext{Z Y:KS}(x:Ext Z Y){blk:Nat}(h:Nob Z blk):Nob Y blk/\Y.w.heap[blk]? = Z.w.heap[blk]? := by
 refine⟨⟨Nat.lt_of_lt_of_le h.lt x.size,λhk => ?_,λb n I => ?_⟩,x.frame blk h.lt h.ph⟩
 ·rcases x.fresh blk hk with h1 | h1 | ⟨b,n,h1⟩
  ·exact h.ok h1
  ·have:=h.lt; omega
  ·exact h.ph b n h1
 ·rcases x.phs b blk n I with h1 | h1
  ·exact h.ph b n h1
  ·have:=h.lt; omega
def KS.push(Z:KS)(blk n:Nat)(d:D):KS:={ Z with ph:=Z.ph++[some (blk,n)],st:=Z.st++[.var d] }
theorem Z8{α:Type}{l:List α}{x y:α}{b:Nat}(h:l[b]? = some y):(l++[x])[b]? = some y:=xz
theorem W7{α:Type}{l:List α}{x y:α}{b:Nat}(h:(l++[x])[b]? = some y):l[b]? = some y\/(b=l.length/\y=x):=xz
theorem Pj{Z:KS}(hI:Inv Z)(blk n:Nat)(d:D):Up Z (Z.push blk n d):=by
 have GL:∀ {b:Nat} {y:cL},Z.st[b]? = some y->(Z.ph++[some (blk,n)])[b]? = Z.ph[b]? := λh=>by
  rw[zI]; rw[hI.len]; exact(zQ.1 h).1
 refine⟨λk hk=>⟨hk,rfl⟩,λb d' h=>⟨⟨d',Z8 h⟩,GL h⟩,λb vi h => ?_,λb v e xs ho h => ?_⟩
 ·rcases h with h | ⟨v0,e0,Vu,h,hv⟩
  ·exact .inl (Z8 h)
  ·exact .inr ⟨v0,e0,Vu,Z8 h,hv⟩
 ·rcases W7 h with h1 | ⟨_,h1⟩
  ·exact⟨h1,GL h1⟩
  ·cases h1
theorem z8H{κ0 Z:KS}{blk:Nat}{d:D}{z:Value}{t:TypeId}(hI:Inv Z)(N:Ext κ0 Z)(I:Nob Z blk)(h0:κ0.w.heap.size<=blk)(hz:RD Z d z)(ht:d.bB=false)(MT:∀ T,d.typed=some T->t=T)(hh:Z.w.heap[blk]? = some (.cells z.cells t (0,0))) :
  Inv (Z.push blk z.cells.size d)/\Ext κ0 (Z.push blk z.cells.size d)/\RD (Z.push blk z.cells.size d) (.ptr Z.st.length 0) (.pointer (some ⟨blk,0,none⟩)):=by
 have hu:=Pj hI blk z.cells.size d
 have vX:(Z.push blk z.cells.size d).st[Z.st.length]? = some (.var d):=by simp[KS.push]
 have GL:(Z.push blk z.cells.size d).ph[Z.st.length]? = some (some (blk,z.cells.size)):=by simp[KS.push,<- hI.len]
 have z11:∀ {b k m:Nat},(Z.push blk z.cells.size d).ph[b]? = some (some (k,m))->Z.ph[b]? = some (some (k,m))\/(b=Z.ph.length/\k=blk):=by
  intro b k m h
  rcases W7 h with h1 | ⟨h1,M⟩
  ·grind
  ·grind
 refine⟨⟨by simp[KS.push,hI.len],hI.bN,λb k m h => ?_,λb b' k m m' h h' => ?_,λb y h => ?_,hI.gl⟩,?_,.ptr _ 0 blk _ d vX GL⟩
 ·rcases z11 h with h1 | ⟨_,rfl⟩
  ·exact hI.apart b k m h1
  ·exact⟨I.lt,I.ok⟩
 ·rcases z11 h with h1 | ⟨h1,rfl⟩
  ·rcases z11 h' with M | ⟨M,rfl⟩
   ·exact hI.inj b b' k m m' h1 M
   ·exact(I.ph b m h1).elim
  ·rcases z11 h' with M | ⟨M,_⟩
   ·exact(I.ph b' m' M).elim
   ·omega
 ·rcases W7 h with h1 | ⟨h1,M⟩
  ·have hp:(Z.push blk z.cells.size d).ph[b]? = Z.ph[b]? := by
    show(Z.ph++[_])[b]? = _
    grind
   have hy:=hI.blk b y h1
   cases y with
   | dead=>trivial
   | var d' =>
    refine kR.elim hy (λhm ⟨k,m,cs,T,g1,g2,g3,g4,g5⟩=>.mk hm ⟨k,m,cs,T,hp.trans g1,g2,g3,⟨g4.1,λi h1 M=>(g4.2 i h1 M).up hu⟩,g5⟩) λl e ⟨k,o,g1,g2⟩ => ?_
    subst e
    exact⟨k,o,hp.trans g1,g2⟩
   | arr vi e xs =>
    obtain⟨g0,g⟩:=hy
    refine⟨g0,rN g (λh=>⟨h.1,hp.trans h.2⟩) ?_⟩
    rintro⟨k,m,cs,T,g1,g2⟩
    exact⟨k,m,cs,T,hp.trans g1,g2⟩
  ·subst h1
   subst M
   have hf:=cz hz ht
   exact .mk hz.z2q ⟨blk,z.cells.size,z.cells,t,GL,hh,rfl,⟨hf.1,λi h1 M=>(hf.2 i h1 M).up hu⟩,cy hz,MT⟩
 ·refine⟨N.os,N.tape,N.output,N.size,N.same,N.fresh,λb k m h => ?_,λb d' h => ?_,λb v0 e xs h => ?_,λb h=>Z8 (N.dead b h),Nat.le_trans N.Fz (by simp[KS.push]),N.frame⟩
  ·rcases z11 h with h1 | ⟨_,rfl⟩
   ·exact N.phs b k m h1
   ·exact .inr h0
  ·obtain⟨⟨d1,h1⟩,M⟩:=N.var b d' h
   obtain⟨h3,h4⟩:=hu.var b d1 h1
   exact⟨h3,h4.trans M⟩
  ·rcases N.arr b v0 e xs h with h1 | ⟨v1,xs1,h1,M,h3⟩
   ·exact .inl (Z8 h1)
   ·refine .inr ⟨v1,xs1,Z8 h1,M,λhe=>⟨?_,(h3 he).2⟩⟩
    have hp:(Z.push blk z.cells.size d).ph[b]? = Z.ph[b]? := by
     show(Z.ph++[_])[b]? = _
     rw[zI]; rw[hI.len]; exact(zQ.1 h1).1
    exact hp.trans (h3 he).1
theorem z5C{Z:KS}(hI:Inv Z)(o:Obj):Inv { Z with w:=Z.w.alloc o }/\Ext Z { Z with w:=Z.w.alloc o }/\Nob { Z with w:=Z.w.alloc o } Z.w.heap.size/\(Z.w.alloc o).heap[Z.w.heap.size]? = some o:=by
 have hs:(Z.w.alloc o).heap.size=Z.w.heap.size+1:=qz
 have hold:∀ k,k<Z.w.heap.size->(Z.w.alloc o).heap[k]? = Z.w.heap[k]? := λk hk=>by
  show(Z.w.heap.push o)[k]? = _
  grind
 have N:Ext Z { Z with w:=Z.w.alloc o }:=⟨rfl,rfl,rfl,qz,λk hk=>⟨hk,hold k (hI.bN k hk)⟩,λk hk=>.inl hk,λ_ _ _ h=>.inl h,λb d h=>⟨⟨d,h⟩,rfl⟩,
  λb v0 e xs h=>.inr ⟨v0,xs,h,qG _,λ_=>⟨rfl,rfl⟩⟩,λ_ h=>h,qG _,λk hk _=>hold k hk⟩
 refine⟨⟨hI.len,λk hk => ?_,λb blk n h => ?_,hI.inj,λb y hy=>(hI.blk b y hy).mono N rfl λblk n h=>hold _ (hI.apart b blk n h).1,hI.gl.mono N.same⟩,N,⟨?_,λhk => ?_,λb n h => ?_⟩,?_⟩
 ·have:=hI.bN k hk; show k<(Z.w.alloc o).heap.size; omega
 ·have:=hI.apart b blk n h; exact⟨xz,this.2⟩
 ·simp
 ·have:=hI.bN _ hk; omega
 ·have:=(hI.apart b _ n h).1; omega
 ·show(Z.w.heap.push o)[Z.w.heap.size]? = some o
  simp
section
variable {c:Ctx} {n:Nat} {ops:Array Oper}
structure Em where
 i:Nat
 d:Nat
 blk:Nat
 t:TypeId
 z:Value
 D:D
structure I4(c:Ctx)(ops:Array Oper)(κ0 Z:KS)(a:Act)(e:Em):Prop where
 op:∃ o,ops[e.i]? = some o/\o.op=.alloc e.t/\o.guard=none/\o.dst=some e.d
 zero:K9 c e.t=some e.D
 z:∃ i,c.P.info? e.t=some i/\i.zero=some e.z/\ZD e.t e.D e.z
 val:a.tmps[e.d]? = some (.pointer (some ⟨e.blk,0,none⟩))
 heap:Z.w.heap[e.blk]? = some (.cells e.z.cells e.t (0,0))
 nob:Nob Z e.blk
 new:κ0.w.heap.size<=e.blk
theorem I4.mono{κ0 Z Y:KS}{a a':Act}{e:Em}(h:I4 c ops κ0 Z a e)(x:Ext Z Y)(ha:a'.tmps[e.d]? = a.tmps[e.d]?):I4 c ops κ0 Y a' e:=by
 obtain⟨h1,M⟩:=h.nob.ext x
 exact⟨h.op,h.zero,h.z,ha.trans h.val,M.trans h.heap,h1,h.new⟩
def dY(es:List Em)(f:F):F:=λs=>if es.any (λe=>zU e.d s)then none else f s
theorem Uc{es:List Em}{f:F}{s:Nat}(h:∀ e∈es,e.d≠s):dY es f s=f s:=by
 unfold dY
 rw[if_neg]
 intro hh
 obtain⟨e,he,I⟩:=zO.1 hh
 exact h e he (E I)
theorem Bh{es:List Em}{f:F}{s:Nat}{d:D}(h:dY es f s=some d):f s=some d/\∀ e∈es,e.d≠s:=by
 unfold dY at h
 split at h
 ·cases h
 ·rename_i hh
  refine⟨h,λe he hs=>hh (zO.2 ⟨e,he,?_⟩)⟩
  subst hs; simp
def rm(ops:Array Oper)(i:Nat):Prop:=∃ o,ops[i]? = some o/\Kh o=true
theorem S0{o:Oper}(h:Kh o=true):∃ t d,o.op=.alloc t/\o.guard=none/\o.dst=some d:=by
 unfold Kh at h
 simp only[zF]at h
 obtain⟨⟨h1,M⟩,h3⟩:=h
 split at h1
 ·rename_i t ht
  obtain⟨d,J⟩:=Option.isSome_iff_exists.1 h3
  exact⟨t,d,ht,Option.isNone_iff_eq_none.1 M,J⟩
 ·cases h1
theorem CF{o:Oper}{t d:Nat}(h1:o.op=.alloc t)(M:o.guard=none)(h3:o.dst=some d):Kh o=true:=by
 unfold Kh; rw[h1,M,h3]; rfl
theorem Fl{kd:Nat->Nat}:∀ {l:List Nat} {s sf:F×St} {i:Nat},Qf c n ops kd l s sf->i∈l->∃ s1 s2,ff c n ops i s1 s2 (kd i)
 | [],_,_,_,_,h=>by cases h
 | j::l,s,sf,i,⟨s1,h1,M⟩,h=>by
  rcases qA.1 h with rfl | h
  ·grind
  ·exact Fl M h
theorem KW{kd:Nat->Nat}{i t d:Nat}{o:Oper}(ho:ops[i]? = some o)(h1:o.op=.alloc t)(M:o.guard=none)(h3:o.dst=some d){s s':F×St}(h:ff c n ops i s s' (kd i)) :
  ∃ D,K9 c t=some D/\d<n/\s'=(dS s.1 (some d) (some (.ptr s.2.length 0)),s.2++[.var D]):=by
 obtain⟨o',ho',J,h⟩:=h
 rw[ho]at ho'
 cases ho'
 rw[h3]at J
 have wM:d<n:=X J
 have hw:jE ops s.1 o=some true:=by unfold jE; rw[M]
 rcases h with⟨_,_,D,ql,R,rfl⟩ | ⟨hw',_,_⟩
 ·have he:wP c (wA s.1) o=ot c t:=by
   obtain⟨dst,op,ty,pos,after,guard⟩:=o
   cases h1
   rfl
  rw[he]at R
  unfold ot at R
  split at R
  ·rename_i y hy
   simp only[qu,T.leads]at R
   grind
  ·exact absurd R zh
 ·grind
theorem Lu{es:List Em}{i k:Nat}{s s':F×St}(h:ff c n ops i s s' k)(J:∀ o,ops[i]? = some o->∀ e∈es,e.d ∉ tmpsOf ops o) :
  ff c n ops i (dY es s.1,s.2) (dY es s'.1,s'.2) k:=by
 obtain⟨o,ho,z5T,h⟩:=h
 have Te:=J o ho
 have zgo:∀ x:Option D,dS (dY es s.1) o.dst x=dY es (dS s.1 o.dst x):=by
  intro x
  cases hds:o.dst with
  | none=>rfl
  | some t =>
   funext u
   simp only[dS,dY]
   by_cases hu:u=t
   ·subst hu
    rw[if_pos rfl]
    rw[if_neg,if_pos rfl]
    intro hh
    obtain⟨e,he,I⟩:=zO.1 hh
    exact Te e he (by rw[E I]; exact dP hds)
   ·grind
 have lr:∀ x∈o.op.operands,wA (dY es s.1) x=wA s.1 x:=by
  intro x N
  cases x with
  | tmp t=>exact Uc λe he ht=>Te e he (ht▸Xf N)
  | _=>rfl
 have hw:jE ops (dY es s.1) o=jE ops s.1 o:=by
  unfold jE
  cases hg:o.guard with
  | none=>rfl
  | some jw =>
   obtain⟨j,w⟩:=jw
   simp only
   cases hs:bA ops j with
   | none=>rfl
   | some t =>
    simp only
    rw[Uc λe he ht=>Te e he (ht▸Xe hg hs)]
 refine⟨o,ho,z5T,?_⟩
 rcases h with⟨h1,M,d,ql,h3,rfl⟩ | ⟨h1,M,rfl⟩
 ·refine .inl ⟨hw.trans h1,?_,d,ql,?_,?_⟩
  ·rw[show wP c (wA (dY es s.1)) o=wP c (wA s.1) o from WX o lr]; exact M
  ·rw[show wP c (wA (dY es s.1)) o=wP c (wA s.1) o from WX o lr]; exact h3
  ·rw[zgo]
 ·grind
theorem SF{Z:KS}{a:Act}{i k:Nat}{s s':F×St}(hC:∀ g,Dp c.P g (c.fn g))(hI:Inv Z)(hR:Rel Z n s.1 a)(vX:Z.st=s.2)(h:ff c n ops i s s' k){K:Act->World->Prop}{Q:Exit->Act->World->Prop}
  (hK:∀ (a':Act) (Y:KS),Y.st=s'.2->Inv Y->Ext Z Y->Rel Y n s'.1 a'->pC ops a a'->(∀ u:Nat,(∀ o,ops[i]? = some o->o.dst≠some u)->a'.tmps[u]? = a.tmps[u]?)->K a' Y.w):wpOp c.P ops Q i K a Z.w:=by
 obtain⟨o,ho,J,h⟩:=h
 have hu:∀ (v:Value) (u:Nat),(∀ o,ops[i]? = some o->o.dst≠some u)->(a.put o.dst v).tmps[u]? = a.tmps[u]? := by
  intro v u hn
  have:=hn o ho
  cases hds:o.dst with
  | none=>rfl
  | some t =>
   rw[hds]at this
   have jZ:t≠u:=λe=>this (by rw[e])
   simp[qW,zH jZ]
 unfold wpOp
 rw[ho]
 simp only
 rcases h with⟨hw,_,d,ql,R,rfl⟩ | ⟨hw,_,rfl⟩
 ·rw[if_pos (Zf hR hw)]
  refine .inl (Fh hC hI hR (vX▸R) λv Y h1 M h3 h4=>hK _ Y h1 M h3 ((hR.mono h3).put J h4) (X6 ho) (hu v))
 ·rw[if_neg (by rw[Zf hR hw]; exact Bool.false_ne_true)]
  exact hK _ Z vX hI (Ext.refl Z) (hR.put J λd' ef=>by cases ef; exact z2Q (v:=undef)) (X6 ho) (hu undef)
def kd3(kd:Nat->Nat)(o:Oper)(i:Nat):Nat:=bif Kh o then 3 else kd i
def z55(ops:Array Oper)(kd:Nat->Nat)(p i:Nat):Prop:=∀ x y,ops[p]? = some x->ops[i]? = some y ->
 (∀ d,x.dst=some d->d ∉ tmpsOf ops y)/\(∀ d,y.dst=some d->d ∉ tmpsOf ops x)/\QK (kd3 kd x p) (kd3 kd y i)=false
theorem TL{k l:Nat}(hk:k<=2)(R:l<=2)(h:QK k l=false):bO k l=false:=by
 have h1:zU k 3=false:=ZW (O)
 have M:zU l 3=false:=ZW (O)
 simpa[QK,h1,M]using h
theorem z5i{k l:Nat}(R:l<=2)(h:QK 3 l=false):bO k l=false:=by
 have M:zU l 3=false:=ZW (O)
 have h3:bO 2 l=false:=by simpa[QK,M]using h
 have h0:l=0:=by
  match l,R,h3 with
  | 0,_,_=>rfl
  | 1,_,h3=>cases h3
  | 2,_,h3=>cases h3
 subst h0
 simp[bO]
theorem z5j{k l:Nat}(hk:k<=2)(h:QK k 3=false):bO k l=false:=by
 have M:zU k 3=false:=ZW (O)
 have h3:bO k 2=false:=by simpa[QK,M]using h
 have h0:k=0:=by
  match k,hk,h3 with
  | 0,_,_=>rfl
  | 1,_,h3=>cases h3
  | 2,_,h3=>cases h3
 subst h0
 simp[bO]
theorem Cy{kd:Nat->Nat}{p i:Nat}(h:z55 ops kd p i)(hp:kd p<=2)(hi:kd i<=2)(hn:¬ (rm ops p/\rm ops i)):Ind ops kd p i:=by
 intro x y N hy
 obtain⟨h1,M,h3⟩:=h x y N hy
 refine⟨h1,M,?_⟩
 unfold kd3 at h3
 cases hax:Kh x with
 | true =>
  cases hay:Kh y with
  | true=>exact(hn ⟨⟨x,N,hax⟩,y,hy,hay⟩).elim
  | false=>rw[hax,hay]at h3; exact z5i hi h3
 | false =>
  cases hay:Kh y with
  | true=>rw[hax,hay]at h3; exact z5j hp h3
  | false=>rw[hax,hay]at h3; exact TL hp hi h3
theorem least{es:List Em}(h:es≠[]):∃ e∈es,∀ f∈es,e.i<=f.i:=by
 induction es with
 | nil=>grind
 | cons e r ih =>
  by_cases hr:r=[]
  ·subst hr; exact⟨e,zK,λf hf=>xz⟩
  ·grind
def Dis(e f:Em):Prop:=e.i≠f.i/\e.blk≠f.blk/\e.d≠f.d
theorem Dis.symm{e f:Em}(h:Dis e f):Dis f e:=⟨h.1.symm,h.2.1.symm,h.2.2.symm⟩
theorem flush{kd:Nat->Nat}{κ0:KS}(dX:∀ p i,p<i->i<ops.size->ordered (vW ops.toList []) p i=true\/z55 ops kd p i)(mZ:∀ i,i<ops.size->kd i<=2)
  {listed:Array Bool} (Kx:WL ops listed) (ZK:∀ q,q<ops.size->rm ops q->listed.getD q true=true) {a:Act} {sf:F×St} :
  ∀ (m:Nat) (es:List Em) (wX:Array Bool) (Z:KS) (s:F×St),es.length=m->wX.size=ops.size->(∀ j,j<ops.size->wX.getD j true=true->listed.getD j true=true) ->
  (∀ j,j<ops.size->listed.getD j true=true->wX.getD j true=false->∃ e∈es,e.i=j)->(∀ e∈es,e.i<ops.size/\listed.getD e.i true=true/\wX.getD e.i true=false)->es.Pairwise Dis ->
  Inv Z->Rel Z n (dY es s.1) a->Z.st=s.2->Ext κ0 Z->(∀ e∈es,I4 c ops κ0 Z a e)->Qf c n ops kd (rest ops wX) s sf ->
  ∃ (Y:KS) (s':F×St),Y.w=Z.w/\Y.st=s'.2/\Inv Y/\Ext κ0 Y/\Rel Y n s'.1 a/\Qf c n ops kd (rest ops listed) s' sf:=by
 intro m
 induction m with
 | zero =>
  intro es wX Z s R _ h1 M _ _ hI hR vX N _ jL
  obtain rfl:es=[]:=zW R
  refine⟨Z,s,rfl,vX,hI,N,hR,?_⟩
  have:rest ops wX=rest ops listed:=by
   unfold rest
   refine List.filter_congr λi hi => ?_
   grind
  grind
 | succ m ih =>
  intro es wX Z s R bM h1 M h3 IU hI hR vX N hem jL
  obtain⟨e,he,zbL⟩:=least (es:=es) (λh=>by rw[h]at R; cases R)
  obtain⟨l1,l2,rfl⟩:=List.append_of_mem he
  obtain⟨hei,hel,hea⟩:=h3 e he
  have H4:∀ f,f∈l1++l2->f∈l1++e::l2:=λf hf=>by
   grind
  have z9M:∀ f,f∈l1++e::l2->f=e\/f∈l1++l2:=λf hf=>by
   rcases xA.1 hf with hf | hf
   ·exact .inr (List.mem_append_left _ hf)
   ·rcases qA.1 hf with rfl | hf
    ·exact .inl rfl
    ·exact .inr (List.mem_append_right _ hf)
  have hde:∀ f∈l1++l2,Dis e f:=by
   intro f hf
   rw[List.pairwise_append]at IU
   obtain⟨_,d2,d3⟩:=IU
   rcases xA.1 hf with hf | hf
   ·exact(d3 f hf e zK).symm
   ·exact(qE.1 d2).1 f hf
  have MQ:(l1++l2).Pairwise Dis:=IU.sublist (List.Sublist.append_left (List.sublist_cons_self e l2) l1)
  obtain⟨pre,post,g1,g2,g3⟩:=iu (p:=λi => !wX.getD i true) (q:=λj => !(wX.setIfInBounds e.i true).getD j true) (i:=e.i) (qF ops.size) zN
   (V.2 hei) (by simp[hea]) (λj=>by
    rw[cu (O)]
    by_cases h:j=e.i
    ·subst h; simp
    ·simp[h])
  have z0U:∀ p∈pre,Ind ops kd p e.i:=by
   intro p hp
   obtain⟨q1,q2,q3⟩:=g3 p hp
   have q2:=V.1 q2
   have hpa:wX.getD p true=false:=by simpa using q1
   have Yn:listed.getD p true=false:=by
    cases I:listed.getD p true with
    | false=>rfl
    | true =>
     obtain⟨f,hf,EB⟩:=M p q2 I hpa
     have:=zbL f hf
     omega
   have hna:¬ rm ops p:=λh=>by rw[ZK p q2 h]at Yn; cases Yn
   rcases dX p e.i q3 hei with h | h
   ·have:=Kx e.i hei hel p h q2
    rw[this]at Yn; cases Yn
   ·exact Cy h (mZ p q2) (mZ e.i hei) λhh=>hna hh.1
  have EH:Qf c n ops kd (pre++e.i::post) s sf:=by
   have:rest ops wX=pre++e.i::post:=g1
   rw[<- this]; exact jL
  obtain⟨s1,k1,k2⟩:=Gt z0U EH
  have hE:=hem e he
  obtain⟨o,o1,o2,o3,o4⟩:=hE.op
  obtain⟨D,d1,d2,rfl⟩:=KW o1 o2 o3 o4 k1
  obtain rfl:D=e.D:=Option.some.inj (d1.symm.trans hE.zero)
  obtain⟨iz,z1,z2,z3⟩:=hE.z
  obtain⟨p1,p2,p3⟩:=z8H hI N hE.nob hE.new (z3.rd Z) z3.eG z3.ty hE.heap
  have hup:=Pj hI e.blk e.z.cells.size e.D
  refine ih (l1++l2) (wX.setIfInBounds e.i true) (Z.push e.blk e.z.cells.size e.D) (dS s.1 (some e.d) (some (.ptr s.2.length 0)),s.2++[.var e.D]) (by simp at R ⊢; omega) (by simp[bM]) (λj hj ha => ?_) (λj hj I ha => ?_) (λf hf => ?_) MQ p1 ?_ (by show Z.st++_=s.2++_; rw[vX]) p2 (λf hf => ?_) ?_
  ·rw[cu (O)]at ha
   split at ha
   ·rename_i h; subst h; exact hel
   ·exact h1 j hj ha
  ·rw[cu (O)]at ha
   split at ha
   ·cases ha
   ·rename_i jZ
    obtain⟨f,hf,EB⟩:=M j hj I ha
    rcases z9M f hf with rfl | hf
    ·exact absurd EB.symm jZ
    ·exact⟨f,hf,EB⟩
  ·obtain⟨f1,f2,f3⟩:=h3 f (H4 f hf)
   refine⟨f1,f2,?_⟩
   rw[cu (O),if_neg (hde f hf).1.symm]
   exact f3
  ·refine⟨hR.size,hR.defers,λu d0 hu => ?_⟩
   obtain⟨u1,u2⟩:=Bh hu
   simp only[dS]at u1
   by_cases hue:u=e.d
   ·subst hue
    rw[if_pos rfl]at u1
    cases u1
    rw[<- vX]
    exact⟨_,hE.val,p3⟩
   ·rw[if_neg hue]at u1
    have:dY (l1++e::l2) s.1 u=some d0:=by
     rw[Uc λf hf hfu => ?_]
     ·exact u1
     ·rcases z9M f hf with rfl | hf
      ·exact hue hfu.symm
      ·exact u2 f hf hfu
    obtain⟨v,v1,v2⟩:=hR.get u d0 this
    exact⟨v,v1,v2.up hup⟩
  ·have hF:=hem f (H4 f hf)
   refine⟨hF.op,hF.zero,hF.z,hF.val,hF.heap,⟨hF.nob.lt,hF.nob.ok,λb m I => ?_⟩,hF.new⟩
   rcases W7 I with I | ⟨_,I⟩
   ·exact hF.nob.ph b m I
   ·exact(hde f hf).2.1 (congrArg Prod.fst (Option.some.inj I)).symm
  ·have:rest ops (wX.setIfInBounds e.i true)=pre++post:=g2
   rw[this]; exact k2
theorem z2U{listed:Array Bool}{i:Nat}(bM:listed.size=ops.size)(h1:i<ops.size)(M:listed.getD i true=false):(rest ops listed).length=(rest ops (listed.setIfInBounds i true)).length+1:=by
 obtain⟨pre,post,g1,g2,_⟩:=iu (p:=λi => !listed.getD i true) (q:=λj => !(listed.setIfInBounds i true).getD j true) (i:=i) (qF ops.size) zN
  (V.2 h1) (xz) (λj=>by
   rw[cu (O)]
   by_cases h:j=i
   ·grind
   ·simp[h])
 have e1:rest ops listed=pre++i::post:=g1
 have e2:rest ops (listed.setIfInBounds i true)=pre++post:=g2
 grind
theorem IA{listed:Array Bool}{i:Nat}(IW:fY ops.toList 0=true)(bM:listed.size=ops.size)(Kx:WL ops listed)(h1:i<ops.size)
  (h3:∀ o,ops[i]? = some o->∀ e∈o.after.toList,zZ .any e=true->listed.getD e.on false=true) :
  (∀ p,ordered (vW ops.toList []) p i=true->p<ops.size->listed.getD p true=true)/\WL ops (listed.setIfInBounds i true):=by
 have z0J:∀ p,ordered (vW ops.toList []) p i=true->p<ops.size->listed.getD p true=true:=by
  intro p hp wM
  obtain⟨r,_,_,I⟩:=Zm ops.toList []
  obtain⟨e,k1,k2,k3⟩:=I i ops[i] (qz) p (by simpa[ordered]using hp)
  have H3:=Zy ops.toList 0 IW i ops[i] (qz) e k1 k2
  have H0:listed.getD e.on true=true:=by
   grind
  rcases k3 with rfl | ⟨_,k3⟩
  ·exact H0
  ·exact Kx e.on (O) H0 p k3 wM
 refine⟨z0J,λq hq RR p hp wM => ?_⟩
 rw[cu (O)]at RR ⊢
 split
 ·rfl
 ·split at RR
  ·grind
  ·exact Kx q hq RR p hp wM
theorem D1{Z:KS}{a:Act}{es:List Em}{f:F}{e:Em}{v:Value}(hR:Rel Z n (dY es f) a):Rel Z n (dY (e::es) f) (a.put (some e.d) v):=by
 refine⟨by simp[qW,hR.size],hR.defers,λu d hu => ?_⟩
 obtain⟨u1,u2⟩:=Bh hu
 have jZ:e.d≠u:=u2 e zK
 have:dY es f u=some d:=by rw[Uc λg hg=>u2 g (zS _ hg)]; exact u1
 obtain⟨w,w1,w2⟩:=hR.get u d this
 exact⟨w,by simp[qW,zH jZ]; exact w1,w2⟩
theorem Vi{kd:Nat->Nat}{Q:Exit->Act->World->Prop}(hC:∀ g,Dp c.P g (c.fn g))(IW:fY ops.toList 0=true)
  (dX:∀ p i,p<i->i<ops.size->ordered (vW ops.toList []) p i=true\/z55 ops kd p i) (mZ:∀ i,i<ops.size->kd i<=2)
  (ZK:∀ p j,p<ops.size->rm ops p->j<ops.size->ordered (vW ops.toList []) p j=true->∀ q,q<ops.size->rm ops q->ordered (vW ops.toList []) q j=true)
  {κ0:KS} {a0:Act} {sf:F×St}:∀ (fuel:Nat) (listed wX:Array Bool) (es:List Em) {Z:KS} {a:Act} {s:F×St},
  listed.size=ops.size->wX.size=ops.size->fuel=(rest ops listed).length->WL ops listed->(∀ j,j<ops.size->wX.getD j true=true->listed.getD j true=true) ->
  (∀ j,j<ops.size->listed.getD j true=true->wX.getD j true=false->∃ e∈es,e.i=j)->(∀ e∈es,e.i<ops.size/\listed.getD e.i true=true/\wX.getD e.i true=false)->es.Pairwise Dis ->
  (∃ q,q<ops.size/\rm ops q/\listed.getD q true=false)->Inv Z->Rel Z n (dY es s.1) a->Z.st=s.2->Ext κ0 Z->(∀ e∈es,I4 c ops κ0 Z a e)->Qf c n ops kd (rest ops wX) s sf->pC ops a0 a ->
  (∀ (a':Act) (Y:KS),Y.st=sf.2->Inv Y->Ext κ0 Y->Rel Y n sf.1 a'->pC ops a0 a'->Q .normal a' Y.w)->wpAny c.P .any ops Q fuel listed a Z.w
 | 0,listed,wX,es,Z,a,s,bM,hszA,hfuel,Kx,h1,M,h3,IU,⟨q,q1,q2,q3⟩,hI,hR,vX,N,hem,jL,hkp,hQ=>by
  have hre:rest ops listed=[]:=zW hfuel.symm
  have:q∈rest ops listed:=by simp only[rest,zX,V,zL]; exact⟨q1,q3⟩
  grind
 | fuel+1,listed,wX,es,Z,a,s,bM,hszA,hfuel,Kx,h1,M,h3,IU,⟨q,q1,q2,q3⟩,hI,hR,vX,N,hem,jL,hkp,hQ=>by
  refine⟨λh => ?_,λi hi => ?_⟩
  ·have hre:=Gd IW bM h
   grind
  rw[Q4]at hi
  obtain⟨i1,i2,i3⟩:=hi
  obtain⟨z0J,RO⟩:=IA IW bM Kx i1 i3
  have IX:fuel=(rest ops (listed.setIfInBounds i true)).length:=by have:=z2U bM i1 i2; omega
  have hia:wX.getD i true=false:=by
   grind
  have z0Y:∀ p,p<ops.size->rm ops p->ordered (vW ops.toList []) p i=true->False:=by
   grind
  have nT:∀ j,(listed.setIfInBounds i true).getD j true=if j=i then true else listed.getD j true:=λj=>cu (O)
  by_cases Kd:rm ops i
  ·-- a new variable is laid
   obtain⟨o,ho,hao⟩:=Kd
   obtain⟨t,d,o1,o2,o3⟩:=S0 hao
   have him:i∈rest ops wX:=by simp only[rest,zX,V,zL]; exact⟨i1,hia⟩
   obtain⟨t1,t2,hos⟩:=Fl jL him
   obtain⟨D,d1,d2,_⟩:=KW ho o1 o2 o3 hos
   obtain⟨iz,z,z1,z2,z3⟩:=sn d1
   obtain⟨w1,w2,w3,w4⟩:=z5C hI (.cells z.cells t)
   let e:Em:=⟨i,d,Z.w.heap.size,t,z,D⟩
   have zgr:(execOp a.eval o).run c.P Z.w=.ok (.value (.pointer (some ⟨Z.w.heap.size,0,none⟩))) (Z.w.alloc (.cells z.cells t)):=by
    obtain⟨dst,op,ty,pos,after,guard⟩:=o
    cases o1
    simp[execOp,Instr.alloc,zeroValue,typeInfo,z1,z2,newVar,newRow]
   have zgC:qU o (yielded ops a.tmps)=true:=by unfold qU; rw[o2]
   unfold wpOp
   rw[ho]
   simp only
   rw[if_pos zgC]
   refine .inl ?_
   unfold Oper.wp
   rw[zgr]
   show wpAny c.P Region.Mode.any ops Q fuel (listed.setIfInBounds i true) (a.put o.dst (Value.pointer (some { block:=Z.w.heap.size,off:=0 }))) (Z.w.alloc (Obj.cells z.cells t))
   rw[o3]
   have jZ:∀ f∈es,f.d≠d:=by
    intro f hf hfd
    obtain⟨f1,f2,f3⟩:=h3 f hf
    obtain⟨fo,fo1,fo2,fo3,fo4⟩:=(hem f hf).op
    have EB:f.i≠i:=λh=>by rw[h,i2]at f2; cases f2
    rcases Nat.lt_or_gt_of_ne EB with wM | wM
    ·rcases dX f.i i wM i1 with h | h
     ·exact z0Y f.i f1 ⟨fo,fo1,CF fo2 fo3 fo4⟩ h
     ·exact(h fo o fo1 ho).1 f.d fo4 (hfd▸dP o3)
    ·rcases dX i f.i wM f1 with h | h
     ·have:=Kx f.i f1 f2 i h i1; rw[i2]at this; cases this
     ·exact(h o fo ho fo1).1 d o3 (hfd▸dP fo4)
   have znd:I4 c ops κ0 { Z with w:=Z.w.alloc (.cells z.cells t) } (a.put (some d) (.pointer (some ⟨Z.w.heap.size,0,none⟩))) e :=
    ⟨⟨o,ho,o1,o2,o3⟩,d1,⟨iz,z1,z2,z3⟩,by simp[e,qW,hR.size,d2],w4,w3,N.size⟩
   have zfU:∀ f∈e::es,I4 c ops κ0 { Z with w:=Z.w.alloc (.cells z.cells t) } (a.put (some d) (.pointer (some ⟨Z.w.heap.size,0,none⟩))) f:=by
    intro f hf
    rcases qA.1 hf with rfl | hf
    ·exact znd
    ·exact(hem f hf).mono w2 (by simp[qW,zH (λe'=>jZ f hf e'.symm)])
   have hR':Rel { Z with w:=Z.w.alloc (.cells z.cells t) } n (dY (e::es) s.1) (a.put (some d) (.pointer (some ⟨Z.w.heap.size,0,none⟩))):=D1 (e:=e) (hR.mono w2)
   have hdE:∀ f∈es,Dis e f:=by
    intro f hf
    unfold Dis
    refine⟨λh => ?_,λh => ?_,λh=>jZ f hf h.symm⟩
    ·have hf2:=(h3 f hf).2.1
     rw[<- h]at hf2
     have i2':listed.getD e.i true=false:=i2
     rw[i2']at hf2
     cases hf2
    ·have R:=(hem f hf).nob.lt
     rw[<- h]at R
     exact Nat.lt_irrefl _ R
   have MQ:(e::es).Pairwise Dis:=qE.2 ⟨hdE,IU⟩
   have zg4:pC ops a0 (a.put (some d) (.pointer (some ⟨Z.w.heap.size,0,none⟩))):=hkp.trans (by have:=X6 (a:=a) (v:=.pointer (some ⟨Z.w.heap.size,0,none⟩)) ho; rw[o3]at this; exact this)
   have GJ:∀ j,j<ops.size->wX.getD j true=true->(listed.setIfInBounds i true).getD j true=true:=λj hj ha=>by
    rw[nT]; split
    ·rfl
    ·exact h1 j hj ha
   have h2':∀ j,j<ops.size->(listed.setIfInBounds i true).getD j true=true->wX.getD j true=false->∃ f∈e::es,f.i=j:=λj hj I ha=>by
    rw[nT]at I
    split at I
    ·rename_i h; exact⟨e,zK,h.symm⟩
    ·obtain⟨f,hf,EB⟩:=M j hj I ha; exact⟨f,zS _ hf,EB⟩
   have h3':∀ f∈e::es,f.i<ops.size/\(listed.setIfInBounds i true).getD f.i true=true/\wX.getD f.i true=false:=λf hf=>by
    rcases qA.1 hf with rfl | hf
    ·exact⟨i1,by rw[nT]; exact if_pos rfl,hia⟩
    ·obtain⟨f1,f2,f3⟩:=h3 f hf
     exact⟨f1,by rw[nT]; split<;>first | rfl | exact f2,f3⟩
   by_cases hmore:∃ q,q<ops.size/\rm ops q/\(listed.setIfInBounds i true).getD q true=false
   ·exact Vi hC IW dX mZ ZK fuel (listed.setIfInBounds i true) wX (e::es) (Z:={ Z with w:=Z.w.alloc (.cells z.cells t) }) (by simp[bM]) hszA IX RO GJ h2' h3' MQ hmore w1 hR' vX (N.trans w2) zfU jL zg4 hQ
   ·-- all are laid
    have z9x:∀ q,q<ops.size->rm ops q->(listed.setIfInBounds i true).getD q true=true:=λq q1 q2=>by
     cases I:(listed.setIfInBounds i true).getD q true with
     | true=>rfl
     | false=>exact(hmore ⟨q,q1,q2,I⟩).elim
    obtain⟨Y,s',f1,f2,f3,f4,f5,f6⟩:=flush (c:=c) (n:=n) dX mZ RO z9x (e::es).length (e::es) wX { Z with w:=Z.w.alloc (.cells z.cells t) } s rfl hszA GJ h2' h3' MQ w1 hR' vX (N.trans w2) zfU jL
    have hgo:=G2 (Z:=Y) hC IW fuel (listed.setIfInBounds i true) (Q:=Q) (λp j hpj hj hp=>(dX p j hpj hj).elim .inl λh=>.inr (Cy h (mZ p (O)) (mZ j hj) λhh=>by
     rw[z9x p (O) hh.1]at hp; cases hp)) (by simp[bM]) IX RO f3 f5 f2 f6 λa' T4 e1 e2 e3 e4 e5=>hQ a' T4 e1 e2 (f4.trans e3) e4 (zg4.trans e5)
    rw[f1]at hgo
    exact hgo
  ·-- another operation
   have z9L:∀ o,ops[i]? = some o->∀ e∈es,e.d ∉ tmpsOf ops o:=by
    intro o ho f hf
    obtain⟨f1,f2,f3⟩:=h3 f hf
    obtain⟨fo,fo1,fo2,fo3,fo4⟩:=(hem f hf).op
    have EB:f.i≠i:=λh=>by rw[h,i2]at f2; cases f2
    rcases Nat.lt_or_gt_of_ne EB with wM | wM
    ·rcases dX f.i i wM i1 with h | h
     ·exact(z0Y f.i f1 ⟨fo,fo1,CF fo2 fo3 fo4⟩ h).elim
     ·exact(h fo o fo1 ho).1 f.d fo4
    ·rcases dX i f.i wM f1 with h | h
     ·have:=Kx f.i f1 f2 i h i1; rw[i2]at this; cases this
     ·exact(h o fo ho fo1).2.1 f.d fo4
   obtain⟨pre,post,g1,g2,g3⟩:=iu (p:=λi => !wX.getD i true) (q:=λj => !(wX.setIfInBounds i true).getD j true) (i:=i) (qF ops.size) zN
    (V.2 i1) (by simp[hia]) (λj=>by
     rw[cu (O)]
     by_cases h:j=i
     ·subst h; simp
     ·simp[h])
   have z0U:∀ p∈pre,Ind ops kd p i:=by
    intro p hp
    obtain⟨r1,r2,r3⟩:=g3 p hp
    have r2:=V.1 r2
    have r1:wX.getD p true=false:=by simpa using r1
    rcases dX p i r3 i1 with h | h
    ·obtain⟨f,hf,EB⟩:=M p r2 (z0J p h r2) r1
     obtain⟨fo,fo1,fo2,fo3,fo4⟩:=(hem f hf).op
     exact(z0Y p r2 ⟨fo,by rw[<- EB]; exact fo1,CF fo2 fo3 fo4⟩ h).elim
    ·exact Cy h (mZ p r2) (mZ i i1) λhh=>Kd hh.2
   have EH:Qf c n ops kd (pre++i::post) s sf:=by
    have:rest ops wX=pre++i::post:=g1
    rw[<- this]; exact jL
   obtain⟨s1,k1,k2⟩:=Gt z0U EH
   refine SF (s:=(dY es s.1,s.2)) (s':=(dY es s1.1,s1.2)) hC hI hR vX (Lu k1 z9L) λa1 κ1 e1 e2 e3 e4 e5 e6 => ?_
   have z14:∀ j,(wX.setIfInBounds i true).getD j true=if j=i then true else wX.getD j true:=λj=>cu (O)
   refine Vi hC IW dX mZ ZK fuel (listed.setIfInBounds i true) (wX.setIfInBounds i true) es (Z:=κ1) (s:=s1) (by simp[bM]) (by simp[hszA]) IX RO (λj hj ha => ?_) (λj hj I ha => ?_) (λf hf => ?_) IU
    ⟨q,q1,q2,?_⟩ e2 e4 e1 (N.trans e3) (λf hf=>(hem f hf).mono e3 (e6 f.d λo ho hod=>z9L o ho f hf (dP hod))) ?_ (hkp.trans e5) hQ
   ·rw[z14]at ha; rw[nT]
    split
    ·rfl
    ·rename_i h; rw[if_neg h]at ha; exact h1 j hj ha
   ·rw[z14]at ha; rw[nT]at I
    split at ha
    ·cases ha
    ·rename_i h; rw[if_neg h]at I; exact M j hj I ha
   ·obtain⟨f1,f2,f3⟩:=h3 f hf
    have EB:f.i≠i:=λh=>by rw[h,i2]at f2; cases f2
    exact⟨f1,by rw[nT,if_neg EB]; exact f2,by rw[z14,if_neg EB]; exact f3⟩
   ·have hqi:q≠i:=λh=>Kd (by rw[<- h]; exact q2)
    rw[nT,if_neg hqi]; exact q3
   ·have:rest ops (wX.setIfInBounds i true)=pre++post:=g2
    rw[this]; exact k2
theorem V0{kd:Nat->Nat}:∀ {l:List Oper} {ks:List Nat} {i j:Nat} {o:Oper},l[i]? = some o->ks[i]? = some (kd j)->(YB l ks)[i]? = some (kd3 kd o j)
 | [],_,i,_,_,h,_=>by simp at h
 | _::_,[],i,_,_,_,h=>by simp at h
 | x::l,k::ks,0,j,o,h1,M=>by simp at h1 M; subst h1; subst M; rfl
 | x::l,k::ks,i+1,j,o,h1,M=>by
  have:=V0 (kd:=kd) (l:=l) (ks:=ks) (i:=i) (j:=j) (o:=o) (xz) (xz)
  simpa[YB]using this
theorem Ht:∀ {l:List Oper} {k i:Nat} {o:Oper},l[i]? = some o->Kh o=true->k+i∈KV l k
 | [],_,_,_,h,_=>by simp at h
 | x::l,k,0,o,h1,M=>by simp at h1; subst h1; simp[KV,M]
 | x::l,k,i+1,o,h1,M=>by
  have:=Ht (l:=l) (k:=k+1) (i:=i) (o:=o) (xz) M
  simp only[KV]
  grind
theorem JY{kd:Nat->RK}:∀ (l:List Nat) (s s':F×St) (ks:List RK),Mp c n ops l s s' ks->ks=l.map kd->KR (λi s s'=>nD c n ops i s s' (kd i)) l s s'
 | [],s,s',ks,h,_=>h.1
 | i::l,s,s',ks,⟨s1,k,La,e,h1,M⟩,hk=>by
  subst e
  simp at hk
  obtain⟨rfl,hk⟩:=hk
  exact⟨s1,h1,JY l s1 s' La M hk⟩
theorem SO{Z:KS}{a:Act}{id:Nat}{draw:Bool}{fr:Fr}{kn:Kn}{s':om}(hm:c.P.follows .mixedOrders=true)(hC:∀ g,Dp c.P g (c.fn g))(hI:Inv Z)(hR:Rel Z n fr.get a)(hk:yC kn fr.get)
  (h:(pA c n ops draw fr kn Z.st).leads s') {Q:Exit->Act->World->Prop} (hQ:∀ (a':Act) (Y:KS),Y.st=s'.st->Inv Y->Ext Z Y->Rel Y n s'.fr.get a'->pC ops a a'->Q .normal a' Y.w) :
  (Code.region id ops draw).wp c.P Q a Z.w/\yC s'.kn s'.fr.get:=by
 simp only[pA,T.xg]at h
 obtain⟨s1,h1,M⟩:=h
 obtain⟨ks,g1,g2,g3⟩:=rR ops.toList 0 ⟨fr,kn,Z.st,[],[]⟩ s1 (λj=>.inl (qz)) hk h1
 simp only[List.append_nil]at g3
 have R:ops.toList.length=ops.size:=qz
 rw[R,<- xC]at g1
 cases J:(!draw||WW ops s1.ks.reverse s1.bk.reverse)with
 | false=>rw[J]at M; exact M.elim
 | true =>
  rw[J,cond_true]at M
  cases M
  refine⟨?_,g2⟩
  cases draw with
  | false=>exact wp_region (Pg hC _ hI hR rfl g1 hQ)
  | true =>
   simp only[Bool.not_true,Bool.false_or,WW,Bool.or_eq_true]at J
   obtain⟨rks,r1,r3⟩:=JZ (ops:=ops) ops.toList 0 ⟨fr,kn,Z.st,[],[]⟩ _ (λj=>.inl (qz)) hk h1
   simp only[List.append_nil]at r3
   rw[R,<- xC]at r1
   let kd:Nat->Nat:=λi=>ks.getD i 0
   have hkl:ks.length=ops.size:=by rw[Fk _ _ _ _ g1]; simp
   have hks:ks=(qF ops.size).map kd:=by
    apply List.ext_getElem?
    intro i
    grind
   have jL:=G3 (kd:=kd) _ _ _ _ g1 hks
   refine wp_region_any hm ?_
   let κd:KS:={ Z with w:=Z.w.drew }
   have N:Ext Z κd:=⟨rfl,rfl,rfl,qG _,λk hk=>⟨hk,rfl⟩,λk hk=>.inl hk,λ_ _ _ h=>.inl h,λb d h=>⟨⟨d,h⟩,rfl⟩,
    λb v0 e xs h=>.inr ⟨v0,xs,h,qG _,λ_=>⟨rfl,rfl⟩⟩,λ_ h=>h,qG _,λk _ _=>rfl⟩
   have hId:Inv κd:=⟨hI.len,hI.bN,hI.apart,hI.inj,λb y hy=>(hI.blk b y hy).mono N rfl λ_ _ _=>rfl,hI.gl.mono N.same⟩
   have X1:rest ops (qB ops.size false)=qF ops.size:=by
    unfold rest
    rw[List.filter_eq_self]
    intro i hi
    have:=V.1 hi
    simp[zY,this]
   have HP:∀ j,j<ops.size->(qB ops.size false).getD j true=false:=λj hj=>by simp[zY,hj]
   have z5L:WL ops (qB ops.size false):=λq hq RR=>by rw[HP q hq]at RR; cases RR
   have EF:∀ i,i<ops.size->ks[i]? = some (kd i):=λi hi=>by simp[kd,xF,zT (show i<ks.length by omega)]
   have JJ:∀ i (hi:i<ops.size),ops.toList[i]? = some ops[i]:=λi hi=>qz
   rcases J with(J | J) | J
   ·simp only[MH,zF]at J
    obtain⟨d1,d2⟩:=J
    rw[g3,qM]at d2
    have dX:∀ p i,p<i->i<ops.size->ordered (vW ops.toList []) p i=true\/Ind ops kd p i:=by
     intro p i Dv hi
     have hp:=Q0 ops.toList ks 0 [] d2 i ops[i] (kd i) (JJ i hi) (EF i hi)
     have:=hp.2 p ops[p] (kd p) Dv (JJ p (O)) (EF p (O))
     simp only[qO]at this
     refine rN this (λh=>h) λhap x y N hy => ?_
     rw[zP (O)]at N hy
     cases N
     cases hy
     exact hap
    exact G2 (Z:=κd) hC d1 ops.size _ (λp i h1 M _=>dX p i h1 M) (qz) (by rw[X1]; simp) z5L hId (hR.mono N) rfl (by rw[X1]; exact jL) λa' Y e1 e2 e3 e4 e5=>hQ a' Y e1 e2 (N.trans e3) e4 e5
   ·simp only[MI,zF]at J
    obtain⟨⟨⟨d1,d0⟩,d2⟩,d3⟩:=J
    rw[g3,qM]at d0 d2
    have mZ:∀ i,i<ops.size->kd i<=2:=λi hi=>X (zJ.1 d0 _ (xB (EF i hi)))
    have dX:∀ p i,p<i->i<ops.size->ordered (vW ops.toList []) p i=true\/z55 ops kd p i:=by
     intro p i Dv hi
     have hp:=Q0 ops.toList (YB ops.toList ks) 0 [] d2 i ops[i] (kd3 kd ops[i] i) (JJ i hi) (V0 (JJ i hi) (EF i hi))
     have:=hp.2 p ops[p] (kd3 kd ops[p] p) Dv (JJ p (O)) (V0 (JJ p (O)) (EF p (O)))
     simp only[qO]at this
     refine rN this (λh=>h) λhap x y N hy => ?_
     rw[zP (O)]at N hy
     cases N
     cases hy
     exact hap
    have ZK:∀ p j,p<ops.size->rm ops p->j<ops.size->ordered (vW ops.toList []) p j=true->∀ q,q<ops.size->rm ops q->ordered (vW ops.toList []) q j=true:=by
     intro p j hp hap hj ho q hq haq
     unfold DI at d3
     have:=zJ.1 d3 j (V.2 (by simpa using hj))
     simp only[Bool.or_eq_true,zL,qQ,zJ]at this
     have hm:∀ r,rm ops r->r∈KV ops.toList 0:=λr ⟨o,h1,M⟩=>by
      have:=Ht (l:=ops.toList) (k:=0) (i:=r) (o:=o) (by rw[qI]; exact h1) M
      rwa [qO]at this
     rcases this with h | h
     ·have:=h p (hm p hap); rw[ho]at this; exact absurd rfl this
     ·exact h q (hm q haq)
    by_cases hex:∃ q,q<ops.size/\rm ops q
    ·obtain⟨q,q1,q2⟩:=hex
     exact Vi (κ0:=κd) (Z:=κd) (a0:=a) hC d1 dX mZ ZK ops.size _ (qB ops.size false) [] (qz) (qz) (by rw[X1]; simp) z5L (λj hj h=>by rw[HP j hj]at h; cases h)
      (λj hj h _=>by rw[HP j hj]at h; cases h) (λe he=>by cases he) .nil ⟨q,q1,q2,HP q q1⟩ hId (hR.mono N) rfl (Ext.refl _) (λe he=>by cases he) (by rw[X1]; exact jL) (pC.refl _ _)
      λa' Y e1 e2 e3 e4 e5=>hQ a' Y e1 e2 (N.trans e3) e4 e5
    ·exact G2 (Z:=κd) hC d1 ops.size _ (λp i h1 M _=>(dX p i h1 M).elim .inl λh=>.inr (Cy h (mZ p (O)) (mZ i M) λhh=>hex ⟨p,O,hh.1⟩)) (qz) (by rw[X1]; simp) z5L hId (hR.mono N) rfl (by rw[X1]; exact jL) λa' Y e1 e2 e3 e4 e5=>hQ a' Y e1 e2 (N.trans e3) e4 e5
   ·simp only[MJ,zF]at J
    obtain⟨d1,d2⟩:=J
    rw[r3,qM]at d2
    let kr:Nat->RK:=λi=>rks.getD i (.z 0)
    have hrl:rks.length=ops.size:=by rw[Bo _ _ _ _ r1]; simp
    have znC:rks=(qF ops.size).map kr:=by
     apply List.ext_getElem?
     intro i
     by_cases hi:i<ops.size
     ·simp[kr,hi,xF,zT (show i<rks.length by omega)]
     ·rw[qJ (O),qJ (by simp; omega)]
    have z9P:∀ i,i<ops.size->rks[i]? = some (kr i):=λi hi=>by simp[kr,xF,zT (show i<rks.length by omega)]
    have zgs:=JY (kd:=kr) _ _ _ _ r1 znC
    have dX:∀ p i,p<i->i<ops.size->ordered (vW ops.toList []) p i=true\/zaE ops kr p i:=by
     intro p i Dv hi
     have hp:=Q0 ops.toList rks 0 [] d2 i ops[i] (kr i) (JJ i hi) (z9P i hi)
     have:=hp.2 p ops[p] (kr p) Dv (JJ p (O)) (z9P p (O))
     simp only[qO]at this
     refine rN this (λh=>h) λhap x y N hy => ?_
     rw[zP (O)]at N hy
     cases N
     cases hy
     exact hap
    exact Jn (Z:=κd) (Stp:=λi s s'=>nD c n ops i s s' (kr i)) (In:=λp i=>zaE ops kr p i) (λi s s' h=>h.plain) (λp i hi s s1 s2 h1 M=>LU hi h1 M) hC d1 ops.size _ (λp i h1 M _=>dX p i h1 M) (qz) (by rw[X1]; simp) z5L hId (hR.mono N) rfl (by rw[X1]; exact zgs) λa' Y e1 e2 e3 e4 e5=>hQ a' Y e1 e2 (N.trans e3) e4 e5
end
end Go.AM
namespace Go.AM
set_option linter.unusedSectionVars false
variable [yY] [Hp]
def DC(Z:KS):Ex->Exit->Prop
 | .normal,e=>e=.normal
 | .exit id,e=>e=.exit id
 | .ret,e=>e=.ret
 | .b9 d,e=>∃ v,e=.panic [{ v,recovered:=false }]/\RD Z d v
section
variable {c:Ctx} {n:Nat}
def u7:Code->List (Nat×Code)
 | .seq a b=>u7 a++u7 b
 | .cond _ a b=>u7 a++u7 b
 | .block id (.loop b)=>[(id,b)]
 | .block _ a=>u7 a
 | _=>[]
theorem SN{ops:Array Oper}{draw:Bool}{fr:Fr}{kn:Kn}{st:St}{s':om}(hk:yC kn fr.get)(h:(pA c n ops draw fr kn st).leads s'):yC s'.kn s'.fr.get:=by
 simp only[pA,T.xg]at h
 obtain⟨s1,h1,M⟩:=h
 obtain⟨ks,g1,g2,g3⟩:=rR ops.toList 0 ⟨fr,kn,st,[],[]⟩ s1 (λj=>.inl (qz)) hk h1
 cases J:(!draw||WW ops s1.ks.reverse s1.bk.reverse)with
 | false=>rw[J]at M; exact M.elim
 | true=>rw[J,cond_true]at M; cases M; exact g2
theorem nd(f:F):yC [] f:=by nofun
theorem EU{id:Nat}{b:Code}(I:∀ b',b≠.loop b'):u7 (.block id b)=u7 b:=by
 cases b<;>first | rfl | exact absurd rfl (I _)
end
end Go.AM
namespace Go.AM
set_option linter.unusedSectionVars false
variable [yY] [Hp]
section
variable {c:Ctx} {n:Nat}
theorem Hu:∀ (ds:List D) (i s:Nat),(yq ds i).get s=if i<=s then ds[s-i]? else none
 | [],i,s=>by simp[yq,Fr.get]
 | d::r,i,s=>by
  simp only[yq,Fr.get]
  by_cases h:i=s
  ·subst h; simp
  ·rw[ZW h,cond_false,Hu r (i+1) s]
   grind
theorem Ko{Z:KS}{args:List D}{xb:List Value}(h:wN Z args xb)(hn:args.length<=n) :
  Rel Z n (yq args 0).get { tmps:=xb.toArray++qB (n-xb.toArray.size) undef,defers:=Hp.df }:=by
 have R:=h.1
 refine⟨xz,rfl,λs d J => ?_⟩
 rw[Hu]at J
 obtain⟨v,h1,M⟩:=h.get J
 grind
theorem Vn{Z:KS}{fr:Fr}{a:Act}(hI:Inv Z)(hR:Rel Z n fr.get a):∀ (rvs:List ResultVar) (ds:List D),(np c fr Z.st rvs).leads ds ->
  ∃ vs:List Value,Sem.run c.P (rvs.mapM λr=>match r with | ResultVar.tmp t=>(xG (a.tmps.getD t undef):Sem Value) | ResultVar.cell p t=>do loadVar t (<- asAddr (a.tmps.getD p undef))) Z.w=Result.ok vs Z.w/\wN Z ds vs
 | [],ds,h=>by cases h; exact⟨[],qz,.nil⟩
 | .tmp t::r,ds,h=>by
  simp only[np]at h
  split at h
  ·rename_i d J
   simp only[T.xg]at h
   obtain⟨l,R,rfl⟩:=h
   obtain⟨v,h1,M⟩:=hR.get t d J
   obtain⟨vs,h3,h4⟩:=Vn hI hR r l R
   refine⟨v::vs,?_,.cons M h4⟩
   simp only[List.mapM_cons,qZ,xD,qT,h3]
   simp[h1]
  ·exact h.elim
 | .cell p t::r,ds,h=>by
  simp only[np]at h
  split at h
  ·rename_i b off J
   split at h
   ·rename_i d I
    cases Kf:d.Yt with
    | true=>rw[Kf]at h; exact h.elim
    | false =>
    rw[Kf,cond_false]at h
    split at h
    ·rename_i x N
     simp only[T.xg]at h
     obtain⟨l,R,rfl⟩:=h
     obtain⟨v,h1,M⟩:=hR.get p _ J
     obtain⟨vs,h3,h4⟩:=Vn hI hR r l R
     cases M with
     | ptr _ _ blk m d1 hd1 hp =>
      obtain⟨pE,n',cs,T,g1,g2,g3,g4,g5⟩:=(hI.blk b _ I:kR Z b d).cells Kf
      rw[hp]at g1
      cases g1
      obtain⟨u,e1,e2⟩:=YK (c:=c) (blk:=blk) 0 N g4 g5.1 (λj v hj=>by rw[XX g2]; simpa using hj)
      rw[qO]at e1
      refine⟨u::vs,?_,.cons e2 h4⟩
      have hA:(asAddr (a.tmps.getD p undef)).run c.P Z.w=.ok ⟨blk,off,none⟩ Z.w:=by simp[h1,asAddr]
      simp only[List.mapM_cons,qZ,hA,qT,e1,h3,xD]
    ·exact h.elim
   ·exact h.elim
  ·exact h.elim
def z2J:List Value->Value
 | [v]=>v
 | vs=>.tuple vs.toArray
theorem UD{Z:KS}{fr:Fr}{a:Act}{fn:Func}{ds:List D}(hI:Inv Z)(hR:Rel Z n fr.get a)(h:(np c fr Z.st fn.results.toList).leads ds) :
  ∃ vs:List Value,(results fn a.tmps).run c.P Z.w=.ok (z2J vs) Z.w/\wN Z ds vs:=by
 obtain⟨vs,h1,M⟩:=Vn hI hR _ _ h
 simp only[results,Array.mapM_eq_mapM_toList,qZ,Sem.run_map]
 have key:∀ r:Result (List Value),r=.ok vs Z.w->((r.andThen λa w'=>.ok a.toArray w').andThen λa w'=>(xG (if h:a.size=1 then a[0]else .tuple a):Sem Value).run c.P w')=.ok (z2J vs) Z.w:=by
  rintro _ rfl
  match vs with
  | []=>rfl
  | [v]=>rfl
  | _::_::_=>rfl
 grind
theorem G7{Z:KS}{ds:List D}{vs:List Value}(h:wN Z ds vs):RD Z (eO ds) (z2J vs):=by
 match ds,vs,h with
 | [],vs,h=>rw[h.we]; exact .eG [] [] rfl (λi h=>absurd h (qN i))
 | [d],vs,h =>
  obtain⟨v,r,rfl,h1,M⟩:=h.cons_inv
  rw[M.we]
  exact h1
 | d::e::r,vs,h =>
  obtain⟨v,us,rfl,h1,M⟩:=h.cons_inv
  obtain⟨u,ws,rfl,h3,h4⟩:=M.cons_inv
  exact .eG _ _ h.1 h.2
def KS.cut(Z:KS)(m:Nat):KS:={ Z with ph:=Z.ph.take m,st:=Z.st.take m }
theorem xr{α:Type}{l:List α}{m i:Nat}{a:α}(h:l[i]? = some a)(hi:i<m):(l.take m)[i]? = some a:=xz
theorem l8{α:Type}{l:List α}{m i:Nat}{a:α}(h:(l.take m)[i]? = some a):l[i]? = some a/\i<m:=xz
theorem mK{Z:KS}{m:Nat}{d:D}{v:Value}(h:RD Z d v)(J:ya m d=true):RD (Z.cut m) d v:=by
 cases h with
 | qi τ y cs h=>exact .qi τ y cs h
 | so e l b v h ht hf=>exact .so e l b v h ht hf
 | vy e a=>exact .vy e a
 | tight e l ne blk off f jZ j3 h hc=>exact .tight e l ne blk off f jZ j3 h hc
 | wF=>exact .wF
 | gX=>exact .gX
 | v8=>exact .v8
 | gj=>exact .gj
 | uT=>exact .uT
 | WI v h=>exact .WI v h
 | mP T=>exact .mP T
 | yL b blk n d I h=>exact .yL b blk n d (xr I (X J)) (xr h (X J))
 | nk b T d I=>exact .nk b T d (xr I (X J))
 | nn b T blk n d I h=>exact .nn b T blk n d (xr I (X J)) (xr h (X J))
 | ptr b off blk n d I h=>exact .ptr b off blk n d (xr I (X J)) (xr h (X J))
 | vz τ y cs blk off j3 h hc=>exact .vz τ y cs blk off j3 h hc
 | gJ b vi e idx off blk o I h =>
  have wM:b<m:=X J
  refine .gJ b vi e idx off blk o (rN I (λh=>xr h wM) ?_) λxs N hi => ?_
  ·rintro⟨v0,e0,x0,h1,M⟩; exact⟨v0,e0,x0,xr h1 wM,M⟩
  ·obtain⟨n,h1,M⟩:=h xs (l8 N).1 hi
   exact⟨n,xr h1 wM,M⟩
 | ms b vi e off len cap a I jg ha Ws h =>
  have wM:b<m:=X J
  refine .ms b vi e off len cap a (rN I (λh=>xr h wM) ?_) jg ha Ws λxs N => ?_
  ·rintro⟨v0,e0,x0,h1,M⟩; exact⟨v0,e0,x0,xr h1 wM,M⟩
  ·obtain⟨h1,M⟩:=h xs (l8 N).1
   refine⟨h1,rN M ?_ ?_⟩
   ·rintro⟨g1,g2,g3,g4⟩; exact⟨g1,g2,g3,xr g4 wM⟩
   ·rintro⟨blk,n,o,VH,g1,g2⟩; exact⟨blk,n,o,VH,xr g1 wM,g2⟩
 | wi=>cases J
 | agg=>cases J
 | eG=>cases J
 | iface=>cases J
theorem LC{Z:KS}{m:Nat}{d:D}{v:Value}(h:RD Z d v)(J:fK m d=true):RD (Z.cut m) d v:=by
 cases d with
 | wi f l =>
  cases h with
  | wi _ _ vs R hh =>
   simp only[fK,zJ]at J
   exact .wi f l vs R λi h1 M=>mK (hh i h1 M) (J _ (qV h1))
 | agg l =>
  cases h with
  | agg _ vs R ho hh =>
   simp only[fK,zJ]at J
   exact .agg l vs R ho λi h1 M=>mK (hh i h1 M) (J _ (qV h1))
 | eG l=>cases J
 | iface t d =>
  cases h with
  | iface _ _ v h=>exact .iface t _ v (mK h J)
 | _=>exact mK h J
theorem Po{Z:KS}{m:Nat}{l:List D}{vs:List Value}(h:wN Z l vs)(J:∀ d∈l,fK m d=true):wN (Z.cut m) l vs:=⟨h.1,λi h1 M=>LC (h.2 i h1 M) (J _ (qV h1))⟩
theorem C8{m:Nat}{d:D}(h:fK m d=true):∀ x∈xy d,fK m x=true:=by
 have JI:∀ (τ:Ty) (x:den τ),∀ y∈flat τ x,fK m y=true:=by
  intro τ x y hy
  have:∃ σ z,y=.qi σ z:=by
   induction τ with
   | cons a b ia ib =>
    simp only[flat]at hy
    grind
   | nil=>simp[flat]at hy
   | expr=>simp[flat]at hy; rcases hy with rfl | rfl | rfl | rfl | rfl | rfl<;>exact⟨_,_,rfl⟩
   | _=>simp[flat]at hy; subst hy; exact⟨_,_,rfl⟩
  obtain⟨σ,z,rfl⟩:=this
  rfl
 cases d with
 | qi τ x=>exact JI τ x
 | agg l =>
  intro x N
  simp only[fK,zJ]at h
  have:=h x N
  cases x<;>first | exact this | cases this
 | eG l=>cases h
 | Bm l=>intro x N; cases N
 | _=>intro x N; simp[xy]at N; subst N; exact h
theorem z5k{Z:KS}{m:Nat}(hI:Inv Z)(hc:∀ x∈Z.st.take m,C7 m x=true):Inv (Z.cut m):=by
 refine⟨by simp[KS.cut,hI.len],hI.bN,λb blk n h=>hI.apart b blk n (l8 h).1,λb b' blk n n' h h'=>hI.inj b b' blk n n' (l8 h).1 (l8 h').1,λb x h => ?_,hI.gl⟩
 obtain⟨h1,M⟩:=l8 h
 have I:=hI.blk b x h1
 have hcx:=hc x (xB h)
 cases x with
 | dead=>trivial
 | var d =>
  refine kR.elim I (λhm ⟨blk,n,cs,t,g1,g2,g3,g4,g5⟩=>.mk hm ⟨blk,n,cs,t,xr g1 M,g2,g3,Po g4 (C8 hcx),g5⟩) λl e ⟨blk,o,g1,g2⟩ => ?_
  subst e
  exact⟨blk,o,xr g1 M,g2⟩
 | arr vi e xs =>
  obtain⟨h0,I⟩:=I
  refine⟨h0,rN I (λh=>⟨h.1,xr h.2 M⟩) ?_⟩
  rintro⟨blk,n,cs,t,g1,g2⟩
  exact⟨blk,n,cs,t,xr g1 M,g2⟩
end
end Go.AM
namespace Go.AM
set_option linter.unusedSectionVars false
variable [yY]
section
variable {c:Ctx}
theorem uS{P:Program}{f:Nat}{fn:Func}{args:Array Value}(hf:P.funcs[f]? = some fn) (hn:(fn.name == "runtime.NumGoroutine")=false) (I:fn.body.isNone=false) (w:World) :
  (callFunc f args).run P w=.ok (.enter f args) w:=by
 simp only[callFunc,qZ,run_program,qT,hf,hn,I,Bool.false_eq_true,if_false,xD]
theorem SK{Z κe:KS}(hI:Inv Z)(vX:Z.st=[])(hIe:Inv κe)(N:Ext Z κe):Inv (κe.bare (Th κe))/\Ext Z (κe.bare (Th κe)):=by
 have wM:∀ k,Th κe k->k<κe.w.heap.size:=by
  rintro k (hk | ⟨b,n,hk⟩)
  ·exact hIe.bN k hk
  ·exact(hIe.apart b k n hk).1
 refine⟨Y0 hIe (λ_ h=>.inl h) wM,N.os,N.tape,N.output,N.size,λk hk=>⟨.inl (N.same k hk).1,(N.same k hk).2⟩,?_,λb blk n h=>by simp[KS.bare]at h,λb d h=>xz,
  λb v0 e xs h=>xz,λb h=>xz,xz,N.frame⟩
 rintro k (hk | ⟨b,n,hk⟩)
 ·exact N.fresh k hk
 ·rcases N.phs b k n hk with h | h
  ·grind
  ·grind
end
end Go.AM
namespace Go.AM
set_option linter.unusedSectionVars false
variable [yY] [Hp]
open Go.RowKit
def z5v(s:Nat)(fr:Fr)(st:St):T (Fr×St):=match fr.get s with
 | some (.ms b vi e off len)=>match st[b]? with
  | some (.arr dF e' xs)=>match(jP (a:=.sl e') (b:=.sl e) xs:Option (List (den e)))with
   | some ys=>.W (vi=dF) (.ret ((s,some (.qi (.sl e) ((ys.take (off+len)).drop off)))::fr,st.set b .dead))
   | none=>.fail
  | _=>.fail
 | _=>.ret (fr,st)
def z5x(j i:Nat)(fr:Fr)(st:St):T (Fr×St):=match st[j]? with
 | some (.var (.agg ds))=>match ds[i]? with
  | some (.ms b vi e off len)=>match st[b]? with
   | some (.arr dF e' xs)=>match(jP (a:=.sl e') (b:=.sl e) xs:Option (List (den e)))with
    | some ys=>.W (vi=dF) (.ret (fr,(st.set b .dead).set j (.var (.agg (ds.set i (.qi (.sl e) ((ys.take (off+len)).drop off)))))))
    | none=>.fail
   | _=>.fail
  | _=>.ret (fr,st)
 | _=>.ret (fr,st)
def z5z(s:Nat)(fr:Fr)(st:St):T (Fr×St):=bif Nat.ble 1000000 s then z5x ((s-1000000) / 1000) ((s-1000000) % 1000) fr st else z5v s fr st
def frz:List Nat->Fr->St->T (Fr×St)
 | [],fr,st=>.ret (fr,st)
 | s::r,fr,st=>(z5z s fr st).bind λx=>frz r x.1 x.2
section
variable {c:Ctx} {Z:KS} {n:Nat}
theorem zh0{b vi off len:Nat}{e:Ty}{xs:List (den e)}{v:Value}(hI:Inv Z)(h:RD Z (.ms b vi e off len) v)(I:Z.st[b]? = some (.arr vi e xs)){JV:Nat->Prop}(h1:∀ k,Z.ok k->JV k)(M:∀ k n,Z.ph[b]? = some (some (k,n))->JV k) :
  Rc Z.w JV (.sl e) ((xs.take (off+len)).drop off) [v]:=by
 obtain⟨Cv,_⟩:=LP hI h I
 obtain⟨a,cap,f,hve,jg,hn,g1,g2⟩:=Cv.ex
 have z0K:∀ blk o:Nat,v=.slice (some ⟨blk,o,none⟩) ((xs.take (off+len)).drop off).length cap->JV blk:=by
  intro blk o he
  cases h with
  | ms _ _ _ _ _ VH a' hold zfM ha Ws hm =>
   obtain⟨_,hm⟩:=hm xs I
   grind
 rw[hve]
 cases a with
 | none=>obtain⟨k1,k2⟩:=hn rfl; rw[k1,k2]; exact .lA e none
 | some p =>
  rcases g2 p rfl with⟨k1,k2⟩ | ⟨hp,_,hc⟩
  ·rw[k1,k2]; exact .lA e _
  ·obtain⟨blk,o,sp⟩:=p
   subst hp
   exact .sl e _ blk o cap f (z0K blk o hve) jg (λi hi=>(g1 i hi).mono λk hk=>⟨h1 k hk,rfl⟩) hc
theorem N3{b vi:Nat}{e:Ty}{xs:List (den e)}(I:Z.st[b]? = some (.arr vi e xs))(hI:Inv Z):∃ Y:KS,Y.w=Z.w/\Y.st=Z.st.set b .dead/\Inv Y/\Ext Z Y /\
  ∀ (off len:Nat) (v:Value),RD Z (.ms b vi e off len) v->RD Y (.qi (.sl e) ((xs.take (off+len)).drop off)) v:=by
 have wM:b<Z.st.length:=(zQ.1 I).1
 let Y:KS:=⟨Z.w,λk=>Z.ok k\/∃ n,Z.ph[b]? = some (some (k,n)),Z.ph.set b none,Z.st.set b .dead⟩
 have vX:∀ i,i≠b->Y.st[i]? = Z.st[i]? := λi hi=>by show(Z.st.set b .dead)[i]? = _; rw[zE (λe=>hi e.symm)]
 have GL:∀ i,i≠b->Y.ph[i]? = Z.ph[i]? := λi hi=>by show(Z.ph.set b none)[i]? = _; rw[zE (λe=>hi e.symm)]
 have z68:∀ (i blk m:Nat),Y.ph[i]? = some (some (blk,m))->i≠b/\Z.ph[i]? = some (some (blk,m)):=by
  grind
 have N:Ext Z Y:=by
  refine⟨rfl,rfl,rfl,qG _,λk hk=>⟨.inl hk,rfl⟩,?_,λi blk m hi=>.inl (z68 i blk m hi).2,?_,?_,?_,by show _<=(Z.st.set b .dead).length; simp,λ_ _ _=>rfl⟩
  ·grind
  ·grind
  ·grind
  ·grind
 have hI':Inv Y:=by
  refine⟨by show(Z.ph.set b none).length=(Z.st.set b .dead).length; simp[hI.len],?_,?_,?_,?_,hI.gl.mono N.same⟩
  ·rintro k (hk | ⟨m,hk⟩)
   ·exact hI.bN k hk
   ·exact(hI.apart b k m hk).1
  ·intro i blk m hi
   obtain⟨hib,Ky⟩:=z68 i blk m hi
   obtain⟨g1,g2⟩:=hI.apart i blk m Ky
   refine⟨g1,?_⟩
   rintro(hk | ⟨m',hk⟩)
   ·exact g2 hk
   ·exact hib (hI.inj i b blk m m' Ky hk)
  ·intro i i' blk m m' hi Ky
   exact hI.inj i i' blk m m' (z68 i blk m hi).2 (z68 i' blk m' Ky).2
  ·intro i zA hB
   by_cases hib:i=b
   ·subst hib
    have:(Z.st.set i .dead)[i]? = some zA:=hB
    rw[qX wM]at this
    cases this
    trivial
   ·rw[vX i hib]at hB
    exact(hI.blk i zA hB).mono N (GL i hib) λ_ _ _=>rfl
 exact⟨Y,rfl,rfl,hI',N,λoff len v J=>RD.tY rfl (zh0 hI J I (λk hk=>.inl hk) λk m hk=>.inr ⟨m,hk⟩)⟩
theorem z5w{s:Nat}{fr:Fr}{a:Act}{r:Fr×St}(h:(z5v s fr Z.st).leads r)(hI:Inv Z)(hR:Rel Z n fr.get a):∃ Y:KS,Y.w=Z.w/\Y.st=r.2/\Inv Y/\Ext Z Y/\Rel Y n r.1.get a:=by
 unfold z5v at h
 split at h
 ·rename_i b vi e off len hs
  split at h
  ·rename_i dF e' xs I
   split at h
   ·rename_i ys hy
    obtain⟨he,N⟩:=wg hy
    obtain⟨rfl,h⟩:=h
    cases h
    obtain⟨v,hv,J⟩:=hR.get s _ hs
    obtain⟨Y,e1,e2,hI',N,hk⟩:=N3 I hI
    refine⟨Y,e1,e2,hI',N,hR.size,hR.defers,λt d ef => ?_⟩
    simp only[Fr.get]at ef
    cases ht:zU s t with
    | true =>
     rw[<- E ht]
     grind
    | false =>
     rw[ht,cond_false]at ef
     obtain⟨u,g1,g2⟩:=hR.get t d ef
     exact⟨u,g1,g2.mono N⟩
   ·exact h.elim
  ·exact h.elim
 ·cases h; exact⟨Z,rfl,rfl,hI,Ext.refl Z,hR⟩
theorem RB{ds:List D}{i b vi off len:Nat}{e:Ty}{d':D}(J:ds[i]? = some (.ms b vi e off len))(hn:l9 [d']=none){T:Nat}(h:l9 (ds.set i d')=some T):l9 ds=some T:=by
 cases ds with
 | nil=>cases J
 | cons x r =>
  cases i with
  | zero =>
   have:l9 (d'::r)=l9 [d']:=by cases d'<;>rfl
   grind
  | succ i =>
   have:∀ r':List D,l9 (x::r')=l9 [x]:=by intro r'; cases x<;>rfl
   grind
theorem z5y{j i:Nat}{fr:Fr}{a:Act}{r:Fr×St}(h:(z5x j i fr Z.st).leads r)(hI:Inv Z)(hR:Rel Z n fr.get a):∃ Y:KS,Y.w=Z.w/\Y.st=r.2/\Inv Y/\Ext Z Y/\Rel Y n r.1.get a:=by
 unfold z5x at h
 split at h
 ·rename_i ds hj
  split at h
  ·rename_i b vi e off len hi
   split at h
   ·rename_i dF e' xs I
    split at h
    ·rename_i ys hy
     obtain⟨he,N⟩:=wg hy
     cases he
     cases N
     obtain⟨rfl,h⟩:=h
     cases h
     obtain⟨κ1,e1,e2,Vz,hx1,hk⟩:=N3 I hI
     have hjb:j≠b:=λq=>by subst q; rw[I]at hj; cases hj
     have hj1:κ1.st[j]? = some (.var (.agg ds)):=by rw[e2,zE (λq=>hjb q.symm)]; exact hj
     have Tc:j<κ1.st.length:=(zQ.1 hj1).1
     let d':D:=.qi (.sl e) ((xs.take (off+len)).drop off)
     let κ2:KS:={ κ1 with st:=κ1.st.set j (.var (.agg (ds.set i d'))) }
     have vX:∀ k,k≠j->κ2.st[k]? = κ1.st[k]? := λk hk=>by show(κ1.st.set j _)[k]? = _; rw[zE (λq=>hk q.symm)]
     have znF:κ2.st[j]? = some (.var (.agg (ds.set i d'))):=by show(κ1.st.set j _)[j]? = _; rw[qX Tc]
     have MV:Ext κ1 κ2:=by
      refine⟨rfl,rfl,rfl,qG _,λk hk=>⟨hk,rfl⟩,λk hk=>.inl hk,λk blk m hk=>.inl hk,?_,?_,?_,by show _<=(κ1.st.set j _).length; simp,λ_ _ _=>rfl⟩
      ·grind
      ·grind
      ·grind
     have hI2:Inv κ2:=by
      refine⟨by show κ1.ph.length=(κ1.st.set j _).length; simp[Vz.len],Vz.bN,Vz.apart,Vz.inj,?_,Vz.gl⟩
      intro k zA hB
      by_cases q:k=j
      ·subst q
       rw[znF]at hB
       cases hB
       obtain⟨blk,m,cs,t,g1,g2,g3,g4,g5,g6⟩:=hI.blk k _ hj
       obtain⟨pE,m',my,t',p1,p2,p3,p4,p5,p6⟩:=Vz.blk k _ hj1
       have GL:κ1.ph[k]? = Z.ph[k]? := (hx1.var k _ hj).2
       rw[GL,g1]at p1
       cases p1
       rw[e1,g2]at p2
       cases p2
       refine⟨blk,m,cs,t,GL.trans g1,by show κ1.w.heap[blk]? = _; rw[e1]; exact g2,g3,?_,?_,λT hT=>g6 T (RB hi rfl hT)⟩
       ·have p4':wN κ2 ds cs.toList:=wN.mono MV p4
        refine⟨by show(ds.set i d').length=_; rw[List.length_set]; exact p4'.1,λk' h1 M => ?_⟩
        have GJ:k'<(ds.set i d').length:=h1
        rw[List.length_set]at GJ
        show RD κ2 ((ds.set i d')[k']) _
        by_cases q:i=k'
        ·subst q
         have hdi:ds[i]'GJ=.ms b vi e off len:=Option.some.inj ((zT GJ).symm.trans hi)
         have:=g4.2 i GJ M
         have EB:(xy (D.agg ds))[i]'GJ=.ms b vi e off len:=hdi
         rw[EB]at this
         have e3:(ds.set i d')[i]'h1=d':=List.getElem_set_self _
         rw[e3]
         exact(hk _ _ _ this).mono MV
        ·have e3:(ds.set i d')[k']'h1=ds[k']'GJ:=List.getElem_set_ne q _
         rw[e3]
         exact p4'.2 k' GJ M
       ·intro x N
        rcases List.mem_or_eq_of_mem_set N with N | rfl
        ·exact g5 x N
        ·rfl
      ·rw[vX k q]at hB
       exact(Vz.blk k zA hB).mono MV rfl λ_ _ _=>rfl
     refine⟨κ2,e1,by show κ1.st.set j _=_; rw[e2],hI2,hx1.trans MV,hR.size,hR.defers,λt d ef => ?_⟩
     obtain⟨u,q1,q2⟩:=hR.get t d ef
     exact⟨u,q1,(q2.mono hx1).mono MV⟩
    ·exact h.elim
   ·exact h.elim
  ·cases h; exact⟨Z,rfl,rfl,hI,Ext.refl Z,hR⟩
 ·cases h; exact⟨Z,rfl,rfl,hI,Ext.refl Z,hR⟩
theorem z5A{s:Nat}{fr:Fr}{a:Act}{r:Fr×St}(h:(z5z s fr Z.st).leads r)(hI:Inv Z)(hR:Rel Z n fr.get a):∃ Y:KS,Y.w=Z.w/\Y.st=r.2/\Inv Y/\Ext Z Y/\Rel Y n r.1.get a:=by
 unfold z5z at h
 cases I:Nat.ble 1000000 s with
 | true=>rw[I,cond_true]at h; exact z5y h hI hR
 | false=>rw[I,cond_false]at h; exact z5w h hI hR
theorem z0d:∀ (l:List Nat) {fr:Fr} {Z:KS} {a:Act} {r:Fr×St},(frz l fr Z.st).leads r->Inv Z->Rel Z n fr.get a->∃ Y:KS,Y.w=Z.w/\Y.st=r.2/\Inv Y/\Ext Z Y/\Rel Y n r.1.get a
 | [],fr,Z,a,r,h,hI,hR=>by cases h; exact⟨Z,rfl,rfl,hI,Ext.refl Z,hR⟩
 | s::l,fr,Z,a,r,h,hI,hR=>by
  simp only[frz,T.xg]at h
  obtain⟨x,h1,M⟩:=h
  obtain⟨κ1,e1,e2,e3,e4,e5⟩:=z5A h1 hI hR
  rw[<- e2]at M
  obtain⟨κ2,g1,g2,g3,g4,g5⟩:=z0d l M e3 e5
  exact⟨κ2,g1.trans e1,g2,g3,e4.trans g4,g5⟩
end
end Go.AM