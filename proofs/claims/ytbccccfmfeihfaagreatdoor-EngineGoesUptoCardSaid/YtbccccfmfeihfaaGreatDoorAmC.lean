/-
  The abstract machine, part C: texts of our own, the same for each claim.
-/
import Derived.Test.YtbccccfmfeihfaaGreatDoorAmB
import Derived.Deep.LoopGhost
set_option linter.unusedVariables false
open Go.Op renaming operands -> zA
open Nat renaming eq_of_beq_eq_true -> Y, le_of_ble_eq_true -> M, beq -> zU, le_antisymm -> qC, le_refl -> qG, lt_or_ge -> qH, blt -> qL, not_lt_zero -> qN, zero_add -> qO, testBit -> qS
open List renaming mem_range -> U, getElem?_set_ne -> zE, getElem?_append_left -> zI, all_eq_true -> zJ, mem_cons_self -> zK, map_congr_left -> zM, pairwise_lt_range -> zN, any_eq_true -> zO, getElem?_eq_some_iff -> zQ, mem_cons_of_mem -> zS, getElem?_eq_getElem -> zT, eq_nil_of_length_eq_zero -> zW, mem_filter -> zX, mem_cons -> qA, pairwise_cons -> qE, range -> qF, getElem?_eq_none -> qJ, reverse_reverse -> qM, any_eq_false -> qQ, getElem?_map -> qR, getElem_mem -> qV, getElem?_set_self -> qX, mem_append -> xA, mem_of_getElem? -> xB, range_eq_range' -> xC, getD -> xF
open Bool renaming and_eq_true -> zF, not_eq_true' -> zL, not_eq_false' -> qD
open Array renaming mem_toList_iff -> zG, getElem?_setIfInBounds_ne -> zH, getElem?_eq_getElem -> zP, toArray_toList -> zR, eq_empty_of_size_eq_zero -> zV, getD_eq_getD_getElem? -> zY, replicate -> qB, getElem?_toList -> qI, ext' -> qP
open Go.Region renaming binds -> zZ, wanted -> qU, ready -> qY
open Go.Call renaming operands -> qK
open Go.Result renaming andThen_ok -> qT
open Go.Act renaming put -> qW
open Go.Sem renaming run_bind -> qZ, run_pure -> xD
open Go.Deferred renaming ofValue -> xE
open Pure renaming pure -> xG
namespace Go.AM
set_option linter.unusedSectionVars false
variable [gp]
abbrev F:=Nat->Option D
def wC(f:F):Operand->Option D
 | .tmp t=>f t
 | .const v=>KP v
 | .global _=>none
 | .func g=>bif qL g 1000000 then some (.wo g [])else none
theorem iD(fr:Fr):bB fr=wC fr.get:=by rfl
def ed(f:F)(dst:Option Nat)(d:Option D):F:=match dst with
 | some t=>λs=>if s=t then d else f s
 | none=>f
theorem Qm{a b:Nat}(h:a≠b):zU a b=false:=by
 cases I:zU a b with
 | false=>rfl
 | true=>exact absurd (Y I) h
theorem Q7(fr:Fr)(dst:Option Nat)(d:Option D):(fr.put dst d).get=ed fr.get dst d:=by
 cases dst with
 | none=>rfl
 | some t =>
  funext s
  simp only[Fr.put,Fr.get,ed]
  by_cases h:s=t
  ·subst h; simp
  ·rw[if_neg h,Qm (λe=>h e.symm),cond_false]
section
variable (c:Ctx) (n:Nat) (ops:Array Oper)
def jM(f:F)(o:Oper):Option Bool:=match o.guard with
 | none=>some true
 | some (j,w)=>match bE ops j with
  | none=>none
  | some t=>match f t with
   | some (.qs .bool b)=>some (b==w)
   | some (.eO [])=>some false
   | _=>none
def fu(i:Nat)(s s':F×St)(k:Nat):Prop:=∃ o,ops[i]? = some o/\gu n o.dst=true /\
 ((jM ops s.1 o=some true/\k=(wS c (wC s.1) o).kind/\∃ d qt,(qx (wS c (wC s.1) o) s.2).leads (d,qt)/\s'=(ed s.1 o.dst d,qt)) \/
  (jM ops s.1 o=some false/\k=0/\s'=(ed s.1 o.dst (some und),s.2)))
def Sy:List Nat->F×St->F×St->List Nat->Prop
 | [],s,s',ks=>s'=s/\ks=[]
 | i::l,s,s',ks=>∃ s1 k Mk,ks=k::Mk/\fu c n ops i s s1 k/\Sy l s1 s' Mk
end
section
variable {c:Ctx} {n:Nat} {ops:Array Oper}
def yI(kn:Kn)(f:F):Prop:=∀ t b,kn.get t=some b->f t=some (.qs .bool b)
theorem GA(t:Nat)(b:Option Bool)(kn:Kn)(s:Nat):Kn.get ((t,b)::kn) s=if s=t then b else kn.get s:=by
 simp only[Kn.get]
 by_cases h:s=t
 ·subst h; simp
 ·rw[if_neg h,Qm (λe=>h e.symm),cond_false]
theorem ml{kn:Kn}{f:F}(h:yI kn f){x:Operand}{b:Bool}(N:rL kn x=some b):wC f x=some (.qs .bool b):=by
 unfold rL at N
 split at N
 ·exact h _ _ N
 ·cases N; rfl
 ·cases N
theorem Fm{kn:Kn}{fr:Fr}{o:Oper}(hk:yI kn fr.get){st:St}{r:Option D×St}(h:(qx (QS c kn fr o) st).leads r) :
  (qx (wS c (wC fr.get) o) st).leads r/\(QS c kn fr o).kind=(wS c (wC fr.get) o).kind/\∀ b,Bc kn o.op=some b->r.1=some (.qs .bool b):=by
 obtain⟨dst,op,ty,pos,after,guard⟩:=o
 rw[<- iD]
 cases op with
 | pick x a b =>
  simp only[QS]at h ⊢
  cases N:rL kn x with
  | none =>
   rw[N]at h
   refine⟨h,rfl,λb' I => ?_⟩
   simp[Bc,N]at I
  | some bx =>
   rw[N]at h
   have hval:=ml hk N
   rw[<- iD]at hval
   have zii:wS c (bB fr) ⟨dst,.pick x a b,ty,pos,after,guard⟩=.val (.ite bx (.ret (bB fr a)) (.ret (bB fr b))):=by
    simp only[wS,MK,hval,asBool]
   rw[zii]
   obtain⟨d,qt⟩:=r
   cases bx with
   | true =>
    simp only[kV,T.leads]at h ⊢
    refine⟨⟨.inl ⟨by first | rfl | trivial,h.1⟩,h.2⟩,rfl,λb' I => ?_⟩
    simp only[Bc,N]at I
    have:=ml hk I
    rw[<- iD]at this
    grind
   | false =>
    simp only[kV,T.leads]at h ⊢
    refine⟨⟨.inr ⟨by first | rfl | trivial,h.1⟩,h.2⟩,rfl,λb' I => ?_⟩
    simp only[Bc,N]at I
    have:=ml hk I
    rw[<- iD]at this
    grind
 | move x =>
  refine⟨h,rfl,λb I => ?_⟩
  obtain⟨d,qt⟩:=r
  simp only[QS,wS,kV,T.leads]at h
  have:=ml hk (show rL kn x=some b from I)
  rw[<- iD]at this
  grind
 | assign x =>
  refine⟨h,rfl,λb I => ?_⟩
  obtain⟨d,qt⟩:=r
  simp only[QS,wS,kV,T.leads]at h
  have:=ml hk (show rL kn x=some b from I)
  rw[<- iD]at this
  grind
 | _=>exact⟨h,rfl,λb I=>by simp[Bc]at I⟩
theorem RN{kn:Kn}{f:F}(hk:yI kn f){dst:Option Nat}{d:Option D}{b:Option Bool}(I:∀ b',b=some b'->d=some (.qs .bool b')):yI (Bi kn dst b) (ed f dst d):=by
 cases dst with
 | none=>exact hk
 | some t =>
  intro s b' h
  simp only[Bi,GA]at h
  simp only[ed]
  split at h
  ·grind
  ·rename_i e; rw[if_neg e]; exact hk s b' h
theorem WD{kn:Kn}{f:F}(hk:yI kn f){t:Nat}{b:Bool}(I:f t=some (.qs .bool b)):yI ((t,some b)::kn) f:=by
 intro s b' h
 rw[GA]at h
 split at h
 ·grind
 ·exact hk s b' h
theorem Hq{o:Oper}{s s':oL}(hk:yI s.kn s.fr.get)(h:(ly c n o s).leads s') :
  gu n o.dst=true/\(∃ d qt,(qx (wS c (wC s.fr.get) o) s.st).leads (d,qt)/\s'.fr.get=ed s.fr.get o.dst d/\s'.st=qt)/\yI s'.kn s'.fr.get/\s'.ks=(wS c (wC s.fr.get) o).kind::s.ks:=by
 unfold ly at h
 cases J:gu n o.dst with
 | false=>rw[J]at h; exact h.elim
 | true =>
  rw[J,cond_true]at h
  simp only[T.xh]at h
  obtain⟨⟨d,qt⟩,h1,rfl⟩:=h
  obtain⟨X,h3,h4⟩:=Fm hk h1
  refine⟨rfl,⟨d,qt,X,Q7 _ _ _,rfl⟩,?_,wb⟩
  rw[Q7]
  exact RN hk h4
theorem RU{o:Oper}{s:oL}(hk:yI s.kn s.fr.get):yI (cS o s).kn (cS o s).fr.get:=by
 show yI (Bi s.kn o.dst none) (s.fr.put o.dst (some und)).get
 rw[Q7]
 exact RN hk nofun
theorem Cz{i:Nat}{o:Oper}{s s':oL}(ho:ops[i]? = some o)(hk:yI s.kn s.fr.get)(h:(stepG c n ops o s).leads s') :
  ∃ k,fu c n ops i (s.fr.get,s.st) (s'.fr.get,s'.st) k/\yI s'.kn s'.fr.get/\s'.ks=k::s.ks:=by
 have run:∀ (s0:oL),s0.fr=s.fr->s0.st=s.st->s0.ks=s.ks->yI s0.kn s0.fr.get->jM ops s.fr.get o=some true->(ly c n o s0).leads s' ->
   ∃ k,fu c n ops i (s.fr.get,s.st) (s'.fr.get,s'.st) k/\yI s'.kn s'.fr.get/\s'.ks=k::s.ks:=by
  intro s0 e1 e2 e3 Ev hw h
  obtain⟨h1,⟨d,qt,X,h3,h4⟩,h5,h6⟩:=Hq Ev h
  rw[e1]at X h3 h6
  rw[e2]at X
  rw[e3]at h6
  exact⟨_,⟨o,ho,h1,.inl ⟨hw,rfl,d,qt,X,by rw[h3,h4]⟩⟩,h5,h6⟩
 have skip:∀ (s0:oL),s0.fr=s.fr->s0.st=s.st->s0.ks=s.ks->yI s0.kn s0.fr.get->jM ops s.fr.get o=some false->gu n o.dst=true->cS o s0=s' ->
   ∃ k,fu c n ops i (s.fr.get,s.st) (s'.fr.get,s'.st) k/\yI s'.kn s'.fr.get/\s'.ks=k::s.ks:=by
  intro s0 e1 e2 e3 Ev hw J h
  subst h
  refine⟨0,⟨o,ho,J,.inr ⟨hw,rfl,?_⟩⟩,RU Ev,by simp[cS,e3]⟩
  simp only[cS,Q7,e1,e2]
 unfold stepG at h
 split at h
 ·rename_i hg
  exact run s rfl rfl rfl hk (by simp[jM,hg]) h
 ·rename_i j w hg
  split at h
  ·exact h.elim
  ·rename_i t ht
   split at h
   ·rename_i b I
    have hf:=hk t b I
    have hw:jM ops s.fr.get o=some (b==w):=by simp[jM,hg,ht,hf]
    cases hbw:(b==w)with
    | true=>grind
    | false =>
     rw[hbw,cond_false]at h
     cases J:gu n o.dst with
     | false=>rw[J]at h; exact h.elim
     | true=>rw[J,cond_true]at h; exact skip s rfl rfl rfl hk (by rw[hw,hbw]) J h
   ·split at h
    ·rename_i x N
     have hw:jM ops s.fr.get o=some (x==w):=by simp[jM,hg,ht,N]
     cases J:gu n o.dst with
     | false=>rw[J]at h; exact h.elim
     | true =>
      rw[J,cond_true]at h
      rcases h with⟨rfl,h⟩ | ⟨rfl,h⟩
      ·have Yv:yI (s.lE t true).kn (s.lE t true).fr.get:=WD hk N
       cases w with
       | true=>exact run (s.lE t true) rfl rfl rfl Yv hw h
       | false=>exact skip (s.lE t true) rfl rfl rfl Yv hw J h
      ·have Yv:yI (s.lE t false).kn (s.lE t false).fr.get:=WD hk N
       cases w with
       | true=>exact skip (s.lE t false) rfl rfl rfl Yv hw J h
       | false=>exact run (s.lE t false) rfl rfl rfl Yv hw h
    ·rename_i N
     have hw:jM ops s.fr.get o=some false:=by simp[jM,hg,ht,N]
     cases J:gu n o.dst with
     | false=>rw[J]at h; exact h.elim
     | true=>rw[J,cond_true]at h; exact skip s rfl rfl rfl hk hw J h
    ·exact h.elim
theorem sk:∀ (l:List Oper) (k0:Nat) (s s':oL),(∀ j,l[j]? = ops[k0+j]? \/ l.length<=j)->yI s.kn s.fr.get->(tY c n ops l s).leads s' ->
  ∃ ks,Sy c n ops (List.range' k0 l.length) (s.fr.get,s.st) (s'.fr.get,s'.st) ks/\yI s'.kn s'.fr.get/\s'.ks=ks.reverse++s.ks
 | [],k0,s,s',_,hk,h=>by cases h; exact⟨[],⟨rfl,rfl⟩,hk,rfl⟩
 | o::l,k0,s,s',R,hk,h=>by
  simp only[tY,T.xh]at h
  obtain⟨s1,h1,X⟩:=h
  have ho:ops[k0]? = some o:=by rcases R 0 with h | h<;>simp at h; exact h.symm
  obtain⟨k,g1,g2,g3⟩:=Cz ho hk h1
  obtain⟨ks,g4,g5,g6⟩:=sk l (k0+1) s1 s' (λj=>by have:=R (j+1); simpa[Nat.add_assoc,Nat.add_comm 1 j]using this) g2 X
  refine⟨k::ks,?_,g5,wb⟩
  exact⟨_,k,ks,rfl,g1,g4⟩
end
end Go.AM
namespace Go.AM
set_option linter.unusedSectionVars false
variable [gp]
section
variable {c:Ctx} {n:Nat} {ops:Array Oper}
theorem XK{α:Type}{ρ ρ':α->Option D}(L:List (Nat×α))(h:∀ p∈L,ρ p.2=ρ' p.2):(L.map λp=>(p.1,ρ p.2))=L.map λp=>(p.1,ρ' p.2) :=
 zM λp hp=>by rw[h p hp]
theorem VI{ρ ρ':Operand->Option D}(o:Oper)(h:∀ x∈o.op.operands,ρ x=ρ' x):wS c ρ o=wS c ρ' o:=by
 obtain⟨dst,op,ty,pos,after,guard⟩:=o
 cases op with
 | move x=>simp only[wS]; rw[h x (by simp[zA])]
 | assign x=>simp only[wS]; rw[h x (by simp[zA])]
 | pick x a b=>simp only[wS]; rw[h x (by simp[zA]),h a (by simp[zA]),h b (by simp[zA])]
 | box t x=>simp only[wS]; rw[h x (by simp[zA])]
 | load t x=>simp only[wS]; rw[h x (by simp[zA])]
 | store t x y=>simp only[wS]; rw[h x (by simp[zA]),h y (by simp[zA])]
 | nilCheck x=>simp only[wS]; rw[h x (by simp[zA])]
 | binOp op t x y _=>simp only[wS]; rw[h x (by simp[zA]),h y (by simp[zA])]
 | typeAssert x xt t ok=>simp only[wS]; rw[h x (by simp[zA])]
 | unOp op t x=>simp only[wS]; rw[h x (by simp[zA])]
 | convert s t x=>simp only[wS]; rw[h x (by simp[zA])]
 | makeInterface t x=>simp only[wS]; rw[h x (by simp[zA])]
 | makeFunc fn first cap =>
  cases fn<;>simp only[wS]
  rw[zM (l:=cap.toList) (λx N=>h x (by simp[zA,zG.1 N])),zM (l:=first.toList) (λx N=>h x (by simp[zA,zG.1 N]))]
 | makeSlice t x y=>simp only[wS]; rw[h x (by simp[zA]),h y (by simp[zA])]
 | slice t x lo hi mx =>
  simp only[wS]
  have ho:∀ o:Option Operand,(∀ y,o=some y->ρ y=ρ' y)->o.map ρ=o.map ρ':=λo ho=>by
   cases o with
   | none=>rfl
   | some y=>grind
  rw[h x (by simp[zA]),ho lo (λy hy=>h y (by simp[zA,hy])),ho hi (λy hy=>h y (by simp[zA,hy])),ho mx (λy hy=>h y (by simp[zA,hy]))]
 | fieldAddr s x f=>simp only[wS]; rw[h x (by simp[zA])]
 | field s x f=>simp only[wS]; rw[h x (by simp[zA])]
 | indexAddr t x y=>simp only[wS]; rw[h x (by simp[zA]),h y (by simp[zA])]
 | lookup t x y _=>simp only[wS]; rw[h x (by simp[zA]),h y (by simp[zA])]
 | mapUpdate t x y z=>simp only[wS]; rw[h x (by simp[zA]),h y (by simp[zA]),h z (by simp[zA])]
 | index t x y=>simp only[wS]; rw[h x (by simp[zA]),h y (by simp[zA])]
 | extract x i=>simp only[wS]; rw[h x (by simp[zA])]
 | build t ps=>simp only[wS]; rw[XK ps.toList λp hp=>h p.2 (by simp[zA]; exact⟨p.1,zG.1 hp⟩)]
 | buildSlice t k ps=>simp only[wS]; rw[XK ps.toList λp hp=>h p.2 (by simp[zA]; exact⟨p.1,zG.1 hp⟩)]
 | call cl =>
  obtain⟨callee,args,sS⟩:=cl
  have fG:args.toList.map ρ=args.toList.map ρ':=zM λx N=>h x (by simp[zA,qK,zG.1 N])
  cases callee with
  | builtin b=>simp only[wS]; rw[fG]
  | value f=>simp only[wS]; rw[fG,h f (by simp[zA,qK])]
  | invoke r m=>rfl
 | _=>rfl
theorem BL{f:F}{dst:Option Nat}{d:Option D}{x:Operand}(h:∀ t,dst=some t->x≠.tmp t):wC (ed f dst d) x=wC f x:=by
 cases dst with
 | none=>rfl
 | some t=>cases x with
  | tmp s=>simp only[wC,ed]; rw[if_neg (λe=>h t rfl (by rw[e]))]
  | _=>rfl
theorem fK(f:F){a b:Option Nat}(d e:Option D)(h:∀ t,a=some t->b≠some t):ed (ed f a d) b e=ed (ed f b e) a d:=by
 cases a with
 | none=>rfl
 | some s=>cases b with
  | none=>rfl
  | some t =>
   simp only[ed]
   grind
def Ind(ops:Array Oper)(kd:Nat->Nat)(p i:Nat):Prop:=∀ x y,ops[p]? = some x->ops[i]? = some y ->
 (∀ d,x.dst=some d->d ∉ tmpsOf ops y)/\(∀ d,y.dst=some d->d ∉ tmpsOf ops x)/\bU (kd p) (kd i)=false
theorem ea{o:Oper}{d:Nat}(h:o.dst=some d):d∈tmpsOf ops o:=by simp[tmpsOf,h]
theorem XM{o:Oper}{d:Nat}(h:Operand.tmp d∈o.op.operands):d∈tmpsOf ops o:=by
 simp only[tmpsOf,xA,List.mem_filterMap]
 exact .inr ⟨.tmp d,wb,rfl⟩
theorem XL{o:Oper}{j:Nat}{w:Bool}{d:Nat}(h:o.guard=some (j,w))(hg:bE ops j=some d):d∈tmpsOf ops o:=by
 simp[tmpsOf,h,hg]
theorem jH{f:F}{o:Oper}{dst:Option Nat}{d:Option D}(h:∀ t,dst=some t->t ∉ tmpsOf ops o):jM ops (ed f dst d) o=jM ops f o:=by
 unfold jM
 cases hg:o.guard with
 | none=>rfl
 | some jw =>
  obtain⟨j,w⟩:=jw
  simp only
  cases hs:bE ops j with
  | none=>rfl
  | some t =>
   simp only
   have:ed f dst d t=f t:=by
    cases dst with
    | none=>rfl
    | some s=>simp only[ed]; rw[if_neg]; intro e; exact h s rfl (e▸XL hg hs)
   rw[this]
theorem dx{f:F}{o:Oper}{dst:Option Nat}{d:Option D}(h:∀ t,dst=some t->t ∉ tmpsOf ops o):wS c (wC (ed f dst d)) o=wS c (wC f) o :=
 VI o λx N=>BL λt ht e=>h t ht (XM (ops:=ops) (e▸N))
theorem tp{cl:ek}(h:cl.kind=0){st qt:St}{d:Option D}(R:(qx cl st).leads (d,qt)):qt=st/\∀ gq,(qx cl gq).leads (d,gq):=by
 cases cl with
 | val t=>rw[kV]at R; exact⟨R.2,λgq=>by rw[kV]; exact⟨R.1,rfl⟩⟩
 | rd k=>cases h
 | wr k=>cases h
theorem nC{cl:ek}(h:cl.kind<=1){st qt:St}{d:Option D}(R:(qx cl st).leads (d,qt)):qt=st:=by
 cases cl with
 | val t=>rw[kV]at R; exact R.2
 | rd k=>rw[rT]at R; exact R.2
 | wr k=>simp[ek.kind]at h
theorem UW(cl:ek):cl.kind<=2:=by cases cl<;>simp[ek.kind]
theorem CA{kd:Nat->Nat}{p i:Nat}(hi:Ind ops kd p i){s s1 s2:F×St}(h1:fu c n ops p s s1 (kd p))(X:fu c n ops i s1 s2 (kd i)) :
  ∃ s',fu c n ops i s s' (kd i)/\fu c n ops p s' s2 (kd p):=by
 obtain⟨x,N,hdx,HR⟩:=h1
 obtain⟨y,hy,hdy,hy'⟩:=X
 obtain⟨a1,a2,a3⟩:=hi x y N hy
 have hdd:∀ t,x.dst=some t->y.dst≠some t:=λt ht e=>a1 t ht (ea e)
 obtain⟨f,st⟩:=s
 rcases HR with⟨hw,hk,d,dN,R,rfl⟩ | ⟨hw,hk,rfl⟩
 ·rcases hy' with⟨Ye,ny,e,gq,Zm,rfl⟩ | ⟨Ye,ny,rfl⟩
  ·simp only[jH a1,dx (c:=c) a1]at Ye ny Zm
   simp only at hw hk R
   -- the two meet nowhere in the store
   have key:(qx (wS c (wC f) y) st).leads (e,(if(wS c (wC f) y).kind=2 then gq else st))/\(qx (wS c (wC f) x) (if(wS c (wC f) y).kind=2 then gq else st)).leads (d,gq):=by
    rw[hk,ny]at a3
    rcases qH (wS c (wC f) y).kind 2 with hy2 | hy2
    ·rw[if_neg (Z)]
     have e2:=nC (Z) Zm
     subst e2
     rcases qH (wS c (wC f) x).kind 2 with O0 | O0
     ·have e1:=nC (Z) R
      grind
     ·have hx3:(wS c (wC f) x).kind=2:=qC (UW _) O0
      have hy0:(wS c (wC f) y).kind=0:=by
       rw[hx3]at a3
       cases hy0:(wS c (wC f) y).kind with
       | zero=>rfl
       | succ m=>rw[hy0]at a3; simp[bU]at a3
      exact⟨(tp hy0 Zm).2 st,R⟩
    ·have hy3:(wS c (wC f) y).kind=2:=qC (UW _) hy2
     rw[if_pos hy3]
     have Yw:(wS c (wC f) x).kind=0:=by
      rw[hy3]at a3
      cases Yw:(wS c (wC f) x).kind with
      | zero=>rfl
      | succ m=>rw[Yw]at a3; simp[bU]at a3
     obtain⟨e1,h3⟩:=tp Yw R
     grind
   refine⟨_,⟨y,hy,hdy,.inl ⟨Ye,ny,e,_,key.1,rfl⟩⟩,x,N,hdx,.inl ⟨?_,?_,d,gq,?_,?_⟩⟩
   ·rw[jH a2]; exact hw
   ·rw[dx (c:=c) a2]; exact hk
   ·rw[dx (c:=c) a2]; exact key.2
   ·simp only[fK f d e hdd]
  ·simp only[jH a1]at Ye
   refine⟨_,⟨y,hy,hdy,.inr ⟨Ye,ny,rfl⟩⟩,x,N,hdx,.inl ⟨?_,?_,d,dN,?_,?_⟩⟩
   ·rw[jH a2]; exact hw
   ·rw[dx (c:=c) a2]; exact hk
   ·rw[dx (c:=c) a2]; exact R
   ·simp only[fK f d (some und) hdd]
 ·rcases hy' with⟨Ye,ny,e,gq,Zm,rfl⟩ | ⟨Ye,ny,rfl⟩
  ·simp only[jH a1,dx (c:=c) a1]at Ye ny Zm
   refine⟨_,⟨y,hy,hdy,.inl ⟨Ye,ny,e,gq,Zm,rfl⟩⟩,x,N,hdx,.inr ⟨?_,hk,?_⟩⟩
   ·rw[jH a2]; exact hw
   ·simp only[fK f (some und) e hdd]
  ·simp only[jH a1]at Ye
   refine⟨_,⟨y,hy,hdy,.inr ⟨Ye,ny,rfl⟩⟩,x,N,hdx,.inr ⟨?_,hk,?_⟩⟩
   ·rw[jH a2]; exact hw
   ·simp only[fK f (some und) (some und) hdd]
def QK(c:Ctx)(n:Nat)(ops:Array Oper)(kd:Nat->Nat):List Nat->F×St->F×St->Prop
 | [],s,s'=>s'=s
 | i::l,s,s'=>∃ s1,fu c n ops i s s1 (kd i)/\QK c n ops kd l s1 s'
theorem Hv{kd:Nat->Nat}{i:Nat}{post:List Nat}{s':F×St}:∀ {pre:List Nat} {s:F×St},(∀ p∈pre,Ind ops kd p i)->QK c n ops kd (pre++i::post) s s' ->
  ∃ s1,fu c n ops i s s1 (kd i)/\QK c n ops kd (pre++post) s1 s'
 | [],s,_,h=>h
 | p::pre,s,hp,⟨sp,h1,X⟩=>by
  obtain⟨s1,h3,h4⟩:=Hv (λq hq=>hp q (zS _ hq)) X
  obtain⟨s2,h5,h6⟩:=CA (hp p zK) h1 h3
  exact⟨s2,h5,s1,h6,h4⟩
end
end Go.AM
namespace Go.AM
set_option linter.unusedSectionVars false
variable [gp]
section
variable (c:Ctx) (n:Nat) (ops:Array Oper)
def nU(i:Nat)(s s':F×St)(k:RK):Prop:=∃ o,ops[i]? = some o/\gu n o.dst=true /\
 ((jM ops s.1 o=some true/\k=vA c (wC s.1) s.2 o/\∃ d qt,(qx (wS c (wC s.1) o) s.2).leads (d,qt)/\s'=(ed s.1 o.dst d,qt)) \/
  (jM ops s.1 o=some false/\k=.z 0/\s'=(ed s.1 o.dst (some und),s.2)))
def Nv:List Nat->F×St->F×St->List RK->Prop
 | [],s,s',ks=>s'=s/\ks=[]
 | i::l,s,s',ks=>∃ s1 k Mk,ks=k::Mk/\nU c n ops i s s1 k/\Nv l s1 s' Mk
end
section
variable {c:Ctx} {n:Nat} {ops:Array Oper}
theorem nU.plain{i:Nat}{s s':F×St}{k:RK}(h:nU c n ops i s s' k):∃ k',fu c n ops i s s' k':=by
 obtain⟨o,h1,X,h3⟩:=h
 rcases h3 with⟨g1,_,g3⟩ | ⟨g1,_,g3⟩
 ·exact⟨_,o,h1,X,.inl ⟨g1,rfl,g3⟩⟩
 ·exact⟨_,o,h1,X,.inr ⟨g1,rfl,g3⟩⟩
theorem N1{i:Nat}{o:Oper}{s s':oL}(ho:ops[i]? = some o)(hk:yI s.kn s.fr.get)(h:(stepG c n ops o s).leads s') :
  ∃ k,nU c n ops i (s.fr.get,s.st) (s'.fr.get,s'.st) k/\yI s'.kn s'.fr.get/\s'.bk=k::s.bk:=by
 have bkS:∀ {s0:oL},(ly c n o s0).leads s'->s'.bk=vA c (bB s0.fr) s0.st o::s0.bk:=by
  intro s0 h
  unfold ly at h
  cases J:gu n o.dst with
  | false=>rw[J]at h; exact h.elim
  | true =>
   rw[J,cond_true]at h
   simp only[T.xh]at h
   obtain⟨⟨d,qt⟩,h1,rfl⟩:=h
   rfl
 have run:∀ (s0:oL),s0.fr=s.fr->s0.st=s.st->s0.bk=s.bk->yI s0.kn s0.fr.get->jM ops s.fr.get o=some true->(ly c n o s0).leads s' ->
   ∃ k,nU c n ops i (s.fr.get,s.st) (s'.fr.get,s'.st) k/\yI s'.kn s'.fr.get/\s'.bk=k::s.bk:=by
  intro s0 e1 e2 e3 Ev hw h
  obtain⟨h1,⟨d,qt,X,h3,h4⟩,h5,h6⟩:=Hq Ev h
  have I:=bkS h
  rw[e1]at X h3 I
  rw[e2]at X I
  rw[e3]at I
  rw[iD]at I
  exact⟨_,⟨o,ho,h1,.inl ⟨hw,rfl,d,qt,X,by rw[h3,h4]⟩⟩,h5,I⟩
 have skip:∀ (s0:oL),s0.fr=s.fr->s0.st=s.st->s0.bk=s.bk->yI s0.kn s0.fr.get->jM ops s.fr.get o=some false->gu n o.dst=true->cS o s0=s' ->
   ∃ k,nU c n ops i (s.fr.get,s.st) (s'.fr.get,s'.st) k/\yI s'.kn s'.fr.get/\s'.bk=k::s.bk:=by
  intro s0 e1 e2 e3 Ev hw J h
  subst h
  refine⟨.z 0,⟨o,ho,J,.inr ⟨hw,rfl,?_⟩⟩,RU Ev,by simp[cS,e3]⟩
  simp only[cS,Q7,e1,e2]
 unfold stepG at h
 split at h
 ·rename_i hg
  exact run s rfl rfl rfl hk (by simp[jM,hg]) h
 ·rename_i j w hg
  split at h
  ·exact h.elim
  ·rename_i t ht
   split at h
   ·rename_i b I
    have hf:=hk t b I
    have hw:jM ops s.fr.get o=some (b==w):=by simp[jM,hg,ht,hf]
    cases hbw:(b==w)with
    | true=>grind
    | false =>
     rw[hbw,cond_false]at h
     cases J:gu n o.dst with
     | false=>rw[J]at h; exact h.elim
     | true=>rw[J,cond_true]at h; exact skip s rfl rfl rfl hk (by rw[hw,hbw]) J h
   ·split at h
    ·rename_i x N
     have hw:jM ops s.fr.get o=some (x==w):=by simp[jM,hg,ht,N]
     cases J:gu n o.dst with
     | false=>rw[J]at h; exact h.elim
     | true =>
      rw[J,cond_true]at h
      rcases h with⟨rfl,h⟩ | ⟨rfl,h⟩
      ·have Yv:yI (s.lE t true).kn (s.lE t true).fr.get:=WD hk N
       cases w with
       | true=>exact run (s.lE t true) rfl rfl rfl Yv hw h
       | false=>exact skip (s.lE t true) rfl rfl rfl Yv hw J h
      ·have Yv:yI (s.lE t false).kn (s.lE t false).fr.get:=WD hk N
       cases w with
       | true=>exact skip (s.lE t false) rfl rfl rfl Yv hw J h
       | false=>exact run (s.lE t false) rfl rfl rfl Yv hw h
    ·rename_i N
     have hw:jM ops s.fr.get o=some false:=by simp[jM,hg,ht,N]
     cases J:gu n o.dst with
     | false=>rw[J]at h; exact h.elim
     | true=>rw[J,cond_true]at h; exact skip s rfl rfl rfl hk hw J h
    ·exact h.elim
theorem KZ:∀ (l:List Oper) (k0:Nat) (s s':oL),(∀ j,l[j]? = ops[k0+j]? \/ l.length<=j)->yI s.kn s.fr.get->(tY c n ops l s).leads s' ->
  ∃ ks,Nv c n ops (List.range' k0 l.length) (s.fr.get,s.st) (s'.fr.get,s'.st) ks/\s'.bk=ks.reverse++s.bk
 | [],k0,s,s',_,hk,h=>by cases h; exact⟨[],⟨rfl,rfl⟩,rfl⟩
 | o::l,k0,s,s',R,hk,h=>by
  simp only[tY,T.xh]at h
  obtain⟨s1,h1,X⟩:=h
  have ho:ops[k0]? = some o:=by rcases R 0 with h | h<;>simp at h; exact h.symm
  obtain⟨k,g1,g2,g3⟩:=N1 ho hk h1
  obtain⟨ks,g4,g6⟩:=KZ l (k0+1) s1 s' (λj=>by have:=R (j+1); simpa[Nat.add_assoc,Nat.add_comm 1 j]using this) g2 X
  refine⟨k::ks,?_,wb⟩
  exact⟨_,k,ks,rfl,g1,g4⟩
theorem GQ{m b:Nat}{l:List Nat}:b∈others m l↔b<m/\∀ x∈l,b≠x:=by
 simp only[others]
 simp
theorem E0{d:Option D}{b:Nat}(h:zeO d=some b):(∃ off,d=some (.ptr b off))\/∃ v e i off,d=some (.gP b v e i off):=by
 cases d with
 | none=>cases h
 | some d=>cases d<;>first | (cases h; exact .inl ⟨_,rfl⟩) | (cases h; exact .inr ⟨_,_,_,_,rfl⟩) | cases h
theorem rK{bi:Builtin}{l:List (Option D)}{st:St}:BV bi l st=.z 2\/(∃ b v e off len x,bi=.append/\l=[some (.ms b v e off len),some x]/\UT x=false/\BV bi l st=.up b)\/∃ x,bi=.append/\l=[some .wJ,some x]/\UT x=false/\BV bi l st=.wr (others st.length []):=by
 unfold BV
 grind
theorem Gw(ρ:Operand->Option D)(st:St)(o:Oper):(vA c ρ st o).base=(wS c ρ o).kind:=by
 unfold vA
 split
 ·rename_i h
  rw[h]
  cases o.op with
  | load t a=>simp only; split<;>rfl
  | _=>rfl
 ·rename_i h
  rw[h]
  cases o.op with
  | call cl =>
   cases hc:cl.callee with
   | builtin bi =>
    simp only[hc]
    rcases rK (bi:=bi) (l:=cl.args.toList.map ρ)with e | ⟨b,v,e,off,len,x,_,_,_,e⟩ | ⟨x,_,_,_,e⟩<;>rw[e]<;>rfl
   | value f=>simp only[hc]; split<;>first | rfl | (split<;>rfl)
   | _=>simp only[hc]; rfl
  | store t a v=>simp only; split<;>rfl
  | _=>rfl
 ·rfl
theorem KG{ρ:Operand->Option D}{o:Oper}(h:(wS c ρ o).kind<=1)(st qt:St):vA c ρ st o=vA c ρ qt o:=by
 unfold vA
 grind
theorem nA{ρ:Operand->Option D}{st:St}{o:Oper}{b:Nat}(h:vA c ρ st o=.rd b){dN gq Bm:St}{d:Option D}(R:(qx (wS c ρ o) dN).leads (d,Bm))(I:gq[b]? = dN[b]?):(qx (wS c ρ o) gq).leads (d,gq):=by
 obtain⟨dst,op,ty,pos,after,guard⟩:=o
 cases op with
 | load t a =>
  have h':(∃ off,ρ a=some (.ptr b off))\/∃ v e i off,ρ a=some (.gP b v e i off):=by
   unfold vA at h
   simp only at h
   split at h
   ·split at h
    ·rename_i b' ha; cases h; exact E0 ha
    ·cases h
   ·cases h
   ·cases h
  have he:wS c ρ ⟨dst,.load t a,ty,pos,after,guard⟩=VN c t (ρ a):=rfl
  rcases h' with⟨off,ha⟩ | ⟨v,e,i,off,ha⟩
  all_goals
   rw[he,ha]at R ⊢
   simp only[VN]at R ⊢
   rw[rT]at R ⊢
   grind
 | call cl =>
  obtain⟨callee,args,sS⟩:=cl
  unfold vA at h
  split at h
  ·cases h
  ·cases callee with
   | builtin bi =>
    simp only at h
    rcases rK (bi:=bi) (l:=args.toList.map ρ)with e | ⟨b,v,e,off,len,x,_,_,_,e⟩ | ⟨x,_,_,_,e⟩<;>rw[e]at h<;>cases h
   | value f=>grind
   | _=>cases h
  ·cases h
 | _ =>
  unfold vA at h
  grind
theorem FX{ρ:Operand->Option D}{st:St}{o:Oper}{A:List Nat}(h:vA c ρ st o=.wr A){qt:St}{d:Option D}(R:(qx (wS c ρ o) st).leads (d,qt)):∀ b∈A,qt[b]? = st[b]? := by
 obtain⟨dst,op,ty,pos,after,guard⟩:=o
 cases op with
 | alloc t =>
  exfalso
  unfold vA at h
  grind
 | store t a v =>
  exfalso
  unfold vA at h
  grind
 | call cl =>
  obtain⟨callee,args,sS⟩:=cl
  cases callee with
  | value f =>
   have h':(wS c ρ ⟨dst,.call ⟨.value f,args,sS⟩,ty,pos,after,guard⟩).kind=2/\∃ g caps l,ρ f=some (.wo g caps)/\gJ (args.toList.map ρ)=some l/\A=c.free (eD g) (bQ g l caps) st:=by
    unfold vA at h
    grind
   obtain⟨hk,g,caps,l,hg,Me,rfl⟩:=h'
   intro b I
   have he:wS c ρ ⟨dst,.call ⟨.value f,args,sS⟩,ty,pos,after,guard⟩=eZ c (ρ f) (args.toList.map ρ):=rfl
   rw[he,hg]at R hk
   simp only[eZ,Me]at R hk
   split at R
   ·rename_i s hs
    rw[hs]at hk
    simp only[eH]at hk
    cases hn:(!(bQ g l caps).any Kg)<;>rw[hn]at hk<;>simp[ek.kind]at hk
   ·simp only[sV,qx,T.xh]at R
    obtain⟨⟨rs,dN⟩,h1,X⟩:=R
    cases rs with
    | ret ds=>cases X; exact c.z1i _ _ _ _ _ b h1 I
    | bh p=>exact X.elim
  | builtin bi =>
   have h':bi=.append/\∃ x,args.toList.map ρ=[some .wJ,some x]/\UT x=false/\A=others st.length []:=by
    unfold vA at h
    simp only at h
    split at h
    ·cases h
    ·rcases rK (bi:=bi) (l:=args.toList.map ρ) (st:=st)with e | ⟨b,v,e,off,len,x,_,_,_,e⟩ | ⟨x,h1,X,h3,e⟩<;>rw[e]at h<;>cases h
     exact⟨h1,x,X,h3,rfl⟩
    ·cases h
   obtain⟨rfl,x,N,hm,rfl⟩:=h'
   have he:wS c ρ ⟨dst,.call ⟨.builtin .append,args,sS⟩,ty,pos,after,guard⟩=lS c .append sS.toList (args.toList.map ρ):=rfl
   rw[he,N]at R
   intro b I
   have I:=(GQ.1 I).1
   have one:∀ {e':Ty} {ys:List (den e')} {ne:Bool} {Wr:Nat},(bw e' .wJ ys ne Wr st).leads (d,qt)->qt[b]? = st[b]? := by
    intro e' ys ne Wr R
    simp only[bw,pG]at R
    cases ne with
    | true=>obtain⟨_,R⟩:=R; cases R; exact zI I
    | false =>
     rcases R with⟨_,R⟩ | ⟨_,R⟩
     ·cases R; rfl
     ·obtain⟨_,R⟩:=R; cases R; exact zI I
   have snp:∀ gq,ZC gq x=.ret x:=λgq=>by cases x<;>first | rfl | cases hm
   generalize sS.toList=tl at R
   rcases tl with _ | ⟨t,_ | ⟨t',_ | ⟨t'',tl⟩⟩⟩
   ·exact absurd R zj
   ·exact absurd R zj
   rotate_left
   ·exact absurd R zj
   ·
    simp only[lS]at R
    cases ht:zU t t' with
    | true =>
     rw[ht,cond_true]at R
     unfold Xb at R
     cases het:np c t with
     | none=>rw[het]at R; exact absurd R zj
     | some et =>
      rw[het]at R
      simp only at R
      cases h1:HB c 20 et with
      | none=>rw[h1]at R; exact absurd R zj
      | some ee =>
       rw[h1]at R
       try simp only at R
       cases X:pT c et with
       | none=>rw[X]at R; exact absurd R zj
       | some bytes =>
        rw[X]at R
        simp only at R
        cases hc:ct c et ee&&qL 0 ee.size&&qL 0 bytes&&(zeroOf c et ee).isSome with
        | false=>rw[hc]at R; exact absurd R zj
        | true =>
         rw[hc,cond_true]at R
         simp only[cond_true,qx,snp,T.bind]at R
         cases x<;>simp only at R<;>first | exact R.elim | exact one R | skip
         ·split at R
          ·exact one R
          ·exact R.elim
         ·split at R
          ·exact one R
          ·exact R.elim
    | false =>
     rw[ht,cond_false]at R
     unfold Z8 at R
     cases het:np c t with
     | none=>rw[het]at R; exact absurd R zj
     | some et =>
      rw[het]at R
      simp only at R
      split at R
      ·rename_i bytes h1 X h3
       cases hc:ct c et (.int .u8)&&qL 0 bytes&&(zeroOf c et (.int .u8)).isSome with
       | false=>rw[hc]at R; exact absurd R zj
       | true =>
        rw[hc,cond_true]at R
        split at R
        ·rename_i s l e1 e2
         cases e1
         cases e2
         simp only[qx]at R
         exact one R
        ·exact absurd R zj
      ·exact absurd R zj
  | invoke r m =>
   exfalso
   unfold vA at h
   simp only at h
   split at h<;>cases h
 | _ =>
  exfalso
  unfold vA at h
  simp only at h
  split at h
  ·first
    | cases h
    | (split at h<;>cases h)
  ·cases h
  ·cases h
theorem Gv{ρ:Operand->Option D}{st:St}{o:Oper}{A:List Nat}(h:vA c ρ st o=.al A){qt:St}{d:Option D}(R:(qx (wS c ρ o) st).leads (d,qt)) :
  (∀ b∈A,qt[b]? = st[b]?)/\A=others st.length []/\∃ z,qt=st++[.var z]/\d=some (.ptr st.length 0)/\∀ gq:St,(qx (wS c ρ o) gq).leads (some (.ptr gq.length 0),gq++[.var z])/\vA c ρ gq o=.al (others gq.length []):=by
 obtain⟨dst,op,ty,pos,after,guard⟩:=o
 cases op with
 | alloc t =>
  have X:(wS c ρ ⟨dst,.alloc t,ty,pos,after,guard⟩).kind=2/\A=others st.length []:=by
   unfold vA at h
   grind
  obtain⟨hk,rfl⟩:=X
  have R:(qx (oP c t) st).leads (d,qt):=R
  unfold oP at R
  split at R
  ·rename_i z hz
   have R:(some (D.ptr st.length 0),st++[cU.var z])=(d,qt):=R
   cases R
   refine⟨λb I => ?_,rfl,z,rfl,rfl,λgq=>⟨?_,?_⟩⟩
   ·obtain⟨I,_⟩:=GQ.1 I
    exact zI I
   ·show(qx (oP c t) gq).leads _
    unfold oP
    rw[hz]
    rfl
   ·unfold vA
    simp only[hk]
  ·exact absurd R zj
 | call cl =>
  exfalso
  obtain⟨callee,args,sS⟩:=cl
  unfold vA at h
  cases callee with
  | builtin bi =>
   simp only at h
   split at h
   ·cases h
   ·rcases rK (bi:=bi) (l:=args.toList.map ρ)with e | ⟨b,v,e,off,len,x,_,_,_,e⟩ | ⟨x,_,_,_,e⟩<;>rw[e]at h<;>cases h
   ·cases h
  | value f=>grind
  | invoke r m=>grind
 | _ =>
  exfalso
  unfold vA at h
  grind
theorem Gy{ρ:Operand->Option D}{st:St}{o:Oper}{zD:List Nat}(h:vA c ρ st o=.wc zD){qt:St}{d:Option D}(R:(qx (wS c ρ o) st).leads (d,qt)) :
  qt.length=st.length/\(∀ b,b<st.length->b ∉ zD->qt[b]? = st[b]?)/\(∀ x,(qx (wS c ρ o) (st++[x])).leads (d,qt++[x]))/\∀ gq,vA c ρ gq o=.wc zD:=by
 obtain⟨dst,op,ty,pos,after,guard⟩:=o
 cases op with
 | call cl =>
  obtain⟨callee,args,sS⟩:=cl
  cases callee with
  | value f =>
   have h':(wS c ρ ⟨dst,.call ⟨.value f,args,sS⟩,ty,pos,after,guard⟩).kind=2/\∃ g caps l,ρ f=some (.wo g caps)/\gJ (args.toList.map ρ)=some l/\c.QY (eD g) (bQ g l caps)=some zD:=by
    unfold vA at h
    grind
   obtain⟨hk,g,caps,l,hg,Me,hU⟩:=h'
   have ny:=hk
   have he:wS c ρ ⟨dst,.call ⟨.value f,args,sS⟩,ty,pos,after,guard⟩=eZ c (ρ f) (args.toList.map ρ):=rfl
   rw[he,hg]at R hk
   simp only[eZ,Me]at R hk
   split at R
   ·rename_i s hs
    rw[hs]at hk
    simp only[eH]at hk
    cases hn:(!(bQ g l caps).any Kg)<;>rw[hn]at hk<;>simp[ek.kind]at hk
   ·rename_i hs
    simp only[sV,qx,T.xh]at R
    obtain⟨⟨rs,dN⟩,h1,X⟩:=R
    cases rs with
    | bh p=>exact X.elim
    | ret ds =>
     cases X
     obtain⟨q1,q2,q3⟩:=c.RZ _ _ _ _ _ _ hU h1
     refine⟨q1,q2,λx => ?_,λgq => ?_⟩
     ·rw[he,hg]
      simp only[eZ,Me,hs]
      simp only[sV,qx,T.xh]
      exact⟨_,q3 x,rfl⟩
     ·unfold vA
      rw[ny]
      simp only[hg,Me,hU]
  | builtin bi =>
   exfalso
   unfold vA at h
   simp only at h
   split at h
   ·cases h
   ·rcases rK (bi:=bi) (l:=args.toList.map ρ)with e | ⟨b,v,e,off,len,x,_,_,_,e⟩ | ⟨x,_,_,_,e⟩<;>rw[e]at h<;>cases h
   ·cases h
  | invoke r m =>
   exfalso
   unfold vA at h
   grind
 | _ =>
  exfalso
  unfold vA at h
  grind
theorem Gx{ρ:Operand->Option D}{st:St}{o:Oper}{b:Nat}(h:vA c ρ st o=.rd b){dN Bm:St}{d:Option D}(R:(qx (wS c ρ o) dN).leads (d,Bm)):b<dN.length:=by
 rcases qH b dN.length with g | g
 ·exact g
 ·exfalso
  have hn:dN[b]? = none:=qJ g
  obtain⟨dst,op,ty,pos,after,guard⟩:=o
  cases op with
  | load t a =>
   have h':(∃ off,ρ a=some (.ptr b off))\/∃ v e i off,ρ a=some (.gP b v e i off):=by
    unfold vA at h
    simp only at h
    split at h
    ·split at h
     ·rename_i b' ha; cases h; exact E0 ha
     ·cases h
    ·cases h
    ·cases h
   have he:wS c ρ ⟨dst,.load t a,ty,pos,after,guard⟩=VN c t (ρ a):=rfl
   rcases h' with⟨off,ha⟩ | ⟨v,e,i,off,ha⟩
   all_goals
    rw[he,ha]at R
    simp only[VN]at R
    rw[rT]at R
    simp only[hn]at R
    exact R.1.elim
  | call cl =>
   obtain⟨callee,args,sS⟩:=cl
   unfold vA at h
   split at h
   ·cases h
   ·cases callee with
    | builtin bi =>
     simp only at h
     rcases rK (bi:=bi) (l:=args.toList.map ρ)with e | ⟨b,v,e,off,len,x,_,_,_,e⟩ | ⟨x,_,_,_,e⟩<;>rw[e]at h<;>cases h
    | value f=>grind
    | _=>cases h
   ·cases h
  | _ =>
   unfold vA at h
   grind
theorem UU{ρ:Operand->Option D}{st:St}{o:Oper}{b:Nat}(h:vA c ρ st o=.up b){dN Bm:St}{d:Option D}(R:(qx (wS c ρ o) dN).leads (d,Bm)) :
  ∃ y,Bm=dN.set b y/\∀ gq:St,gq[b]? = dN[b]? -> (qx (wS c ρ o) gq).leads (d,gq.set b y):=by
 obtain⟨dst,op,ty,pos,after,guard⟩:=o
 cases op with
 | store t a v =>
  have h':(∃ off,ρ a=some (.ptr b off))\/∃ v e i off,ρ a=some (.gP b v e i off):=by
   unfold vA at h
   simp only at h
   split at h
   ·cases h
   ·split at h
    ·rename_i b ha; cases h; exact E0 ha
    ·cases h
   ·cases h
  have he:wS c ρ ⟨dst,.store t a v,ty,pos,after,guard⟩=YI c t (ρ a) (ρ v):=rfl
  rw[he]at R ⊢
  cases hv:ρ v with
  | none =>
   rw[hv]at R
   rcases h' with⟨off,ha⟩ | ⟨w,e,i,off,ha⟩<;>(rw[ha]at R; exact absurd R zj)
  | some x =>
   rw[hv]at R
   rcases h' with⟨off,ha⟩ | ⟨w,e,i,off,ha⟩
   ·rw[ha]at R ⊢
    have R:(match dN[b]? with
     | some (.var d)=>match Bh c t d off x with | some r=>bif Qo d r then T.ret ((none:Option D),dN.set b (.var r))else .fail | none=>.fail
     | _=>.fail:T (Option D×St)).leads (d,Bm):=R
    split at R
    ·rename_i d0 I
     split at R
     ·rename_i r hr
      cases ho:Qo d0 r with
      | false=>rw[ho]at R; exact R.elim
      | true =>
       rw[ho]at R
       cases R
       refine⟨.var r,rfl,λgq X => ?_⟩
       show(match gq[b]? with
        | some (.var d)=>match Bh c t d off x with | some r=>bif Qo d r then T.ret ((none:Option D),gq.set b (.var r))else .fail | none=>.fail
        | _=>.fail:T (Option D×St)).leads _
       rw[X,I]
       simp only[hr,ho,cond_true]
       rfl
     ·exact R.elim
    ·exact R.elim
   ·rw[ha]at R ⊢
    have R:(match dN[b]? with
     | some (.arr dO e' xs)=>bif decide (e'=e)then
       .W (w=dO/\i<xs.length) (match Bh c t (.qs e' (xs.getD i (zb e'))) off x with
        | some r=>match oQ e' r with | some y=>T.ret ((none:Option D),dN.set b (.arr dO e' (xs.set i y))) | none=>.fail
        | none=>.fail)
      else .fail
     | _=>.fail:T (Option D×St)).leads (d,Bm):=R
    split at R
    ·rename_i dO e' xs I
     cases J:decide (e'=e)with
     | false=>rw[J]at R; exact R.elim
     | true =>
      rw[J,cond_true]at R
      obtain⟨ho,R⟩:=R
      split at R
      ·rename_i r hr
       split at R
       ·rename_i y hy
        cases R
        refine⟨.arr dO e' (xs.set i y),rfl,λgq X => ?_⟩
        show(match gq[b]? with
         | some (.arr dO e' xs)=>bif decide (e'=e)then
           .W (w=dO/\i<xs.length) (match Bh c t (.qs e' (xs.getD i (zb e'))) off x with
            | some r=>match oQ e' r with | some y=>T.ret ((none:Option D),gq.set b (.arr dO e' (xs.set i y))) | none=>.fail
            | none=>.fail)
          else .fail
         | _=>.fail:T (Option D×St)).leads _
        rw[X,I]
        simp only[J,cond_true,hr,hy]
        exact⟨ho,rfl⟩
       ·exact R.elim
      ·exact R.elim
    ·exact R.elim
 | call cl =>
  obtain⟨callee,args,sS⟩:=cl
  cases callee with
  | builtin bi =>
   have h':bi=.append/\∃ v e off len x,args.toList.map ρ=[some (.ms b v e off len),some x]/\UT x=false:=by
    unfold vA at h
    simp only at h
    split at h
    ·cases h
    ·rcases rK (bi:=bi) (l:=args.toList.map ρ) (st:=st)with e | ⟨b',v,e,off,len,x,h1,X,h3,e'⟩ | ⟨x,h1,X,h3,e'⟩
     ·grind
     ·rw[e']at h; cases h; exact⟨h1,v,e,off,len,x,X,h3⟩
     ·rw[e']at h; cases h
    ·cases h
   obtain⟨rfl,v,e,off,len,x,N,hm⟩:=h'
   have he:wS c ρ ⟨dst,.call ⟨.builtin .append,args,sS⟩,ty,pos,after,guard⟩=lS c .append sS.toList (args.toList.map ρ):=rfl
   rw[he,N]at R ⊢
   -- what the row gets
   have one:∀ {e':Ty} {ys:List (den e')} {ne:Bool} {Wr:Nat},(bw e' (.ms b v e off len) ys ne Wr dN).leads (d,Bm)->∃ y,Bm=dN.set b y/\∀ gq:St,gq[b]? = dN[b]? -> (bw e' (.ms b v e off len) ys ne Wr gq).leads (d,gq.set b y):=by
    intro e' ys ne Wr R
    simp only[bw]at R
    split at R
    ·rename_i dO e'' xs I
     split at R
     ·rename_i zs hz
      cases J:decide (e=e')with
      | false=>rw[J]at R; exact R.elim
      | true =>
       rw[J,cond_true]at R
       obtain⟨ho,R⟩:=R
       cases R
       refine⟨_,rfl,λgq X => ?_⟩
       simp only[bw]
       rw[X,I]
       simp only[hz,J,cond_true]
       exact⟨ho,rfl⟩
     ·exact R.elim
    ·exact R.elim
   have snp:∀ gq,ZC gq x=.ret x:=λgq=>by cases x<;>first | rfl | cases hm
   generalize sS.toList=tl at R ⊢
   rcases tl with _ | ⟨t,_ | ⟨t',_ | ⟨t'',tl⟩⟩⟩
   ·exact absurd R zj
   ·exact absurd R zj
   rotate_left
   ·exact absurd R zj
   ·
    simp only[lS]at R ⊢
    cases ht:zU t t' with
    | true =>
     rw[ht,cond_true]at R
     simp only[cond_true]
     unfold Xb at R ⊢
     cases het:np c t with
     | none=>rw[het]at R; exact absurd R zj
     | some et =>
      rw[het]at R
      simp only at R ⊢
      cases h1:HB c 20 et with
      | none=>rw[h1]at R; exact absurd R zj
      | some ee =>
       rw[h1]at R
       try simp only at R ⊢
       cases X:pT c et with
       | none=>rw[X]at R; exact absurd R zj
       | some bytes =>
        rw[X]at R
        simp only at R ⊢
        cases hc:ct c et ee&&qL 0 ee.size&&qL 0 bytes&&(zeroOf c et ee).isSome with
        | false=>rw[hc]at R; exact absurd R zj
        | true =>
         rw[hc,cond_true]at R
         simp only[cond_true,qx,snp,T.bind]at R ⊢
         cases x<;>simp only at R ⊢ <;> first | exact R.elim | exact one R | skip
         ·split at R
          ·exact one R
          ·exact R.elim
         ·split at R
          ·exact one R
          ·exact R.elim
    | false =>
     rw[ht,cond_false]at R
     simp only[cond_false]
     unfold Z8 at R ⊢
     cases het:np c t with
     | none=>rw[het]at R; exact absurd R zj
     | some et =>
      rw[het]at R
      simp only at R ⊢
      split at R
      ·rename_i bytes h1 X h3
       cases hc:ct c et (.int .u8)&&qL 0 bytes&&(zeroOf c et (.int .u8)).isSome with
       | false=>rw[hc]at R; exact absurd R zj
       | true =>
        rw[hc,cond_true]at R
        simp only[cond_true]
        split at R
        ·rename_i s l e1 e2
         cases e1
         cases e2
         simp only[qx]at R ⊢
         exact one R
        ·exact absurd R zj
      ·exact absurd R zj
  | _ =>
   exfalso
   unfold vA at h
   simp only at h
   split at h
   ·cases h
   ·first | cases h | (split at h<;>first | cases h | (split at h<;>cases h))
   ·cases h
 | _ =>
  exfalso
  unfold vA at h
  simp only at h
  split at h
  ·first
    | cases h
    | (split at h<;>cases h)
  ·cases h
  ·cases h
theorem Cj:∀ (l:List Nat) (s s':F×St) (ks:List RK),Nv c n ops l s s' ks->ks.length=l.length
 | [],_,_,_,h=>by rw[h.2]; rfl
 | i::l,s,s',ks,⟨s1,k,Mk,e,h1,X⟩=>by subst e; simp[Cj l s1 s' Mk X]
theorem XD{ρ:Operand->Option D}{st:St}{o:Oper}{b:Nat}(h:vA c ρ st o=.up b)(qt:St):vA c ρ qt o=.up b:=by
 obtain⟨dst,op,ty,pos,after,guard⟩:=o
 cases op with
 | alloc t =>
  unfold vA at h
  grind
 | call cl =>
  obtain⟨callee,args,sS⟩:=cl
  cases callee with
  | value f =>
   unfold vA at h
   grind
  | builtin bi =>
   unfold vA at h ⊢
   simp only at h ⊢
   unfold BV at h ⊢
   grind
  | _=>exact h
 | _=>exact h
def zcm(ops:Array Oper)(kd:Nat->RK)(p i:Nat):Prop:=∀ x y,ops[p]? = some x->ops[i]? = some y ->
 (∀ d,x.dst=some d->d ∉ tmpsOf ops y)/\(∀ d,y.dst=some d->d ∉ tmpsOf ops x)/\yK (kd p) (kd i)=false
theorem WC{f:F}{o:Oper}{dst:Option Nat}{d:Option D}{st:St}(h:∀ t,dst=some t->t ∉ tmpsOf ops o):vA c (wC (ed f dst d)) st o=vA c (wC f) st o:=by
 have e1:wS c (wC (ed f dst d)) o=wS c (wC f) o:=dx h
 have e2:∀ x∈o.op.operands,wC (ed f dst d) x=wC f x:=λx N=>BL λt ht e=>h t ht (XM (ops:=ops) (e▸N))
 obtain⟨dd,op,ty,pos,after,guard⟩:=o
 unfold vA
 rw[e1]
 cases op with
 | load t a=>simp only[e2 a (by simp[zA])]
 | store t a v=>simp only[e2 a (by simp[zA])]
 | call cl =>
  obtain⟨callee,args,sS⟩:=cl
  cases callee with
  | value g =>
   have fG:args.toList.map (wC (ed f dst d))=args.toList.map (wC f):=zM λx N=>e2 x (by simp[zA,qK,zG.1 N])
   simp only[fG,e2 g (by simp[zA,qK])]
  | builtin bi =>
   have fG:args.toList.map (wC (ed f dst d))=args.toList.map (wC f):=zM λx N=>e2 x (by simp[zA,qK,zG.1 N])
   grind
  | _=>rfl
 | _=>rfl
theorem N2{kd:Nat->RK}{p i:Nat}(hi:zcm ops kd p i){s s1 s2:F×St}(h1:nU c n ops p s s1 (kd p))(X:nU c n ops i s1 s2 (kd i)) :
  ∃ s',nU c n ops i s s' (kd i)/\nU c n ops p s' s2 (kd p):=by
 obtain⟨x,N,hdx,HR⟩:=h1
 obtain⟨y,hy,hdy,hy'⟩:=X
 obtain⟨a1,a2,a3⟩:=hi x y N hy
 have hdd:∀ t,x.dst=some t->y.dst≠some t:=λt ht e=>a1 t ht (ea e)
 obtain⟨f,st⟩:=s
 rcases HR with⟨hw,hk,d,dN,R,rfl⟩ | ⟨hw,hk,rfl⟩
 ·rcases hy' with⟨Ye,ny,e,gq,Zm,rfl⟩ | ⟨Ye,ny,rfl⟩
  ·simp only[jH a1,dx (c:=c) a1,WC (c:=c) a1]at Ye ny Zm
   simp only at hw hk R
   -- the two meet nowhere in the store
   have key:∃ qt,(qx (wS c (wC f) y) st).leads (e,qt)/\(qx (wS c (wC f) x) qt).leads (d,gq)/\vA c (wC f) st y=kd i/\vA c (wC f) qt x=kd p:=by
    have bx:=Gw (c:=c) (wC f) st x
    have Wr:=Gw (c:=c) (wC f) dN y
    rw[<- hk]at bx
    rw[<- ny]at Wr
    rcases qH (wS c (wC f) x).kind 2 with O0 | O0
    ·-- x writes nothing
     have e1:=nC (Z) R
     subst e1
     refine⟨gq,Zm,?_,ny.symm,(KG (Z) gq dN).trans hk.symm⟩
     rcases qH (wS c (wC f) y).kind 2 with hy2 | hy2
     ·have e2:=nC (Z) Zm
      grind
     ·have hy3:(wS c (wC f) y).kind=2:=qC (UW _) hy2
      cases hp:kd p with
      | rd b =>
       cases hq:kd i with
       | wr A =>
        rw[hp,hq]at a3
        simp only[yK,qD,zO]at a3
        obtain⟨b',Yc,M4⟩:=a3
        have:=Y M4
        subst this
        exact nA (by rw[<- hk]; exact hp) R (FX (by rw[<- ny]; exact hq) Zm b Yc)
       | al A =>
        rw[hp,hq]at a3
        simp only[yK,qD,zO]at a3
        obtain⟨b',Yc,M4⟩:=a3
        have:=Y M4
        subst this
        exact nA (by rw[<- hk]; exact hp) R ((Gv (by rw[<- ny]; exact hq) Zm).1 b Yc)
       | wc zD =>
        rw[hp,hq]at a3
        have hbu:b ∉ zD:=λhm=>by
         simp only[yK,qQ]at a3
         exact a3 b hm (Nat.beq_refl b)
        exact nA (by rw[<- hk]; exact hp) R ((Gy (by rw[<- ny]; exact hq) Zm).2.1 b (Gx (by rw[<- hk]; exact hp) R) hbu)
       | rd b'=>rw[hq]at Wr; simp[RK.base]at Wr; omega
       | z k=>rw[hp,hq]at a3; rw[hq,hy3]at Wr; simp only[RK.base]at Wr; subst Wr; simp[yK,bU,RK.base]at a3
       | up a =>
        rw[hp,hq]at a3
        have hab:a≠b:=λe=>by subst e; simp[yK]at a3
        obtain⟨z,e1,_⟩:=UU (by rw[<- ny]; exact hq) Zm
        subst e1
        exact nA (by rw[<- hk]; exact hp) R (by rw[zE hab])
      | wr A=>rw[hp]at bx; simp[RK.base]at bx; omega
      | al A=>rw[hp]at bx; simp[RK.base]at bx; omega
      | wc A=>rw[hp]at bx; simp[RK.base]at bx; omega
      | up A=>rw[hp]at bx; simp[RK.base]at bx; omega
      | z k =>
       rw[hp]at bx
       simp only[RK.base]at bx
       have Ev:k=0:=by
        cases hq:kd i with
        | wr A =>
         rw[hp,hq]at a3
         simp only[yK,RK.base,bU]at a3
         cases k with
         | zero=>rfl
         | succ m=>simp at a3
        | al A =>
         rw[hp,hq]at a3
         simp only[yK,RK.base,bU]at a3
         cases k with
         | zero=>rfl
         | succ m=>simp at a3
        | wc A =>
         rw[hp,hq]at a3
         simp only[yK,RK.base,bU]at a3
         cases k with
         | zero=>rfl
         | succ m=>simp at a3
        | rd b'=>rw[hq]at Wr; simp[RK.base]at Wr; omega
        | z k' =>
         rw[hq,hy3]at Wr
         simp only[RK.base]at Wr
         subst Wr
         rw[hp,hq]at a3
         simp only[yK,RK.base,bU]at a3
         cases k with
         | zero=>rfl
         | succ m=>simp at a3
        | up A =>
         rw[hp,hq]at a3
         simp only[yK,RK.base,bU]at a3
         cases k with
         | zero=>rfl
         | succ m=>simp at a3
       subst Ev
       exact(tp bx.symm R).2 gq
    ·have hx3:(wS c (wC f) x).kind=2:=qC (UW _) O0
     -- x writes
     rcases qH (wS c (wC f) y).kind 2 with hy2 | hy2
     ·have e2:=nC (Z) Zm
      subst e2
      refine⟨st,?_,R,(KG (Z) st gq).trans ny.symm,hk.symm⟩
      cases hq:kd i with
      | wr A=>rw[hq]at Wr; simp[RK.base]at Wr; omega
      | al A=>rw[hq]at Wr; simp[RK.base]at Wr; omega
      | wc A=>rw[hq]at Wr; simp[RK.base]at Wr; omega
      | up A=>rw[hq]at Wr; simp[RK.base]at Wr; omega
      | rd b =>
       cases hp:kd p with
       | wr A =>
        rw[hp,hq]at a3
        simp only[yK,qD,zO]at a3
        obtain⟨b',Yc,M4⟩:=a3
        have:=Y M4
        subst this
        exact nA (st:=gq) (by rw[<- ny]; exact hq) Zm (FX (by rw[<- hk]; exact hp) R b Yc).symm
       | al A =>
        rw[hp,hq]at a3
        simp only[yK,qD,zO]at a3
        obtain⟨b',Yc,M4⟩:=a3
        have:=Y M4
        subst this
        exact nA (st:=gq) (by rw[<- ny]; exact hq) Zm ((Gv (by rw[<- hk]; exact hp) R).1 b Yc).symm
       | wc zD =>
        rw[hp,hq]at a3
        have hbu:b ∉ zD:=λhm=>by
         simp only[yK,qQ]at a3
         exact a3 b hm (Nat.beq_refl b)
        obtain⟨q1,q2,_⟩:=Gy (by rw[<- hk]; exact hp) R
        have wO:=Gx (by rw[<- ny]; exact hq) Zm
        exact nA (st:=gq) (by rw[<- ny]; exact hq) Zm (q2 b (Z) hbu).symm
       | up a =>
        rw[hp,hq]at a3
        have hab:a≠b:=λe=>by subst e; simp[yK]at a3
        obtain⟨z,e1,_⟩:=UU (by rw[<- hk]; exact hp) R
        subst e1
        exact nA (st:=st.set a z) (by rw[<- ny]; exact hq) Zm (by rw[zE hab])
       | rd b'=>rw[hp]at bx; simp[RK.base]at bx; omega
       | z k=>rw[hp]at bx; simp only[RK.base]at bx; rw[hx3]at bx; subst bx; rw[hp,hq]at a3; simp[yK,RK.base,bU]at a3
      | z k =>
       rw[hq]at Wr
       simp only[RK.base]at Wr
       have Ev:k=0:=by
        have a4:yK (kd p) (.z k)=false:=by rw[hq]at a3; exact a3
        have a5:bU 2 k=false:=by
         cases hp:kd p with
         | wr A=>rw[hp]at a4; exact a4
         | al A=>rw[hp]at a4; exact a4
         | wc A=>rw[hp]at a4; exact a4
         | up A=>rw[hp]at a4; exact a4
         | rd b'=>rw[hp]at bx; simp[RK.base]at bx; omega
         | z k'=>rw[hp]at bx a4; simp only[RK.base]at bx; rw[hx3]at bx; subst bx; exact a4
        cases k with
        | zero=>rfl
        | succ m=>simp[bU]at a5
       subst Ev
       exact(tp Wr.symm Zm).2 st
     ·have hy3:(wS c (wC f) y).kind=2:=qC (UW _) hy2
      -- both write: one block each
      have hup:(∃ a b,kd p=.up a/\kd i=.up b/\a≠b)\/∃ zD A,kd p=.wc zD/\kd i=.al A:=by
       rw[hx3]at bx
       rw[hy3]at Wr
       cases hp:kd p<;>cases hq:kd i<;>rw[hp,hq]at a3<;>rw[hp]at bx<;>rw[hq]at Wr<;>simp only[RK.base]at bx Wr <;>
        first
         | exact .inr ⟨_,_,rfl,rfl⟩
         | exact .inl ⟨_,_,rfl,rfl,λe=>by subst e; simp[yK]at a3⟩
         | (exfalso; omega)
         | (exfalso; subst bx; simp[yK,RK.base,bU]at a3; done)
         | (exfalso; subst Wr; simp[yK,RK.base,bU]at a3; done)
         | (exfalso; simp[yK,RK.base,bU]at a3; done)
         | (exfalso; subst bx Wr; simp[yK,RK.base,bU]at a3; done)
      rcases hup with hup | ⟨zD,A,hp,hq⟩
      rotate_left
      ·obtain⟨q1,q2,q3,q4⟩:=Gy (by rw[<- hk]; exact hp) R
       obtain⟨_,r2,z,r3,r4,r5⟩:=Gv (by rw[<- ny]; exact hq) Zm
       subst r3 r4
       refine⟨st++[.var z],?_,q3 _,?_,(q4 _).trans hp.symm⟩
       ·rw[q1]; exact(r5 st).1
       ·rw[(r5 st).2,hq,r2,q1]
      obtain⟨a,b,hp,hq,hab⟩:=hup
      obtain⟨z1,e1,w1⟩:=UU (by rw[<- hk]; exact hp) R
      subst e1
      obtain⟨z2,e2,w2⟩:=UU (by rw[<- ny]; exact hq) Zm
      subst e2
      refine⟨st.set b z2,w2 st (by rw[zE hab]),?_,(XD (by rw[<- ny]; exact hq) st).trans hq.symm,(XD (by rw[<- hk]; exact hp) _).trans hp.symm⟩
      rw[List.set_comm _ _ hab]
      exact w1 (st.set b z2) (by rw[zE (λe=>hab e.symm)])
   obtain⟨qt,k1,k2,k3,k4⟩:=key
   refine⟨_,⟨y,hy,hdy,.inl ⟨Ye,k3.symm,e,_,k1,rfl⟩⟩,x,N,hdx,.inl ⟨?_,?_,d,gq,?_,?_⟩⟩
   ·rw[jH a2]; exact hw
   ·rw[WC (c:=c) a2]; exact k4.symm
   ·rw[dx (c:=c) a2]; exact k2
   ·simp only[fK f d e hdd]
  ·simp only[jH a1]at Ye
   refine⟨_,⟨y,hy,hdy,.inr ⟨Ye,ny,rfl⟩⟩,x,N,hdx,.inl ⟨?_,?_,d,dN,?_,?_⟩⟩
   ·rw[jH a2]; exact hw
   ·rw[WC (c:=c) a2]; exact hk
   ·rw[dx (c:=c) a2]; exact R
   ·simp only[fK f d (some und) hdd]
 ·rcases hy' with⟨Ye,ny,e,gq,Zm,rfl⟩ | ⟨Ye,ny,rfl⟩
  ·simp only[jH a1,dx (c:=c) a1,WC (c:=c) a1]at Ye ny Zm
   refine⟨_,⟨y,hy,hdy,.inl ⟨Ye,ny,e,gq,Zm,rfl⟩⟩,x,N,hdx,.inr ⟨?_,hk,?_⟩⟩
   ·rw[jH a2]; exact hw
   ·simp only[fK f (some und) e hdd]
  ·simp only[jH a1]at Ye
   refine⟨_,⟨y,hy,hdy,.inr ⟨Ye,ny,rfl⟩⟩,x,N,hdx,.inr ⟨?_,hk,?_⟩⟩
   ·rw[jH a2]; exact hw
   ·simp only[fK f (some und) (some und) hdd]
end
end Go.AM
namespace Go.AM
set_option linter.unusedSectionVars false
variable [gp]
class Bw where
 df:List Deferred
instance G7:Bw:=⟨[]⟩
variable [Bw]
structure Rel(O:KS)(n:Nat)(f:F)(a:Act):Prop where
 size:a.tmps.size=n
 defers:a.defers=Bw.df
 get:∀ (s:Nat) (d:D),f s=some d->∃ v,a.tmps[s]? = some v/\RD O d v
section
variable {c:Ctx} {O:KS} {n:Nat} {f:F} {a:Act}
theorem Rel.eval(h:Rel O n f a){x:Operand}{d:D}(N:wC f x=some d):RD O d (a.eval x):=by
 cases x with
 | tmp t =>
  obtain⟨v,h1,X⟩:=h.get t d N
  simp only[Act.eval,zY,h1]
  exact X
 | const v=>exact(H3 N).1
 | global g=>cases N
 | func g =>
  have N:(bif qL g 1000000 then some (D.wo g [])else none)=some d:=N
  cases I:qL g 1000000 with
  | false=>grind
  | true =>
   rw[I]at N
   cases N
   have:=RD.wo (O:=O) g [] [] rfl (λi h=>absurd h (qN i))
   rwa [D3 I]at this
theorem Rel.mono{E:KS}(x:Ext O E)(h:Rel O n f a):Rel E n f a:=⟨h.size,h.defers,λs d J=>by obtain⟨v,h1,X⟩:=h.get s d J; exact⟨v,h1,X.mono x⟩⟩
theorem Rel.put{dst:Option Nat}{d:Option D}{v:Value}(h:Rel O n f a)(J:gu n dst=true)(hv:∀ d',d=some d'->RD O d' v):Rel O n (ed f dst d) (a.put dst v):=by
 cases dst with
 | none=>exact h
 | some t =>
  have wO:t<n:=M J
  refine⟨by simp[qW,h.size],h.defers,λs d' hs => ?_⟩
  simp only[ed]at hs
  simp only[qW]
  by_cases e:s=t
  ·subst e
   rw[if_pos rfl]at hs
   exact⟨v,by simp[h.size,wO],hv d' hs⟩
  ·rw[if_neg e]at hs
   obtain⟨u,h1,X⟩:=h.get s d' hs
   grind
theorem z4i{v:Value}:RD O und undef:=.eO [] [] rfl (λi h=>absurd h (qN i))
theorem za1{o:Oper}{d:Option D}{qt:St}(h:wB c.P (execOp a.eval o) O d qt){K:Act->World->Prop}{Q:Exit->Act->World->Prop}
  (hK:∀ (v:Value) (E:KS),E.st=qt->Inv E->Ext O E->(∀ d',d=some d'->RD E d' v)->K (a.put o.dst v) E.w):o.wp c.P a O.w K Q:=by
 obtain⟨E,nx,v,h1,X,h3,h4,h5,h6⟩:=h
 unfold Oper.wp
 rw[h1]
 rcases X with rfl | ⟨rfl,rfl⟩
 ·exact hK v E h3 h4 h5 h6
 ·exact hK undef E h3 h4 h5 h6
theorem MG(h:Rel O n f a)(x:Option Operand):Kq O (x.map (wC f)) (x.map a.eval):=by
 cases x with
 | none=>trivial
 | some x=>exact λy hy=>h.eval hy
theorem D1(hI:Inv O)(hR:Rel O n f a){b:Builtin}{args:Array Operand}{sS:Array TypeId}{o:Oper}(ho:o.op=.call ⟨.builtin b,args,sS⟩){d:Option D}{qt:St}
  (h:(qx (lS c b sS.toList (args.toList.map (wC f))) O.st).leads (d,qt)):wB c.P (execOp a.eval o) O d qt:=by
 have two:∀ {g:Value->Value->Sem Value} {m:Int->Int->Int},(∀ k k' a b,(g (.int k a) (.int k' b)).run c.P O.w=.ok (.int k (m a b)) O.w)->(qx (GS m (args.toList.map (wC f))) O.st).leads (d,qt) ->
   (∀ p q,args = #[p,q]->execOp a.eval o=(do xG (.value (<- g (a.eval p) (a.eval q))):Sem Next))->wB c.P (execOp a.eval o) O d qt:=by
  intro g m hg h he
  match R:args.toList,h with
  | [p,q],h =>
   have hpq:args = #[p,q]:=by rw[<- zR (xs:=args),R]
   rw[he p q hpq]
   obtain⟨r,h1,rfl,h3⟩:=Mt hg hI (λz hz=>hR.eval (x:=p) hz) (λz hz=>hR.eval (x:=q) hz) h
   exact⟨O,.value r,r,by simp[h1],.inl rfl,rfl,hI,Ext.refl O,h3⟩
  | [],h=>exact absurd h zj
  | [_],h=>exact absurd h zj
  | _::_::_::_,h=>exact absurd h zj
 unfold lS at h
 split at h
 ·rename_i t ts x xs h1 X
  have ht:sS[0]? = some t:=by rw[<- qI,h1]; rfl
  obtain⟨y,hy,rfl⟩:∃ y,args[0]? = some y/\x=wC f y:=by
   cases R:args.toList with
   | nil=>grind
   | cons y ys=>rw[R]at X; simp at X; exact⟨y,by rw[<- qI,R]; rfl,X.1.symm⟩
  have:=z84 (c:=c) (ty:=o.type) (ts:=sS) (vs:=args.map a.eval) hI (λz hz=>hR.eval (x:=y) hz) ht (by simp[hy]) h
  simp only[execOp,ho,resolve,invoke,builtin,pure_bind]
  exact this
 ·rename_i t t' s x h1 X
  obtain⟨p,q,rfl,rfl,hpq⟩:∃ p q,s=wC f p/\x=wC f q/\args = #[p,q]:=by
   cases R:args.toList with
   | nil=>grind
   | cons p r=>rw[R]at X; cases r with
    | nil=>simp at X
    | cons q r=>cases r with
     | nil=>grind
     | cons _ _=>simp at X
  subst hpq
  cases I:zU t t' with
  | false =>
   rw[I,cond_false]at h
   have z2i:sS = #[t,t']:=by rw[<- zR (xs:=sS),h1]
   subst z2i
   have:=YS (c:=c) (ty:=o.type) hI (λz hz=>hR.eval (x:=p) hz) (λz hz=>hR.eval (x:=q) hz) h
   have e2:(#[p,q]:Array Operand).map a.eval = #[a.eval p,a.eval q]:=qp
   simp only[execOp,ho,resolve,invoke,builtin,pure_bind,e2]
   exact this
  | true =>
   rw[I,cond_true]at h
   have e:=Y I
   subst e
   have z2i:sS = #[t,t]:=by rw[<- zR (xs:=sS),h1]
   subst z2i
   have:=EN (c:=c) (ty:=o.type) hI (λz hz=>hR.eval (x:=p) hz) (λz hz=>hR.eval (x:=q) hz) h
   have e2:(#[p,q]:Array Operand).map a.eval = #[a.eval p,a.eval q]:=qp
   simp only[execOp,ho,resolve,invoke,builtin,pure_bind,e2]
   exact this
 ·rename_i t t' s x h1 X
  obtain⟨p,q,rfl,rfl,hpq⟩:∃ p q,s=wC f p/\x=wC f q/\args = #[p,q]:=by
   cases R:args.toList with
   | nil=>grind
   | cons p r=>rw[R]at X; cases r with
    | nil=>simp at X
    | cons q r=>cases r with
     | nil=>simp at X; exact⟨p,q,X.1.symm,X.2.symm,by rw[<- zR (xs:=args),R]⟩
     | cons _ _=>simp at X
  subst hpq
  have z2i:sS = #[t,t']:=by rw[<- zR (xs:=sS),h1]
  subst z2i
  have:=SO (c:=c) (ty:=o.type) (t':=t') hI (λz hz=>hR.eval (x:=p) hz) (λz hz=>hR.eval (x:=q) hz) h
  have e2:(#[p,q]:Array Operand).map a.eval = #[a.eval p,a.eval q]:=qp
  simp only[execOp,ho,resolve,invoke,builtin,pure_bind,e2]
  exact this
 ·rename_i X
  exact two (g:=Builtin.min2) (λk k' a b=>by simp[Builtin.min2,rV]) h λp q hpq=>by
   subst hpq
   have e2:(#[p,q]:Array Operand).map a.eval = #[a.eval p,a.eval q]:=qp
   simp only[execOp,ho,resolve,invoke,builtin,pure_bind,e2]
   simp[Builtin.min_]
 ·rename_i X
  exact two (g:=Builtin.max2) (λk k' a b=>by simp[Builtin.max2,dZ]) h λp q hpq=>by
   subst hpq
   have e2:(#[p,q]:Array Operand).map a.eval = #[a.eval p,a.eval q]:=qp
   simp only[execOp,ho,resolve,invoke,builtin,pure_bind,e2]
   simp[Builtin.max_]
 ·exact absurd h zj
theorem z6M{o:Oper}{g:Nat}{caps:Array Value}{args:Array Value}{hl:Ending->World->Prop}(jR:(execOp a.eval o).run c.P O.w=(callFunc g args).run c.P O.w)
  (h:gH c.P g args O.w hl) {K:Act->World->Prop} {Q:Exit->Act->World->Prop} (hR:∀ e w',hl e w'->∃ v,e=.returned v/\K (a.put o.dst v) w'):o.wp c.P a O.w K Q:=by
 unfold Oper.wp
 rw[jR]
 rcases h with⟨h1,X⟩ | ⟨v,w',h1,X⟩
 ·rw[h1]
  refine X.mono λe w' he => ?_
  grind
 ·rw[h1]
  obtain⟨u,hu,hk⟩:=hR _ _ X
  cases hu
  exact hk
theorem G1(g:Nat){l caps:List D}{vs us:List Value}(h1:wQ O l vs)(X:wQ O caps us):wQ O (bQ g l caps) (bQ g vs us):=by
 unfold bQ
 cases Nat.ble 1000000 g with
 | true=>exact X.append h1
 | false=>exact h1.append X
theorem F1{dst:Option Nat}{p:Operand}{args:Array Operand}{sS:Array TypeId}{ty:TypeId}{pos:String}{after:Array Edge}{guard:Option (Nat×Bool)}{g:Nat}{us:List Value}{P:Program}{w:World}(FM:a.eval p=X2 g us) :
  (execOp a.eval ⟨dst,.call ⟨.value p,args,sS⟩,ty,pos,after,guard⟩).run P w=(callFunc (eD g) (bQ g (args.toList.map a.eval) us).toArray).run P w:=by
 unfold X2 at FM
 unfold eD bQ
 cases I:Nat.ble 1000000 g with
 | true =>
  rw[I]at FM
  simp at FM ⊢
  have e:us.toArray++args.map a.eval=(us++args.toList.map a.eval).toArray:=by apply qP; simp
  simp only[execOp,resolve,FM,xE,pure_bind,invoke,Array.append_empty,e]
 | false =>
  rw[I]at FM
  simp at FM ⊢
  have e:args.map a.eval++us.toArray=(args.toList.map a.eval++us).toArray:=by apply qP; simp
  simp only[execOp,resolve,FM,xE,pure_bind,invoke,Array.empty_append,e]
theorem Ip{o:Oper}{d:Option D}{qt:St}(hC:∀ g,Es c.P g (c.fn g))(hI:Inv O)(hR:Rel O n f a)(h:(qx (wS c (wC f) o) O.st).leads (d,qt)){K:Act->World->Prop}{Q:Exit->Act->World->Prop}
  (hK:∀ (v:Value) (E:KS),E.st=qt->Inv E->Ext O E->(∀ d',d=some d'->RD E d' v)->K (a.put o.dst v) E.w):o.wp c.P a O.w K Q:=by
 have lI:∀ (x:Operand) (z:D),wC f x=some z->RD O z (a.eval x):=λx z hz=>hR.eval hz
 obtain⟨dst,op,ty,pos,after,guard⟩:=o
 have fin:wB c.P (execOp a.eval ⟨dst,op,ty,pos,after,guard⟩) O d qt->Oper.wp c.P ⟨dst,op,ty,pos,after,guard⟩ a O.w K Q:=λJ=>za1 J hK
 cases op with
 | move x =>
  simp only[wS,kV,T.leads]at h
  obtain⟨h,rfl⟩:=h
  exact fin (wB.val hI λd' eE=>lI x d' (h.trans eE))
 | assign x =>
  simp only[wS,kV,T.leads]at h
  obtain⟨h,rfl⟩:=h
  exact fin (wB.val hI λd' eE=>lI x d' (h.trans eE))
 | pick x p q =>
  simp only[wS,MK]at h
  split at h
  ·rename_i b I
   have hv:=Z9 I (lI x)
   rw[kV]at h
   obtain⟨h,rfl⟩:=h
   refine fin ⟨O,.value (if b then a.eval p else a.eval q),if b then a.eval p else a.eval q,?_,.inl rfl,rfl,hI,Ext.refl O,λd' eE => ?_⟩
   ·simp[execOp,hv,Go.asBool]
   ·rcases h with⟨rfl,h⟩ | ⟨rfl,h⟩
    ·exact lI p d' (h.trans eE)
    ·exact lI q d' (h.trans eE)
  ·exact absurd h zj
 | alloc t=>exact fin (Ll hI h)
 | box t x=>exact fin (LB hI (lI x) h)
 | load t x=>exact fin (TI hI (lI x) h)
 | store t x y=>exact fin (N3 hI (lI x) (lI y) h)
 | nilCheck x=>exact fin (Bf rfl hI (lI x) h)
 | binOp op t x y ty' =>
  have h:(qx (Lv c op t y (wC f x) (wC f y)) O.st).leads (d,qt):=h
  unfold Lv at h
  split at h
  ·exact fin (Mv hI (lI x) h)
  ·exact fin (Mx hI (lI x) (λh=>YX hI (lI x) (lI _) h) h)
  ·exact fin (Mw hI (lI x) (λh=>YX hI (lI x) (lI _) h) h)
  ·exact fin (YX hI (lI x) (lI y) h)
 | typeAssert x xt t ok=>exact fin (Yi hI (lI x) h)
 | unOp op t x=>exact fin (zaJ hI (lI x) h)
 | convert s t x=>exact fin (D6 hI (lI x) h)
 | makeInterface t x=>exact fin (GM hI (lI x) h)
 | makeFunc fn first cap =>
  cases fn with
  | func g =>
   simp only[wS]at h
   cases I:zU first.size 0&&qL g 1000000 with
   | false =>
    rw[I,cond_false]at h
    cases FD:zU cap.size 0&&qL g 1000000 with
    | false=>rw[FD]at h; exact absurd h zj
    | true =>
     rw[FD,cond_true]at h
     simp only[zF]at FD
     have hf:cap = #[]:=zV (Y FD.1)
     subst hf
     split at h
     ·rename_i l R
      rw[dF]at h
      obtain⟨rfl,rfl⟩:=h
      have hr:=fN (O:=O) (vs:=first.toList.map a.eval) R (qp) (λi d v J hv=>by
       simp only[qR]at J hv
       cases hi:first.toList[i]? with
       | none=>grind
       | some x=>rw[hi]at J hv; simp at J hv; subst hv; exact lI x d J)
      refine fin (wB.pure hI ?_ (.wo (g+1000000) l _ hr.1 hr.2))
      have e:(first.toList.map a.eval).toArray=first.map a.eval:=by apply qP; simp
      rw[LI FD.2,e]
      simp[Instr.makeFunc]
     ·exact absurd h zj
   | true =>
    rw[I,cond_true]at h
    simp only[zF]at I
    have hf:first = #[]:=zV (Y I.1)
    subst hf
    split at h
    ·rename_i l R
     rw[dF]at h
     obtain⟨rfl,rfl⟩:=h
     have hr:=fN (O:=O) (vs:=cap.toList.map a.eval) R (qp) (λi d v J hv=>by
      simp only[qR]at J hv
      cases hi:cap.toList[i]? with
      | none=>grind
      | some x=>rw[hi]at J hv; simp at J hv; subst hv; exact lI x d J)
     refine fin (wB.pure hI ?_ (.wo g l _ hr.1 hr.2))
     have e:(cap.toList.map a.eval).toArray=cap.map a.eval:=by apply qP; simp
     rw[D3 I.2,e]
     simp[Instr.makeFunc]
    ·exact absurd h zj
  | _=>exact absurd h zj
 | makeSlice t x y=>exact fin (TL hI (lI x) (lI y) h)
 | slice t x lo hi mx=>exact fin (MW hI (lI x) (MG hR lo) (MG hR hi) (MG hR mx) h)
 | fieldAddr s x fl=>exact fin (Ga hI (lI x) h)
 | field s x fl=>exact fin (LU hI (lI x) h)
 | indexAddr t x i=>exact fin (Gm hI (lI x) (lI i) h)
 | index t x i=>exact fin (Mg hI (lI x) (lI i) h)
 | extract x i=>exact fin (Dg hI (lI x) h)
 | build t ps =>
  have:=LD (L:=ps.toList) (G:=a.eval) hI lI h
  refine fin ?_
  have e:(ps.toList.map λp=>(p.1,a.eval p.2)).toArray=ps.map λp=>(p.1,a.eval p.2):=by apply qP; simp
  rw[e]at this
  exact this
 | buildSlice t k ps =>
  have h:(qx (bif z4o c dst&&zU k 0&&zU ps.size 0 then Uu c t (bW c t k (ps.toList.map λp=>(p.1,wC f p.2)))else bW c t k (ps.toList.map λp=>(p.1,wC f p.2))) O.st).leads (d,qt):=h
  refine fin ?_
  have e:(ps.toList.map λp=>(p.1,a.eval p.2)).toArray=ps.map λp=>(p.1,a.eval p.2):=by apply qP; simp
  have key:(qx (bW c t k (ps.toList.map λp=>(p.1,wC f p.2))) O.st).leads (d,qt)->wB c.P (do xG (.value (<- Instr.buildSlice t k (ps.map λp=>(p.1,a.eval p.2))))) O d qt:=λh=>by
   have:=Y9 (L:=ps.toList) (G:=a.eval) hI lI h
   rw[e]at this
   exact this
  cases I:z4o c dst&&zU k 0&&zU ps.size 0 with
  | false=>rw[I]at h; exact key h
  | true =>
   rw[I,cond_true]at h
   simp only[zF]at I
   have hk:=Y I.1.2
   have hp:ps = #[]:=zV (Y I.2)
   subst hk hp
   have e0:((#[]:Array (Nat×Operand)).map λp=>(p.1,a.eval p.2)) = #[]:=qp
   rw[e0]at key
   have r:=HX hI key h
   rw[<- e0]at r
   exact r
 | call cl =>
  obtain⟨callee,args,sS⟩:=cl
  cases callee with
  | builtin b=>exact fin (D1 hI hR rfl h)
  | invoke r m=>exact absurd h zj
  | value p =>
   simp only[wS,eZ]at h
   split at h
   ·rename_i g caps l hp R
    have hpv:=lI p _ hp
    have hr:=fN (O:=O) (vs:=args.toList.map a.eval) R (qp) (λi d v J hv=>by
      simp only[qR]at J hv
      cases hi:args.toList[i]? with
      | none=>rw[hi]at J; cases J
      | some x=>rw[hi]at J hv; simp at J hv; subst hv; exact lI x d J)
    generalize FM:a.eval p=pv at hpv
    cases hpv with
    | wo _ _ us Zm hh2 =>
     have Q9:=G1 g hr (⟨Zm,hh2⟩:wQ O caps us)
     refine z6M (c:=c) (O:=O) (g:=eD g) (caps := #[]) (args:=(bQ g (args.toList.map a.eval) us).toArray) ?_ (SL (hC (eD g)) hI Q9 h) ?_
     ·exact F1 FM
     ·rintro e w' ⟨E,v,rfl,h1,X,h3,rfl,h4⟩
      exact⟨v,rfl,hK v E h1 X h3 h4⟩
   ·exact absurd h zj
 | makeMap t r=>exact fin (DI hI h)
 | lookup t m x ok=>exact fin (FZ hI (lI m) (lI x) h)
 | mapUpdate t m x y=>exact fin (GP hI (lI m) (lI x) (lI y) h)
 | _=>exact absurd h zj
end
end Go.AM
namespace Go.AM
set_option linter.unusedSectionVars false
variable [gp] [Bw]
section
variable {c:Ctx} {n:Nat} {ops:Array Oper}
theorem Dn(j:Nat):bE ops j=(ops[j]?).bind (·.dst):=by
 unfold bE; cases ops[j]? <;> rfl
theorem ZH{O:KS}{f:F}{a:Act}{o:Oper}{b:Bool}(hR:Rel O n f a)(h:jM ops f o=some b):qU o (yielded ops a.tmps)=b:=by
 unfold jM at h
 unfold qU
 split at h
 ·grind
 ·rename_i j w hg
  rw[hg]
  split at h
  ·cases h
  ·rename_i t ht
   rw[Dn]at ht
   simp only[yielded,ht,Option.bind_some]
   split at h
   ·rename_i x N
    obtain⟨v,h1,X⟩:=hR.get t _ N
    have:=X.cA
    cases h
    grind
   ·rename_i N
    obtain⟨v,h1,X⟩:=hR.get t _ N
    cases h
    rw[h1]
    cases X with
    | eO _ vs R hh=>rfl
   ·cases h
def pQ(ops:Array Oper)(a a':Act):Prop:=∀ s:Nat,(∀ o∈ops.toList,o.dst≠some s)->a'.tmps[s]? = a.tmps[s]?
theorem pQ.refl(ops:Array Oper)(a:Act):pQ ops a a:=λ_ _=>rfl
theorem pQ.trans{ops:Array Oper}{a b d:Act}(h:pQ ops a b)(k:pQ ops b d):pQ ops a d:=λs hs=>(k s hs).trans (h s hs)
theorem XC{ops:Array Oper}{i:Nat}{o:Oper}{a:Act}{v:Value}(ho:ops[i]? = some o):pQ ops a (a.put o.dst v):=by
 intro s hs
 have hm:o∈ops.toList:=by have:=Array.mem_of_getElem? ho; simpa using this
 have:=hs o hm
 cases J:o.dst with
 | none=>rfl
 | some t =>
  rw[J]at this
  have ki:t≠s:=λe=>this (by rw[e])
  simp[qW,zH ki]
theorem H7{O:KS}{a:Act}{i k:Nat}{s s':F×St}(hC:∀ g,Es c.P g (c.fn g))(hI:Inv O)(hR:Rel O n s.1 a)(ud:O.st=s.2)(h:fu c n ops i s s' k){K:Act->World->Prop}{Q:Exit->Act->World->Prop}
  (hK:∀ (a':Act) (E:KS),E.st=s'.2->Inv E->Ext O E->Rel E n s'.1 a'->pQ ops a a'->K a' E.w):wpOp c.P ops Q i K a O.w:=by
 obtain⟨o,ho,J,h⟩:=h
 unfold wpOp
 rw[ho]
 simp only
 rcases h with⟨hw,_,d,qt,R,rfl⟩ | ⟨hw,_,rfl⟩
 ·rw[if_pos (ZH hR hw)]
  refine .inl (Ip hC hI hR (ud▸R) λv E h1 X h3 h4=>hK _ E h1 X h3 ((hR.mono h3).put J h4) (XC ho))
 ·rw[if_neg (by rw[ZH hR hw]; exact Bool.false_ne_true)]
  exact hK _ O ud hI (Ext.refl O) (hR.put J λd' eE=>by cases eE; exact z4i (v:=undef)) (XC ho)
theorem RG{Q:Exit->Act->World->Prop}(hC:∀ g,Es c.P g (c.fn g)):∀ (l:List Nat) {O:KS} {a:Act} {s s':F×St} {ks:List Nat},Inv O->Rel O n s.1 a->O.st=s.2->Sy c n ops l s s' ks ->
  (∀ (a':Act) (E:KS),E.st=s'.2->Inv E->Ext O E->Rel E n s'.1 a'->pQ ops a a'->Q .normal a' E.w)->wpOps c.P ops Q l a O.w
 | [],O,a,s,s',ks,hI,hR,ud,h,hQ=>by
  obtain⟨rfl,_⟩:=h
  exact hQ a O ud hI (Ext.refl O) hR (pQ.refl _ _)
 | i::l,O,a,s,s',ks,hI,hR,ud,h,hQ=>by
  obtain⟨s1,k,Mk,_,h1,X⟩:=h
  refine H7 hC hI hR ud h1 λa1 κ1 g1 g2 g3 g4 g5 => ?_
  exact RG hC l g2 g4 g1 X λa' E e1 e2 e3 e4 e5=>hQ a' E e1 e2 (g3.trans e3) e4 (g5.trans e5)
theorem Ki{Q:Exit->Act->World->Prop}(hC:∀ g,Es c.P g (c.fn g)):∀ (l m:List Nat) {O:KS} {a:Act} {s s':F×St} {ks:List Nat},Inv O->Rel O n s.1 a->O.st=s.2->Sy c n ops l s s' ks ->
  (∀ (a':Act) (E:KS),E.st=s'.2->Inv E->Ext O E->Rel E n s'.1 a'->pQ ops a a'->wpOps c.P ops Q m a' E.w)->wpOps c.P ops Q (l++m) a O.w
 | [],m,O,a,s,s',ks,hI,hR,ud,h,hQ=>by
  obtain⟨rfl,_⟩:=h
  exact hQ a O ud hI (Ext.refl O) hR (pQ.refl _ _)
 | i::l,m,O,a,s,s',ks,hI,hR,ud,h,hQ=>by
  obtain⟨s1,k,Mk,_,h1,X⟩:=h
  refine H7 hC hI hR ud h1 λa1 κ1 g1 g2 g3 g4 g5 => ?_
  exact Ki hC l m g2 g4 g1 X λa' E e1 e2 e3 e4 e5=>hQ a' E e1 e2 (g3.trans e3) e4 (g5.trans e5)
theorem H6{kd:Nat->Nat}:∀ (l:List Nat) (s s':F×St) (ks:List Nat),Sy c n ops l s s' ks->ks=l.map kd->QK c n ops kd l s s'
 | [],s,s',ks,h,_=>h.1
 | i::l,s,s',ks,⟨s1,k,Mk,e,h1,X⟩,hk=>by
  subst e
  simp at hk
  obtain⟨rfl,hk⟩:=hk
  exact⟨s1,h1,H6 l s1 s' Mk X hk⟩
theorem Iu:∀ (l:List Nat) (s s':F×St) (ks:List Nat),Sy c n ops l s s' ks->ks.length=l.length
 | [],_,_,_,h=>by rw[h.2]
 | i::l,s,s',ks,⟨s1,k,Mk,e,h1,X⟩=>by subst e; simp[Iu l s1 s' Mk X]
theorem Fv(acc:List Nat):∀ (es:List Edge) (s0 p:Nat),qS (es.foldl (λs e=>bif zZ .any e then s ||| 2 ^ e.on ||| acc.getD e.on 0 else s) s0) p=true ->
  qS s0 p=true\/∃ e∈es,zZ .any e=true/\(p=e.on\/qS (acc.getD e.on 0) p=true)
 | [],s0,p,h=>.inl h
 | e::es,s0,p,h=>by
  rcases Fv acc es _ p h with h1 | ⟨e',h1,X⟩
  ·grind
  ·grind
theorem ZN:∀ (l:List Oper) (acc:List Nat),∃ r,uc l acc=acc++r/\r.length=l.length /\
  ∀ j o,l[j]? = some o->∀ p,qS ((uc l acc).getD (acc.length+j) 0) p=true ->
   ∃ e∈o.after.toList,zZ .any e=true/\(p=e.on\/(e.on<acc.length+j/\qS ((uc l acc).getD e.on 0) p=true))
 | [],acc=>⟨[],by simp[uc],rfl,λj o h=>by simp at h⟩
 | o::l,acc=>by
  let b:=o.after.toList.foldl (λs e=>bif zZ .any e then s ||| 2 ^ e.on ||| acc.getD e.on 0 else s) 0
  obtain⟨r,h1,X,h3⟩:=ZN l (acc++[b])
  have I:uc (o::l) acc=uc l (acc++[b]):=rfl
  have Tc:∀ i,i<acc.length->(uc l (acc++[b])).getD i 0=acc.getD i 0:=λi hi=>by
   grind
  refine⟨b::r,by rw[I,h1]; simp,by simp[X],?_⟩
  rw[I]
  intro j o' ho p hp
  cases j with
  | zero =>
   simp at ho
   subst ho
   have he:(uc l (acc++[b])).getD (acc.length+0) 0=b:=by rw[h1]; simp[xF]
   rw[he]at hp
   rcases Fv acc _ 0 p hp with h | ⟨e,k1,k2,k3⟩
   ·simp at h
   ·grind
  | succ j =>
   have:=h3 j o' (by simpa using ho) p (by rw[show(acc++[b]).length+j=acc.length+(j+1) by simp; omega]; exact hp)
   grind
theorem ZY:∀ (l:List Oper) (k:Nat),iv l k=true->∀ j o,l[j]? = some o->∀ e∈o.after.toList,zZ .any e=true->e.on<k+j
 | [],_,_,j,o,h,_,_,_=>by simp at h
 | o::l,k,h,j,o',ho,e,he,I=>by
  simp only[iv,zF,zJ]at h
  cases j with
  | zero =>
   simp at ho
   subst ho
   have:=h.1 e he
   rw[I]at this
   exact M this
  | succ j =>
   have:=ZY l (k+1) h.2 j o' (wb) e he I
   omega
def z0s{K:Type}(cl:K->K->Bool)(ops:Array Oper)(x:Oper)(kx:K)(y:Oper)(ky:K):Prop:=(∀ d,x.dst=some d->d ∉ tmpsOf ops y)/\(∀ d,y.dst=some d->d ∉ tmpsOf ops x)/\cl kx ky=false
theorem Iw{K:Type}{cl:K->K->Bool}{bs:List Nat}{xs:List (Nat×Option Nat×List Nat×K)}{j:Nat}{ky:K}{y:Oper}(h:MJ cl bs xs j y.dst (tmpsOf ops y) ky=true){i:Nat}{kx:K}{x:Oper}(N:(i,x.dst,tmpsOf ops x,kx)∈xs) :
  ordered bs i j=true\/z0s cl ops x kx y ky:=by
 simp only[MJ,zJ]at h
 have:=h _ N
 simp at this
 rcases this with h1 | ⟨⟨h1,X⟩,h3⟩
 ·grind
 ·refine .inr ⟨λd J hm => ?_,λd J hm => ?_,h3⟩
  ·grind
  ·grind
theorem Qr{K:Type}{cl:K->K->Bool}{bs:List Nat}:∀ (l:List Oper) (ks:List K) (k0:Nat) (xs:List (Nat×Option Nat×List Nat×K)),Qq cl ops bs l ks k0 xs=true ->
  (∀ j y ky,l[j]? = some y->ks[j]? = some ky->(∀ i x kx,(i,x.dst,tmpsOf ops x,kx)∈xs->ordered bs i (k0+j)=true\/z0s cl ops x kx y ky) /\
   (∀ i x kx,i<j->l[i]? = some x->ks[i]? = some kx->ordered bs (k0+i) (k0+j)=true\/z0s cl ops x kx y ky))
 | [],_,_,_,_,j,y,ky,hy,_=>by simp at hy
 | o::l,[],_,_,h,_,_,_,_,_=>by simp[Qq]at h
 | o::l,k::ks,k0,xs,h,j,y,ky,hy,hk=>by
  simp only[Qq,zF]at h
  obtain⟨h1,X⟩:=h
  have ih:=Qr l ks (k0+1) _ X
  cases j with
  | zero =>
   simp at hy hk
   subst hy hk
   exact⟨λi x kx N=>by simpa using Iw h1 N,λi x kx hi=>absurd hi (qN i)⟩
  | succ j =>
   obtain⟨g1,g2⟩:=ih j y ky (by simpa using hy) (by simpa using hk)
   have e:k0+1+j=k0+(j+1):=Z
   rw[e]at g1 g2
   refine⟨λi x kx N=>g1 i x kx (zS _ N),λi x kx hi N hkx => ?_⟩
   cases i with
   | zero =>
    grind
   | succ i =>
    grind
def rest(ops:Array Oper)(listed:Array Bool):List Nat:=(qF ops.size).filter λi => !listed.getD i true
def Vx(ops:Array Oper)(listed:Array Bool):Prop:=∀ q,q<ops.size->listed.getD q true=true->∀ p,ordered (uc ops.toList []) p q=true->p<ops.size->listed.getD p true=true
theorem cD{listed:Array Bool}{i j:Nat}(hi:i<listed.size):(listed.setIfInBounds i true).getD j true=if j=i then true else listed.getD j true:=by
 simp
 grind
theorem iH{p q:Nat->Bool}{i:Nat}:∀ (l:List Nat),l.Pairwise (· < ·)->i∈l->p i=true->(∀ j,q j=(p j && !(j==i))) ->
  ∃ pre post,l.filter p=pre++i::post/\l.filter q=pre++post/\∀ x∈pre,p x=true/\x∈l/\x<i
 | [],_,hi,_,_=>by simp at hi
 | a::l,hn,hi,hp,hq=>by
  have hn':=qE.1 hn
  by_cases ha:a=i
  ·subst ha
   refine⟨[],l.filter p,wb,?_,qp⟩
   have hqa:q a=false:=by rw[hq]; simp
   simp only[List.filter_cons,hqa]
   refine List.filter_congr λx N => ?_
   rw[hq]
   have:(x==a)=false:=by simp; exact λe=>absurd (hn'.1 x N) (Z)
   simp[this]
  ·have Yu:i∈l:=by rcases qA.1 hi with h | h; exact absurd h.symm ha; exact h
   obtain⟨pre,post,h1,X,h3⟩:=iH l hn'.2 Yu hp hq
   grind
theorem Qv{listed:Array Bool}{i:Nat}:i∈qY .any ops listed↔i<ops.size/\listed.getD i true=false/\∀ o,ops[i]? = some o->∀ e∈o.after.toList,zZ .any e=true->listed.getD e.on false=true:=by
 unfold qY
 simp only[zX,U,zF,zL]
 constructor
 ·rintro⟨h1,X,h3⟩
  refine⟨h1,X,λo ho e he I => ?_⟩
  rw[ho]at h3
  simp only[Option.map_some,Option.getD_some,Array.all_eq_true_iff_forall_mem]at h3
  grind
 ·grind
theorem Hg(M7:iv ops.toList 0=true){listed:Array Bool}(bR:listed.size=ops.size):qY .any ops listed=[]->rest ops listed=[]:=by
 intro hr
 cases hre:rest ops listed with
 | nil=>rfl
 | cons i l =>
  have hi:i∈rest ops listed:=by rw[hre]; exact zK
  simp only[rest,zX,U,zL]at hi
  have zdw:∀ j,j<i->listed.getD j true=true:=by
   intro j hj
   cases R:listed.getD j true with
   | true=>rfl
   | false =>
    have hpw:(rest ops listed).Pairwise (· < ·):=List.Pairwise.filter _ zN
    have hjm:j∈rest ops listed:=by simp only[rest,zX,U,zL]; exact⟨Z,R⟩
    rw[hre]at hpw hjm
    rcases qA.1 hjm with rfl | hjm
    ·grind
    ·have:=(qE.1 hpw).1 j hjm; omega
  have:i∈qY .any ops listed:=by
   rw[Qv]
   refine⟨hi.1,hi.2,λo ho e he I => ?_⟩
   have wO:=ZY ops.toList 0 M7 i o (wb) e he I
   grind
  grind
def YM(Stp:Nat->F×St->F×St->Prop):List Nat->F×St->F×St->Prop
 | [],s,s'=>s'=s
 | i::l,s,s'=>∃ s1,Stp i s s1/\YM Stp l s1 s'
theorem CF{Stp:Nat->F×St->F×St->Prop}{In:Nat->Nat->Prop}(FE:∀ p i,In p i->∀ s s1 s2,Stp p s s1->Stp i s1 s2->∃ s',Stp i s s'/\Stp p s' s2){i:Nat}{post:List Nat}{s':F×St}:∀ {pre:List Nat} {s:F×St},(∀ p∈pre,In p i)->YM Stp (pre++i::post) s s' ->
  ∃ s1,Stp i s s1/\YM Stp (pre++post) s1 s'
 | [],s,_,h=>h
 | p::pre,s,hp,⟨sp,h1,X⟩=>by
  obtain⟨s1,h3,h4⟩:=CF FE (λq hq=>hp q (zS _ hq)) X
  obtain⟨s2,h5,h6⟩:=FE _ _ (hp p zK) _ _ _ h1 h3
  exact⟨s2,h5,s1,h6,h4⟩
theorem Kh{Stp:Nat->F×St->F×St->Prop}{In:Nat->Nat->Prop}(z2f:∀ i s s',Stp i s s'->∃ k,fu c n ops i s s' k)(FE:∀ p i,In p i->∀ s s1 s2,Stp p s s1->Stp i s1 s2->∃ s',Stp i s s'/\Stp p s' s2){Q:Exit->Act->World->Prop}(hC:∀ g,Es c.P g (c.fn g))(M7:iv ops.toList 0=true)
  {sf:F×St}:∀ (fuel:Nat) (listed:Array Bool) {O:KS} {a:Act} {s:F×St},(∀ p i,p<i->i<ops.size->listed.getD p true=false->ordered (uc ops.toList []) p i=true\/In p i) ->
  listed.size=ops.size->fuel=(rest ops listed).length->Vx ops listed->Inv O->Rel O n s.1 a->O.st=s.2->YM Stp (rest ops listed) s sf ->
  (∀ (a':Act) (E:KS),E.st=sf.2->Inv E->Ext O E->Rel E n sf.1 a'->pQ ops a a'->Q .normal a' E.w)->wpAny c.P .any ops Q fuel listed a O.w
 | fuel,listed,O,a,s,ev,bR,hfuel,KC,hI,hR,ud,jR,hQ=>by
  have zdC:=Hg M7 (listed:=listed) bR
  have z1T:rest ops listed=[]->Q .normal a O.w:=by
   intro h
   rw[h]at jR
   cases jR
   exact hQ a O ud hI (Ext.refl O) hR (pQ.refl _ _)
  cases fuel with
  | zero =>
   have hre:rest ops listed=[]:=zW hfuel.symm
   refine⟨?_,z1T hre⟩
   apply List.eq_nil_iff_forall_not_mem.2
   intro i hi
   rw[Qv]at hi
   have:i∈rest ops listed:=by simp only[rest,zX,U,zL]; exact⟨hi.1,hi.2.1⟩
   grind
  | succ fuel =>
   refine⟨λh=>z1T (zdC h),λi hi => ?_⟩
   rw[Qv]at hi
   obtain⟨h1,X,h3⟩:=hi
   have ho:ops[i]? = some ops[i]:=zP h1
   obtain⟨pre,post,g1,g2,g3⟩:=iH (p:=λi => !listed.getD i true) (q:=λj => !(listed.setIfInBounds i true).getD j true) (i:=i) (qF ops.size) zN
    (U.2 h1) (by simp[X]) (λj=>by
     rw[cD (Z)]
     by_cases h:j=i
     ·grind
     ·simp[h])
   have z1N:∀ p,ordered (uc ops.toList []) p i=true->p<ops.size->listed.getD p true=true:=by
    intro p hp wO
    obtain⟨r,_,_,I⟩:=ZN ops.toList []
    obtain⟨e,k1,k2,k3⟩:=I i ops[i] (qp) p (by simpa[ordered]using hp)
    have hle:=h3 _ ho e k1 k2
    have B7:=ZY ops.toList 0 M7 i ops[i] (qp) e k1 k2
    have B5:listed.getD e.on true=true:=by
     grind
    rcases k3 with rfl | ⟨_,k3⟩
    ·exact B5
    ·exact KC e.on (Z) B5 p k3 wO
   have z1Y:∀ p∈pre,In p i:=by
    grind
   have FN:YM Stp (pre++i::post) s sf:=by
    have:rest ops listed=pre++i::post:=g1
    grind
   obtain⟨s1,k1,k2⟩:=CF FE z1Y FN
   have Xy:rest ops (listed.setIfInBounds i true)=pre++post:=g2
   obtain⟨kk,k1⟩:=z2f _ _ _ k1
   refine H7 hC hI hR ud k1 λa1 κ1 e1 e2 e3 e4 e5 => ?_
   refine Kh z2f FE hC M7 fuel (listed.setIfInBounds i true) (λp j hpj hj hp=>ev p j hpj hj (by
    rw[cD (Z)]at hp
    split at hp
    ·cases hp
    ·exact hp)) (by simp[bR]) ?_ ?_ e2 e4 e1 (by rw[Xy]; exact k2) λa' E d1 d2 d3 d4 d5=>hQ a' E d1 d2 (e3.trans d3) d4 (e5.trans d5)
   ·have:rest ops listed=pre++i::post:=g1
    rw[this]at hfuel
    rw[Xy]
    simp only[List.length_append,List.length_cons]at hfuel ⊢
    omega
   ·intro q hq Te p hp wO
    rw[cD (Z)]at Te ⊢
    split
    ·rfl
    ·split at Te
     ·rename_i e; subst e; exact z1N p hp wO
     ·exact KC q hq Te p hp wO
theorem Is{kd:Nat->Nat}:∀ (l:List Nat) (s s':F×St),QK c n ops kd l s s'->YM (λi s s'=>fu c n ops i s s' (kd i)) l s s'
 | [],_,_,h=>h
 | i::l,s,s',⟨s1,h1,X⟩=>⟨s1,h1,Is l s1 s' X⟩
theorem H5{kd:Nat->Nat}{Q:Exit->Act->World->Prop}(hC:∀ g,Es c.P g (c.fn g))(M7:iv ops.toList 0=true)
  {sf:F×St}:∀ (fuel:Nat) (listed:Array Bool) {O:KS} {a:Act} {s:F×St},(∀ p i,p<i->i<ops.size->listed.getD p true=false->ordered (uc ops.toList []) p i=true\/Ind ops kd p i) ->
  listed.size=ops.size->fuel=(rest ops listed).length->Vx ops listed->Inv O->Rel O n s.1 a->O.st=s.2->QK c n ops kd (rest ops listed) s sf ->
  (∀ (a':Act) (E:KS),E.st=sf.2->Inv E->Ext O E->Rel E n sf.1 a'->pQ ops a a'->Q .normal a' E.w)->wpAny c.P .any ops Q fuel listed a O.w
 | fuel,listed,O,a,s,ev,bR,hfuel,KC,hI,hR,ud,jR,hQ =>
  Kh (Stp:=λi s s'=>fu c n ops i s s' (kd i)) (In:=λp i=>Ind ops kd p i) (λi s s' h=>⟨_,h⟩) (λp i hi s s1 s2 h1 X=>CA hi h1 X) hC M7 fuel listed ev bR hfuel KC hI hR ud (Is _ _ _ jR) hQ
end
end Go.AM
namespace Go.AM
set_option linter.unusedSectionVars false
variable [gp] [Bw]
open Go.RowKit
structure Up(O E:KS):Prop where
 same:Lj O.w E.w O.ok E.ok
 var:∀ (b:Nat) (d:D),O.st[b]? = some (.var d)->(∃ d',E.st[b]? = some (.var d'))/\E.ph[b]? = O.ph[b]?
 old:∀ (b vp:Nat),Old O.st b vp->Old E.st b vp
 row:∀ (b v:Nat) (e:Ty) (xs:List (den e)),Old O.st b v->E.st[b]? = some (.arr v e xs)->O.st[b]? = some (.arr v e xs)/\E.ph[b]? = O.ph[b]?
theorem RD.up{O E:KS}(x:Up O E){d:D}{v:Value}(h:RD O d v):RD E d v:=by
 induction h with
 | qs τ y cs h=>exact .qs τ y cs (h.mono x.same)
 | sQ e l b v h ht hf=>exact .sQ e l b v (h.mono x.same) ht hf
 | vF e a=>exact .vF e a
 | tight e l ne blk off f ki ja h hc=>exact .tight e l ne blk off f ki (x.same _ ja).1 (λi hi=>(h i hi).mono x.same) λi hi j v hv=>by rw[lT (x.same _ ja).2]; exact hc i hi j v hv
 | wJ=>exact .wJ
 | gx=>exact .gx
 | ve=>exact .ve
 | gw=>exact .gw
 | uZ=>exact .uZ
 | Vv v h=>exact .Vv v h
 | nh T=>exact .nh T
 | nG b T d J =>
  obtain⟨⟨d',eE⟩,hp⟩:=x.var b d J
  exact .nG b T d' eE
 | yR b blk n d J h =>
  obtain⟨⟨d',eE⟩,hp⟩:=x.var b d J
  exact .yR b blk n d' eE (hp.trans h)
 | nH b T blk n d J h =>
  obtain⟨⟨d',eE⟩,hp⟩:=x.var b d J
  exact .nH b T blk n d' eE (hp.trans h)
 | ptr b off blk n d J h =>
  obtain⟨⟨d',eE⟩,hp⟩:=x.var b d J
  exact .ptr b off blk n d' eE (hp.trans h)
 | vH τ y cs blk off ja h hc=>exact .vH τ y cs blk off (x.same _ ja).1 (h.mono x.same) λj v hv=>by rw[lT (x.same _ ja).2]; exact hc j v hv
 | gP b vp e idx off blk o I h =>
  refine .gP b vp e idx off blk o (x.old b vp I) λxs N hi => ?_
  obtain⟨h1,X⟩:=x.row b vp e xs I N
  grind
 | ms b vp e off len cap a I js ha Va h =>
  refine .ms b vp e off len cap a (x.old b vp I) js ha Va λxs N => ?_
  obtain⟨h1,X⟩:=x.row b vp e xs I N
  have:=h xs h1
  unfold Nu at this ⊢
  grind
 | wo f l vs R h ih=>exact .wo f l vs R ih
 | agg l vs R ho h ih=>exact .agg l vs R ho ih
 | eO l vs R h ih=>exact .eO l vs R ih
 | iface t d v h ih=>exact .iface t d v ih
structure Nob(O:KS)(blk:Nat):Prop where
 lt:blk<O.w.heap.size
 ok:¬ O.ok blk
 ph:∀ (b n:Nat),O.ph[b]? ≠ some (some (blk,n))
theorem Nob.ext{O E:KS}(x:Ext O E){blk:Nat}(h:Nob O blk):Nob E blk/\E.w.heap[blk]? = O.w.heap[blk]? := by
 refine⟨⟨Nat.lt_of_lt_of_le h.lt x.size,λhk => ?_,λb n I => ?_⟩,x.frame blk h.lt h.ph⟩
 ·rcases x.fresh blk hk with h1 | h1 | ⟨b,n,h1⟩
  ·exact h.ok h1
  ·have:=h.lt; omega
  ·exact h.ph b n h1
 ·rcases x.phs b blk n I with h1 | h1
  ·exact h.ph b n h1
  ·have:=h.lt; omega
def KS.push(O:KS)(blk n:Nat)(d:D):KS:={ O with ph:=O.ph++[some (blk,n)],st:=O.st++[.var d] }
theorem Zx{α:Type}{l:List α}{x y:α}{b:Nat}(h:l[b]? = some y):(l++[x])[b]? = some y:=wb
theorem WN{α:Type}{l:List α}{x y:α}{b:Nat}(h:(l++[x])[b]? = some y):l[b]? = some y\/(b=l.length/\y=x):=wb
theorem RJ{O:KS}(hI:Inv O)(blk n:Nat)(d:D):Up O (O.push blk n d):=by
 have HQ:∀ {b:Nat} {y:cU},O.st[b]? = some y->(O.ph++[some (blk,n)])[b]? = O.ph[b]? := λh=>by
  rw[zI]; rw[hI.len]; exact(zQ.1 h).1
 refine⟨λk hk=>⟨hk,rfl⟩,λb d' h=>⟨⟨d',Zx h⟩,HQ h⟩,λb vp h => ?_,λb v e xs ho h => ?_⟩
 ·rcases h with h | ⟨v0,e0,Uf,h,hv⟩
  ·exact .inl (Zx h)
  ·exact .inr ⟨v0,e0,Uf,Zx h,hv⟩
 ·rcases WN h with h1 | ⟨_,h1⟩
  ·exact⟨h1,HQ h1⟩
  ·cases h1
theorem zao{κ0 O:KS}{blk:Nat}{d:D}{z:Value}{t:TypeId}(hI:Inv O)(N:Ext κ0 O)(I:Nob O blk)(h0:κ0.w.heap.size<=blk)(hz:RD O d z)(ht:d.bF=false)(NY:∀ T,d.typed=some T->t=T)(hh:O.w.heap[blk]? = some (.cells z.cells t (0,0))) :
  Inv (O.push blk z.cells.size d)/\Ext κ0 (O.push blk z.cells.size d)/\RD (O.push blk z.cells.size d) (.ptr O.st.length 0) (.pointer (some ⟨blk,0,none⟩)):=by
 have hu:=RJ hI blk z.cells.size d
 have ud:(O.push blk z.cells.size d).st[O.st.length]? = some (.var d):=by simp[KS.push]
 have HQ:(O.push blk z.cells.size d).ph[O.st.length]? = some (some (blk,z.cells.size)):=by simp[KS.push,<- hI.len]
 have z2e:∀ {b k m:Nat},(O.push blk z.cells.size d).ph[b]? = some (some (k,m))->O.ph[b]? = some (some (k,m))\/(b=O.ph.length/\k=blk):=by
  intro b k m h
  rcases WN h with h1 | ⟨h1,X⟩
  ·grind
  ·grind
 refine⟨⟨by simp[KS.push,hI.len],hI.bT,λb k m h => ?_,λb b' k m m' h h' => ?_,λb y h => ?_,hI.gl⟩,?_,.ptr _ 0 blk _ d ud HQ⟩
 ·rcases z2e h with h1 | ⟨_,rfl⟩
  ·exact hI.apart b k m h1
  ·exact⟨I.lt,I.ok⟩
 ·rcases z2e h with h1 | ⟨h1,rfl⟩
  ·rcases z2e h' with X | ⟨X,rfl⟩
   ·exact hI.inj b b' k m m' h1 X
   ·exact(I.ph b m h1).elim
  ·rcases z2e h' with X | ⟨X,_⟩
   ·exact(I.ph b' m' X).elim
   ·omega
 ·rcases WN h with h1 | ⟨h1,X⟩
  ·have hp:(O.push blk z.cells.size d).ph[b]? = O.ph[b]? := by
    show(O.ph++[_])[b]? = _
    grind
   have hy:=hI.blk b y h1
   cases y with
   | dead=>trivial
   | var d' =>
    refine kX.elim hy (λhm ⟨k,m,cs,T,g1,g2,g3,g4,g5⟩=>.mk hm ⟨k,m,cs,T,hp.trans g1,g2,g3,⟨g4.1,λi h1 X=>(g4.2 i h1 X).up hu⟩,g5⟩) λl e ⟨k,o,g1,g2⟩ => ?_
    subst e
    exact⟨k,o,hp.trans g1,g2⟩
   | arr vp e xs =>
    obtain⟨g0,g⟩:=hy
    refine⟨g0,s7 g (λh=>⟨h.1,hp.trans h.2⟩) ?_⟩
    rintro⟨k,m,cs,T,g1,g2⟩
    exact⟨k,m,cs,T,hp.trans g1,g2⟩
  ·subst h1
   subst X
   have hf:=cI hz ht
   exact .mk hz.z3G ⟨blk,z.cells.size,z.cells,t,HQ,hh,rfl,⟨hf.1,λi h1 X=>(hf.2 i h1 X).up hu⟩,cH hz,NY⟩
 ·refine⟨N.os,N.tape,N.output,N.size,N.same,N.fresh,λb k m h => ?_,λb d' h => ?_,λb v0 e xs h => ?_,λb h=>Zx (N.dead b h),Nat.le_trans N.II (by simp[KS.push]),N.frame⟩
  ·rcases z2e h with h1 | ⟨_,rfl⟩
   ·exact N.phs b k m h1
   ·exact .inr h0
  ·obtain⟨⟨d1,h1⟩,X⟩:=N.var b d' h
   obtain⟨h3,h4⟩:=hu.var b d1 h1
   exact⟨h3,h4.trans X⟩
  ·rcases N.arr b v0 e xs h with h1 | ⟨v1,xs1,h1,X,h3⟩
   ·exact .inl (Zx h1)
   ·refine .inr ⟨v1,xs1,Zx h1,X,λhe=>⟨?_,(h3 he).2⟩⟩
    have hp:(O.push blk z.cells.size d).ph[b]? = O.ph[b]? := by
     show(O.ph++[_])[b]? = _
     rw[zI]; rw[hI.len]; exact(zQ.1 h1).1
    exact hp.trans (h3 he).1
theorem z7f{O:KS}(hI:Inv O)(o:Obj):Inv { O with w:=O.w.alloc o }/\Ext O { O with w:=O.w.alloc o }/\Nob { O with w:=O.w.alloc o } O.w.heap.size/\(O.w.alloc o).heap[O.w.heap.size]? = some o:=by
 have hs:(O.w.alloc o).heap.size=O.w.heap.size+1:=qp
 have hold:∀ k,k<O.w.heap.size->(O.w.alloc o).heap[k]? = O.w.heap[k]? := λk hk=>by
  show(O.w.heap.push o)[k]? = _
  grind
 have N:Ext O { O with w:=O.w.alloc o }:=⟨rfl,rfl,rfl,qp,λk hk=>⟨hk,hold k (hI.bT k hk)⟩,λk hk=>.inl hk,λ_ _ _ h=>.inl h,λb d h=>⟨⟨d,h⟩,rfl⟩,
  λb v0 e xs h=>.inr ⟨v0,xs,h,qG _,λ_=>⟨rfl,rfl⟩⟩,λ_ h=>h,qG _,λk hk _=>hold k hk⟩
 refine⟨⟨hI.len,λk hk => ?_,λb blk n h => ?_,hI.inj,λb y hy=>(hI.blk b y hy).mono N rfl λblk n h=>hold _ (hI.apart b blk n h).1,hI.gl.mono N.same⟩,N,⟨?_,λhk => ?_,λb n h => ?_⟩,?_⟩
 ·have:=hI.bT k hk; show k<(O.w.alloc o).heap.size; omega
 ·have:=hI.apart b blk n h; exact⟨wb,this.2⟩
 ·simp
 ·have:=hI.bT _ hk; omega
 ·have:=(hI.apart b _ n h).1; omega
 ·show(O.w.heap.push o)[O.w.heap.size]? = some o
  simp
section
variable {c:Ctx} {n:Nat} {ops:Array Oper}
structure Em where
 i:Nat
 d:Nat
 blk:Nat
 t:TypeId
 z:Value
 D:D
structure Ld(c:Ctx)(ops:Array Oper)(κ0 O:KS)(a:Act)(e:Em):Prop where
 op:∃ o,ops[e.i]? = some o/\o.op=.alloc e.t/\o.guard=none/\o.dst=some e.d
 zero:Y7 c e.t=some e.D
 z:∃ i,c.P.info? e.t=some i/\i.zero=some e.z/\ZD e.t e.D e.z
 val:a.tmps[e.d]? = some (.pointer (some ⟨e.blk,0,none⟩))
 heap:O.w.heap[e.blk]? = some (.cells e.z.cells e.t (0,0))
 nob:Nob O e.blk
 new:κ0.w.heap.size<=e.blk
theorem Ld.mono{κ0 O E:KS}{a a':Act}{e:Em}(h:Ld c ops κ0 O a e)(x:Ext O E)(ha:a'.tmps[e.d]? = a.tmps[e.d]?):Ld c ops κ0 E a' e:=by
 obtain⟨h1,X⟩:=h.nob.ext x
 exact⟨h.op,h.zero,h.z,ha.trans h.val,X.trans h.heap,h1,h.new⟩
def ez(es:List Em)(f:F):F:=λs=>if es.any (λe=>zU e.d s)then none else f s
theorem UZ{es:List Em}{f:F}{s:Nat}(h:∀ e∈es,e.d≠s):ez es f s=f s:=by
 unfold ez
 rw[if_neg]
 intro hh
 obtain⟨e,he,I⟩:=zO.1 hh
 exact h e he (Y I)
theorem Cc{es:List Em}{f:F}{s:Nat}{d:D}(h:ez es f s=some d):f s=some d/\∀ e∈es,e.d≠s:=by
 unfold ez at h
 split at h
 ·cases h
 ·rename_i hh
  refine⟨h,λe he hs=>hh (zO.2 ⟨e,he,?_⟩)⟩
  subst hs; simp
def rJ(ops:Array Oper)(i:Nat):Prop:=∃ o,ops[i]? = some o/\Yf o=true
theorem Tn{o:Oper}(h:Yf o=true):∃ t d,o.op=.alloc t/\o.guard=none/\o.dst=some d:=by
 unfold Yf at h
 simp only[zF]at h
 obtain⟨⟨h1,X⟩,h3⟩:=h
 split at h1
 ·rename_i t ht
  obtain⟨d,J⟩:=Option.isSome_iff_exists.1 h3
  exact⟨t,d,ht,Option.isNone_iff_eq_none.1 X,J⟩
 ·cases h1
theorem DG{o:Oper}{t d:Nat}(h1:o.op=.alloc t)(X:o.guard=none)(h3:o.dst=some d):Yf o=true:=by
 unfold Yf; rw[h1,X,h3]; rfl
theorem Iv{kd:Nat->Nat}:∀ {l:List Nat} {s sf:F×St} {i:Nat},QK c n ops kd l s sf->i∈l->∃ s1 s2,fu c n ops i s1 s2 (kd i)
 | [],_,_,_,_,h=>by cases h
 | j::l,s,sf,i,⟨s1,h1,X⟩,h=>by
  rcases qA.1 h with rfl | h
  ·grind
  ·exact Iv X h
theorem YQ{kd:Nat->Nat}{i t d:Nat}{o:Oper}(ho:ops[i]? = some o)(h1:o.op=.alloc t)(X:o.guard=none)(h3:o.dst=some d){s s':F×St}(h:fu c n ops i s s' (kd i)) :
  ∃ D,Y7 c t=some D/\d<n/\s'=(ed s.1 (some d) (some (.ptr s.2.length 0)),s.2++[.var D]):=by
 obtain⟨o',ho',J,h⟩:=h
 rw[ho]at ho'
 cases ho'
 rw[h3]at J
 have wO:d<n:=M J
 have hw:jM ops s.1 o=some true:=by unfold jM; rw[X]
 rcases h with⟨_,_,D,qt,R,rfl⟩ | ⟨hw',_,_⟩
 ·have he:wS c (wC s.1) o=oP c t:=by
   obtain⟨dst,op,ty,pos,after,guard⟩:=o
   cases h1
   rfl
  rw[he]at R
  unfold oP at R
  split at R
  ·rename_i y hy
   simp only[qx,T.leads]at R
   grind
  ·exact absurd R zj
 ·grind
theorem MH{es:List Em}{i k:Nat}{s s':F×St}(h:fu c n ops i s s' k)(J:∀ o,ops[i]? = some o->∀ e∈es,e.d ∉ tmpsOf ops o) :
  fu c n ops i (ez es s.1,s.2) (ez es s'.1,s'.2) k:=by
 obtain⟨o,ho,z7y,h⟩:=h
 have hno:=J o ho
 have zik:∀ x:Option D,ed (ez es s.1) o.dst x=ez es (ed s.1 o.dst x):=by
  intro x
  cases hds:o.dst with
  | none=>rfl
  | some t =>
   funext u
   simp only[ed,ez]
   by_cases hu:u=t
   ·subst hu
    rw[if_pos rfl]
    rw[if_neg,if_pos rfl]
    intro hh
    obtain⟨e,he,I⟩:=zO.1 hh
    exact hno e he (by rw[Y I]; exact ea hds)
   ·grind
 have lI:∀ x∈o.op.operands,wC (ez es s.1) x=wC s.1 x:=by
  intro x N
  cases x with
  | tmp t=>exact UZ λe he ht=>hno e he (ht▸XM N)
  | _=>rfl
 have hw:jM ops (ez es s.1) o=jM ops s.1 o:=by
  unfold jM
  cases hg:o.guard with
  | none=>rfl
  | some jw =>
   obtain⟨j,w⟩:=jw
   simp only
   cases hs:bE ops j with
   | none=>rfl
   | some t =>
    simp only
    rw[UZ λe he ht=>hno e he (ht▸XL hg hs)]
 refine⟨o,ho,z7y,?_⟩
 rcases h with⟨h1,X,d,qt,h3,rfl⟩ | ⟨h1,X,rfl⟩
 ·refine .inl ⟨hw.trans h1,?_,d,qt,?_,?_⟩
  ·rw[show wS c (wC (ez es s.1)) o=wS c (wC s.1) o from VI o lI]; exact X
  ·rw[show wS c (wC (ez es s.1)) o=wS c (wC s.1) o from VI o lI]; exact h3
  ·rw[zik]
 ·grind
theorem TT{O:KS}{a:Act}{i k:Nat}{s s':F×St}(hC:∀ g,Es c.P g (c.fn g))(hI:Inv O)(hR:Rel O n s.1 a)(ud:O.st=s.2)(h:fu c n ops i s s' k){K:Act->World->Prop}{Q:Exit->Act->World->Prop}
  (hK:∀ (a':Act) (E:KS),E.st=s'.2->Inv E->Ext O E->Rel E n s'.1 a'->pQ ops a a'->(∀ u:Nat,(∀ o,ops[i]? = some o->o.dst≠some u)->a'.tmps[u]? = a.tmps[u]?)->K a' E.w):wpOp c.P ops Q i K a O.w:=by
 obtain⟨o,ho,J,h⟩:=h
 have hu:∀ (v:Value) (u:Nat),(∀ o,ops[i]? = some o->o.dst≠some u)->(a.put o.dst v).tmps[u]? = a.tmps[u]? := by
  intro v u hn
  have:=hn o ho
  cases hds:o.dst with
  | none=>rfl
  | some t =>
   rw[hds]at this
   have ki:t≠u:=λe=>this (by rw[e])
   simp[qW,zH ki]
 unfold wpOp
 rw[ho]
 simp only
 rcases h with⟨hw,_,d,qt,R,rfl⟩ | ⟨hw,_,rfl⟩
 ·rw[if_pos (ZH hR hw)]
  refine .inl (Ip hC hI hR (ud▸R) λv E h1 X h3 h4=>hK _ E h1 X h3 ((hR.mono h3).put J h4) (XC ho) (hu v))
 ·rw[if_neg (by rw[ZH hR hw]; exact Bool.false_ne_true)]
  exact hK _ O ud hI (Ext.refl O) (hR.put J λd' eE=>by cases eE; exact z4i (v:=undef)) (XC ho) (hu undef)
def kd3(kd:Nat->Nat)(o:Oper)(i:Nat):Nat:=bif Yf o then 3 else kd i
def z6B(ops:Array Oper)(kd:Nat->Nat)(p i:Nat):Prop:=∀ x y,ops[p]? = some x->ops[i]? = some y ->
 (∀ d,x.dst=some d->d ∉ tmpsOf ops y)/\(∀ d,y.dst=some d->d ∉ tmpsOf ops x)/\Xh (kd3 kd x p) (kd3 kd y i)=false
theorem z0S{k l:Nat}(hk:k<=2)(R:l<=2)(h:Xh k l=false):bU k l=false:=by
 have h1:zU k 3=false:=Qm (Z)
 have X:zU l 3=false:=Qm (Z)
 simpa[Xh,h1,X]using h
theorem z6O{k l:Nat}(R:l<=2)(h:Xh 3 l=false):bU k l=false:=by
 have X:zU l 3=false:=Qm (Z)
 have h3:bU 2 l=false:=by simpa[Xh,X]using h
 have h0:l=0:=by
  match l,R,h3 with
  | 0,_,_=>rfl
  | 1,_,h3=>cases h3
  | 2,_,h3=>cases h3
 subst h0
 simp[bU]
theorem z6P{k l:Nat}(hk:k<=2)(h:Xh k 3=false):bU k l=false:=by
 have X:zU k 3=false:=Qm (Z)
 have h3:bU k 2=false:=by simpa[Xh,X]using h
 have h0:k=0:=by
  match k,hk,h3 with
  | 0,_,_=>rfl
  | 1,_,h3=>cases h3
  | 2,_,h3=>cases h3
 subst h0
 simp[bU]
theorem DA{kd:Nat->Nat}{p i:Nat}(h:z6B ops kd p i)(hp:kd p<=2)(hi:kd i<=2)(hn:¬ (rJ ops p/\rJ ops i)):Ind ops kd p i:=by
 intro x y N hy
 obtain⟨h1,X,h3⟩:=h x y N hy
 refine⟨h1,X,?_⟩
 unfold kd3 at h3
 cases hax:Yf x with
 | true =>
  cases hay:Yf y with
  | true=>exact(hn ⟨⟨x,N,hax⟩,y,hy,hay⟩).elim
  | false=>rw[hax,hay]at h3; exact z6O hi h3
 | false =>
  cases hay:Yf y with
  | true=>rw[hax,hay]at h3; exact z6P hp h3
  | false=>rw[hax,hay]at h3; exact z0S hp hi h3
theorem least{es:List Em}(h:es≠[]):∃ e∈es,∀ f∈es,e.i<=f.i:=by
 induction es with
 | nil=>grind
 | cons e r ih =>
  by_cases hr:r=[]
  ·subst hr; exact⟨e,zK,λf hf=>wb⟩
  ·grind
def Dis(e f:Em):Prop:=e.i≠f.i/\e.blk≠f.blk/\e.d≠f.d
theorem Dis.symm{e f:Em}(h:Dis e f):Dis f e:=⟨h.1.symm,h.2.1.symm,h.2.2.symm⟩
theorem flush{kd:Nat->Nat}{κ0:KS}(ev:∀ p i,p<i->i<ops.size->ordered (uc ops.toList []) p i=true\/z6B ops kd p i)(ny:∀ i,i<ops.size->kd i<=2)
  {listed:Array Bool} (KC:Vx ops listed) (Q9:∀ q,q<ops.size->rJ ops q->listed.getD q true=true) {a:Act} {sf:F×St} :
  ∀ (m:Nat) (es:List Em) (va:Array Bool) (O:KS) (s:F×St),es.length=m->va.size=ops.size->(∀ j,j<ops.size->va.getD j true=true->listed.getD j true=true) ->
  (∀ j,j<ops.size->listed.getD j true=true->va.getD j true=false->∃ e∈es,e.i=j)->(∀ e∈es,e.i<ops.size/\listed.getD e.i true=true/\va.getD e.i true=false)->es.Pairwise Dis ->
  Inv O->Rel O n (ez es s.1) a->O.st=s.2->Ext κ0 O->(∀ e∈es,Ld c ops κ0 O a e)->QK c n ops kd (rest ops va) s sf ->
  ∃ (E:KS) (s':F×St),E.w=O.w/\E.st=s'.2/\Inv E/\Ext κ0 E/\Rel E n s'.1 a/\QK c n ops kd (rest ops listed) s' sf:=by
 intro m
 induction m with
 | zero =>
  intro es va O s R _ h1 X _ _ hI hR ud N _ jR
  obtain rfl:es=[]:=zW R
  refine⟨O,s,rfl,ud,hI,N,hR,?_⟩
  have:rest ops va=rest ops listed:=by
   unfold rest
   refine List.filter_congr λi hi => ?_
   grind
  grind
 | succ m ih =>
  intro es va O s R bR h1 X h3 M5 hI hR ud N hem jR
  obtain⟨e,he,zdw⟩:=least (es:=es) (λh=>by rw[h]at R; cases R)
  obtain⟨l1,l2,rfl⟩:=List.append_of_mem he
  obtain⟨hei,hel,hea⟩:=h3 e he
  have B8:∀ f,f∈l1++l2->f∈l1++e::l2:=λf hf=>by
   grind
  have zbs:∀ f,f∈l1++e::l2->f=e\/f∈l1++l2:=λf hf=>by
   rcases xA.1 hf with hf | hf
   ·exact .inr (List.mem_append_left _ hf)
   ·rcases qA.1 hf with rfl | hf
    ·exact .inl rfl
    ·exact .inr (List.mem_append_right _ hf)
  have hde:∀ f∈l1++l2,Dis e f:=by
   intro f hf
   rw[List.pairwise_append]at M5
   obtain⟨_,d2,d3⟩:=M5
   rcases xA.1 hf with hf | hf
   ·exact(d3 f hf e zK).symm
   ·exact(qE.1 d2).1 f hf
  have NV:(l1++l2).Pairwise Dis:=M5.sublist (List.Sublist.append_left (List.sublist_cons_self e l2) l1)
  obtain⟨pre,post,g1,g2,g3⟩:=iH (p:=λi => !va.getD i true) (q:=λj => !(va.setIfInBounds e.i true).getD j true) (i:=e.i) (qF ops.size) zN
   (U.2 hei) (by simp[hea]) (λj=>by
    rw[cD (Z)]
    by_cases h:j=e.i
    ·subst h; simp
    ·simp[h])
  have z1Y:∀ p∈pre,Ind ops kd p e.i:=by
   intro p hp
   obtain⟨q1,q2,q3⟩:=g3 p hp
   have q2:=U.1 q2
   have hpa:va.getD p true=false:=by simpa using q1
   have Gk:listed.getD p true=false:=by
    cases I:listed.getD p true with
    | false=>rfl
    | true =>
     obtain⟨f,hf,FH⟩:=X p q2 I hpa
     have:=zdw f hf
     omega
   have hna:¬ rJ ops p:=λh=>by rw[Q9 p q2 h]at Gk; cases Gk
   rcases ev p e.i q3 hei with h | h
   ·have:=KC e.i hei hel p h q2
    rw[this]at Gk; cases Gk
   ·exact DA h (ny p q2) (ny e.i hei) λhh=>hna hh.1
  have FN:QK c n ops kd (pre++e.i::post) s sf:=by
   have:rest ops va=pre++e.i::post:=g1
   rw[<- this]; exact jR
  obtain⟨s1,k1,k2⟩:=Hv z1Y FN
  have hE:=hem e he
  obtain⟨o,o1,o2,o3,o4⟩:=hE.op
  obtain⟨D,d1,d2,rfl⟩:=YQ o1 o2 o3 o4 k1
  obtain rfl:D=e.D:=Option.some.inj (d1.symm.trans hE.zero)
  obtain⟨iz,z1,z2,z3⟩:=hE.z
  obtain⟨p1,p2,p3⟩:=zao hI N hE.nob hE.new (z3.rd O) z3.eO z3.ty hE.heap
  have hup:=RJ hI e.blk e.z.cells.size e.D
  refine ih (l1++l2) (va.setIfInBounds e.i true) (O.push e.blk e.z.cells.size e.D) (ed s.1 (some e.d) (some (.ptr s.2.length 0)),s.2++[.var e.D]) (by simp at R ⊢; omega) (by simp[bR]) (λj hj ha => ?_) (λj hj I ha => ?_) (λf hf => ?_) NV p1 ?_ (by show O.st++_=s.2++_; rw[ud]) p2 (λf hf => ?_) ?_
  ·rw[cD (Z)]at ha
   split at ha
   ·rename_i h; subst h; exact hel
   ·exact h1 j hj ha
  ·rw[cD (Z)]at ha
   split at ha
   ·cases ha
   ·rename_i ki
    obtain⟨f,hf,FH⟩:=X j hj I ha
    rcases zbs f hf with rfl | hf
    ·exact absurd FH.symm ki
    ·exact⟨f,hf,FH⟩
  ·obtain⟨f1,f2,f3⟩:=h3 f (B8 f hf)
   refine⟨f1,f2,?_⟩
   rw[cD (Z),if_neg (hde f hf).1.symm]
   exact f3
  ·refine⟨hR.size,hR.defers,λu d0 hu => ?_⟩
   obtain⟨u1,u2⟩:=Cc hu
   simp only[ed]at u1
   by_cases hue:u=e.d
   ·subst hue
    rw[if_pos rfl]at u1
    cases u1
    rw[<- ud]
    exact⟨_,hE.val,p3⟩
   ·rw[if_neg hue]at u1
    have:ez (l1++e::l2) s.1 u=some d0:=by
     rw[UZ λf hf hfu => ?_]
     ·exact u1
     ·rcases zbs f hf with rfl | hf
      ·exact hue hfu.symm
      ·exact u2 f hf hfu
    obtain⟨v,v1,v2⟩:=hR.get u d0 this
    exact⟨v,v1,v2.up hup⟩
  ·have hF:=hem f (B8 f hf)
   refine⟨hF.op,hF.zero,hF.z,hF.val,hF.heap,⟨hF.nob.lt,hF.nob.ok,λb m I => ?_⟩,hF.new⟩
   rcases WN I with I | ⟨_,I⟩
   ·exact hF.nob.ph b m I
   ·exact(hde f hf).2.1 (congrArg Prod.fst (Option.some.inj I)).symm
  ·have:rest ops (va.setIfInBounds e.i true)=pre++post:=g2
   rw[this]; exact k2
theorem z4m{listed:Array Bool}{i:Nat}(bR:listed.size=ops.size)(h1:i<ops.size)(X:listed.getD i true=false):(rest ops listed).length=(rest ops (listed.setIfInBounds i true)).length+1:=by
 obtain⟨pre,post,g1,g2,_⟩:=iH (p:=λi => !listed.getD i true) (q:=λj => !(listed.setIfInBounds i true).getD j true) (i:=i) (qF ops.size) zN
  (U.2 h1) (wb) (λj=>by
   rw[cD (Z)]
   by_cases h:j=i
   ·grind
   ·simp[h])
 have e1:rest ops listed=pre++i::post:=g1
 have e2:rest ops (listed.setIfInBounds i true)=pre++post:=g2
 grind
theorem LJ{listed:Array Bool}{i:Nat}(M7:iv ops.toList 0=true)(bR:listed.size=ops.size)(KC:Vx ops listed)(h1:i<ops.size)
  (h3:∀ o,ops[i]? = some o->∀ e∈o.after.toList,zZ .any e=true->listed.getD e.on false=true) :
  (∀ p,ordered (uc ops.toList []) p i=true->p<ops.size->listed.getD p true=true)/\Vx ops (listed.setIfInBounds i true):=by
 have z1N:∀ p,ordered (uc ops.toList []) p i=true->p<ops.size->listed.getD p true=true:=by
  intro p hp wO
  obtain⟨r,_,_,I⟩:=ZN ops.toList []
  obtain⟨e,k1,k2,k3⟩:=I i ops[i] (qp) p (by simpa[ordered]using hp)
  have B7:=ZY ops.toList 0 M7 i ops[i] (qp) e k1 k2
  have B5:listed.getD e.on true=true:=by
   grind
  rcases k3 with rfl | ⟨_,k3⟩
  ·exact B5
  ·exact KC e.on (Z) B5 p k3 wO
 refine⟨z1N,λq hq Te p hp wO => ?_⟩
 rw[cD (Z)]at Te ⊢
 split
 ·rfl
 ·split at Te
  ·grind
  ·exact KC q hq Te p hp wO
theorem E2{O:KS}{a:Act}{es:List Em}{f:F}{e:Em}{v:Value}(hR:Rel O n (ez es f) a):Rel O n (ez (e::es) f) (a.put (some e.d) v):=by
 refine⟨by simp[qW,hR.size],hR.defers,λu d hu => ?_⟩
 obtain⟨u1,u2⟩:=Cc hu
 have ki:e.d≠u:=u2 e zK
 have:ez es f u=some d:=by rw[UZ λg hg=>u2 g (zS _ hg)]; exact u1
 obtain⟨w,w1,w2⟩:=hR.get u d this
 exact⟨w,by simp[qW,zH ki]; exact w1,w2⟩
theorem U1{kd:Nat->Nat}{Q:Exit->Act->World->Prop}(hC:∀ g,Es c.P g (c.fn g))(M7:iv ops.toList 0=true)
  (ev:∀ p i,p<i->i<ops.size->ordered (uc ops.toList []) p i=true\/z6B ops kd p i) (ny:∀ i,i<ops.size->kd i<=2)
  (Q9:∀ p j,p<ops.size->rJ ops p->j<ops.size->ordered (uc ops.toList []) p j=true->∀ q,q<ops.size->rJ ops q->ordered (uc ops.toList []) q j=true)
  {κ0:KS} {a0:Act} {sf:F×St}:∀ (fuel:Nat) (listed va:Array Bool) (es:List Em) {O:KS} {a:Act} {s:F×St},
  listed.size=ops.size->va.size=ops.size->fuel=(rest ops listed).length->Vx ops listed->(∀ j,j<ops.size->va.getD j true=true->listed.getD j true=true) ->
  (∀ j,j<ops.size->listed.getD j true=true->va.getD j true=false->∃ e∈es,e.i=j)->(∀ e∈es,e.i<ops.size/\listed.getD e.i true=true/\va.getD e.i true=false)->es.Pairwise Dis ->
  (∃ q,q<ops.size/\rJ ops q/\listed.getD q true=false)->Inv O->Rel O n (ez es s.1) a->O.st=s.2->Ext κ0 O->(∀ e∈es,Ld c ops κ0 O a e)->QK c n ops kd (rest ops va) s sf->pQ ops a0 a ->
  (∀ (a':Act) (E:KS),E.st=sf.2->Inv E->Ext κ0 E->Rel E n sf.1 a'->pQ ops a0 a'->Q .normal a' E.w)->wpAny c.P .any ops Q fuel listed a O.w
 | 0,listed,va,es,O,a,s,bR,hszA,hfuel,KC,h1,X,h3,M5,⟨q,q1,q2,q3⟩,hI,hR,ud,N,hem,jR,hkp,hQ=>by
  have hre:rest ops listed=[]:=zW hfuel.symm
  have:q∈rest ops listed:=by simp only[rest,zX,U,zL]; exact⟨q1,q3⟩
  grind
 | fuel+1,listed,va,es,O,a,s,bR,hszA,hfuel,KC,h1,X,h3,M5,⟨q,q1,q2,q3⟩,hI,hR,ud,N,hem,jR,hkp,hQ=>by
  refine⟨λh => ?_,λi hi => ?_⟩
  ·have hre:=Hg M7 bR h
   grind
  rw[Qv]at hi
  obtain⟨i1,i2,i3⟩:=hi
  obtain⟨z1N,Ta⟩:=LJ M7 bR KC i1 i3
  have M8:fuel=(rest ops (listed.setIfInBounds i true)).length:=by have:=z4m bR i1 i2; omega
  have hia:va.getD i true=false:=by
   grind
  have z2b:∀ p,p<ops.size->rJ ops p->ordered (uc ops.toList []) p i=true->False:=by
   grind
  have og:∀ j,(listed.setIfInBounds i true).getD j true=if j=i then true else listed.getD j true:=λj=>cD (Z)
  by_cases Yb:rJ ops i
  ·-- a new variable is laid
   obtain⟨o,ho,hao⟩:=Yb
   obtain⟨t,d,o1,o2,o3⟩:=Tn hao
   have him:i∈rest ops va:=by simp only[rest,zX,U,zL]; exact⟨i1,hia⟩
   obtain⟨t1,t2,hos⟩:=Iv jR him
   obtain⟨D,d1,d2,_⟩:=YQ ho o1 o2 o3 hos
   obtain⟨iz,z,z1,z2,z3⟩:=sP d1
   obtain⟨w1,w2,w3,w4⟩:=z7f hI (.cells z.cells t)
   let e:Em:=⟨i,d,O.w.heap.size,t,z,D⟩
   have zin:(execOp a.eval o).run c.P O.w=.ok (.value (.pointer (some ⟨O.w.heap.size,0,none⟩))) (O.w.alloc (.cells z.cells t)):=by
    obtain⟨dst,op,ty,pos,after,guard⟩:=o
    cases o1
    simp[execOp,Instr.alloc,zeroValue,typeInfo,z1,z2,newVar,newRow]
   have ziz:qU o (yielded ops a.tmps)=true:=by unfold qU; rw[o2]
   unfold wpOp
   rw[ho]
   simp only
   rw[if_pos ziz]
   refine .inl ?_
   unfold Oper.wp
   rw[zin]
   show wpAny c.P Region.Mode.any ops Q fuel (listed.setIfInBounds i true) (a.put o.dst (Value.pointer (some { block:=O.w.heap.size,off:=0 }))) (O.w.alloc (Obj.cells z.cells t))
   rw[o3]
   have ki:∀ f∈es,f.d≠d:=by
    intro f hf hfd
    obtain⟨f1,f2,f3⟩:=h3 f hf
    obtain⟨fo,fo1,fo2,fo3,fo4⟩:=(hem f hf).op
    have FH:f.i≠i:=λh=>by rw[h,i2]at f2; cases f2
    rcases Nat.lt_or_gt_of_ne FH with wO | wO
    ·rcases ev f.i i wO i1 with h | h
     ·exact z2b f.i f1 ⟨fo,fo1,DG fo2 fo3 fo4⟩ h
     ·exact(h fo o fo1 ho).1 f.d fo4 (hfd▸ea o3)
    ·rcases ev i f.i wO f1 with h | h
     ·have:=KC f.i f1 f2 i h i1; rw[i2]at this; cases this
     ·exact(h o fo ho fo1).1 d o3 (hfd▸ea fo4)
   have zpb:Ld c ops κ0 { O with w:=O.w.alloc (.cells z.cells t) } (a.put (some d) (.pointer (some ⟨O.w.heap.size,0,none⟩))) e :=
    ⟨⟨o,ho,o1,o2,o3⟩,d1,⟨iz,z1,z2,z3⟩,by simp[e,qW,hR.size,d2],w4,w3,N.size⟩
   have zhQ:∀ f∈e::es,Ld c ops κ0 { O with w:=O.w.alloc (.cells z.cells t) } (a.put (some d) (.pointer (some ⟨O.w.heap.size,0,none⟩))) f:=by
    intro f hf
    rcases qA.1 hf with rfl | hf
    ·exact zpb
    ·exact(hem f hf).mono w2 (by simp[qW,zH (λe'=>ki f hf e'.symm)])
   have hR':Rel { O with w:=O.w.alloc (.cells z.cells t) } n (ez (e::es) s.1) (a.put (some d) (.pointer (some ⟨O.w.heap.size,0,none⟩))):=E2 (e:=e) (hR.mono w2)
   have hdE:∀ f∈es,Dis e f:=by
    intro f hf
    unfold Dis
    refine⟨λh => ?_,λh => ?_,λh=>ki f hf h.symm⟩
    ·have hf2:=(h3 f hf).2.1
     rw[<- h]at hf2
     have i2':listed.getD e.i true=false:=i2
     rw[i2']at hf2
     cases hf2
    ·have R:=(hem f hf).nob.lt
     rw[<- h]at R
     exact Nat.lt_irrefl _ R
   have NV:(e::es).Pairwise Dis:=qE.2 ⟨hdE,M5⟩
   have zi0:pQ ops a0 (a.put (some d) (.pointer (some ⟨O.w.heap.size,0,none⟩))):=hkp.trans (by have:=XC (a:=a) (v:=.pointer (some ⟨O.w.heap.size,0,none⟩)) ho; rw[o3]at this; exact this)
   have HO:∀ j,j<ops.size->va.getD j true=true->(listed.setIfInBounds i true).getD j true=true:=λj hj ha=>by
    rw[og]; split
    ·rfl
    ·exact h1 j hj ha
   have h2':∀ j,j<ops.size->(listed.setIfInBounds i true).getD j true=true->va.getD j true=false->∃ f∈e::es,f.i=j:=λj hj I ha=>by
    rw[og]at I
    split at I
    ·rename_i h; exact⟨e,zK,h.symm⟩
    ·obtain⟨f,hf,FH⟩:=X j hj I ha; exact⟨f,zS _ hf,FH⟩
   have h3':∀ f∈e::es,f.i<ops.size/\(listed.setIfInBounds i true).getD f.i true=true/\va.getD f.i true=false:=λf hf=>by
    rcases qA.1 hf with rfl | hf
    ·exact⟨i1,by rw[og]; exact if_pos rfl,hia⟩
    ·obtain⟨f1,f2,f3⟩:=h3 f hf
     exact⟨f1,by rw[og]; split<;>first | rfl | exact f2,f3⟩
   by_cases hmore:∃ q,q<ops.size/\rJ ops q/\(listed.setIfInBounds i true).getD q true=false
   ·exact U1 hC M7 ev ny Q9 fuel (listed.setIfInBounds i true) va (e::es) (O:={ O with w:=O.w.alloc (.cells z.cells t) }) (by simp[bR]) hszA M8 Ta HO h2' h3' NV hmore w1 hR' ud (N.trans w2) zhQ jR zi0 hQ
   ·-- all are laid
    have zbd:∀ q,q<ops.size->rJ ops q->(listed.setIfInBounds i true).getD q true=true:=λq q1 q2=>by
     cases I:(listed.setIfInBounds i true).getD q true with
     | true=>rfl
     | false=>exact(hmore ⟨q,q1,q2,I⟩).elim
    obtain⟨E,s',f1,f2,f3,f4,f5,f6⟩:=flush (c:=c) (n:=n) ev ny Ta zbd (e::es).length (e::es) va { O with w:=O.w.alloc (.cells z.cells t) } s rfl hszA HO h2' h3' NV w1 hR' ud (N.trans w2) zhQ jR
    have hgo:=H5 (O:=E) hC M7 fuel (listed.setIfInBounds i true) (Q:=Q) (λp j hpj hj hp=>(ev p j hpj hj).elim .inl λh=>.inr (DA h (ny p (Z)) (ny j hj) λhh=>by
     rw[zbd p (Z) hh.1]at hp; cases hp)) (by simp[bR]) M8 Ta f3 f5 f2 f6 λa' κ'' e1 e2 e3 e4 e5=>hQ a' κ'' e1 e2 (f4.trans e3) e4 (zi0.trans e5)
    rw[f1]at hgo
    exact hgo
  ·-- another operation
   have zbr:∀ o,ops[i]? = some o->∀ e∈es,e.d ∉ tmpsOf ops o:=by
    intro o ho f hf
    obtain⟨f1,f2,f3⟩:=h3 f hf
    obtain⟨fo,fo1,fo2,fo3,fo4⟩:=(hem f hf).op
    have FH:f.i≠i:=λh=>by rw[h,i2]at f2; cases f2
    rcases Nat.lt_or_gt_of_ne FH with wO | wO
    ·rcases ev f.i i wO i1 with h | h
     ·exact(z2b f.i f1 ⟨fo,fo1,DG fo2 fo3 fo4⟩ h).elim
     ·exact(h fo o fo1 ho).1 f.d fo4
    ·rcases ev i f.i wO f1 with h | h
     ·have:=KC f.i f1 f2 i h i1; rw[i2]at this; cases this
     ·exact(h o fo ho fo1).2.1 f.d fo4
   obtain⟨pre,post,g1,g2,g3⟩:=iH (p:=λi => !va.getD i true) (q:=λj => !(va.setIfInBounds i true).getD j true) (i:=i) (qF ops.size) zN
    (U.2 i1) (by simp[hia]) (λj=>by
     rw[cD (Z)]
     by_cases h:j=i
     ·subst h; simp
     ·simp[h])
   have z1Y:∀ p∈pre,Ind ops kd p i:=by
    intro p hp
    obtain⟨r1,r2,r3⟩:=g3 p hp
    have r2:=U.1 r2
    have r1:va.getD p true=false:=by simpa using r1
    rcases ev p i r3 i1 with h | h
    ·obtain⟨f,hf,FH⟩:=X p r2 (z1N p h r2) r1
     obtain⟨fo,fo1,fo2,fo3,fo4⟩:=(hem f hf).op
     exact(z2b p r2 ⟨fo,by rw[<- FH]; exact fo1,DG fo2 fo3 fo4⟩ h).elim
    ·exact DA h (ny p r2) (ny i i1) λhh=>Yb hh.2
   have FN:QK c n ops kd (pre++i::post) s sf:=by
    have:rest ops va=pre++i::post:=g1
    rw[<- this]; exact jR
   obtain⟨s1,k1,k2⟩:=Hv z1Y FN
   refine TT (s:=(ez es s.1,s.2)) (s':=(ez es s1.1,s1.2)) hC hI hR ud (MH k1 zbr) λa1 κ1 e1 e2 e3 e4 e5 e6 => ?_
   have z2g:∀ j,(va.setIfInBounds i true).getD j true=if j=i then true else va.getD j true:=λj=>cD (Z)
   refine U1 hC M7 ev ny Q9 fuel (listed.setIfInBounds i true) (va.setIfInBounds i true) es (O:=κ1) (s:=s1) (by simp[bR]) (by simp[hszA]) M8 Ta (λj hj ha => ?_) (λj hj I ha => ?_) (λf hf => ?_) M5
    ⟨q,q1,q2,?_⟩ e2 e4 e1 (N.trans e3) (λf hf=>(hem f hf).mono e3 (e6 f.d λo ho hod=>zbr o ho f hf (ea hod))) ?_ (hkp.trans e5) hQ
   ·rw[z2g]at ha; rw[og]
    split
    ·rfl
    ·rename_i h; rw[if_neg h]at ha; exact h1 j hj ha
   ·rw[z2g]at ha; rw[og]at I
    split at ha
    ·cases ha
    ·rename_i h; rw[if_neg h]at I; exact X j hj I ha
   ·obtain⟨f1,f2,f3⟩:=h3 f hf
    have FH:f.i≠i:=λh=>by rw[h,i2]at f2; cases f2
    exact⟨f1,by rw[og,if_neg FH]; exact f2,by rw[z2g,if_neg FH]; exact f3⟩
   ·have hqi:q≠i:=λh=>Yb (by rw[<- h]; exact q2)
    rw[og,if_neg hqi]; exact q3
   ·have:rest ops (va.setIfInBounds i true)=pre++post:=g2
    rw[this]; exact k2
theorem VL{kd:Nat->Nat}:∀ {l:List Oper} {ks:List Nat} {i j:Nat} {o:Oper},l[i]? = some o->ks[i]? = some (kd j)->(Gz l ks)[i]? = some (kd3 kd o j)
 | [],_,i,_,_,h,_=>by simp at h
 | _::_,[],i,_,_,_,h=>by simp at h
 | x::l,k::ks,0,j,o,h1,X=>by simp at h1 X; subst h1; subst X; rfl
 | x::l,k::ks,i+1,j,o,h1,X=>by
  have:=VL (kd:=kd) (l:=l) (ks:=ks) (i:=i) (j:=j) (o:=o) (wb) (wb)
  simpa[Gz]using this
theorem BA:∀ {l:List Oper} {k i:Nat} {o:Oper},l[i]? = some o->Yf o=true->k+i∈YP l k
 | [],_,_,_,h,_=>by simp at h
 | x::l,k,0,o,h1,X=>by simp at h1; subst h1; simp[YP,X]
 | x::l,k,i+1,o,h1,X=>by
  have:=BA (l:=l) (k:=k+1) (i:=i) (o:=o) (wb) X
  simp only[YP]
  grind
theorem KV{kd:Nat->RK}:∀ (l:List Nat) (s s':F×St) (ks:List RK),Nv c n ops l s s' ks->ks=l.map kd->YM (λi s s'=>nU c n ops i s s' (kd i)) l s s'
 | [],s,s',ks,h,_=>h.1
 | i::l,s,s',ks,⟨s1,k,Mk,e,h1,X⟩,hk=>by
  subst e
  simp at hk
  obtain⟨rfl,hk⟩:=hk
  exact⟨s1,h1,KV l s1 s' Mk X hk⟩
theorem z03{O:KS}{a:Act}{id:Nat}{draw:Bool}{fr:Fr}{kn:Kn}{s':oL}(hm:c.P.follows .mixedOrders=true)(hC:∀ g,Es c.P g (c.fn g))(hI:Inv O)(hR:Rel O n fr.get a)(hk:yI kn fr.get)
  (h:(pO c n ops draw fr kn O.st).leads s') {Q:Exit->Act->World->Prop} (hQ:∀ (a':Act) (E:KS),E.st=s'.st->Inv E->Ext O E->Rel E n s'.fr.get a'->pQ ops a a'->Q .normal a' E.w) :
  (Code.region id ops draw).wp c.P Q a O.w/\yI s'.kn s'.fr.get:=by
 simp only[pO,T.xh]at h
 obtain⟨s1,h1,X⟩:=h
 obtain⟨ks,g1,g2,g3⟩:=sk ops.toList 0 ⟨fr,kn,O.st,[],[]⟩ s1 (λj=>.inl (qp)) hk h1
 simp only[List.append_nil]at g3
 have R:ops.toList.length=ops.size:=qp
 rw[R,<- xC]at g1
 cases J:(!draw||VH ops s1.ks.reverse s1.bk.reverse)with
 | false=>rw[J]at X; exact X.elim
 | true =>
  rw[J,cond_true]at X
  cases X
  refine⟨?_,g2⟩
  cases draw with
  | false=>exact wp_region (RG hC _ hI hR rfl g1 hQ)
  | true =>
   simp only[Bool.not_true,Bool.false_or,VH,Bool.or_eq_true]at J
   obtain⟨rks,r1,r3⟩:=KZ (ops:=ops) ops.toList 0 ⟨fr,kn,O.st,[],[]⟩ _ (λj=>.inl (qp)) hk h1
   simp only[List.append_nil]at r3
   rw[R,<- xC]at r1
   let kd:Nat->Nat:=λi=>ks.getD i 0
   have hkl:ks.length=ops.size:=by rw[Iu _ _ _ _ g1]; simp
   have hks:ks=(qF ops.size).map kd:=by
    apply List.ext_getElem?
    intro i
    grind
   have jR:=H6 (kd:=kd) _ _ _ _ g1 hks
   refine wp_region_any hm ?_
   let κd:KS:={ O with w:=O.w.drew }
   have N:Ext O κd:=⟨rfl,rfl,rfl,qG _,λk hk=>⟨hk,rfl⟩,λk hk=>.inl hk,λ_ _ _ h=>.inl h,λb d h=>⟨⟨d,h⟩,rfl⟩,
    λb v0 e xs h=>.inr ⟨v0,xs,h,qG _,λ_=>⟨rfl,rfl⟩⟩,λ_ h=>h,qG _,λk _ _=>rfl⟩
   have hId:Inv κd:=⟨hI.len,hI.bT,hI.apart,hI.inj,λb y hy=>(hI.blk b y hy).mono N rfl λ_ _ _=>rfl,hI.gl.mono N.same⟩
   have Xy:rest ops (qB ops.size false)=qF ops.size:=by
    unfold rest
    rw[List.filter_eq_self]
    intro i hi
    have:=U.1 hi
    simp[zY,this]
   have BR:∀ j,j<ops.size->(qB ops.size false).getD j true=false:=λj hj=>by simp[zY,hj]
   have z7p:Vx ops (qB ops.size false):=λq hq Te=>by rw[BR q hq]at Te; cases Te
   have FK:∀ i,i<ops.size->ks[i]? = some (kd i):=λi hi=>by simp[kd,xF,zT (show i<ks.length by omega)]
   have KE:∀ i (hi:i<ops.size),ops.toList[i]? = some ops[i]:=λi hi=>qp
   rcases J with(J | J) | J
   ·simp only[NM,zF]at J
    obtain⟨d1,d2⟩:=J
    rw[g3,qM]at d2
    have ev:∀ p i,p<i->i<ops.size->ordered (uc ops.toList []) p i=true\/Ind ops kd p i:=by
     intro p i Ey hi
     have hp:=Qr ops.toList ks 0 [] d2 i ops[i] (kd i) (KE i hi) (FK i hi)
     have:=hp.2 p ops[p] (kd p) Ey (KE p (Z)) (FK p (Z))
     simp only[qO]at this
     refine s7 this (λh=>h) λhap x y N hy => ?_
     rw[zP (Z)]at N hy
     cases N
     cases hy
     exact hap
    exact H5 (O:=κd) hC d1 ops.size _ (λp i h1 X _=>ev p i h1 X) (qp) (by rw[Xy]; simp) z7p hId (hR.mono N) rfl (by rw[Xy]; exact jR) λa' E e1 e2 e3 e4 e5=>hQ a' E e1 e2 (N.trans e3) e4 e5
   ·simp only[NN,zF]at J
    obtain⟨⟨⟨d1,d0⟩,d2⟩,d3⟩:=J
    rw[g3,qM]at d0 d2
    have ny:∀ i,i<ops.size->kd i<=2:=λi hi=>M (zJ.1 d0 _ (xB (FK i hi)))
    have ev:∀ p i,p<i->i<ops.size->ordered (uc ops.toList []) p i=true\/z6B ops kd p i:=by
     intro p i Ey hi
     have hp:=Qr ops.toList (Gz ops.toList ks) 0 [] d2 i ops[i] (kd3 kd ops[i] i) (KE i hi) (VL (KE i hi) (FK i hi))
     have:=hp.2 p ops[p] (kd3 kd ops[p] p) Ey (KE p (Z)) (VL (KE p (Z)) (FK p (Z)))
     simp only[qO]at this
     refine s7 this (λh=>h) λhap x y N hy => ?_
     rw[zP (Z)]at N hy
     cases N
     cases hy
     exact hap
    have Q9:∀ p j,p<ops.size->rJ ops p->j<ops.size->ordered (uc ops.toList []) p j=true->∀ q,q<ops.size->rJ ops q->ordered (uc ops.toList []) q j=true:=by
     intro p j hp hap hj ho q hq haq
     unfold EL at d3
     have:=zJ.1 d3 j (U.2 (by simpa using hj))
     simp only[Bool.or_eq_true,zL,qQ,zJ]at this
     have hm:∀ r,rJ ops r->r∈YP ops.toList 0:=λr ⟨o,h1,X⟩=>by
      have:=BA (l:=ops.toList) (k:=0) (i:=r) (o:=o) (by rw[qI]; exact h1) X
      rwa [qO]at this
     rcases this with h | h
     ·have:=h p (hm p hap); rw[ho]at this; exact absurd rfl this
     ·exact h q (hm q haq)
    by_cases hex:∃ q,q<ops.size/\rJ ops q
    ·obtain⟨q,q1,q2⟩:=hex
     exact U1 (κ0:=κd) (O:=κd) (a0:=a) hC d1 ev ny Q9 ops.size _ (qB ops.size false) [] (qp) (qp) (by rw[Xy]; simp) z7p (λj hj h=>by rw[BR j hj]at h; cases h)
      (λj hj h _=>by rw[BR j hj]at h; cases h) (λe he=>by cases he) .nil ⟨q,q1,q2,BR q q1⟩ hId (hR.mono N) rfl (Ext.refl _) (λe he=>by cases he) (by rw[Xy]; exact jR) (pQ.refl _ _)
      λa' E e1 e2 e3 e4 e5=>hQ a' E e1 e2 (N.trans e3) e4 e5
    ·exact H5 (O:=κd) hC d1 ops.size _ (λp i h1 X _=>(ev p i h1 X).elim .inl λh=>.inr (DA h (ny p (Z)) (ny i X) λhh=>hex ⟨p,Z,hh.1⟩)) (qp) (by rw[Xy]; simp) z7p hId (hR.mono N) rfl (by rw[Xy]; exact jR) λa' E e1 e2 e3 e4 e5=>hQ a' E e1 e2 (N.trans e3) e4 e5
   ·simp only[NO,zF]at J
    obtain⟨d1,d2⟩:=J
    rw[r3,qM]at d2
    let kr:Nat->RK:=λi=>rks.getD i (.z 0)
    have hrl:rks.length=ops.size:=by rw[Cj _ _ _ _ r1]; simp
    have zpz:rks=(qF ops.size).map kr:=by
     apply List.ext_getElem?
     intro i
     by_cases hi:i<ops.size
     ·simp[kr,hi,xF,zT (show i<rks.length by omega)]
     ·rw[qJ (Z),qJ (by simp; omega)]
    have zbv:∀ i,i<ops.size->rks[i]? = some (kr i):=λi hi=>by simp[kr,xF,zT (show i<rks.length by omega)]
    have zio:=KV (kd:=kr) _ _ _ _ r1 zpz
    have ev:∀ p i,p<i->i<ops.size->ordered (uc ops.toList []) p i=true\/zcm ops kr p i:=by
     intro p i Ey hi
     have hp:=Qr ops.toList rks 0 [] d2 i ops[i] (kr i) (KE i hi) (zbv i hi)
     have:=hp.2 p ops[p] (kr p) Ey (KE p (Z)) (zbv p (Z))
     simp only[qO]at this
     refine s7 this (λh=>h) λhap x y N hy => ?_
     rw[zP (Z)]at N hy
     cases N
     cases hy
     exact hap
    exact Kh (O:=κd) (Stp:=λi s s'=>nU c n ops i s s' (kr i)) (In:=λp i=>zcm ops kr p i) (λi s s' h=>h.plain) (λp i hi s s1 s2 h1 X=>N2 hi h1 X) hC d1 ops.size _ (λp i h1 X _=>ev p i h1 X) (qp) (by rw[Xy]; simp) z7p hId (hR.mono N) rfl (by rw[Xy]; exact zio) λa' E e1 e2 e3 e4 e5=>hQ a' E e1 e2 (N.trans e3) e4 e5
end
end Go.AM
namespace Go.AM
set_option linter.unusedSectionVars false
variable [gp] [Bw]
def ED(O:KS):Ex->Exit->Prop
 | .normal,e=>e=.normal
 | .exit id,e=>e=.exit id
 | .ret,e=>e=.ret
 | .bh d,e=>∃ v,e=.panic [{ v,recovered:=false }]/\RD O d v
section
variable {c:Ctx} {n:Nat}
def uj:Code->List (Nat×Code)
 | .seq a b=>uj a++uj b
 | .cond _ a b=>uj a++uj b
 | .block id (.loop b)=>[(id,b)]
 | .block _ a=>uj a
 | _=>[]
theorem z02{ops:Array Oper}{draw:Bool}{fr:Fr}{kn:Kn}{st:St}{s':oL}(hk:yI kn fr.get)(h:(pO c n ops draw fr kn st).leads s'):yI s'.kn s'.fr.get:=by
 simp only[pO,T.xh]at h
 obtain⟨s1,h1,X⟩:=h
 obtain⟨ks,g1,g2,g3⟩:=sk ops.toList 0 ⟨fr,kn,st,[],[]⟩ s1 (λj=>.inl (qp)) hk h1
 cases J:(!draw||VH ops s1.ks.reverse s1.bk.reverse)with
 | false=>rw[J]at X; exact X.elim
 | true=>rw[J,cond_true]at X; cases X; exact g2
theorem nB(f:F):yI [] f:=by nofun
theorem I0{id:Nat}{b:Code}(I:∀ b',b≠.loop b'):uj (.block id b)=uj b:=by
 cases b<;>first | rfl | exact absurd rfl (I _)
end
end Go.AM
namespace Go.AM
set_option linter.unusedSectionVars false
variable [gp] [Bw]
section
variable {c:Ctx} {n:Nat}
theorem BB:∀ (ds:List D) (i s:Nat),(yw ds i).get s=if i<=s then ds[s-i]? else none
 | [],i,s=>by simp[yw,Fr.get]
 | d::r,i,s=>by
  simp only[yw,Fr.get]
  by_cases h:i=s
  ·subst h; simp
  ·rw[Qm h,cond_false,BB r (i+1) s]
   grind
theorem Yl{O:KS}{args:List D}{xc:List Value}(h:wQ O args xc)(hn:args.length<=n) :
  Rel O n (yw args 0).get { tmps:=xc.toArray++qB (n-xc.toArray.size) undef,defers:=Bw.df }:=by
 have R:=h.1
 refine⟨wb,rfl,λs d J => ?_⟩
 rw[BB]at J
 obtain⟨v,h1,X⟩:=h.get J
 grind
theorem U8{O:KS}{fr:Fr}{a:Act}(hI:Inv O)(hR:Rel O n fr.get a):∀ (rvs:List ResultVar) (ds:List D),(nK c fr O.st rvs).leads ds ->
  ∃ vs:List Value,Sem.run c.P (rvs.mapM λr=>match r with | ResultVar.tmp t=>(xG (a.tmps.getD t undef):Sem Value) | ResultVar.cell p t=>do loadVar t (<- asAddr (a.tmps.getD p undef))) O.w=Result.ok vs O.w/\wQ O ds vs
 | [],ds,h=>by cases h; exact⟨[],qp,.nil⟩
 | .tmp t::r,ds,h=>by
  simp only[nK]at h
  split at h
  ·rename_i d J
   simp only[T.xh]at h
   obtain⟨l,R,rfl⟩:=h
   obtain⟨v,h1,X⟩:=hR.get t d J
   obtain⟨vs,h3,h4⟩:=U8 hI hR r l R
   refine⟨v::vs,?_,.cons X h4⟩
   simp only[List.mapM_cons,qZ,xD,qT,h3]
   simp[h1]
  ·exact h.elim
 | .cell p t::r,ds,h=>by
  simp only[nK]at h
  split at h
  ·rename_i b off J
   split at h
   ·rename_i d I
    cases Yd:d.Gq with
    | true=>rw[Yd]at h; exact h.elim
    | false =>
    rw[Yd,cond_false]at h
    split at h
    ·rename_i x N
     simp only[T.xh]at h
     obtain⟨l,R,rfl⟩:=h
     obtain⟨v,h1,X⟩:=hR.get p _ J
     obtain⟨vs,h3,h4⟩:=U8 hI hR r l R
     cases X with
     | ptr _ _ blk m d1 hd1 hp =>
      obtain⟨pS,n',cs,T,g1,g2,g3,g4,g5⟩:=(hI.blk b _ I:kX O b d).cells Yd
      rw[hp]at g1
      cases g1
      obtain⟨u,e1,e2⟩:=GK (c:=c) (blk:=blk) 0 N g4 g5.1 (λj v hj=>by rw[WH g2]; simpa using hj)
      rw[qO]at e1
      refine⟨u::vs,?_,.cons e2 h4⟩
      have hA:(asAddr (a.tmps.getD p undef)).run c.P O.w=.ok ⟨blk,off,none⟩ O.w:=by simp[h1,asAddr]
      simp only[List.mapM_cons,qZ,hA,qT,e1,h3,xD]
    ·exact h.elim
   ·exact h.elim
  ·exact h.elim
def z4a:List Value->Value
 | [v]=>v
 | vs=>.tuple vs.toArray
theorem Jw{O:KS}{fr:Fr}{a:Act}{fn:Func}{ds:List D}(hI:Inv O)(hR:Rel O n fr.get a)(h:(nK c fr O.st fn.results.toList).leads ds) :
  ∃ vs:List Value,(results fn a.tmps).run c.P O.w=.ok (z4a vs) O.w/\wQ O ds vs:=by
 obtain⟨vs,h1,X⟩:=U8 hI hR _ _ h
 simp only[results,Array.mapM_eq_mapM_toList,qZ,Sem.run_map]
 have key:∀ r:Result (List Value),r=.ok vs O.w->((r.andThen λa w'=>.ok a.toArray w').andThen λa w'=>(xG (if h:a.size=1 then a[0]else .tuple a):Sem Value).run c.P w')=.ok (z4a vs) O.w:=by
  rintro _ rfl
  match vs with
  | []=>rfl
  | [v]=>rfl
  | _::_::_=>rfl
 grind
theorem Ha{O:KS}{ds:List D}{vs:List Value}(h:wQ O ds vs):RD O (eW ds) (z4a vs):=by
 match ds,vs,h with
 | [],vs,h=>rw[h.wj]; exact .eO [] [] rfl (λi h=>absurd h (qN i))
 | [d],vs,h =>
  obtain⟨v,r,rfl,h1,X⟩:=h.cons_inv
  rw[X.wj]
  exact h1
 | d::e::r,vs,h =>
  obtain⟨v,us,rfl,h1,X⟩:=h.cons_inv
  obtain⟨u,ws,rfl,h3,h4⟩:=X.cons_inv
  exact .eO _ _ h.1 h.2
def KS.cut(O:KS)(m:Nat):KS:={ O with ph:=O.ph.take m,st:=O.st.take m }
theorem xz{α:Type}{l:List α}{m i:Nat}{a:α}(h:l[i]? = some a)(hi:i<m):(l.take m)[i]? = some a:=wb
theorem lA{α:Type}{l:List α}{m i:Nat}{a:α}(h:(l.take m)[i]? = some a):l[i]? = some a/\i<m:=wb
theorem mU{O:KS}{m:Nat}{d:D}{v:Value}(h:RD O d v)(J:yh m d=true):RD (O.cut m) d v:=by
 cases h with
 | qs τ y cs h=>exact .qs τ y cs h
 | sQ e l b v h ht hf=>exact .sQ e l b v h ht hf
 | vF e a=>exact .vF e a
 | tight e l ne blk off f ki ja h hc=>exact .tight e l ne blk off f ki ja h hc
 | wJ=>exact .wJ
 | gx=>exact .gx
 | ve=>exact .ve
 | gw=>exact .gw
 | uZ=>exact .uZ
 | Vv v h=>exact .Vv v h
 | nh T=>exact .nh T
 | yR b blk n d I h=>exact .yR b blk n d (xz I (M J)) (xz h (M J))
 | nG b T d I=>exact .nG b T d (xz I (M J))
 | nH b T blk n d I h=>exact .nH b T blk n d (xz I (M J)) (xz h (M J))
 | ptr b off blk n d I h=>exact .ptr b off blk n d (xz I (M J)) (xz h (M J))
 | vH τ y cs blk off ja h hc=>exact .vH τ y cs blk off ja h hc
 | gP b vp e idx off blk o I h =>
  have wO:b<m:=M J
  refine .gP b vp e idx off blk o (s7 I (λh=>xz h wO) ?_) λxs N hi => ?_
  ·rintro⟨v0,e0,x0,h1,X⟩; exact⟨v0,e0,x0,xz h1 wO,X⟩
  ·obtain⟨n,h1,X⟩:=h xs (lA N).1 hi
   exact⟨n,xz h1 wO,X⟩
 | ms b vp e off len cap a I js ha Va h =>
  have wO:b<m:=M J
  refine .ms b vp e off len cap a (s7 I (λh=>xz h wO) ?_) js ha Va λxs N => ?_
  ·rintro⟨v0,e0,x0,h1,X⟩; exact⟨v0,e0,x0,xz h1 wO,X⟩
  ·obtain⟨h1,X⟩:=h xs (lA N).1
   refine⟨h1,s7 X ?_ ?_⟩
   ·rintro⟨g1,g2,g3,g4⟩; exact⟨g1,g2,g3,xz g4 wO⟩
   ·rintro⟨blk,n,o,Uv,g1,g2⟩; exact⟨blk,n,o,Uv,xz g1 wO,g2⟩
 | wo=>cases J
 | agg=>cases J
 | eO=>cases J
 | iface=>cases J
theorem MO{O:KS}{m:Nat}{d:D}{v:Value}(h:RD O d v)(J:fV m d=true):RD (O.cut m) d v:=by
 cases d with
 | wo f l =>
  cases h with
  | wo _ _ vs R hh =>
   simp only[fV,zJ]at J
   exact .wo f l vs R λi h1 X=>mU (hh i h1 X) (J _ (qV h1))
 | agg l =>
  cases h with
  | agg _ vs R ho hh =>
   simp only[fV,zJ]at J
   exact .agg l vs R ho λi h1 X=>mU (hh i h1 X) (J _ (qV h1))
 | eO l=>cases J
 | iface t d =>
  cases h with
  | iface _ _ v h=>exact .iface t _ v (mU h J)
 | _=>exact mU h J
theorem RP{O:KS}{m:Nat}{l:List D}{vs:List Value}(h:wQ O l vs)(J:∀ d∈l,fV m d=true):wQ (O.cut m) l vs:=⟨h.1,λi h1 X=>MO (h.2 i h1 X) (J _ (qV h1))⟩
theorem D5{m:Nat}{d:D}(h:fV m d=true):∀ x∈we d,fV m x=true:=by
 have KD:∀ (τ:Ty) (x:den τ),∀ y∈flat τ x,fV m y=true:=by
  intro τ x y hy
  have:∃ σ z,y=.qs σ z:=by
   induction τ with
   | cons a b ia ib =>
    simp only[flat]at hy
    grind
   | nil=>simp[flat]at hy
   | expr=>simp[flat]at hy; rcases hy with rfl | rfl | rfl | rfl | rfl | rfl<;>exact⟨_,_,rfl⟩
   | _=>simp[flat]at hy; subst hy; exact⟨_,_,rfl⟩
  obtain⟨σ,z,rfl⟩:=this
  rfl
 cases d with
 | qs τ x=>exact KD τ x
 | agg l =>
  intro x N
  simp only[fV,zJ]at h
  have:=h x N
  cases x<;>first | exact this | cases this
 | eO l=>cases h
 | Cg l=>intro x N; cases N
 | _=>intro x N; simp[we]at N; subst N; exact h
theorem z6Q{O:KS}{m:Nat}(hI:Inv O)(hc:∀ x∈O.st.take m,D4 m x=true):Inv (O.cut m):=by
 refine⟨by simp[KS.cut,hI.len],hI.bT,λb blk n h=>hI.apart b blk n (lA h).1,λb b' blk n n' h h'=>hI.inj b b' blk n n' (lA h).1 (lA h').1,λb x h => ?_,hI.gl⟩
 obtain⟨h1,X⟩:=lA h
 have I:=hI.blk b x h1
 have hcx:=hc x (xB h)
 cases x with
 | dead=>trivial
 | var d =>
  refine kX.elim I (λhm ⟨blk,n,cs,t,g1,g2,g3,g4,g5⟩=>.mk hm ⟨blk,n,cs,t,xz g1 X,g2,g3,RP g4 (D5 hcx),g5⟩) λl e ⟨blk,o,g1,g2⟩ => ?_
  subst e
  exact⟨blk,o,xz g1 X,g2⟩
 | arr vp e xs =>
  obtain⟨h0,I⟩:=I
  refine⟨h0,s7 I (λh=>⟨h.1,xz h.2 X⟩) ?_⟩
  rintro⟨blk,n,cs,t,g1,g2⟩
  exact⟨blk,n,cs,t,xz g1 X,g2⟩
end
end Go.AM
namespace Go.AM
set_option linter.unusedSectionVars false
variable [gp]
section
variable {c:Ctx}
theorem uY{P:Program}{f:Nat}{fn:Func}{args:Array Value}(hf:P.funcs[f]? = some fn) (hn:(fn.name == "runtime.NumGoroutine")=false) (I:fn.body.isNone=false) (w:World) :
  (callFunc f args).run P w=.ok (.enter f args) w:=by
 simp only[callFunc,qZ,run_program,qT,hf,hn,I,Bool.false_eq_true,if_false,xD]
theorem TZ{O κe:KS}(hI:Inv O)(ud:O.st=[])(hIe:Inv κe)(N:Ext O κe):Inv (κe.bare (okS κe))/\Ext O (κe.bare (okS κe)):=by
 have wO:∀ k,okS κe k->k<κe.w.heap.size:=by
  rintro k (hk | ⟨b,n,hk⟩)
  ·exact hIe.bT k hk
  ·exact(hIe.apart b k n hk).1
 refine⟨YV hIe (λ_ h=>.inl h) wO,N.os,N.tape,N.output,N.size,λk hk=>⟨.inl (N.same k hk).1,(N.same k hk).2⟩,?_,λb blk n h=>by simp[KS.bare]at h,λb d h=>wb,
  λb v0 e xs h=>wb,λb h=>wb,wb,N.frame⟩
 rintro k (hk | ⟨b,n,hk⟩)
 ·exact N.fresh k hk
 ·rcases N.phs b k n hk with h | h
  ·grind
  ·grind
end
end Go.AM
namespace Go.AM
set_option linter.unusedSectionVars false
variable [gp] [Bw]
open Go.RowKit
def z73(s:Nat)(fr:Fr)(st:St):T (Fr×St):=match fr.get s with
 | some (.ms b vp e off len)=>match st[b]? with
  | some (.arr dO e' xs)=>match(jV (a:=.sl e') (b:=.sl e) xs:Option (List (den e)))with
   | some ys=>.W (vp=dO) (.ret ((s,some (.qs (.sl e) ((ys.take (off+len)).drop off)))::fr,st.set b .dead))
   | none=>.fail
  | _=>.fail
 | _=>.ret (fr,st)
def z7a(j i:Nat)(fr:Fr)(st:St):T (Fr×St):=match st[j]? with
 | some (.var (.agg ds))=>match ds[i]? with
  | some (.ms b vp e off len)=>match st[b]? with
   | some (.arr dO e' xs)=>match(jV (a:=.sl e') (b:=.sl e) xs:Option (List (den e)))with
    | some ys=>.W (vp=dO) (.ret (fr,(st.set b .dead).set j (.var (.agg (ds.set i (.qs (.sl e) ((ys.take (off+len)).drop off)))))))
    | none=>.fail
   | _=>.fail
  | _=>.ret (fr,st)
 | _=>.ret (fr,st)
def z7c(s:Nat)(fr:Fr)(st:St):T (Fr×St):=bif Nat.ble 1000000 s then z7a ((s-1000000) / 1000) ((s-1000000) % 1000) fr st else z73 s fr st
def frz:List Nat->Fr->St->T (Fr×St)
 | [],fr,st=>.ret (fr,st)
 | s::r,fr,st=>(z7c s fr st).bind λx=>frz r x.1 x.2
section
variable {c:Ctx} {O:KS} {n:Nat}
theorem ziY{b vp off len:Nat}{e:Ty}{xs:List (den e)}{v:Value}(hI:Inv O)(h:RD O (.ms b vp e off len) v)(I:O.st[b]? = some (.arr vp e xs)){KR:Nat->Prop}(h1:∀ k,O.ok k->KR k)(X:∀ k n,O.ph[b]? = some (some (k,n))->KR k) :
  Rc O.w KR (.sl e) ((xs.take (off+len)).drop off) [v]:=by
 obtain⟨Dv,_⟩:=MY hI h I
 obtain⟨a,cap,f,hve,js,hn,g1,g2⟩:=Dv.ex
 have z1O:∀ blk o:Nat,v=.slice (some ⟨blk,o,none⟩) ((xs.take (off+len)).drop off).length cap->KR blk:=by
  intro blk o he
  cases h with
  | ms _ _ _ _ _ Uv a' hold zhI ha Va hm =>
   obtain⟨_,hm⟩:=hm xs I
   grind
 rw[hve]
 cases a with
 | none=>obtain⟨k1,k2⟩:=hn rfl; rw[k1,k2]; exact .lK e none
 | some p =>
  rcases g2 p rfl with⟨k1,k2⟩ | ⟨hp,_,hc⟩
  ·rw[k1,k2]; exact .lK e _
  ·obtain⟨blk,o,sp⟩:=p
   subst hp
   exact .sl e _ blk o cap f (z1O blk o hve) js (λi hi=>(g1 i hi).mono λk hk=>⟨h1 k hk,rfl⟩) hc
theorem O8{b vp:Nat}{e:Ty}{xs:List (den e)}(I:O.st[b]? = some (.arr vp e xs))(hI:Inv O):∃ E:KS,E.w=O.w/\E.st=O.st.set b .dead/\Inv E/\Ext O E /\
  ∀ (off len:Nat) (v:Value),RD O (.ms b vp e off len) v->RD E (.qs (.sl e) ((xs.take (off+len)).drop off)) v:=by
 have wO:b<O.st.length:=(zQ.1 I).1
 let E:KS:=⟨O.w,λk=>O.ok k\/∃ n,O.ph[b]? = some (some (k,n)),O.ph.set b none,O.st.set b .dead⟩
 have ud:∀ i,i≠b->E.st[i]? = O.st[i]? := λi hi=>by show(O.st.set b .dead)[i]? = _; rw[zE (λe=>hi e.symm)]
 have HQ:∀ i,i≠b->E.ph[i]? = O.ph[i]? := λi hi=>by show(O.ph.set b none)[i]? = _; rw[zE (λe=>hi e.symm)]
 have z7K:∀ (i blk m:Nat),E.ph[i]? = some (some (blk,m))->i≠b/\O.ph[i]? = some (some (blk,m)):=by
  grind
 have N:Ext O E:=by
  refine⟨rfl,rfl,rfl,qG _,λk hk=>⟨.inl hk,rfl⟩,?_,λi blk m hi=>.inl (z7K i blk m hi).2,?_,?_,?_,by show _<=(O.st.set b .dead).length; simp,λ_ _ _=>rfl⟩
  ·grind
  ·grind
  ·grind
  ·grind
 have hI':Inv E:=by
  refine⟨by show(O.ph.set b none).length=(O.st.set b .dead).length; simp[hI.len],?_,?_,?_,?_,hI.gl.mono N.same⟩
  ·rintro k (hk | ⟨m,hk⟩)
   ·exact hI.bT k hk
   ·exact(hI.apart b k m hk).1
  ·intro i blk m hi
   obtain⟨hib,Yu⟩:=z7K i blk m hi
   obtain⟨g1,g2⟩:=hI.apart i blk m Yu
   refine⟨g1,?_⟩
   rintro(hk | ⟨m',hk⟩)
   ·exact g2 hk
   ·exact hib (hI.inj i b blk m m' Yu hk)
  ·intro i i' blk m m' hi Yu
   exact hI.inj i i' blk m m' (z7K i blk m hi).2 (z7K i' blk m' Yu).2
  ·intro i B hB
   by_cases hib:i=b
   ·subst hib
    have:(O.st.set i .dead)[i]? = some B:=hB
    rw[qX wO]at this
    cases this
    trivial
   ·rw[ud i hib]at hB
    exact(hI.blk i B hB).mono N (HQ i hib) λ_ _ _=>rfl
 exact⟨E,rfl,rfl,hI',N,λoff len v J=>RD.Zn rfl (ziY hI J I (λk hk=>.inl hk) λk m hk=>.inr ⟨m,hk⟩)⟩
theorem z74{s:Nat}{fr:Fr}{a:Act}{r:Fr×St}(h:(z73 s fr O.st).leads r)(hI:Inv O)(hR:Rel O n fr.get a):∃ E:KS,E.w=O.w/\E.st=r.2/\Inv E/\Ext O E/\Rel E n r.1.get a:=by
 unfold z73 at h
 split at h
 ·rename_i b vp e off len hs
  split at h
  ·rename_i dO e' xs I
   split at h
   ·rename_i ys hy
    obtain⟨he,N⟩:=wk hy
    obtain⟨rfl,h⟩:=h
    cases h
    obtain⟨v,hv,J⟩:=hR.get s _ hs
    obtain⟨E,e1,e2,hI',N,hk⟩:=O8 I hI
    refine⟨E,e1,e2,hI',N,hR.size,hR.defers,λt d eE => ?_⟩
    simp only[Fr.get]at eE
    cases ht:zU s t with
    | true =>
     rw[<- Y ht]
     grind
    | false =>
     rw[ht,cond_false]at eE
     obtain⟨u,g1,g2⟩:=hR.get t d eE
     exact⟨u,g1,g2.mono N⟩
   ·exact h.elim
  ·exact h.elim
 ·cases h; exact⟨O,rfl,rfl,hI,Ext.refl O,hR⟩
theorem SZ{ds:List D}{i b vp off len:Nat}{e:Ty}{d':D}(J:ds[i]? = some (.ms b vp e off len))(hn:lB [d']=none){T:Nat}(h:lB (ds.set i d')=some T):lB ds=some T:=by
 cases ds with
 | nil=>cases J
 | cons x r =>
  cases i with
  | zero =>
   have:lB (d'::r)=lB [d']:=by cases d'<;>rfl
   grind
  | succ i =>
   have:∀ r':List D,lB (x::r')=lB [x]:=by intro r'; cases x<;>rfl
   grind
theorem z7b{j i:Nat}{fr:Fr}{a:Act}{r:Fr×St}(h:(z7a j i fr O.st).leads r)(hI:Inv O)(hR:Rel O n fr.get a):∃ E:KS,E.w=O.w/\E.st=r.2/\Inv E/\Ext O E/\Rel E n r.1.get a:=by
 unfold z7a at h
 split at h
 ·rename_i ds hj
  split at h
  ·rename_i b vp e off len hi
   split at h
   ·rename_i dO e' xs I
    split at h
    ·rename_i ys hy
     obtain⟨he,N⟩:=wk hy
     cases he
     cases N
     obtain⟨rfl,h⟩:=h
     cases h
     obtain⟨κ1,e1,e2,Uk,hx1,hk⟩:=O8 I hI
     have hjb:j≠b:=λq=>by subst q; rw[I]at hj; cases hj
     have hj1:κ1.st[j]? = some (.var (.agg ds)):=by rw[e2,zE (λq=>hjb q.symm)]; exact hj
     have hjl:j<κ1.st.length:=(zQ.1 hj1).1
     let d':D:=.qs (.sl e) ((xs.take (off+len)).drop off)
     let κ2:KS:={ κ1 with st:=κ1.st.set j (.var (.agg (ds.set i d'))) }
     have ud:∀ k,k≠j->κ2.st[k]? = κ1.st[k]? := λk hk=>by show(κ1.st.set j _)[k]? = _; rw[zE (λq=>hk q.symm)]
     have zpC:κ2.st[j]? = some (.var (.agg (ds.set i d'))):=by show(κ1.st.set j _)[j]? = _; rw[qX hjl]
     have O0:Ext κ1 κ2:=by
      refine⟨rfl,rfl,rfl,qG _,λk hk=>⟨hk,rfl⟩,λk hk=>.inl hk,λk blk m hk=>.inl hk,?_,?_,?_,by show _<=(κ1.st.set j _).length; simp,λ_ _ _=>rfl⟩
      ·grind
      ·grind
      ·grind
     have hI2:Inv κ2:=by
      refine⟨by show κ1.ph.length=(κ1.st.set j _).length; simp[Uk.len],Uk.bT,Uk.apart,Uk.inj,?_,Uk.gl⟩
      intro k B hB
      by_cases q:k=j
      ·subst q
       rw[zpC]at hB
       cases hB
       obtain⟨blk,m,cs,t,g1,g2,g3,g4,g5,g6⟩:=hI.blk k _ hj
       obtain⟨pS,m',mI,t',p1,p2,p3,p4,p5,p6⟩:=Uk.blk k _ hj1
       have HQ:κ1.ph[k]? = O.ph[k]? := (hx1.var k _ hj).2
       rw[HQ,g1]at p1
       cases p1
       rw[e1,g2]at p2
       cases p2
       refine⟨blk,m,cs,t,HQ.trans g1,by show κ1.w.heap[blk]? = _; rw[e1]; exact g2,g3,?_,?_,λT hT=>g6 T (SZ hi rfl hT)⟩
       ·have p4':wQ κ2 ds cs.toList:=wQ.mono O0 p4
        refine⟨by show(ds.set i d').length=_; rw[List.length_set]; exact p4'.1,λk' h1 X => ?_⟩
        have HO:k'<(ds.set i d').length:=h1
        rw[List.length_set]at HO
        show RD κ2 ((ds.set i d')[k']) _
        by_cases q:i=k'
        ·subst q
         have hdi:ds[i]'HO=.ms b vp e off len:=Option.some.inj ((zT HO).symm.trans hi)
         have:=g4.2 i HO X
         have FH:(we (D.agg ds))[i]'HO=.ms b vp e off len:=hdi
         rw[FH]at this
         have e3:(ds.set i d')[i]'h1=d':=List.getElem_set_self _
         rw[e3]
         exact(hk _ _ _ this).mono O0
        ·have e3:(ds.set i d')[k']'h1=ds[k']'HO:=List.getElem_set_ne q _
         rw[e3]
         exact p4'.2 k' HO X
       ·intro x N
        rcases List.mem_or_eq_of_mem_set N with N | rfl
        ·exact g5 x N
        ·rfl
      ·rw[ud k q]at hB
       exact(Uk.blk k B hB).mono O0 rfl λ_ _ _=>rfl
     refine⟨κ2,e1,by show κ1.st.set j _=_; rw[e2],hI2,hx1.trans O0,hR.size,hR.defers,λt d eE => ?_⟩
     obtain⟨u,q1,q2⟩:=hR.get t d eE
     exact⟨u,q1,(q2.mono hx1).mono O0⟩
    ·exact h.elim
   ·exact h.elim
  ·cases h; exact⟨O,rfl,rfl,hI,Ext.refl O,hR⟩
 ·cases h; exact⟨O,rfl,rfl,hI,Ext.refl O,hR⟩
theorem z7d{s:Nat}{fr:Fr}{a:Act}{r:Fr×St}(h:(z7c s fr O.st).leads r)(hI:Inv O)(hR:Rel O n fr.get a):∃ E:KS,E.w=O.w/\E.st=r.2/\Inv E/\Ext O E/\Rel E n r.1.get a:=by
 unfold z7c at h
 cases I:Nat.ble 1000000 s with
 | true=>rw[I,cond_true]at h; exact z7b h hI hR
 | false=>rw[I,cond_false]at h; exact z74 h hI hR
theorem z1l:∀ (l:List Nat) {fr:Fr} {O:KS} {a:Act} {r:Fr×St},(frz l fr O.st).leads r->Inv O->Rel O n fr.get a->∃ E:KS,E.w=O.w/\E.st=r.2/\Inv E/\Ext O E/\Rel E n r.1.get a
 | [],fr,O,a,r,h,hI,hR=>by cases h; exact⟨O,rfl,rfl,hI,Ext.refl O,hR⟩
 | s::l,fr,O,a,r,h,hI,hR=>by
  simp only[frz,T.xh]at h
  obtain⟨x,h1,X⟩:=h
  obtain⟨κ1,e1,e2,e3,e4,e5⟩:=z7d h1 hI hR
  rw[<- e2]at X
  obtain⟨κ2,g1,g2,g3,g4,g5⟩:=z1l l X e3 e5
  exact⟨κ2,g1.trans e1,g2,g3,e4.trans g4,g5⟩
end
end Go.AM