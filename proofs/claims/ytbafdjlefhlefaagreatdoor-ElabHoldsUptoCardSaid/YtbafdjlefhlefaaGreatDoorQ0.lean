/-
  Plain laws of the lifted program, part 0.
-/
import Derived.Test.YtbafdjlefhlefaaGreatDoorLf1
import Derived.Test.YtbafdjlefhlefaaGreatDoorAmA
import Derived.Test.YtbafdjlefhlefaaGreatDoorAmD
set_option linter.unusedVariables false
open Go.AM.T (jG jM jb ny oh qJ qK ql uo vr yw z2h z6 z7 z8 zD zG zP za zc ze zr zy)
namespace Go.AM.PL
def vu{α:Type}(p:α→Bool)(i:Int):List α→Int
 | [] => -1
 | x::r=>if p x=true then i else vu p (i+1) r
theorem z0d{α:Type}(p:α→Bool)(l:List α)(i:Int)(h:0≤i):vu p i l = -1∨(i≤vu p i l∧vu p i l<i+l.length):=by
 induction l generalizing i with
 | nil=>exact .inl rfl
 | cons x r ih =>
  simp only[vu,List.length_cons]
  split
  ·right; omega
  ·rcases ih (i+1) (by omega)with h | h
   ·exact .inl h
   ·right; omega
theorem eV{α:Type}(p:α→Bool)(l:List α)(i:Int)(h:0≤i):decide (0≤vu p i l)=l.any p:=by
 induction l generalizing i with
 | nil=>rfl
 | cons x r ih =>
  simp only[vu,List.any_cons]
  split
  ·rename_i hp; rw[hp]; simp[h]
  ·rename_i hp; rw[ih (i+1) (by omega)]; simp[hp]
theorem gv{α:Type}(l:List α)(d:α)(p:α→Bool){r:Int→T (Int⊕(Unit⊕Int))}
  (h1:∀ i,0≤i→i<(l.length:Int)→p (nth l i d)=true→(r i).run=some (.inr (.inr i)))
  (h2:∀ i,0≤i→i<(l.length:Int)→p (nth l i d)=false→(r i).run=some (.inl (i+1)))
  (h3:∀ i,¬ i<(l.length:Int)→(r i).run=some (.inr (.inl ()))):(T.loop r 0).run=some (if vu p 0 l = -1 then .inl ()else .inr (vu p 0 l)):=by
 have:=uo (r:=r) (fun i=>0≤i) (fun i=>((l.length:Int)-i).toNat) (fun i=>if vu p i (l.drop i.toNat) = -1 then .inl ()else .inr (vu p i (l.drop i.toNat))) (fun i h => ?_) (s:=0) (Int.le_refl 0)
 ·simpa using this
 ·by_cases hi:i<l.length
  ·rw[CY l d h hi]
   cases hp:p (nth l i d)with
   | true =>
    right
    have:¬ i = -1:=by omega
    rw[h1 i h hi hp]
    simp[vu,hp,this]
   | false =>
    left
    exact⟨i+1,h2 i h hi hp,by omega,by omega,by simp[vu,hp]⟩
  ·right
   rw[PU _ hi,h3 i hi]
   rfl
theorem wx(a b:zf):zM a b=decide (a=b):=by
 unfold zM
 by_cases h:a=b
 ·subst h; simp
 ·simp[h]
end Go.AM.PL
namespace Go.AM.Lf
open PL
theorem cS(l:List zf)(v:zf)(hl:(l.length:Int)≤4611686018427387904):(qW l v).run=some (l.any (zM v)):=by
 have key:(vY l v (l.length:Int) 0).run=some (if vu (zM v) 0 l = -1 then .inl ()else .inr (vu (zM v) 0 l)):=by
  refine gv l (zb .str) (zM v) (fun i h hi hp => ?_) (fun i h hi hp => ?_) (fun i hi => ?_)
  ·simp(disch:=omega) [qx,hi,hp]
  ·simp(disch:=omega) [qx,hi,hp]
  ·simp[qx,hi]
 have hx:(qB l v).run=some (vu (zM v) 0 l):=by
  unfold qB
  rw[z6 key]
  split<;>rename_i h<;>simp[h]
 unfold qW
 rw[z6 hx,z7,eV _ _ _ (Int.le_refl 0)]
mutual
def nmE:Expr→List zf→List zf
 | .mk k _ s l,acc=>nmEs l (if k=2∧acc.any (zM s)=false then acc++[s]else acc)
def nmEs:List Expr→List zf→List zf
 | [],acc=>acc
 | e::r,acc=>nmEs r (nmE e acc)
end
mutual
def allE:Expr→List zf
 | .mk k _ s l=>(if k=2 then[s]else[])++allEs l
def allEs:List Expr→List zf
 | []=>[]
 | e::r=>allE e++allEs r
end
mutual
theorem Ww:∀ (e:Expr) (acc:List zf),(nmE e acc).length≤acc.length+bkE e
 | .mk k n s l,acc=>by
  have:=BX l (if k=2∧acc.any (zM s)=false then acc++[s]else acc)
  have h2:(if k=2∧acc.any (zM s)=false then acc++[s]else acc).length≤acc.length+1:=by split<;>simp
  simp only[nmE,bkE]
  omega
theorem BX:∀ (l:List Expr) (acc:List zf),(nmEs l acc).length≤acc.length+bkEs l
 | [],acc=>by simp[nmEs]
 | e::r,acc=>by
  have h1:=Ww e acc
  have h2:=BX r (nmE e acc)
  simp only[nmEs,bkEs]
  omega
end
mutual
theorem B4:∀ (e:Expr) (acc:List zf) (x:zf),x∈nmE e acc↔x∈acc∨x∈allE e
 | .mk k n s l,acc,x=>by
  have:=DD l (if k=2∧acc.any (zM s)=false then acc++[s]else acc) x
  simp only[nmE,allE,this]
  by_cases hk:k=2
  ·by_cases ha:acc.any (zM s)=false
   ·simp[hk,ha,or_assoc]
   ·have hs:s∈acc:=by
     simp only[Bool.not_eq_false,List.any_eq_true]at ha
     obtain⟨y,hy,he⟩:=ha
     rw[wx,decide_eq_true_eq]at he
     exact he▸hy
    simp only[hk,ha,and_false,if_false,if_true,List.singleton_append,List.mem_cons]
    constructor
    ·rintro(h | h)
     ·exact .inl h
     ·exact .inr (.inr h)
    ·rintro(h | rfl | h)
     ·exact .inl h
     ·exact .inl hs
     ·exact .inr h
  ·simp[hk]
theorem DD:∀ (l:List Expr) (acc:List zf) (x:zf),x∈nmEs l acc↔x∈acc∨x∈allEs l
 | [],acc,x=>by simp[nmEs,allEs]
 | e::r,acc,x=>by
  have h1:=B4 e acc x
  have h2:=DD r (nmE e acc) x
  simp only[nmEs,allEs,h2,h1,List.mem_append,or_assoc]
end
theorem z2p(e:Expr):1≤bkE e:=by cases e; simp only[bkE]; omega
theorem gV{l:List Expr}{e:Expr}(h:e∈l):bkE e≤bkEs l:=by
 induction l with
 | nil=>cases h
 | cons x r ih =>
  simp only[bkEs]
  rcases List.mem_cons.1 h with rfl | h
  ·omega
  ·have:=ih h; omega
theorem gN(e:Expr):bkEs e.kids<bkE e:=by cases e; simp only[Expr.kids,bkE]; omega
theorem iR(l:List Expr):l.length≤bkEs l:=by
 induction l with
 | nil=>exact Nat.le_refl _
 | cons x r ih=>have:=z2p x; simp only[bkEs,List.length_cons]; omega
theorem vp{α:Type}{l:List α}{i:Int}{d:α}(h:0≤i)(hi:i<(l.length:Int)):nth l i d∈l:=by
 unfold nth
 have:i.toNat<l.length:=by omega
 simp[List.getD_eq_getElem?_getD,this]
theorem NR(e:Expr)(l:List zf)(hb:l.length+bkE e≤1000000000):(eU e l).run=some (nmE e l):=by
 unfold eU
 refine jG (fun x:Expr×List zf=>x.2.length+bkE x.1≤1000000000) (fun x=>bkE x.1) (fun x=>nmE x.1 x.2) (fun x hx g hg => ?_) (x:=(e,l)) hb
 obtain⟨e,l⟩:=x
 simp only at hx hg
 have hk:=gN e
 have FK:=iR e.kids
 have loop:∀ acc:List zf,acc.length+bkEs e.kids≤1000000000→(pZ (fun y0 y1=>g (y0,y1)) e.kids (e.kids.length:Int) (0,acc)).run=some (nmEs e.kids acc):=by
  intro acc IB
  refine ny e.kids (zb .expr) (fun b i=>(i,b)) (fun b r=>b.length+bkEs r≤1000000000∧∀ x∈r,x∈e.kids) (fun r b=>nmEs r b) ?_ ?_ ⟨IB,fun x hx=>hx⟩
  ·rintro b x xs i h0 hi hx ⟨h1,h2⟩
   simp only[bkEs]at h1
   have hm:=gV (h2 x List.mem_cons_self)
   have hl:=Ww x b
   have hr:=hg (x,b) (by simp only; omega) (by simp only; omega)
   refine .inl ⟨nmE x b,?_,⟨by omega,fun y hy=>h2 y (List.mem_cons_of_mem _ hy)⟩,rfl⟩
   simp only at hr
   simp(disch:=omega) [gi,hi,hx,hr]
  ·rintro b _
   simp[gi,nmEs]
 unfold bL
 cases e with | mk k n s kids =>
 simp only[Expr.kids,Expr.kind,Expr.name,bkE]at *
 have hc:=cS l s (by omega)
 by_cases gk:k=2
 ·cases ha:l.any (zM s)with
  | true =>
   have hL:=loop l (by omega)
   simp(disch:=omega) [gk,hc,ha,hL,nmE]
  | false =>
   have hL:=loop (l++[s]) (by simp; omega)
   simp(disch:=omega) [gk,hc,ha,hL,nmE]
 ·have hL:=loop l (by omega)
  simp(disch:=omega) [gk,hL,nmE]
theorem FJ(e:Expr)(l:List zf)(hx:l.length+bkE e≤1000000000):(cW e l).run=some (nmE e l):=by
 have hk:=gN e
 have FK:=iR e.kids
 have loop:∀ acc:List zf,acc.length+bkEs e.kids≤1000000000→(mP e.kids (e.kids.length:Int) (0,acc)).run=some (nmEs e.kids acc):=by
  intro acc IB
  refine ny e.kids (zb .expr) (fun b i=>(i,b)) (fun b r=>b.length+bkEs r≤1000000000∧∀ x∈r,x∈e.kids) (fun r b=>nmEs r b) ?_ ?_ ⟨IB,fun x hx=>hx⟩
  ·rintro b x xs i h0 hi hx ⟨h1,h2⟩
   simp only[bkEs]at h1
   have hm:=gV (h2 x List.mem_cons_self)
   have hl:=Ww x b
   have hr:=NR x b (by omega)
   refine .inl ⟨nmE x b,?_,⟨by omega,fun y hy=>h2 y (List.mem_cons_of_mem _ hy)⟩,rfl⟩
   simp(disch:=omega) [y3,hi,hx,hr]
  ·rintro b _
   simp[y3,nmEs]
 unfold cW
 cases e with | mk k n s kids =>
 simp only[Expr.kids,Expr.kind,Expr.name,bkE]at *
 have hc:=cS l s (by omega)
 by_cases gk:k=2
 ·cases ha:l.any (zM s)with
  | true =>
   have hL:=loop l (by omega)
   simp(disch:=omega) [gk,hc,ha,hL,nmE]
  | false =>
   have hL:=loop (l++[s]) (by simp; omega)
   simp(disch:=omega) [gk,hc,ha,hL,nmE]
 ·have hL:=loop l (by omega)
  simp(disch:=omega) [gk,hL,nmE]
theorem mZ(e:Expr)(hb:bkE e≤1000000000):(jU e).run=some (nmE e []):=by
 have:=FJ e [] (by simpa using hb)
 simp[jU,this]
def oa(e:Expr)(F:List zf):Bool:=(nmE e []).any fun x=>F.any (zM x)
theorem z0l(e:Expr)(F:List zf):oa e F=true↔∃ x∈allE e,x∈F:=by
 simp only[oa,List.any_eq_true,B4,List.not_mem_nil,false_or]
 constructor
 ·rintro⟨x,h1,y,h2,h3⟩
  rw[wx,decide_eq_true_eq]at h3
  exact⟨x,h1,h3▸h2⟩
 ·rintro⟨x,h1,h2⟩
  exact⟨x,h1,x,h2,by rw[wx]; simp⟩
theorem MK(e:Expr)(F:List zf)(hb:bkE e≤1000000000)(hF:(F.length:Int)≤4611686018427387904):(gP e F).run=some (oa e F):=by
 have hN:=mZ e hb
 have hl:=Ww e []
 generalize hL:nmE e []=L at hN hl
 have hl:L.length≤1000000000:=by simp at hl; omega
 have key:(va L (fun z0=>wN z0 F) (L.length:Int) 0).run=some (if vu (fun x=>F.any (zM x)) 0 L = -1 then .inl ()else .inr (vu (fun x=>F.any (zM x)) 0 L)):=by
  have hf:∀ x,(wN x F).run=some (F.any (zM x)):=fun x=>by
   unfold wN; rw[z6 (cS F x hF),z7]
  refine gv L (zb .str) (fun x=>F.any (zM x)) (fun i h hi hp => ?_) (fun i h hi hp => ?_) (fun i hi => ?_)
  ·simp(disch:=omega) [qg,hi,hf,hp]
  ·simp(disch:=omega) [qg,hi,hf,hp]
  ·simp[qg,hi]
 have hx:(qp L (fun z0=>wN z0 F)).run=some (vu (fun x=>F.any (zM x)) 0 L):=by
  unfold qp
  rw[z6 key]
  split<;>rename_i h<;>simp[h]
 unfold gP
 rw[z6 hN]
 have hc:(xY L (fun z0=>wN z0 F)).run=some (L.any fun x=>F.any (zM x)):=by
  unfold xY
  rw[z6 hx,z7,eV _ _ _ (Int.le_refl 0)]
 rw[z6 hc,z7]
 simp only[oa,hL]
def Kv(F:List zf)(k:Int):List Expr→Bool
 | [a,b]=>(k==5&&(oa a F&&oa b F))||(k==6&&oa b F)
 | _=>false
mutual
def dH(F:List zf):Expr→Bool
 | .mk k _ _ l => !Kv F k l&&rL F l
def rL(F:List zf):List Expr→Bool
 | []=>true
 | e::r=>dH F e&&rL F r
end
theorem On(F:List zf)(l:List Expr):rL F l = !(l.any fun e => !dH F e):=by
 induction l with
 | nil=>rfl
 | cons e r ih=>simp[rL,ih]
theorem Y9(e:Expr)(F:List zf)(hb:bkE e≤1000000000)(hF:(F.length:Int)≤4611686018427387904):(bR e F).run=some (dH F e):=by
 unfold bR
 refine jG (fun x:Expr×List zf=>bkE x.1≤1000000000∧(x.2.length:Int)≤4611686018427387904) (fun x=>bkE x.1) (fun x=>dH x.2 x.1) (fun x hx g hg => ?_) (x:=(e,F)) ⟨hb,hF⟩
 obtain⟨e,F⟩:=x
 obtain⟨hx,hF⟩:=hx
 simp only at hx hg hF
 have hk:=gN e
 have FK:=iR e.kids
 have ML:(wk (fun y0 y1=>g (y0,y1)) e.kids (fun z0=>xQ (fun y0 y1=>g (y0,y1)) z0 F)).run=some (e.kids.any fun k => !dH F k):=by
  have hf:∀ x∈e.kids,(xQ (fun y0 y1=>g (y0,y1)) x F).run=some (!dH F x):=fun x hxm=>by
   have:=gV hxm
   unfold xQ
   rw[z6 (hg (x,F) ⟨by simp only; omega,hF⟩ (by simp only; omega)),z7]
  have key:(jF (fun y0 y1=>g (y0,y1)) e.kids (fun z0=>xQ (fun y0 y1=>g (y0,y1)) z0 F) (e.kids.length:Int) 0).run=some (if vu (fun k => !dH F k) 0 e.kids = -1 then .inl ()else .inr (vu (fun k => !dH F k) 0 e.kids)):=by
   refine gv e.kids (zb .expr) (fun k => !dH F k) (fun i h hi hp => ?_) (fun i h hi hp => ?_) (fun i hi => ?_)
   ·have hm:=vp (d:=zb .expr) h hi
    simp(disch:=omega) [xH,hi,hf _ hm,hp]
   ·have hm:=vp (d:=zb .expr) h hi
    simp(disch:=omega) [xH,hi,hf _ hm,hp]
   ·simp[xH,hi]
  have hx:(wQ (fun y0 y1=>g (y0,y1)) e.kids (fun z0=>xQ (fun y0 y1=>g (y0,y1)) z0 F)).run=some (vu (fun k => !dH F k) 0 e.kids):=by
   unfold wQ
   rw[z6 key]
   split<;>rename_i h<;>simp[h]
  unfold wk
  rw[z6 hx,z7,eV _ _ _ (Int.le_refl 0)]
 unfold bN
 cases e with | mk k n s kids =>
 simp only[Expr.kids,Expr.kind,bkE]at *
 simp only[dH,On]
 by_cases h2:kids.length=2
 ·match kids,h2 with
  | [a,b],_ =>
  have ha:bkE a≤1000000000:=by have:=gV (l:=[a,b]) (e:=a) (by simp); omega
  have hb:bkE b≤1000000000:=by have:=gV (l:=[a,b]) (e:=b) (by simp); omega
  have hA:=MK a F ha hF
  have hB:=MK b F hb hF
  have n0:nth [a,b] 0 (zb .expr)=a:=rfl
  have n1:nth [a,b] 1 (zb .expr)=b:=rfl
  by_cases k5:k=5
  ·subst k5
   cases ca:oa a F<;>cases cb:oa b F<;>simp[qJ,n0,n1,hA,hB,ca,cb,Kv,ML]
  ·by_cases k6:k=6
   ·subst k6
    cases cb:oa b F<;>simp[qJ,n0,n1,hB,cb,Kv,ML]
   ·simp[qJ,n0,n1,Kv,ML,k5,k6]
 ·have zem:Kv F k kids=false:=by
   unfold Kv
   split
   ·exact absurd rfl h2
   ·rfl
  have h2':¬ ((kids.length:Int)=2):=by omega
  simp[h2',ML,zem]
mutual
def wtE:Expr→Int→Int
 | .mk _ n s l,left=>wtEs l (left-3-s.length-8*n.2.1.length-8*n.2.2.1.length)
def wtEs:List Expr→Int→Int
 | [],left=>left
 | e::r,left=>if 0≤left then wtEs r (wtE e left)else left
end
mutual
theorem V4:∀ (e:Expr) (left:Int),wtE e left≤left∧left-16*bkE e≤wtE e left
 | .mk _ n s l,left=>by
  have:=Hu l (left-3-s.length-8*n.2.1.length-8*n.2.2.1.length)
  simp only[wtE,bkE]
  constructor<;>omega
theorem Hu:∀ (l:List Expr) (left:Int),wtEs l left≤left∧left-16*bkEs l≤wtEs l left
 | [],left=>by simp[wtEs,bkEs]
 | e::r,left=>by
  have h1:=V4 e left
  have h2:=Hu r (wtE e left)
  simp only[wtEs,bkEs]
  split<;>constructor<;>omega
end
theorem RU(l:List Expr)(left:Int)(h:¬ 0≤left):wtEs l left=left:=by cases l<;>simp[wtEs,h]
end Go.AM.Lf
namespace Go.AM.PL
def nv:List Int→Nat
 | []=>0
 | x::l=>x.toNat+4294967296*nv l
def zw(l:List Int):Prop:=∀ x∈l,0≤x∧x<4294967296
def zJ(n:Nat):List Int:=if h:n=0 then[]else((n % 4294967296:Nat):Int)::zJ (n / 4294967296)
termination_by n
decreasing_by omega
theorem qz:zJ 0=[]:=by rw[zJ]; rfl
theorem yb{n:Nat}(h:n≠0):zJ n=((n % 4294967296:Nat):Int)::zJ (n / 4294967296):=by rw[zJ,dif_neg h]
theorem yj:zw []:=fun _ h=>nomatch h
theorem nN{x:Int}{l:List Int}:zw (x::l)↔(0≤x∧x<4294967296)∧zw l:=by
 unfold zw; simp[List.forall_mem_cons]
theorem oM{a b:List Int}:zw (a++b)↔zw a∧zw b:=by
 unfold zw; simp only[List.mem_append]
 exact⟨fun h=>⟨fun x hx=>h x (.inl hx),fun x hx=>h x (.inr hx)⟩,fun h x hx=>hx.elim (h.1 x) (h.2 x)⟩
theorem o7{a:List Int}(h:zw a)(n:Nat):zw (a.take n):=fun x hx=>h x (List.mem_of_mem_take hx)
theorem iV{a:List Int}(h:zw a)(n:Nat):zw (a.drop n):=fun x hx=>h x (List.mem_of_mem_drop hx)
theorem xy(n:Nat):zw (List.replicate n 0):=fun x hx=>by
 have:=(List.mem_replicate.1 hx).2; omega
theorem cD{a:List Int}(h:zw a)(i:Nat){x:Int}(h0:0≤x)(h1:x<4294967296):zw (a.set i x):=fun y hy=>by
 rcases List.mem_or_eq_of_mem_set hy with h' | h'
 ·exact h y h'
 ·subst h'; exact⟨h0,h1⟩
theorem Gg{a:List Int}(h:zw a)(i:Int):0≤nth a i 0∧nth a i 0<4294967296:=by
 unfold nth
 rw[List.getD_eq_getElem?_getD]
 cases hx:a[i.toNat]? with
 | none=>simp
 | some x=>exact h x (List.mem_of_getElem? hx)
theorem zq(n:Nat):zw (zJ n):=by
 induction n using Nat.strongRecOn with
 | _ n ih =>
  by_cases h:n=0
  ·subst h; rw[qz]; exact yj
  ·rw[yb h]
   exact nN.2 ⟨by omega,ih _ (by omega)⟩
@[simp] theorem HA:nv []=0:=rfl
@[simp] theorem eX(x:Int)(l:List Int):nv (x::l)=x.toNat+4294967296*nv l:=rfl
@[simp] theorem zS(n:Nat):nv (zJ n)=n:=by
 induction n using Nat.strongRecOn with
 | _ n ih =>
  by_cases h:n=0
  ·subst h; rw[qz]; rfl
  ·rw[yb h,eX,ih _ (by omega)]; omega
theorem gI(a b:List Int):nv (a++b)=nv a+4294967296 ^ a.length*nv b:=by
 induction a with
 | nil=>simp
 | cons x a ih=>simp only[List.cons_append,eX,ih,List.length_cons,Nat.pow_succ,Nat.mul_add]; rw[← Nat.mul_assoc,Nat.mul_comm 4294967296 (4294967296 ^ a.length)]; omega
theorem yq{l:List Int}(h:zw l):nv l<4294967296 ^ l.length:=by
 induction l with
 | nil=>simp
 | cons x l ih =>
  have h':=nN.1 h
  have:=ih h'.2
  simp only[eX,List.length_cons,Nat.pow_succ]
  omega
@[simp] theorem z2d(n:Nat):nv (List.replicate n 0)=0:=by
 induction n with
 | zero=>rfl
 | succ n ih=>simp[List.replicate_succ,ih]
def Vx(l:List Int):Prop:=∀ x,l.getLast? = some x→x≠0
theorem WT:Vx []:=fun _ h=>nomatch h
theorem K3{x:Int}{l:List Int}(h:Vx (x::l)):Vx l:=by
 cases l with
 | nil=>exact WT
 | cons y l=>intro z hz; exact h z (by simpa[List.getLast?_cons_cons]using hz)
theorem z88{l:List Int}(h:zw l)(ht:Vx l)(hn:l≠[]):nv l≠0:=by
 induction l with
 | nil=>exact absurd rfl hn
 | cons x l ih =>
  have h':=nN.1 h
  cases l with
  | nil =>
   have:=ht x rfl
   simp; omega
  | cons y l =>
   have:=ih h'.2 (K3 ht) (by simp)
   rw[eX]; omega
theorem Qd{l:List Int}(h:zw l)(ht:Vx l):zJ (nv l)=l:=by
 induction l with
 | nil=>exact qz
 | cons x l ih =>
  have h':=nN.1 h
  have h1:=ih h'.2 (K3 ht)
  rw[yb (z88 h ht (by simp)),eX]
  have e1:(x.toNat+4294967296*nv l) % 4294967296=x.toNat:=by omega
  have e2:(x.toNat+4294967296*nv l) / 4294967296=nv l:=by omega
  rw[e1,e2,h1]
  congr 1; omega
theorem Z5(n:Nat):Vx (zJ n):=by
 induction n using Nat.strongRecOn with
 | _ n ih =>
  by_cases h:n=0
  ·subst h; rw[qz]; exact WT
  ·rw[yb h]
   intro x hx
   by_cases h2:n / 4294967296=0
   ·rw[h2,qz]at hx
    simp at hx; omega
   ·have:=ih (n / 4294967296) (by omega)
    have uv:zJ (n / 4294967296)≠[]:=by rw[yb h2]; simp
    refine this x ?_
    rw[← hx]
    cases hc:zJ (n / 4294967296)with
    | nil=>exact absurd hc uv
    | cons y l=>rw[List.getLast?_cons_cons]
theorem xB{n:Nat}:zJ n=[]↔n=0:=by
 constructor
 ·intro h; rw[← zS n,h]; rfl
 ·rintro rfl; exact qz
theorem KA(l:List Int):nv (l++[0])=nv l:=by simp[gI]
theorem qe{n k:Nat}:(zJ n).length≤k↔n<4294967296 ^ k:=by
 induction k generalizing n with
 | zero =>
  simp only[Nat.le_zero_eq,List.length_eq_zero_iff,xB,Nat.pow_zero]; omega
 | succ k ih =>
  by_cases h:n=0
  ·subst h; rw[qz]; simp[Nat.pow_pos]
  ·rw[yb h,List.length_cons,Nat.pow_succ,Nat.add_le_add_iff_right,ih]
   rw[Nat.div_lt_iff_lt_mul (by omega)]
theorem EY{n k:Nat}:k<(zJ n).length↔4294967296 ^ k≤n:=by
 have:=qe (n:=n) (k:=k); omega
theorem zW{l:List Int}(h:zw l):(zJ (nv l)).length≤l.length:=qe.2 (yq h)
theorem Hi{a b:List Int}(i:Int)(h:(a.length:Int)≤i):nth (a++b) i 0=nth b (i-a.length) 0:=by
 unfold nth
 rw[List.getD_eq_getElem?_getD,List.getD_eq_getElem?_getD,List.getElem?_append_right (by omega)]
 congr 2; omega
theorem mz(a:List Int)(i:Nat)(h:i<a.length):a.take (i+1)=a.take i++[nth a i 0]:=by
 rw[List.take_succ_eq_append_getElem h]; simp[nth,h]
theorem Xg{a:List Int}{i:Nat}(h:i<a.length):nv (a.take (i+1))=nv (a.take i)+4294967296 ^ i*(nth a i 0).toNat:=by
 rw[mz a i h,gI]
 have:(a.take i).length=i:=by simp; omega
 simp[this]
theorem kM(a:List Int)(i:Nat)(h:i≤a.length):nv a=nv (a.take i)+4294967296 ^ i*nv (a.drop i):=by
 have:=gI (a.take i) (a.drop i)
 rw[List.take_append_drop]at this
 rw[this]; congr 3; simp; omega
theorem DV{a:List Int}{i:Nat}(h:i<a.length):nv (a.drop i)=(nth a i 0).toNat+4294967296*nv (a.drop (i+1)):=by
 rw[List.drop_eq_getElem_cons h,eX]; simp[nth,h,List.getD_eq_getElem?_getD]
theorem VF{α:Type}(a:List α)(i j:Nat)(x:α)(h:j≤i):(a.set i x).take j=a.take j:=by
 rw[List.take_set_of_le h]
theorem ZX(a:List Int)(i:Nat)(x:Int)(h:i<a.length):(a.set i x).take (i+1)=a.take i++[x]:=by
 rw[mz _ _ (by simpa using h),List.take_set_of_le (Nat.le_refl _)]
 simp[nth,h]
theorem jv(a:List Int)(i:Nat)(x:Int):(a.set i x).drop (i+1)=a.drop (i+1):=by
 rw[List.drop_set_of_lt (by omega)]
end Go.AM.PL
namespace Go.AM.T
variable {σ ρ:Type}
theorem xm{r:σ→T (σ⊕ρ)}(I:σ→Prop)(μ:σ→Nat)(Q:ρ→Prop)
  (h:∀ s,I s→(∃ s',(r s).run=some (.inl s')∧I s'∧μ s'<μ s)∨(∃ x,(r s).run=some (.inr x)∧Q x)) {s:σ} (hs:I s):∃ x,(loop r s).run=some x∧Q x:=by
 generalize hm:μ s=m
 induction m using Nat.strongRecOn generalizing s with
 | _ m ih =>
  rcases h s hs with⟨s',h1,h2,h3⟩ | ⟨x,h1,h2⟩
  ·rw[qK h1]
   exact ih (μ s') (by omega) h2 rfl
  ·exact⟨x,ql h1,h2⟩
end Go.AM.T
namespace Go.AM.PL
def lm(a:List Int)(i:Nat):Nat:=(nth a (i:Int) 0).toNat
theorem wu{a:List Int}(h:zw a)(i:Nat):lm a i<4294967296:=by have:=Gg h i; unfold lm; omega
theorem wE{a:List Int}(h:zw a)(i:Nat):nth a (i:Int) 0=(lm a i:Int):=by have:=Gg h i; unfold lm; omega
theorem jO{a:List Int}(h:zw a)(i:Nat):xp a i 0=(lm a i:Int):=by have:=wE h i; unfold nth at this; unfold xp; simpa using this
theorem Dc{a:List Int}{i:Nat}(h:a.length≤i):lm a i=0:=by
 unfold lm nth; simp[List.getD_eq_getElem?_getD,List.getElem?_eq_none h]
theorem qf(a:List Int)(i:Nat):nv (a.take (i+1))=nv (a.take i)+4294967296 ^ i*lm a i:=by
 by_cases h:i<a.length
 ·exact Xg h
 ·rw[Dc (by omega),List.take_of_length_le (by omega),List.take_of_length_le (by omega)]; simp
theorem qT{a:List Int}{i:Nat}(h:a.length≤i):nv (a.take i)=nv a:=by rw[List.take_of_length_le h]
theorem Ib(a:List Int)(i:Nat):nv (a.take i)≤nv a:=by
 have:=gI (a.take i) (a.drop i)
 rw[List.take_append_drop]at this; omega
theorem Vc{a:List Int}{i j:Nat}{x:Int}(h:i<a.length):lm (a.set i x) j=if i=j then x.toNat else lm a j:=by
 unfold lm nth
 simp only[Int.toNat_natCast,List.getD_eq_getElem?_getD,List.getElem?_set]
 by_cases e:i=j
 ·subst e; simp[h]
 ·simp[e]
theorem WC{a:List Int}{i:Nat}(x:Int)(h:i<a.length):nv (a.set i x)+4294967296 ^ i*lm a i=nv a+4294967296 ^ i*x.toNat:=by
 have h1:=kM (a.set i x) (i+1) (by simp; omega)
 have h2:=kM a (i+1) (by omega)
 rw[jv,ZX a i x h,gI]at h1
 rw[qf]at h2
 have h3:(a.take i).length=i:=by simp; omega
 rw[h3]at h1
 simp only[eX,HA,Nat.mul_zero,Nat.add_zero]at h1
 omega
theorem ur{a:List Int}{i:Nat}(x:Int)(h:i<a.length):nv ((a.set i x).take (i+1))=nv (a.take i)+4294967296 ^ i*x.toNat:=by
 rw[ZX a i x h,gI]
 have h3:(a.take i).length=i:=by simp; omega
 rw[h3]; simp
theorem QW(i:Nat):0<4294967296 ^ i:=Nat.pow_pos (by omega)
theorem uy{a:List Int}(h:zw a)(i:Nat):nv (a.take i)<4294967296 ^ i:=by
 have:=yq (o7 h i)
 have h2:(4294967296:Nat) ^ (a.take i).length≤4294967296 ^ i:=Nat.pow_le_pow_right (by omega) (by simp; omega)
 omega
def iO(a b:Nat):Int:=if a<b then -1 else if b<a then 1 else 0
theorem E0{r:Int→T (Int⊕(Unit⊕Int))}(x y:List Int)(hx:zw x)(hy:zw y)(hl:x.length=y.length)
  (h:∀ i:Nat,i<x.length→(r (i:Int)).run=some (if nth x i 0<nth y i 0 then .inr (.inr (-1))else if nth y i 0<nth x i 0 then .inr (.inr 1)else .inl ((i:Int)-1)))
  (h0:(r (-1)).run=some (.inr (.inl ()))):(T.loop r ((x.length:Int)-1)).run=some (if nv x<nv y then .inr (-1)else if nv y<nv x then .inr 1 else .inl ()):=by
 have key:∀ n:Nat,n≤x.length→(T.loop r ((n:Int)-1)).run=some (if nv (x.take n)<nv (y.take n)then .inr (-1)else if nv (y.take n)<nv (x.take n)then .inr 1 else .inl ()):=by
  intro n
  induction n with
  | zero=>intro _; simpa using ql h0
  | succ n ih =>
   intro hn
   have e1:((n+1:Nat):Int)-1=(n:Int):=by omega
   rw[e1]
   have hr:=h n (by omega)
   rw[wE hx,wE hy]at hr
   have a1:=uy hx n
   have a2:=uy hy n
   rw[qf,qf]
   rcases Nat.lt_trichotomy (lm x n) (lm y n)with c | c | c
   ·have hm:=Nat.mul_le_mul_left (4294967296 ^ n) (show lm x n+1≤lm y n by omega)
    rw[Nat.mul_add]at hm
    rw[if_pos (by omega)]at hr
    rw[if_pos (by omega)]
    exact ql hr
   ·rw[if_neg (by omega),if_neg (by omega)]at hr
    rw[qK hr,ih (by omega),c]
    simp only[Nat.add_lt_add_iff_right]
   ·have hm:=Nat.mul_le_mul_left (4294967296 ^ n) (show lm y n+1≤lm x n by omega)
    rw[Nat.mul_add]at hm
    rw[if_neg (by omega),if_pos (by omega)]at hr
    rw[if_neg (by omega),if_pos (by omega)]
    exact ql hr
 have:=key x.length (Nat.le_refl _)
 rw[List.take_length]at this
 rw[hl,List.take_length,← hl]at this
 exact this
theorem mW{A B:Nat}(h:(zJ A).length<(zJ B).length):A<B:=by
 have h1:=qe.1 (Nat.le_refl (zJ A).length)
 have h2:=EY.1 h
 omega
end Go.AM.PL
namespace Go.AM.PL
theorem KO(q a b c:Nat):q*(a*c+b)=(q*a)*c+q*b:=by grind
theorem ES(a b:Nat):(a+1)*b=a*b+b:=by grind
theorem z8s(a b c:Nat):(a+b)*c=a*c+b*c:=by grind
theorem DY{u2 u1 u0 v1 v2 q r:Nat}(hr:q*v1+r=u2*4294967296+u1)(h:q*v2≤r*4294967296+u0) :
  q*(v1*4294967296+v2)≤u2*18446744073709551616+u1*4294967296+u0:=by
 rw[KO]
 generalize q*v1=x at *
 generalize q*v2=y at *
 omega
theorem z0I{u2 u1 u0 v1 v2 q r:Nat}(hr:q*v1+r=u2*4294967296+u1)(h:r*4294967296+u0<q*v2) :
  u2*18446744073709551616+u1*4294967296+u0<q*(v1*4294967296+v2):=by
 rw[KO]
 generalize q*v1=x at *
 generalize q*v2=y at *
 grind
theorem RV{U V q:Nat}(hV:0<V)(h:U<q*V):U / V<q:=(Nat.div_lt_iff_lt_mul hV).2 h
theorem F3{u2 u1 u0 v1 v2:Nat}(hv:0<v1)(hu0:u0<4294967296):(u2*18446744073709551616+u1*4294967296+u0) / (v1*4294967296+v2)≤(u2*4294967296+u1) / v1:=by
 rw[Nat.le_div_iff_mul_le hv]
 have h:=Nat.div_mul_le_self (u2*18446744073709551616+u1*4294967296+u0) (v1*4294967296+v2)
 generalize (u2*18446744073709551616+u1*4294967296+u0) / (v1*4294967296+v2)=q at *
 have e:=KO q v1 v2 4294967296
 rw[e]at h; omega
theorem Of{u2 u1 u0 v1 v2:Nat}(hv:2147483648≤v1)(Xf:v2<4294967296)(h:u2*18446744073709551616+u1*4294967296+u0<(v1*4294967296+v2+1)*4294967296) :
  (u2*4294967296+u1)≤v1*4294967296+v2∧(u2*4294967296+u1) / v1≤4294967297:=by
 have h1:u2*4294967296+u1≤v1*4294967296+v2:=by omega
 refine⟨h1,?_⟩
 rw[Nat.div_le_iff_le_mul (by omega)]
 omega
theorem Mf{U V D U3 V2 X Y q:Nat}(hU:U=U3*D+X)(hX:X<D)(hV:V=V2*D+Y)(hY:Y<D)(hVt:2147483648*4294967296≤V2)(hUV:U<V*4294967296)(hq:q=min (U3 / V2) 4294967295) :
  U / V≤q∧q≤U / V+1:=by
 have hD:0<D:=by omega
 have hV2:0<V2:=by omega
 have hVp:0<V:=by rw[hV]; have:=Nat.mul_pos hV2 hD; omega
 constructor
 ·rw[hq,Nat.le_min]
  constructor
  ·rw[Nat.le_div_iff_mul_le hV2]
   have h:=Nat.div_mul_le_self U V
   generalize U / V=z at *
   rw[hV,hU]at h
   have e:=KO z V2 Y D
   rw[e]at h
   have h2:(z*V2)*D<(U3+1)*D:=by 
    rw[ES]
    generalize z*V2*D=m at *
    generalize z*Y=m2 at *
    omega
   exact Nat.lt_succ_iff.1 (Nat.lt_of_mul_lt_mul_right h2)
  ·have:U / V<4294967296:=(Nat.div_lt_iff_lt_mul hVp).2 (by rw[Nat.mul_comm]; exact hUV)
   omega
 ·have h3:q≤U3 / V2:=by omega
  have h4:q≤4294967295:=by omega
  have h5:q*V2≤U3:=(Nat.le_div_iff_mul_le hV2).1 h3
  cases q with
  | zero=>exact Nat.zero_le _
  | succ q =>
   have:q≤U / V:=by
    rw[Nat.le_div_iff_mul_le hVp,hV,hU]
    have e:=KO q V2 Y D
    have e2:=ES q V2
    have h6:(q*V2+V2)*D≤U3*D:=Nat.mul_le_mul_right D (by omega)
    have e3:=z8s (q*V2) V2 D
    have h7:q*Y≤4294967295*D:=Nat.mul_le_mul (by omega) (by omega)
    have h8:4294967295*D≤V2*D:=Nat.mul_le_mul_right D (by omega)
    rw[e]; omega
   omega
end Go.AM.PL
namespace Go.AM.PL
theorem HT(n:Nat)(h:n<18446744073709551616):IntKind.wrap .u64 (n:Int)=n:=qA (by omega) (by omega)
theorem oV(n:Nat)(h:n<4294967296):IntKind.wrap .u32 (n:Int)=n:=Wr (by omega) (by omega)
theorem gQ{n:Nat}(h:n<18446744073709551616):zx (n:Int)=n:=qA (by omega) (by omega)
theorem ZF{n:Nat}(h:n<4294967296):qG (n:Int)=n:=Wr (by omega) (by omega)
theorem we{a:List Int}(h:zw a)(i:Nat){n:Nat}(h1:n<4294967296):zw (a.set i (n:Int)):=cD h i (by omega) (by omega)
theorem Y3{x y:Nat}(hx:x<4294967296)(hy:y<4294967296):FP .u32 (x:Int) (y:Int)=((x &&& y:Nat):Int):=by
 show IntKind.wrap .u32 (((BitVec.ofInt 32 (x:Int) &&& BitVec.ofInt 32 (y:Int)).toNat:Nat):Int)=_
 have e:(BitVec.ofInt 32 (x:Int) &&& BitVec.ofInt 32 (y:Int)).toNat=x &&& y:=by
  simp[BitVec.ofInt_natCast,Nat.mod_eq_of_lt hx,Nat.mod_eq_of_lt hy]
 rw[e]
 exact oV _ (Nat.lt_of_le_of_lt Nat.and_le_left hx)
theorem W4{x y:Nat}(hx:x<4294967296)(hy:y<4294967296):gT .u32 (x:Int) (y:Int)=((x ||| y:Nat):Int):=by
 show IntKind.wrap .u32 (((BitVec.ofInt 32 (x:Int) ||| BitVec.ofInt 32 (y:Int)).toNat:Nat):Int)=_
 have e:(BitVec.ofInt 32 (x:Int) ||| BitVec.ofInt 32 (y:Int)).toNat=x ||| y:=by
  simp[BitVec.ofInt_natCast,Nat.mod_eq_of_lt hx,Nat.mod_eq_of_lt hy]
 rw[e]
 exact oV _ (Nat.or_lt_two_pow (n:=32) hx hy)
theorem Y2{x y:Nat}(hx:x<4294967296)(hy:y<4294967296):Ep .u32 (x:Int) (y:Int)=((x ^^^ y:Nat):Int):=by
 show IntKind.wrap .u32 (((BitVec.ofInt 32 (x:Int) ^^^ BitVec.ofInt 32 (y:Int)).toNat:Nat):Int)=_
 have e:(BitVec.ofInt 32 (x:Int) ^^^ BitVec.ofInt 32 (y:Int)).toNat=x ^^^ y:=by
  simp[BitVec.ofInt_natCast,Nat.mod_eq_of_lt hx,Nat.mod_eq_of_lt hy]
 rw[e]
 exact oV _ (Nat.xor_lt_two_pow (n:=32) hx hy)
theorem N4{x y:Nat}(hx:x<18446744073709551616)(hy:y<18446744073709551616):gT .u64 (x:Int) (y:Int)=((x ||| y:Nat):Int):=by
 show IntKind.wrap .u64 (((BitVec.ofInt 64 (x:Int) ||| BitVec.ofInt 64 (y:Int)).toNat:Nat):Int)=_
 have e:(BitVec.ofInt 64 (x:Int) ||| BitVec.ofInt 64 (y:Int)).toNat=x ||| y:=by
  simp[BitVec.ofInt_natCast,Nat.mod_eq_of_lt hx,Nat.mod_eq_of_lt hy]
 rw[e]
 exact HT _ (Nat.or_lt_two_pow (n:=64) hx hy)
theorem Kj(x y m:Nat)(hy:y<2 ^ m):x*2 ^ m ||| y=x*2 ^ m+y:=by
 have:=Nat.shiftLeft_add_eq_or_of_lt hy x
 rw[Nat.shiftLeft_eq]at this
 exact this.symm
theorem z9e{x:Int}(h0:0≤x)(h1:x<4294967296):xZ .u64 x 32=x*4294967296:=by
 have e:xZ .u64 x 32=zx (x*4294967296):=rfl
 rw[e,qA (by omega) (by omega)]
theorem zf6{x y:Int}(h0:0≤x)(h1:x<4294967296)(h2:0≤y)(h3:y<4294967296):gT .u64 (xZ .u64 x 32) (zx y)=x*4294967296+y:=by
 rw[z9e h0 h1,qA h2 (by omega)]
 obtain⟨a,rfl⟩:=Int.eq_ofNat_of_zero_le h0
 obtain⟨b,rfl⟩:=Int.eq_ofNat_of_zero_le h2
 have e:=N4 (x:=a*4294967296) (y:=b) (by omega) (by omega)
 rw[Kj a b 32 (by simpa using by omega)]at e
 simpa using e
theorem D9{x y:Int}(h0:0≤x)(h1:x<4294967296)(h2:0≤y)(h3:y<4294967296):gT .u64 (xZ .u64 x 32) y=x*4294967296+y:=by
 have:=zf6 h0 h1 h2 h3
 rwa [qA h2 (by omega)]at this
theorem Se{x:Int}(h0:0≤x):xc .u64 x 32=x / 4294967296:=by
 show Int.fdiv x 4294967296=_
 rw[Int.fdiv_eq_ediv_of_nonneg _ (by omega)]
theorem dA{x y:Int}(h:0≤x):Int.tdiv x y=x / y:=Int.tdiv_eq_ediv_of_nonneg h
theorem dG{x y:Int}(h:0≤x):Int.tmod x y=x % y:=Int.tmod_eq_emod_of_nonneg h
theorem zao{v:Nat}(h:v<4294967296):v / 2147483648=if v.testBit 31=true then 1 else 0:=by
 have e:v.testBit 31=decide (v / 2 ^ 31 % 2=1):=by rw[Nat.testBit_eq_decide_div_mod_eq]
 rw[e]
 by_cases h2:v<2147483648
 ·have:v / 2147483648=0:=by omega
  simp[this]
 ·have:v / 2147483648=1:=by omega
  simp[this]
theorem EK{v:Nat}(h:v<4294967296):v.testBit 31=decide (2147483648≤v):=by
 rw[Nat.testBit_eq_decide_div_mod_eq]
 by_cases h2:v<2147483648
 ·have:v / 2 ^ 31=0:=by omega
  simp[this]; omega
 ·have:v / 2 ^ 31=1:=by omega
  simp[this]; omega
theorem zbB{x y b:Nat}(hx:x<4294967296)(hy:y<4294967296)(hb:b≤1) :
  qG (qG ((x:Int)-y)-b)=(((x+4294967296*(if x<y+b then 1 else 0))-y-b:Nat):Int):=by
 rw[iH,iH]
 split<;>omega
theorem RF{x y b d:Nat}(hx:x<4294967296)(hy:y<4294967296)(hb:b≤1)(hd:d=(x+4294967296*(if x<y+b then 1 else 0))-y-b) :
  xc .u32 (gT .u32 (FP .u32 (Ep .u32 (4294967295:Int) x) y) (FP .u32 (Ep .u32 (4294967295:Int) (Ep .u32 x y)) (d:Int))) 31=if x<y+b then 1 else 0:=by
 have Nq:d<4294967296:=by rw[hd]; split<;>omega
 have e1:=Y2 (x:=4294967295) (y:=x) (by omega) hx
 have h1:4294967295 ^^^ x<4294967296:=Nat.xor_lt_two_pow (n:=32) (by omega) hx
 have e2:=Y3 h1 hy
 have h2:(4294967295 ^^^ x) &&& y<4294967296:=Nat.lt_of_le_of_lt Nat.and_le_left h1
 have e3:=Y2 hx hy
 have h3:x ^^^ y<4294967296:=Nat.xor_lt_two_pow (n:=32) hx hy
 have e4:=Y2 (x:=4294967295) (y:=x ^^^ y) (by omega) h3
 have h4:4294967295 ^^^ (x ^^^ y)<4294967296:=Nat.xor_lt_two_pow (n:=32) (by omega) h3
 have e5:=Y3 h4 Nq
 have h5:(4294967295 ^^^ (x ^^^ y)) &&& d<4294967296:=Nat.lt_of_le_of_lt Nat.and_le_left h4
 have e6:=W4 h2 h5
 have h6:=Nat.or_lt_two_pow (n:=32) h2 h5
 have ec:(4294967295:Int)=((4294967295:Nat):Int):=rfl
 rw[ec,e1,e2,e3,e4,e5,e6]
 show Int.fdiv _ 2147483648=_
 rw[Int.fdiv_eq_ediv_of_nonneg _ (by omega)]
 have e7:=zao h6
 have e8:(((((4294967295 ^^^ x) &&& y) ||| ((4294967295 ^^^ (x ^^^ y)) &&& d):Nat):Int)) / 2147483648=(((((4294967295 ^^^ x) &&& y) ||| ((4294967295 ^^^ (x ^^^ y)) &&& d)) / 2147483648:Nat):Int):=by omega
 rw[e8,e7]
 have t1:(4294967295:Nat).testBit 31=true:=by decide
 simp only[Nat.testBit_or,Nat.testBit_and,Nat.testBit_xor,t1,EK hx,EK hy,EK Nq]
 by_cases c:x<y+b
 ·rw[if_pos c]at hd ⊢
  by_cases p:2147483648≤x<;>by_cases q:2147483648≤y<;>by_cases r:2147483648≤d<;>simp[p,q,r]<;>omega
 ·rw[if_neg c]at hd ⊢
  by_cases p:2147483648≤x<;>by_cases q:2147483648≤y<;>by_cases r:2147483648≤d<;>simp[p,q,r]<;>omega
end Go.AM.PL
namespace Go.AM.Lf
open PL
@[simp] theorem xL:zb (.int .u32)=(0:Int):=rfl
theorem SO(l:List Int)(x:Int):nth (l++[x]) ((l++[x]).length-1:Int) 0=x:=by
 rw[Hi _ (by simp)]; simp[nth]
theorem wa(a:List Int)(h:zw a)(hl:a.length≤4000000000):(xN a).run=some (zJ (nv a)):=by
 have key:(tv a).run=some (zJ (nv a)):=by
  unfold tv
  refine uo (fun a=>zw a∧a.length≤4000000000) (fun a=>a.length) (fun a=>zJ (nv a)) ?_ ⟨h,hl⟩
  rintro s ⟨h1,h2⟩
  rcases List.eq_nil_or_concat s with rfl | ⟨l,x,rfl⟩
  ·right; simp[mh,lg,qz]
  ·rw[List.concat_eq_append]at *
   have hx:=SO l x
   have hlen:(l++[x]).length=l.length+1:=by simp
   have hw:zu (((l++[x]).length:Int)-1)=((l++[x]).length:Int)-1:=zQ (by omega) (by omega)
   have hIs:(lg (l++[x])).run=some (x != 0):=by
    unfold lg
    rw[zc]
    ·simp only[hw,xL,hx,z7]
     congr 1
     have:(((l++[x]).length:Int)==0)=false:=by simp; omega
     rw[this]; rfl
    ·intro _; rw[hw]; exact⟨by omega,by omega⟩
   unfold mh
   rw[z6 hIs]
   by_cases J5:x=0
   ·left
    subst J5
    refine⟨l,?_,⟨(oM.1 h1).1,by omega⟩,by omega,by rw[KA]⟩
    have hc:uz (e:=.int .u32) 0 (((l++[(0:Int)]).length:Int)-1) (l++[0])=l:=by
     unfold uz; simp
    rw[hw,hc]
    simp only[bne_self_eq_false,Bool.not_false,zD]
    rw[oh _ (by omega) (by omega) (by omega),z7]
   ·right
    have hb:(x != 0)=true:=by simpa using J5
    rw[hb]
    simp only[Bool.not_true,zr,z7]
    rw[Qd h1]
    intro y hy
    simp at hy; omega
 unfold xN
 rw[z6 key,z7]
theorem OV(a:List Int)(hl:a.length≤4000000000):(vq a).run=some a:=by
 unfold vq
 rw[zc]
 ·cases a with
  | nil=>simp
  | cons x a=>simp only[List.length_cons]at hl; simp(disch:=omega)
 ·rintro rfl r hr
  first
  | simpa[T.leads]using hr
  | (obtain⟨_,_,hr⟩:=hr; simpa[T.leads]using hr)
theorem mO(a:List Int)(h:zw a)(hl:a.length≤4000000000):(b8 a).run=some (zJ (nv a)):=by
 unfold b8
 rw[z6 (wa a h hl),z6 (OV _ (Nat.le_trans (zW h) hl)),z7]
theorem w7(a:List Int)(h:zw a)(hl:a.length≤4000000000):(xv a).run=some (zJ (nv a)):=by
 have key:∀ n:Nat,n≤a.length→nv (a.take n)=nv a→(Wg a (n:Int)).run=some ((zJ (nv a)).length:Int)∧(zJ (nv a))=a.take (zJ (nv a)).length:=by
  intro n
  induction n with
  | zero =>
   intro _ hn
   have h0:nv a=0:=by rw[← hn]; rfl
   rw[h0,qz]
   refine⟨ql ?_,rfl⟩
   simp[c9]
  | succ n ih =>
   intro hle hn
   have e1:zu (((n+1:Nat):Int)-1)=(n:Int):=by rw[zQ (by omega) (by omega)]; omega
   by_cases hx:nth a (n:Int) 0=0
   ·have h2:nv (a.take n)=nv a:=by rw[← hn,Xg (by omega),hx]; simp
    obtain⟨g1,g2⟩:=ih (by omega) h2
    refine⟨?_,g2⟩
    rw[← g1]
    refine qK ?_
    unfold c9
    simp only[e1,xL,hx]
    rw[zc (fun _=>⟨by omega,by omega⟩)]
    simp
   ·have ht:Vx (a.take (n+1)):=by
     rw[mz _ _ (by omega)]
     intro y hy; simp at hy; rw[← hy]; exact hx
    have he:=Qd (o7 h (n+1)) ht
    rw[hn]at he
    have hlen:(zJ (nv a)).length=n+1:=by rw[he]; simp; omega
    rw[hlen]
    refine⟨ql ?_,he⟩
    unfold c9
    simp only[e1,xL]
    rw[zc (fun _=>⟨by omega,by omega⟩)]
    simp[hx]
 obtain⟨g1,g2⟩:=key a.length (Nat.le_refl _) (by simp)
 have hle:=zW h
 unfold xv
 rw[z6 g1]
 have hc:uz (e:=.int .u32) 0 ((zJ (nv a)).length:Int) a=zJ (nv a):=by
  unfold uz; simp only[Int.toNat_natCast,Int.toNat_zero,List.drop_zero]; exact g2.symm
 simp only[hc]
 rw[oh _ (by omega) (by omega) (by omega)]
 cases hz:zJ (nv a)with
 | nil=>simp
 | cons x l =>
  rw[hz]at hle
  simp only[List.length_cons]at hle
  simp(disch:=omega)
theorem kL(n:Nat)(h:n<18446744073709551616):(jV (n:Int)).run=some (zJ n):=by
 have e2:qG (xc .u64 (n:Int) 32)=((n / 4294967296:Nat):Int):=by rw[Se (by omega),iH]; omega
 have e1:qG (n:Int)=((n % 4294967296:Nat):Int):=by rw[iH]; omega
 have h1:zw [((n % 4294967296:Nat):Int),((n / 4294967296:Nat):Int)]:=by
  intro x hx; simp only[List.mem_cons,List.not_mem_nil,or_false]at hx; rcases hx with rfl | rfl<;>omega
 have h2:=wa _ h1 (by simp)
 have h3:nv [((n % 4294967296:Nat):Int),((n / 4294967296:Nat):Int)]=n:=by simp only[eX,HA]; omega
 unfold jV
 rw[jb _ (by omega),e1,e2,z6 h2,h3,z7]
theorem mj(n:Nat)(h:n<18446744073709551616):(p8 (n:Int)).run=some (zJ n):=by
 have e2:qG (xc .u64 (n:Int) 32)=((n / 4294967296:Nat):Int):=by rw[Se (by omega),iH]; omega
 have e1:qG (n:Int)=((n % 4294967296:Nat):Int):=by rw[iH]; omega
 have h1:zw [((n % 4294967296:Nat):Int),((n / 4294967296:Nat):Int)]:=by
  intro x hx; simp only[List.mem_cons,List.not_mem_nil,or_false]at hx; rcases hx with rfl | rfl<;>omega
 have h2:=w7 _ h1 (by simp)
 have h3:nv [((n % 4294967296:Nat):Int),((n / 4294967296:Nat):Int)]=n:=by simp only[eX,HA]; omega
 unfold p8
 rw[jb _ (by omega),e1,e2,z6 h2,h3,z7]
theorem lM(a b:List Int)(ha:zw a)(hb:zw b)(la:a.length≤1000000000)(lb:b.length≤1000000000):(lX a b).run=some (iO (nv a) (nv b)):=by
 unfold lX
 rw[z6 (wa a ha (by omega)),z6 (wa b hb (by omega))]
 have qa:=zW ha
 have qb:=zW hb
 generalize nv a=A at *
 generalize nv b=B at *
 by_cases hl:(zJ A).length=(zJ B).length
 ·rw[hl,bne_self_eq_false,zr]
  have key:=E0 (r:=fO (zJ A) (zJ B)) (zJ A) (zJ B) (zq A) (zq B) hl (fun i hi => ?_) ?_
  ·rw[← hl,zQ (by omega) (by omega)]
   unfold Ks
   rw[z6 key,zS,zS]
   unfold iO
   by_cases p:A<B
   ·simp[p]
   ·by_cases q:B<A<;>simp[p,q]
  ·have e:zu ((i:Int)-1)=(i:Int)-1:=zQ (by omega) (by omega)
   unfold fO
   have Yp:i<(zJ B).length:=by omega
   have x1:=wE (zq A) i
   have x2:=wE (zq B) i
   rcases Nat.lt_trichotomy (lm (zJ A) i) (lm (zJ B) i)with c | c | c
   ·have c2:¬ (lm (zJ A) i=lm (zJ B) i):=by omega
    simp(disch:=omega) [e,x1,x2,c,c2,hi,Yp]<;>omega
   ·simp(disch:=omega) [e,x1,x2,c,hi,Yp]
   ·have c2:¬ (lm (zJ A) i=lm (zJ B) i):=by omega
    have c3:¬ (lm (zJ A) i<lm (zJ B) i):=by omega
    simp(disch:=omega) [e,x1,x2,c,c2,c3,hi,Yp]<;>omega
  ·simp[fO]
 ·rw[za (by simp; omega)]
  unfold iO
  by_cases c:(zJ A).length<(zJ B).length
  ·have:=mW c
   simp[c,this]
  ·have h2:=mW (show(zJ B).length<(zJ A).length by omega)
   have h3:¬ A<B:=by omega
   simp[c,h2,h3]
theorem nT(a b:List Int)(ha:zw a)(hb:zw b)(la:a.length≤1000000000)(lb:b.length≤1000000000):(il a b).run=some (iO (nv a) (nv b)):=by
 unfold il
 rw[z6 (w7 a ha (by omega)),z6 (w7 b hb (by omega))]
 have qa:=zW ha
 have qb:=zW hb
 generalize nv a=A at *
 generalize nv b=B at *
 by_cases hl:(zJ A).length=(zJ B).length
 ·rw[hl,bne_self_eq_false,zr]
  have key:=E0 (r:=dc (zJ A) (zJ B)) (zJ A) (zJ B) (zq A) (zq B) hl (fun i hi => ?_) ?_
  ·rw[← hl,zQ (by omega) (by omega)]
   unfold VJ
   rw[z6 key,zS,zS]
   unfold iO
   by_cases p:A<B
   ·simp[p]
   ·by_cases q:B<A<;>simp[p,q]
  ·have e:zu ((i:Int)-1)=(i:Int)-1:=zQ (by omega) (by omega)
   unfold dc
   have Yp:i<(zJ B).length:=by omega
   have x1:=wE (zq A) i
   have x2:=wE (zq B) i
   rcases Nat.lt_trichotomy (lm (zJ A) i) (lm (zJ B) i)with c | c | c
   ·have c2:¬ (lm (zJ A) i=lm (zJ B) i):=by omega
    simp(disch:=omega) [e,x1,x2,c,c2,hi,Yp]<;>omega
   ·simp(disch:=omega) [e,x1,x2,c,hi,Yp]
   ·have c2:¬ (lm (zJ A) i=lm (zJ B) i):=by omega
    have c3:¬ (lm (zJ A) i<lm (zJ B) i):=by omega
    simp(disch:=omega) [e,x1,x2,c,c2,c3,hi,Yp]<;>omega
  ·simp[dc]
 ·rw[za (by simp; omega)]
  unfold iO
  by_cases c:(zJ A).length<(zJ B).length
  ·have:=mW c
   simp[c,this]
  ·have h2:=mW (show(zJ B).length<(zJ A).length by omega)
   have h3:¬ A<B:=by omega
   simp[c,h2,h3]
theorem gM(a:List Int)(ha:zw a)(i:Nat):(gY a (i:Int)).run=some (lm a i:Int):=by
 unfold gY
 have:=wu ha i
 by_cases h:i<a.length
 ·rw[za (by simpa using h),qJ _ (by omega) (by omega),z7,xL,wE ha,qA (by omega) (by omega)]
 ·rw[z8 (by simpa using h),z7,Dc (by omega)]; rfl
theorem z1K(x l P v:Nat):(x*4294967296+l)*P+v=x*(P*4294967296)+(v+P*l):=by grind
theorem Vz(a:List Int)(ha:zw a)(la:a.length≤1000000000):(Xr a).run=some (if nv a<18446744073709551616 then((nv a:Int),true)else(0,false)):=by
 unfold Xr
 rw[z6 (w7 a ha (by omega))]
 generalize nv a=A
 have h2 := @qe A 2
 have hp:(4294967296:Nat) ^ 2=18446744073709551616:=by decide
 rw[hp]at h2
 by_cases c:A<18446744073709551616
 ·have hl:=h2.2 c
  rw[if_pos c,z8 (by simp; omega)]
  have h3:=yb (n:=A)
  have key:∀ n:Nat,n≤(zJ A).length→∀ x:Nat,x<4294967296 ^ (2-n)→(KM (zJ A) ((x:Int),(n:Int)-1)).run=some ((x*4294967296 ^ n+nv ((zJ A).take n):Nat):Int):=by
   intro n
   induction n with
   | zero =>
    intro _ x hx
    refine ql ?_
    simp[l8]
   | succ n ih =>
    intro hn x hx
    have hx1:x<4294967296:=by
     have:(4294967296:Nat) ^ (2-(n+1))≤4294967296 ^ 1:=Nat.pow_le_pow_right (by omega) (by omega)
     omega
    have e1:((n+1:Nat):Int)-1=(n:Int):=by omega
    have e2:zu ((n:Int)-1)=(n:Int)-1:=zQ (by omega) (by omega)
    have iI:=wu (zq A) n
    have e3:=D9 (x:=(x:Int)) (y:=(lm (zJ A) n:Int)) (by omega) (by omega) (by omega) (by omega)
    have hs:(l8 (zJ A) ((x:Int),(n:Int))).run=some (.inl (((x*4294967296+lm (zJ A) n:Nat):Int),(n:Int)-1)):=by
     unfold l8
     simp(disch:=omega) [wE (zq A),e2,e3]
    rw[e1]
    refine(qK hs).trans ?_
    have Yo:n+1≤2:=by omega
    have qu:x*4294967296+lm (zJ A) n<4294967296 ^ (2-n):=by
     have e4:(4294967296:Nat) ^ (2-n)=4294967296 ^ (2-(n+1))*4294967296:=by
      rw[← Nat.pow_succ]; congr 1; omega
     rw[e4]
     have:=Nat.mul_le_mul_right 4294967296 (show x+1≤4294967296 ^ (2-(n+1))from hx)
     omega
    refine(ih (by omega) _ qu).trans ?_
    rw[qf,Nat.pow_succ]
    have e5:=z1K x (lm (zJ A) n) (4294967296 ^ n) (nv ((zJ A).take n))
    rw[e5]
  have:=key (zJ A).length (Nat.le_refl _) 0 (Nat.pow_pos (by omega))
  rw[List.take_length,zS]at this
  rw[zQ (by omega) (by omega)]
  simp only[Nat.zero_mul,Nat.zero_add,Int.natCast_zero]at this
  rw[z6 (by simpa using this),z7]
 ·rw[if_neg c,za (by simp; omega),z7]
theorem Gy{c x y:Nat}(hc:c≤1)(hx:x<4294967296)(hy:y<4294967296):zx (zx ((c:Int)+x)+y)=((c+x+y:Nat):Int):=by
 rw[qA (x:=(c:Int)+x) (by omega) (by omega),qA (by omega) (by omega)]; omega
theorem KE(n:Nat):qG (n:Int)=((n % 4294967296:Nat):Int):=by rw[iH]; omega
theorem WG(n:Nat):xc .u64 (n:Int) 32=((n / 4294967296:Nat):Int):=by rw[Se (by omega)]; omega
theorem KI{P X c a b p q:Nat}(h:X+c*P=a+b):X+P*((c+p+q) % 4294967296)+(c+p+q) / 4294967296*(P*4294967296)=(a+P*p)+(b+P*q):=by
 have e:(c+p+q)=(c+p+q) % 4294967296+4294967296*((c+p+q) / 4294967296):=by omega
 generalize (c+p+q) % 4294967296=lo at *
 generalize (c+p+q) / 4294967296=hi at *
 have e2:P*(c+p+q)=P*(lo+4294967296*hi):=by rw[e]
 simp only[Nat.mul_add]at e2
 rw[Nat.mul_comm c P]at h
 have e3:hi*(P*4294967296)=P*(4294967296*hi):=by rw[Nat.mul_comm hi,Nat.mul_assoc]
 omega
theorem C5(a b:List Int)(ha:zw a)(hb:zw b)(la:a.length≤1000000000)(lb:b.length≤1000000000):(Xn a b).run=some (zJ (nv a+nv b)):=by
 have qa:=zW ha
 have qb:=zW hb
 unfold Xn
 rw[z6 (wa a ha (by omega)),z6 (wa b hb (by omega))]
 generalize nv a=A at *
 generalize nv b=B at *
 obtain⟨x,y,hxy,lx,ly,le,hsw,zf9⟩:∃ x y:List Int,(nv x+nv y=A+B)∧zw x∧zw y∧(y.length≤x.length∧x.length≤1000000000) ∧
   (bif decide (((zJ A).length:Int)<((zJ B).length:Int))then zJ B else zJ A)=x∧(bif decide (((zJ A).length:Int)<((zJ B).length:Int))then zJ A else zJ B)=y:=by
  by_cases c:(zJ A).length<(zJ B).length
  ·exact⟨zJ B,zJ A,by simp; omega,zq _,zq _,⟨by omega,by omega⟩,by simp[c],by simp[c]⟩
  ·exact⟨zJ A,zJ B,by simp,zq _,zq _,⟨by omega,by omega⟩,by simp[c],by simp[c]⟩
 rw[hsw,zf9]
 obtain⟨le1,le2⟩:=le
 have ew:zu ((x.length:Int)+1)=((x.length+1:Nat):Int):=by rw[zQ (by omega) (by omega)]; omega
 rw[ew]
 simp only[Int.toNat_natCast,List.length_replicate]
 have loop:∃ r:Int×List Int,(Y0 x y x (x.length:Int) (0,0,List.replicate (x.length+1) 0)).run=some r∧∃ c:Nat,r.1=(c:Int)∧c≤1∧zw r.2∧r.2.length=x.length+1∧nv (r.2.take x.length)+c*4294967296 ^ x.length=nv x+nv y:=by
  refine T.xm (fun s:Int×Int×List Int=>∃ (c i:Nat),s.1=(c:Int)∧s.2.1=(i:Int)∧c≤1∧i≤x.length∧zw s.2.2∧s.2.2.length=x.length+1∧nv (s.2.2.take i)+c*4294967296 ^ i=nv (x.take i)+nv (y.take i))
   (fun s=>x.length-s.2.1.toNat) _ ?_ ⟨0,0,rfl,rfl,by omega,by omega,xy _,by simp,by simp⟩
  rintro⟨_,_,xs⟩ ⟨c,i,rfl,rfl,hc,hi,hl,hn,hv⟩
  simp only at hl hn hv ⊢
  by_cases qu:i<x.length
  ·left
   have hx:=wu lx i
   have hy:=wu ly i
   have z5L:(bif decide ((i:Int)<(y.length:Int))then zx (zx ((c:Int)+zx (lm x i:Int))+zx (nth y (i:Int) 0))else zx ((c:Int)+zx (lm x i:Int)))=((c+lm x i+lm y i:Nat):Int):=by
    rw[wE ly,qA (x:=(lm x i:Int)) (by omega) (by omega),qA (x:=(lm y i:Int)) (by omega) (by omega)]
    by_cases q:i<y.length
    ·rw[show decide ((i:Int)<(y.length:Int))=true by simpa using q,cond_true,Gy hc hx hy]
    ·rw[show decide ((i:Int)<(y.length:Int))=false by simpa using q,cond_false,Dc (a:=y) (by omega),qA (by omega) (by omega)]; omega
   have ei:zu ((i:Int)+1)=((i+1:Nat):Int):=by rw[zQ (by omega) (by omega)]; omega
   refine⟨((((c+lm x i+lm y i) / 4294967296:Nat):Int),((i+1:Nat):Int),xs.set i (((c+lm x i+lm y i) % 4294967296:Nat):Int)),?_,⟨_,i+1,rfl,rfl,by omega,by omega,cD hl _ (by omega) (by omega),by simpa using hn,?_⟩,by simp; omega⟩
   ·unfold oX
    simp only[xL,wE lx,z5L,KE,WG,ei]
    simp(disch:=omega) [qu,hn]
    rw[zc (fun hq=>⟨by omega,by omega⟩)]
    simp(disch:=omega) [qu,hn]
   ·simp only
    rw[ur _ (by omega),qf,qf,Nat.pow_succ,Int.toNat_natCast]
    exact KI hv
  ·right
   have QJ:i=x.length:=by omega
   subst QJ
   refine⟨((c:Int),xs),?_,c,rfl,hc,hl,hn,?_⟩
   ·unfold oX
    simp
   ·simpa[List.take_length,qT le1]using hv
 obtain⟨⟨_,xs⟩,hr,c,rfl,hc,hl,hn,hv⟩:=loop
 simp only at hl hn hv
 rw[T.run_mk _ (by omega) (by omega) (by omega) (by omega),ze _ rfl rfl rfl,zP,z6 hr]
 simp only[Int.toNat_natCast,Nat.zero_add,List.drop_zero,KE]
 rw[qJ _ (by omega) (by omega),jM _ rfl (by omega),zP]
 have e1:(xs.set x.length ((c % 4294967296:Nat):Int)).take xs.length=xs.set x.length ((c % 4294967296:Nat):Int):=List.take_of_length_le (by simp)
 rw[e1]
 have h3:=wa (xs.set x.length ((c % 4294967296:Nat):Int)) (cD hl _ (by omega) (by omega)) (by simp; omega)
 rw[z6 h3,z7]
 have e2:=ur (a:=xs) (i:=x.length) ((c % 4294967296:Nat):Int) (by omega)
 rw[qT (by simp; omega)]at e2
 rw[e2,Int.toNat_natCast,Nat.mod_eq_of_lt (by omega),Nat.mul_comm,hv,hxy]
theorem i1(i:Nat)(h:i≤4000000000):zu ((i:Int)+1)=((i+1:Nat):Int):=by rw[zQ (by omega) (by omega)]; omega
theorem im1(i:Nat)(h:i≤4000000000):zu (((i+1:Nat):Int)-1)=(i:Int):=by rw[zQ (by omega) (by omega)]; omega
theorem Qx{xs:List Int}(h:zw xs){x:Int}(h0:0≤x)(h1:x<4294967296):zw (xs++[x]):=oM.2 ⟨h,fun y hy=>by simp at hy; subst hy; exact⟨h0,h1⟩⟩
theorem HW(xs:List Int)(x:Int):nv (xs++[x])=nv xs+4294967296 ^ xs.length*x.toNat:=by rw[gI]; simp
theorem X0(a b:List Int)(ha:zw a)(hb:zw b)(la:a.length≤1000000000)(lb:b.length≤1000000000):(nc a b).run=some (zJ (nv a+nv b)):=by
 have hm:∃ m:Nat,m=max a.length b.length:=⟨_,rfl⟩
 obtain⟨m,hm⟩:=hm
 have em:zu (wc (a.length:Int) (b.length:Int)+1)=((m+1:Nat):Int):=by
  have:wc (a.length:Int) (b.length:Int)=(m:Int):=by unfold wc; split<;>omega
  rw[this,i1 m (by omega)]
 have tot:nv a+nv b<4294967296 ^ (m+1):=by
  have h1:=yq ha
  have h2:=yq hb
  have h3:(4294967296:Nat) ^ a.length≤4294967296 ^ m:=Nat.pow_le_pow_right (by omega) (by omega)
  have h4:(4294967296:Nat) ^ b.length≤4294967296 ^ m:=Nat.pow_le_pow_right (by omega) (by omega)
  rw[Nat.pow_succ]; omega
 have loop:∃ r:List Int,(VR a b (0,0,[])).run=some r∧zw r∧r.length=m+1∧nv r=nv a+nv b:=by
  refine T.xm (fun s:Int×Int×List Int=>∃ (c i:Nat),s.1=(c:Int)∧s.2.1=(i:Int)∧c≤1∧i≤m+1∧zw s.2.2∧s.2.2.length=i∧nv s.2.2+c*4294967296 ^ i=nv (a.take i)+nv (b.take i))
   (fun s=>m+1-s.2.1.toNat) _ ?_ ⟨0,0,rfl,rfl,by omega,by omega,yj,rfl,by simp⟩
  rintro⟨_,_,xs⟩ ⟨c,i,rfl,rfl,hc,hi,hl,hn,hv⟩
  simp only at hl hn hv ⊢
  by_cases qu:i<m+1
  ·left
   have hx:=wu ha i
   have hy:=wu hb i
   refine⟨((((c+lm a i+lm b i) / 4294967296:Nat):Int),((i+1:Nat):Int),xs++[(((c+lm a i+lm b i) % 4294967296:Nat):Int)]),?_,⟨_,i+1,rfl,rfl,by omega,by omega,Qx hl (by omega) (by omega),by simp; omega,?_⟩,by simp; omega⟩
   ·unfold ma
    simp only[em,yw]
    rw[if_pos (by simp; omega),z6 (gM a ha i),z6 (gM b hb i)]
    simp only[Gy hc hx hy,KE,WG,i1 i (by omega)]
    simp(disch:=omega) [hn]
   ·simp only
    rw[HW,hn,qf,qf,Nat.pow_succ,Int.toNat_natCast]
    exact KI hv
  ·right
   have QJ:i=m+1:=by omega
   subst QJ
   refine⟨xs,?_,hl,hn,?_⟩
   ·unfold ma
    simp[em]
   ·rw[qT (by omega),qT (by omega)]at hv
    have:c=0:=by
     rcases Nat.eq_zero_or_pos c with h | h
     ·exact h
     ·have:c=1:=by omega
      subst this; omega
    subst this; omega
 obtain⟨xs,hr,hl,hn,hv⟩:=loop
 unfold nc
 simp(disch:=omega) only[ze,zP,z6 hr]
 simp only[List.drop_zero,Nat.zero_add,List.take_length]
 rw[z6 (w7 xs hl (by omega)),hv,z7]
theorem VU{P X Y c x y:Nat}{Z:Nat}(h:X+Y=Z+c*P)(hc:c≤1)(hx:x<4294967296)(hy:y<4294967296) :
  X+P*((x+4294967296*(if x<y+c then 1 else 0))-(y+c))+(Y+P*y)=Z+P*x+(if x<y+c then 1 else 0)*(P*4294967296):=by
 have key:∀ k:Nat,y+c≤x+4294967296*k→X+P*(x+4294967296*k-(y+c))+(Y+P*y)=Z+P*x+k*(P*4294967296):=by
  intro k hk
  obtain⟨d,hd⟩:∃ d,d=x+4294967296*k-(y+c):=⟨_,rfl⟩
  have hd2:d+(y+c)=x+4294967296*k:=by omega
  rw[← hd]
  have e2:P*(d+(y+c))=P*(x+4294967296*k):=by rw[hd2]
  simp only[Nat.mul_add]at e2
  have e3:k*(P*4294967296)=P*(4294967296*k):=by rw[Nat.mul_comm k,Nat.mul_assoc]
  rw[Nat.mul_comm c P]at h
  omega
 split
 ·exact key 1 (by omega)
 ·exact key 0 (by omega)
theorem XZ(a b:List Int)(ha:zw a)(hb:zw b)(la:a.length≤1000000000)(lb:b.length≤1000000000):(iL a b).run=some (if nv a<nv b then([],false)else(zJ (nv a-nv b),true)):=by
 unfold iL
 rw[z6 (nT a b ha hb la lb)]
 by_cases hlt0:nv a<nv b
 ·rw[if_pos hlt0]; simp[iO,hlt0]
 rw[if_neg hlt0,z8 (by unfold iO; rw[if_neg hlt0]; split<;>simp)]
 have loop:∃ r:List Int,(Uh a b (0,0,[])).run=some r∧zw r∧r.length=a.length∧nv r+nv b=nv a:=by
  refine T.xm (fun s:Int×Int×List Int=>∃ (c i:Nat),s.1=(c:Int)∧s.2.1=(i:Int)∧c≤1∧i≤a.length∧zw s.2.2∧s.2.2.length=i∧nv s.2.2+nv (b.take i)=nv (a.take i)+c*4294967296 ^ i)
   (fun s=>a.length-s.2.1.toNat) _ ?_ ⟨0,0,rfl,rfl,by omega,by omega,yj,rfl,by simp⟩
  rintro⟨_,_,xs⟩ ⟨c,i,rfl,rfl,hc,hi,hl,hn,hv⟩
  simp only at hl hn hv ⊢
  by_cases qu:i<a.length
  ·left
   have hx:=wu ha i
   have hy:=wu hb i
   refine⟨(((if lm a i<lm b i+c then 1 else 0:Nat):Int),((i+1:Nat):Int),xs++[(((lm a i+4294967296*(if lm a i<lm b i+c then 1 else 0))-(lm b i+c):Nat):Int)]),?_,⟨_,i+1,rfl,rfl,by split<;>omega,by omega,Qx hl (by omega) (by split<;>omega),by simp; omega,?_⟩,by simp; omega⟩
   ·unfold lT
    have e0:zx ((lm b i:Int)+(c:Int))=((lm b i+c:Nat):Int):=by rw[qA (by omega) (by omega)]; omega
    simp only[yw]
    rw[if_pos (by simpa using qu),z6 (gM a ha i),z6 (gM b hb i)]
    simp only[e0,i1 i (by omega)]
    have e1:(bif decide ((lm a i:Int)<((lm b i+c:Nat):Int))then(1:Int)else 0)=((if lm a i<lm b i+c then 1 else 0:Nat):Int):=by
     by_cases q:lm a i<lm b i+c
     ·rw[if_pos q,show decide ((lm a i:Int)<((lm b i+c:Nat):Int))=true from decide_eq_true (by omega)]; rfl
     ·rw[if_neg q,show decide ((lm a i:Int)<((lm b i+c:Nat):Int))=false from decide_eq_false (by omega)]; rfl
    have e2:qG (zx ((bif decide ((lm a i:Int)<((lm b i+c:Nat):Int))then zx ((lm a i:Int)+4294967296)else(lm a i:Int))-((lm b i+c:Nat):Int)))=(((lm a i+4294967296*(if lm a i<lm b i+c then 1 else 0))-(lm b i+c):Nat):Int):=by
     by_cases q:lm a i<lm b i+c
     ·rw[if_pos q,show decide ((lm a i:Int)<((lm b i+c:Nat):Int))=true from decide_eq_true (by omega),cond_true,qA (x:=(lm a i:Int)+4294967296) (by omega) (by omega),qA (by omega) (by omega),Wr (by omega) (by omega)]; omega
     ·rw[if_neg q,show decide ((lm a i:Int)<((lm b i+c:Nat):Int))=false from decide_eq_false (by omega),cond_false,qA (by omega) (by omega),Wr (by omega) (by omega)]; omega
    simp only[e1,e2]
    simp(disch:=omega) [hn]
   ·simp only
    rw[HW,hn,qf,qf,Nat.pow_succ,Int.toNat_natCast]
    exact VU hv hc hx hy
  ·right
   have QJ:i=a.length:=by omega
   subst QJ
   refine⟨xs,?_,hl,hn,?_⟩
   ·unfold lT
    simp
   ·rw[List.take_length]at hv
    have h1:=kM b (min a.length b.length) (by omega)
    have HL:=yq ha
    have HI:nv (b.take a.length)=nv b:=by
     by_cases q:b.length≤a.length
     ·exact qT q
     ·rw[show min a.length b.length=a.length by omega]at h1
      rcases Nat.eq_zero_or_pos (nv (b.drop a.length))with z | z
      ·rw[z]at h1; omega
      ·have:=Nat.mul_le_mul_left (4294967296 ^ a.length) z
       omega
    have VN:=yq hl
    rw[hn]at VN
    rw[HI]at hv
    have:c=0:=by
     rcases Nat.eq_zero_or_pos c with h | h
     ·exact h
     ·have:c=1:=by omega
      subst this; omega
    subst this; omega
 obtain⟨xs,hr,hl,hn,hv⟩:=loop
 simp(disch:=omega) only[ze,zP,z6 hr]
 simp only[List.drop_zero,Nat.zero_add,List.take_length]
 rw[z6 (w7 xs hl (by omega)),z7,show nv xs=nv a-nv b by omega]
theorem mK{x y:Nat}(hx:x<4294967296)(hy:y<4294967296):x*y≤18446744065119617025:=Nat.mul_le_mul (show x≤4294967295 by omega) (show y≤4294967295 by omega)
theorem mac{c v w o:Nat}(hc:c<4294967296)(hv:v<4294967296)(hw:w<4294967296)(ho:o<4294967296) :
  zx ((c:Int)+zx (zx ((v:Int)*(w:Int))+(o:Int)))=((c+v*w+o:Nat):Int)∧c+v*w+o<18446744073709551616∧(c+v*w+o) / 4294967296<4294967296:=by
 have h:=mK hv hw
 have e:(v:Int)*(w:Int)=((v*w:Nat):Int):=by simp
 rw[e]
 generalize v*w=z at *
 rw[qA (x:=(z:Int)) (by omega) (by omega),qA (x:=(z:Int)+o) (by omega) (by omega),qA (by omega) (by omega)]
 omega
theorem zfr{c v w o:Nat}(hc:c<4294967296)(hv:v<4294967296)(hw:w<4294967296)(ho:o<4294967296) :
  zx (zx ((c:Int)+zx ((v:Int)*(w:Int)))+(o:Int))=((c+v*w+o:Nat):Int):=by
 have h:=mK hv hw
 have e:(v:Int)*(w:Int)=((v*w:Nat):Int):=by simp
 rw[e]
 generalize v*w=z at *
 rw[qA (x:=(z:Int)) (by omega) (by omega),qA (x:=(c:Int)+z) (by omega) (by omega),qA (by omega) (by omega)]
 omega
theorem Cz{P Q X Z c v w o W t:Nat}(h:X+c*P=Z+Q*(v*W))(hP:P=Q*t) :
  X+P*((c+v*w+o) % 4294967296)+(c+v*w+o) / 4294967296*(P*4294967296)=Z+P*o+Q*(v*(W+t*w)):=by
 have e:(c+v*w+o)=(c+v*w+o) % 4294967296+4294967296*((c+v*w+o) / 4294967296):=by omega
 generalize (c+v*w+o) % 4294967296=lo at *
 generalize (c+v*w+o) / 4294967296=hi at *
 have e2:P*(c+v*w+o)=P*(lo+4294967296*hi):=by rw[e]
 have e3:X+P*lo+hi*(P*4294967296)=X+P*(lo+4294967296*hi):=by grind
 rw[e3,← e2]
 have e4:X+P*(c+v*w+o)=(X+c*P)+P*(v*w)+P*o:=by grind
 rw[e4,h,hP]
 grind
theorem gz(xs:List Int)(i:Nat)(x:Int)(j:Nat)(h:i≠j):lm (xs.set i x) j=lm xs j:=by
 by_cases hi:i<xs.length
 ·rw[Vc hi,if_neg h]
 ·rw[List.set_eq_of_length_le (by omega)]
theorem YB(b:List Int)(hb:zw b)(lb:b.length≤1000000000)(P:List Int)(hP:zw P)(i:Nat)(hi:i≤1000000000)(hPl:i+b.length<P.length)(v:Nat)(hv:v<4294967296)(x3:List Int)(x4:Int) :
  ∃ r:Int×List Int,(JP b (i:Int) (v:Int) x3 x4 (i:Int) b (b.length:Int) (0,0,P)).run=some r∧∃ c:Nat,r.1=(c:Int)∧c<4294967296∧zw r.2∧r.2.length=P.length ∧
   nv (r.2.take (i+b.length))+c*4294967296 ^ (i+b.length)=nv (P.take (i+b.length))+4294967296 ^ i*(v*nv b):=by
 refine T.xm (fun s:Int×Int×List Int=>∃ (c k:Nat),s.1=(c:Int)∧s.2.1=(k:Int)∧c<4294967296∧k≤b.length∧zw s.2.2∧s.2.2.length=P.length∧(∀ j,i+k≤j→lm s.2.2 j=lm P j) ∧
   nv (s.2.2.take (i+k))+c*4294967296 ^ (i+k)=nv (P.take (i+k))+4294967296 ^ i*(v*nv (b.take k)))
  (fun s=>b.length-s.2.1.toNat) _ ?_ ⟨0,0,rfl,rfl,by omega,by omega,hP,rfl,fun _ _=>rfl,by simp⟩
 rintro⟨_,_,xs⟩ ⟨c,k,rfl,rfl,hc,hk,hl,hn,hj,Xf⟩
 simp only at hl hn hj Xf ⊢
 by_cases qu:k<b.length
 ·left
  have hw:=wu hb k
  have ho:=wu hl (i+k)
  obtain⟨m1,m2,m3⟩:=mac hc hv hw ho
  have eik:zu ((i:Int)+(k:Int))=((i+k:Nat):Int):=by rw[zQ (by omega) (by omega)]; omega
  refine⟨((((c+v*lm b k+lm xs (i+k)) / 4294967296:Nat):Int),((k+1:Nat):Int),xs.set (i+k) (((c+v*lm b k+lm xs (i+k)) % 4294967296:Nat):Int)),?_,⟨_,k+1,rfl,rfl,m3,by omega,cD hl _ (by omega) (by omega),by simpa using hn,fun j h=>by simp only; rw[gz _ _ _ _ (by omega),hj j (by omega)],?_⟩,by simp; omega⟩
  ·unfold pc
   have ev:zx (v:Int)=v:=qA (by omega) (by omega)
   have ew:zx (lm b k:Int)=lm b k:=qA (by omega) (by omega)
   have eo:zx (lm xs (i+k):Int)=lm xs (i+k):=qA (by omega) (by omega)
   simp only[xL,eik,Int.toNat_natCast,Nat.zero_add,wE hb,jO hl,ev,ew,eo,m1,KE,WG,i1 k (by omega)]
   simp(disch:=omega) [qu,hn]
  ·simp only
   rw[show i+(k+1)=(i+k)+1 by omega,ur _ (by omega),qf,qf,Nat.pow_succ,Int.toNat_natCast,← hj (i+k) (by omega)]
   exact Cz Xf (Nat.pow_add _ _ _)
 ·right
  have:k=b.length:=by omega
  subst this
  refine⟨((c:Int),xs),?_,c,rfl,hc,hl,hn,?_⟩
  ·unfold pc
   simp
  ·simpa[List.take_length]using Xf
theorem row_step{T V c P A Bn Q a:Nat}(h:V+c*P=T+Q*(a*Bn))(hT:T=A*Bn):V+P*c=(A+Q*a)*Bn:=by
 have:V+P*c=V+c*P:=by rw[Nat.mul_comm]
 rw[this,h,hT]; grind
theorem rJ(a b:List Int)(ha:zw a)(hb:zw b)(la:a.length≤1000000000)(lb:b.length≤1000000000):(bZ a b).run=some (zJ (nv a*nv b)):=by
 have qa:=zW ha
 have qb:=zW hb
 unfold bZ
 rw[z6 (wa a ha (by omega)),z6 (wa b hb (by omega))]
 generalize nv a=A at *
 generalize nv b=B at *
 have hx:=zq A
 have hy:=zq B
 have hxn:=zS A
 have hyn:=zS B
 generalize zJ A=x at *
 generalize zJ B=y at *
 have ew:zu ((x.length:Int)+(y.length:Int))=((x.length+y.length:Nat):Int):=by rw[zQ (by omega) (by omega)]; omega
 rw[ew]
 simp only[Int.toNat_natCast,List.length_replicate]
 have loop:∃ r:List Int,(JY y x (x.length:Int) (0,List.replicate (x.length+y.length) 0)).run=some r∧zw r∧r.length=x.length+y.length∧nv r=A*B:=by
  refine T.xm (fun s:Int×List Int=>∃ i:Nat,s.1=(i:Int)∧i≤x.length∧zw s.2∧s.2.length=x.length+y.length∧nv (s.2.take (i+y.length))=nv (x.take i)*B)
   (fun s=>x.length-s.1.toNat) _ ?_ ⟨0,rfl,by omega,xy _,by simp,by simp[List.take_replicate]⟩
  rintro⟨_,xs⟩ ⟨i,rfl,hi,hl,hn,hv⟩
  simp only at hl hn hv ⊢
  by_cases qu:i<x.length
  ·left
   have IE:=wu hx i
   obtain⟨⟨_,ys⟩,hr,c,rfl,hc,iI,Yo,Xf⟩:=YB y hy (by omega) xs hl i (by omega) (by omega) (lm x i) IE x (x.length:Int)
   simp only at iI Yo Xf
   have eik:zu ((i:Int)+(y.length:Int))=((i+y.length:Nat):Int):=by rw[zQ (by omega) (by omega)]; omega
   refine⟨(((i+1:Nat):Int),ys.set (i+y.length) (c:Int)),?_,⟨i+1,rfl,by omega,cD iI _ (by omega) (by omega),by simp; omega,?_⟩,by simp; omega⟩
   ·unfold pw
    have ec:qG (c:Int)=c:=Wr (by omega) (by omega)
    simp only[yw,xL,wE hx,eik,Int.toNat_natCast,Nat.zero_add,ec,i1 i (by omega)]
    rw[if_pos (by simpa using qu),qJ _ (by omega) (by omega),ze _ rfl rfl rfl,zP,z6 hr]
    simp(disch:=omega) [Yo]
   ·simp only
    rw[show i+1+y.length=(i+y.length)+1 by omega,ur _ (by omega),qf,Int.toNat_natCast]
    rw[hyn]at Xf
    exact row_step Xf hv
  ·right
   have:i=x.length:=by omega
   subst this
   refine⟨xs,?_,hl,hn,?_⟩
   ·unfold pw
    simp
   ·rw[qT (by omega),List.take_length,hxn]at hv; exact hv
 obtain⟨xs,hr,hl,hn,hv⟩:=loop
 rw[T.run_mk _ (by omega) (by omega) (by omega) (by omega),ze _ rfl rfl rfl,zP,z6 hr]
 simp only[Nat.zero_add,List.drop_zero,List.take_length]
 rw[zP,z6 (wa xs hl (by omega)),z7,hv]
theorem Om{N P Q X' X Z c v w o W t:Nat}(hX:X'+P*o=X+P*((c+v*w+o) % 4294967296))(h:X+c*P=Z+Q*(v*W))(hP:P=Q*t) :
  X'+(c+v*w+o) / 4294967296*(P*4294967296)=Z+Q*(v*(W+t*w)):=by
 have:=Cz (P:=P) (Q:=Q) (X:=X) (Z:=Z) (c:=c) (v:=v) (w:=w) (o:=o) (W:=W) (t:=t) h hP
 omega
theorem Kr(a b:List Int)(ha:zw a)(hb:zw b)(la:a.length≤1000000000)(lb:b.length≤1000000000)(P:List Int)(hP:zw P)(i:Nat)(hi:i<a.length)(hPl:P.length=a.length+b.length)
  (hbd:nv P+4294967296 ^ i*(lm a i*nv b)<4294967296 ^ (a.length+b.length)) :
  ∃ r:List Int,(U8 a b (i:Int) (0,0,P)).run=some r∧zw r∧r.length=P.length∧nv r=nv P+4294967296 ^ i*(lm a i*nv b):=by
 have hv:=wu ha i
 refine T.xm (fun s:Int×Int×List Int=>∃ (c k:Nat),s.1=(c:Int)∧s.2.1=(k:Int)∧c<4294967296∧i+k≤a.length+b.length∧zw s.2.2∧s.2.2.length=P.length ∧
   nv s.2.2+c*4294967296 ^ (i+k)=nv P+4294967296 ^ i*(lm a i*nv (b.take k)))
  (fun s=>a.length+b.length-s.2.1.toNat) _ ?_ ⟨0,0,rfl,rfl,by omega,by omega,hP,rfl,by simp⟩
 rintro⟨_,_,xs⟩ ⟨c,k,rfl,rfl,hc,hk,hl,hn,Xf⟩
 simp only at hl hn Xf ⊢
 have eik:zu ((i:Int)+(k:Int))=((i+k:Nat):Int):=by rw[zQ (by omega) (by omega)]; omega
 by_cases hgo:k<b.length∨0<c
 ·have eg:(decide ((k:Int)<(b.length:Int))||decide ((0:Int)<(c:Int)))=true:=by simpa using hgo
  by_cases hbr:a.length+b.length≤i+k
  ·right
   refine⟨xs,?_,hl,hn,?_⟩
   ·unfold dh
    simp only[eg,eik,zD,hn,hPl]
    rw[za (by simpa using(by omega))]
    simp(disch:=omega)
   ·rw[qT (by omega)]at Xf
    have VN:=yq hl
    rw[hn,hPl]at VN
    have e:i+k=a.length+b.length:=by omega
    rw[e]at Xf
    rcases Nat.eq_zero_or_pos c with z | z
    ·subst z; omega
    ·have:=Nat.mul_le_mul_right (4294967296 ^ (a.length+b.length)) z
     omega
  ·left
   have hw:=wu hb k
   have ho:=wu hl (i+k)
   obtain⟨m1,m2,m3⟩:=mac hc hv hw ho
   have m4:=zfr hc hv hw ho
   refine⟨((((c+lm a i*lm b k+lm xs (i+k)) / 4294967296:Nat):Int),((k+1:Nat):Int),xs.set (i+k) (((c+lm a i*lm b k+lm xs (i+k)) % 4294967296:Nat):Int)),?_,⟨_,k+1,rfl,rfl,m3,by omega,cD hl _ (by omega) (by omega),by simpa using hn,?_⟩,by simp; omega⟩
   ·unfold dh
    have ev:zx (lm a i:Int)=lm a i:=qA (by omega) (by omega)
    have eo:zx (lm xs (i+k):Int)=lm xs (i+k):=qA (by omega) (by omega)
    simp only[eg,zD,hn,eik]
    rw[z8 (by simpa using(by omega)),qJ _ (by omega) (by omega),z6 (gM b hb k)]
    simp only[xL,wE ha,jO hl,Int.toNat_natCast,Nat.zero_add,ev,eo,m4,KE,WG,i1 k (by omega)]
    simp(disch:=omega) [hn]
   ·simp only
    rw[show i+(k+1)=(i+k)+1 by omega,qf,Nat.pow_succ]
    have lj:=WC (a:=xs) (i:=i+k) ((((c+lm a i*lm b k+lm xs (i+k)) % 4294967296:Nat):Int)) (by omega)
    rw[Int.toNat_natCast]at lj
    exact Om (N:=0) lj Xf (Nat.pow_add _ _ _)
 ·right
  have gk:b.length≤k∧c=0:=by omega
  obtain⟨gk,rfl⟩:=gk
  refine⟨xs,?_,hl,hn,?_⟩
  ·unfold dh
   rw[z8 (by simpa using gk)]
   simp(disch:=omega)
  ·rw[qT gk]at Xf; simpa using Xf
theorem pe(a b:List Int)(ha:zw a)(hb:zw b)(la:a.length≤1000000000)(lb:b.length≤1000000000):(uR a b).run=some (zJ (nv a*nv b)):=by
 have ew:zu ((a.length:Int)+(b.length:Int))=((a.length+b.length:Nat):Int):=by rw[zQ (by omega) (by omega)]; omega
 unfold uR
 rw[ew]
 simp only[Int.toNat_natCast,List.length_replicate]
 have zg2:nv a*nv b<4294967296 ^ (a.length+b.length):=by
  rw[Nat.pow_add]
  exact Nat.mul_lt_mul'' (yq ha) (yq hb)
 have loop:∃ r:List Int,(VD a b (0,List.replicate (a.length+b.length) 0)).run=some r∧zw r∧r.length=a.length+b.length∧nv r=nv a*nv b:=by
  refine T.xm (fun s:Int×List Int=>∃ i:Nat,s.1=(i:Int)∧i≤a.length∧zw s.2∧s.2.length=a.length+b.length∧nv s.2=nv (a.take i)*nv b)
   (fun s=>a.length-s.1.toNat) _ ?_ ⟨0,rfl,by omega,xy _,by simp,by simp⟩
  rintro⟨_,xs⟩ ⟨i,rfl,hi,hl,hn,hv⟩
  simp only at hl hn hv ⊢
  by_cases qu:i<a.length
  ·left
   have e1:nv xs+4294967296 ^ i*(lm a i*nv b)=nv (a.take (i+1))*nv b:=by rw[hv,qf]; grind
   have hle:nv (a.take (i+1))*nv b≤nv a*nv b:=Nat.mul_le_mul_right _ (Ib a (i+1))
   obtain⟨ys,hr,iI,Yo,Xf⟩:=Kr a b ha hb la lb xs hl i qu hn (by rw[e1]; exact Nat.lt_of_le_of_lt hle zg2)
   refine⟨(((i+1:Nat):Int),ys),?_,⟨i+1,rfl,by omega,iI,Yo.trans hn,Xf.trans e1⟩,by simp; omega⟩
   unfold lK
   simp only[yw,i1 i (by omega)]
   rw[if_pos (by simpa using qu),ze _ rfl rfl rfl,zP,z6 hr]
   simp(disch:=omega)
  ·right
   have:i=a.length:=by omega
   subst this
   refine⟨xs,?_,hl,hn,?_⟩
   ·unfold lK
    simp
   ·rw[List.take_length]at hv; exact hv
 obtain⟨xs,hr,hl,hn,hv⟩:=loop
 rw[T.run_mk _ (by omega) (by omega) (by omega) (by omega),ze _ rfl rfl rfl,zP,z6 hr]
 simp only[Nat.zero_add,List.drop_zero,List.take_length]
 rw[zP,z6 (w7 xs hl (by omega)),z7,hv]
theorem Z2{a:List Int}{i:Nat}(h:i<a.length):nv (a.drop i)=lm a i+4294967296*nv (a.drop (i+1)):=DV h
theorem set_drop{a:List Int}{i:Nat}(x:Int)(h:i<a.length):nv ((a.set i x).drop i)=x.toNat+4294967296*nv (a.drop (i+1)):=by
 rw[Z2 (by simpa using h),jv,Vc h,if_pos rfl]
theorem NB{hi lo y:Nat}(h0:hi<y)(h1:lo<4294967296)(h2:y<4294967296) :
  (gn (hi:Int) (lo:Int) (y:Int)).run=some ((((hi*4294967296+lo) / y:Nat):Int),(((hi*4294967296+lo) % y:Nat):Int)):=by
 have e1:=D9 (x:=(hi:Int)) (y:=(lo:Int)) (by omega) (by omega) (by omega) (by omega)
 have ey:zx (y:Int)=y:=qA (by omega) (by omega)
 have eh:zx (hi:Int)=hi:=qA (by omega) (by omega)
 have el:zx (lo:Int)=lo:=qA (by omega) (by omega)
 have hq:(hi*4294967296+lo) / y<4294967296:=by
  rw[Nat.div_lt_iff_lt_mul (by omega)]
  have:=Nat.mul_le_mul_left 4294967296 (show hi+1≤y from h0)
  omega
 have hr:(hi*4294967296+lo) % y<y:=Nat.mod_lt _ (by omega)
 have e2:(hi:Int)*4294967296+(lo:Int)=((hi*4294967296+lo:Nat):Int):=by omega
 have e3:Int.tdiv ((hi*4294967296+lo:Nat):Int) (y:Int)=(((hi*4294967296+lo) / y:Nat):Int):=by rw[dA (by omega)]; rfl
 have e4:Int.tmod ((hi*4294967296+lo:Nat):Int) (y:Int)=(((hi*4294967296+lo) % y:Nat):Int):=by rw[dG (by omega)]; rfl
 unfold gn
 rw[z8 (by simp; omega)]
 simp only[ey,eh,el,e1,e2,e3,e4]
 rw[jb _ (by omega),vr _ (by omega),vr _ (by omega),z7,gQ (by omega),ZF hq,ZF (by omega)]
theorem Ku{A Q r y l q:Nat}(h:A=Q*y+r)(hq:q=(r*4294967296+l) / y):l+4294967296*A=(q+4294967296*Q)*y+(r*4294967296+l) % y:=by
 have:=Nat.div_add_mod (r*4294967296+l) y
 rw[← hq]at this
 generalize (r*4294967296+l) % y=m at *
 rw[h]
 have e:(q+4294967296*Q)*y+m=(y*q+m)+4294967296*(Q*y):=by grind
 rw[e,this]; omega
theorem ZR(a:List Int)(ha:zw a)(la:a.length≤1000000000)(y:Nat)(h0:0<y)(h1:y<4294967296):(fD a (y:Int)).run=some (zJ (nv a / y),((nv a % y:Nat):Int)):=by
 have loop:∃ r:Int×List Int,(X8 a (y:Int) (0,(a.length:Int)-1,List.replicate a.length 0)).run=some r∧∃ m:Nat,r.1=(m:Int)∧m<y∧zw r.2∧r.2.length=a.length∧nv a=nv r.2*y+m:=by
  refine T.xm (fun s:Int×Int×List Int=>∃ (m i:Nat),s.1=(m:Int)∧s.2.1=(i:Int)-1∧m<y∧i≤a.length∧zw s.2.2∧s.2.2.length=a.length∧nv (a.drop i)=nv (s.2.2.drop i)*y+m)
   (fun s=>(s.2.1+1).toNat) _ ?_ ⟨0,a.length,rfl,rfl,h0,Nat.le_refl _,xy _,by simp,by simp⟩
  rintro⟨_,_,xs⟩ ⟨m,i,rfl,rfl,hm,hi,hl,hn,hv⟩
  simp only at hl hn hv ⊢
  cases i with
  | zero =>
   right
   refine⟨((m:Int),xs),?_,m,rfl,hm,hl,hn,by simpa using hv⟩
   unfold fp
   simp
  | succ i =>
   left
   have hx:=wu ha i
   have e1:((i+1:Nat):Int)-1=(i:Int):=by omega
   have hd:=NB hm hx h1
   have hq:(m*4294967296+lm a i) / y<4294967296:=by
    rw[Nat.div_lt_iff_lt_mul (by omega)]
    have:=Nat.mul_le_mul_left 4294967296 (show m+1≤y from hm)
    omega
   have ei:zu ((i:Int)-1)=(i:Int)-1:=zQ (by omega) (by omega)
   refine⟨((((m*4294967296+lm a i) % y:Nat):Int),(i:Int)-1,xs.set i (((m*4294967296+lm a i) / y:Nat):Int)),?_,⟨_,i,rfl,rfl,Nat.mod_lt _ h0,by omega,we hl _ hq,by simpa using hn,?_⟩,by simp⟩
   ·unfold fp
    simp only[e1,xL,wE ha,yw,ei]
    rw[if_pos (by simp),qJ _ (by omega) (by omega),z6 hd]
    simp(disch:=omega) [hn]
   ·simp only
    rw[Z2 (by omega),set_drop _ (by omega),Int.toNat_natCast]
    exact Ku hv rfl
 obtain⟨⟨_,xs⟩,hr,m,rfl,hm,hl,hn,hv⟩:=loop
 simp only at hl hn hv
 unfold fD
 rw[zQ (by omega) (by omega)]
 simp only[Int.toNat_natCast,List.length_replicate]
 rw[T.run_mk _ (by omega) (by omega) (by omega) (by omega),ze _ rfl rfl rfl,zP,z6 hr]
 simp only[Nat.zero_add,List.drop_zero,List.take_length]
 have e1:nv a / y=nv xs:=by rw[hv,Nat.mul_comm,Nat.mul_add_div h0,Nat.div_eq_of_lt hm,Nat.add_zero]
 have e2:nv a % y=m:=by rw[hv,Nat.mul_comm,Nat.mul_add_mod,Nat.mod_eq_of_lt hm]
 rw[zP,z6 (wa xs hl (by omega)),z7,e1,e2]
theorem tk(a:List Int)(ha:zw a)(la:a.length≤1000000000)(y:Nat)(h0:0<y)(h1:y<4294967296):(cz a (y:Int)).run=some (zJ (nv a / y),((nv a % y:Nat):Int)):=by
 have loop:∃ r:Int×List Int,(Q0 a (y:Int) (0,(a.length:Int)-1,List.replicate a.length 0)).run=some r∧∃ m:Nat,r.1=(m:Int)∧m<y∧zw r.2∧r.2.length=a.length∧nv a=nv r.2*y+m:=by
  refine T.xm (fun s:Int×Int×List Int=>∃ (m i:Nat),s.1=(m:Int)∧s.2.1=(i:Int)-1∧m<y∧i≤a.length∧zw s.2.2∧s.2.2.length=a.length∧nv (a.drop i)=nv (s.2.2.drop i)*y+m)
   (fun s=>(s.2.1+1).toNat) _ ?_ ⟨0,a.length,rfl,rfl,h0,Nat.le_refl _,xy _,by simp,by simp⟩
  rintro⟨_,_,xs⟩ ⟨m,i,rfl,rfl,hm,hi,hl,hn,hv⟩
  simp only at hl hn hv ⊢
  cases i with
  | zero =>
   right
   refine⟨((m:Int),xs),?_,m,rfl,hm,hl,hn,by simpa using hv⟩
   unfold cJ
   simp
  | succ i =>
   left
   have hx:=wu ha i
   have e1:((i+1:Nat):Int)-1=(i:Int):=by omega
   have hq:(m*4294967296+lm a i) / y<4294967296:=by
    rw[Nat.div_lt_iff_lt_mul (by omega)]
    have:=Nat.mul_le_mul_left 4294967296 (show m+1≤y from hm)
    omega
   have ei:zu ((i:Int)-1)=(i:Int)-1:=zQ (by omega) (by omega)
   have el:zx (lm a i:Int)=lm a i:=qA (by omega) (by omega)
   have e5:=D9 (x:=(m:Int)) (y:=(lm a i:Int)) (by omega) (by omega) (by omega) (by omega)
   have e2:(m:Int)*4294967296+(lm a i:Int)=((m*4294967296+lm a i:Nat):Int):=by omega
   have e3:Int.tdiv ((m*4294967296+lm a i:Nat):Int) (y:Int)=(((m*4294967296+lm a i) / y:Nat):Int):=by rw[dA (by omega)]; rfl
   have e4:Int.tmod ((m*4294967296+lm a i:Nat):Int) (y:Int)=(((m*4294967296+lm a i) % y:Nat):Int):=by rw[dG (by omega)]; rfl
   have e6:qG (zx (((m*4294967296+lm a i) / y:Nat):Int))=(((m*4294967296+lm a i) / y:Nat):Int):=by rw[gQ (by omega),ZF hq]
   refine⟨((((m*4294967296+lm a i) % y:Nat):Int),(i:Int)-1,xs.set i (((m*4294967296+lm a i) / y:Nat):Int)),?_,⟨_,i,rfl,rfl,Nat.mod_lt _ h0,by omega,we hl _ hq,by simpa using hn,?_⟩,by simp⟩
   ·unfold cJ
    simp only[e1,xL,wE ha,yw,ei,el,e5,e2,e3,e4,e6]
    have hy:y≠0:=by omega
    rw[if_pos (by simp)]
    simp(disch:=omega) [hn,hy]
   ·simp only
    rw[Z2 (by omega),set_drop _ (by omega),Int.toNat_natCast]
    exact Ku hv rfl
 obtain⟨⟨_,xs⟩,hr,m,rfl,hm,hl,hn,hv⟩:=loop
 simp only at hl hn hv
 unfold cz
 rw[zQ (by omega) (by omega)]
 simp only[Int.toNat_natCast,List.length_replicate]
 rw[T.run_mk _ (by omega) (by omega) (by omega) (by omega),ze _ rfl rfl rfl,zP,z6 hr]
 simp only[Nat.zero_add,List.drop_zero,List.take_length]
 have e1:nv a / y=nv xs:=by rw[hv,Nat.mul_comm,Nat.mul_add_div h0,Nat.div_eq_of_lt hm,Nat.add_zero]
 have e2:nv a % y=m:=by rw[hv,Nat.mul_comm,Nat.mul_add_mod,Nat.mod_eq_of_lt hm]
 rw[zP,z6 (w7 xs hl (by omega)),z7,e1,e2]
theorem Hl{v s:Nat}(hv:v<4294967296)(hs:s≤32):xZ .u64 (v:Int) (s:Int)=((v*2 ^ s:Nat):Int):=by
 have h1:2 ^ s≤2 ^ 32:=Nat.pow_le_pow_right (by omega) hs
 have h2:v*2 ^ s≤4294967295*4294967296:=Nat.mul_le_mul (by omega) h1
 have e:min (s:Int).toNat 64=s:=by simp; omega
 show zx ((v:Int)*2 ^ (min (s:Int).toNat 64))=_
 rw[e]
 have e2:(v:Int)*2 ^ s=((v*2 ^ s:Nat):Int):=by simp
 rw[e2,gQ (by omega)]
theorem z7E{v s:Nat}(hs:s≤64):xc .u64 (v:Int) (s:Int)=((v / 2 ^ s:Nat):Int):=by
 have e:min (s:Int).toNat 64=s:=by simp; omega
 show Int.fdiv (v:Int) (2 ^ (min (s:Int).toNat 64))=_
 rw[e]
 have e2:(2:Int) ^ s=((2 ^ s:Nat):Int):=by simp
 rw[e2,Int.fdiv_eq_ediv_of_nonneg _ (Int.natCast_nonneg _)]; rfl
theorem z7g{h m s:Nat}(hh:h<2 ^ s):h ||| m*2 ^ s=h+m*2 ^ s:=by rw[Nat.or_comm,Kj m h s hh,Nat.add_comm]
theorem Dh(v s:Nat)(hs:s≤32):v*2 ^ s % 4294967296=(v % 2 ^ (32-s))*2 ^ s:=by
 have e:(4294967296:Nat)=2 ^ (32-s)*2 ^ s:=by rw[← Nat.pow_add]; rw[show 32-s+s=32 by omega]
 rw[e,Nat.mul_mod_mul_right]
theorem G1{h v s:Nat}(hh:h<2 ^ s)(hv:v<4294967296)(hs:s<32) :
  gT .u32 (h:Int) (qG ((v*2 ^ s:Nat):Int))=((h+v*2 ^ s % 4294967296:Nat):Int)∧h+v*2 ^ s % 4294967296<4294967296∧v*2 ^ s / 4294967296<2 ^ s:=by
 have h1:2 ^ s≤2 ^ 31:=Nat.pow_le_pow_right (by omega) (by omega)
 have e1:=Dh v s (by omega)
 have e2:(v % 2 ^ (32-s))*2 ^ s+2 ^ s≤4294967296:=by
  have:v % 2 ^ (32-s)+1≤2 ^ (32-s):=Nat.mod_lt _ (Nat.pow_pos (by omega))
  have:=Nat.mul_le_mul_right (2 ^ s) this
  rw[← Nat.pow_add,show 32-s+s=32 by omega]at this
  rw[Nat.add_mul]at this
  omega
 refine⟨?_,by rw[e1]; omega,?_⟩
 ·rw[KE,W4 (by omega) (by omega),e1,z7g hh]
 ·rw[Nat.div_lt_iff_lt_mul (by omega),Nat.mul_comm]
  exact Nat.mul_lt_mul_of_pos_left hv (Nat.pow_pos (by omega))
theorem K8{X h P V v t A:Nat}(hv:X+h*P=V*t)(hA:A=v*t):X+P*(h+A % 4294967296)+A / 4294967296*(P*4294967296)=(V+P*v)*t:=by
 have e:A=A % 4294967296+4294967296*(A / 4294967296):=by omega
 generalize A % 4294967296=lo at *
 generalize A / 4294967296=hi at *
 have e2:X+P*(h+lo)+hi*(P*4294967296)=(X+h*P)+P*(lo+4294967296*hi):=by grind
 rw[e2,hv,← e,hA]; grind
theorem GB(a:List Int)(ha:zw a)(la:a.length≤1000000000)(s n:Nat)(hs:s<32)(El:a.length≤n)(Yo:n≤a.length+1)(JK:nv a*2 ^ s<4294967296 ^ n) :
  ∃ r,(U5 (s:Int) (n:Int) a (a.length:Int) (0,List.replicate n 0)).run=some r∧zw r∧r.length=n∧nv r=nv a*2 ^ s:=by
 refine T.xm (fun z:Int×List Int=>∃ i h:Nat,z.1=(i:Int)∧i≤a.length∧zw z.2∧z.2.length=n∧h<2 ^ s∧(i<n→lm z.2 i=h)∧nv (z.2.take i)+h*4294967296 ^ i=nv (a.take i)*2 ^ s)
  (fun z=>a.length-z.1.toNat) _ ?_ ⟨0,0,rfl,by omega,xy _,by simp,Nat.pow_pos (by omega),fun _ => ?_,by simp⟩
 ·rintro⟨_,xs⟩ ⟨i,h,rfl,hi,hl,hn,hh,hli,hv⟩
  simp only at hl hn hli hv ⊢
  by_cases qu:i<a.length
  ·left
   have hx:=wu ha i
   obtain⟨s1,s2,s3⟩:=G1 hh hx hs
   have hb:zx (lm a i:Int)=lm a i:=gQ (by omega)
   have hlx:=hli (by omega)
   have hp:2 ^ s≤2 ^ 31:=Nat.pow_le_pow_right (by omega) (by omega)
   have e2:qG ((lm a i*2 ^ s / 4294967296:Nat):Int)=((lm a i*2 ^ s / 4294967296:Nat):Int):=ZF (by omega)
   by_cases XR:i+1<n
   all_goals have zdk:((i:Int)+1<(n:Int))↔(i+1<n):=by omega
   ·refine⟨(((i+1:Nat):Int),(xs.set i ((h+lm a i*2 ^ s % 4294967296:Nat):Int)).set (i+1) ((lm a i*2 ^ s / 4294967296:Nat):Int)),?_,
     ⟨i+1,lm a i*2 ^ s / 4294967296,rfl,by omega,we (we hl _ s2) _ (by omega),by simpa using hn,s3,fun _ => ?_,?_⟩,by simp; omega⟩
    ·unfold dM
     simp only[xL,wE ha,Int.toNat_natCast,Nat.zero_add,jO hl,hb,Hl hx (show s≤32 by omega),hlx,s1,i1 i (by omega),WG,e2]
     simp(disch:=omega) [qu,hn,XR,zdk]
    ·simp only
     rw[Vc (by simp; omega),if_pos rfl,Int.toNat_natCast]
    ·simp only
     rw[VF _ _ _ _ (Nat.le_refl _),ur _ (by omega),qf,Int.toNat_natCast,Nat.pow_succ]
     exact K8 hv rfl
   ·refine⟨(((i+1:Nat):Int),xs.set i ((h+lm a i*2 ^ s % 4294967296:Nat):Int)),?_,
     ⟨i+1,lm a i*2 ^ s / 4294967296,rfl,by omega,we hl _ s2,by simpa using hn,s3,fun _=>by omega,?_⟩,by simp; omega⟩
    ·unfold dM
     simp only[xL,wE ha,Int.toNat_natCast,Nat.zero_add,jO hl,hb,Hl hx (show s≤32 by omega),hlx,s1,i1 i (by omega),WG,e2]
     simp(disch:=omega) [qu,hn,XR,zdk]
    ·simp only
     rw[ur _ (by omega),qf,Int.toNat_natCast,Nat.pow_succ]
     exact K8 hv rfl
  ·right
   have:i=a.length:=by omega
   subst this
   refine⟨xs,?_,hl,hn,?_⟩
   ·unfold dM
    simp
   ·rw[List.take_length]at hv
    by_cases q:n=a.length
    ·rw[qT (by omega)]at hv
     rcases Nat.eq_zero_or_pos h with z | z
     ·subst z; omega
     ·have:=Nat.mul_le_mul_right (4294967296 ^ a.length) z
      rw[q]at JK; omega
    ·have uv:n=a.length+1:=by omega
     have:=qf xs a.length
     rw[qT (by omega),hli (by omega),Nat.mul_comm]at this
     omega
 ·show lm (List.replicate n 0) 0=0
  unfold lm nth
  cases n<;>simp[List.replicate_succ]
theorem HO(a:List Int)(ha:zw a)(la:a.length≤1000000000)(s n:Nat)(hs:s<32)(El:a.length≤n)(Yo:n≤a.length+1)(JK:nv a*2 ^ s<4294967296 ^ n) :
  ∃ r,(XE a (s:Int) (n:Int)).run=some r∧zw r∧r.length=n∧nv r=nv a*2 ^ s:=by
 obtain⟨r,h1,h2,h3,h4⟩:=GB a ha la s n hs El Yo JK
 refine⟨r,?_,h2,h3,h4⟩
 unfold XE
 simp only[Int.toNat_natCast,List.length_replicate]
 rw[T.run_mk _ (by omega) (by omega) (by omega) (by omega),ze _ rfl rfl rfl,zP,z6 h1]
 simp
theorem tn(a:List Int)(ha:zw a)(la:a.length≤1000000000)(s n:Nat)(hs:s<32)(El:a.length≤n)(Yo:n≤a.length+1)(JK:nv a*2 ^ s<4294967296 ^ n) :
  ∃ r,(iD a (s:Int) (n:Int)).run=some r∧zw r∧r.length=n∧nv r=nv a*2 ^ s:=by
 obtain⟨r,h1,h2,h3,h4⟩:=GB a ha la s n hs El Yo JK
 refine⟨r,?_,h2,h3,h4⟩
 have nG:(Zu (s:Int) (n:Int) a (a.length:Int) (0,List.replicate n 0)).run=some r:=h1
 unfold iD
 simp only[Int.toNat_natCast,List.length_replicate]
 rw[T.run_mk _ (by omega) (by omega) (by omega) (by omega),ze _ rfl rfl rfl,zP,z6 nG]
 simp
theorem zai{a b s:Nat}(hs:s≤32)(ha:a<2 ^ (32-s)):a ||| b*2 ^ (32-s)=a+b*2 ^ (32-s):=by rw[Nat.or_comm,Kj b a (32-s) ha,Nat.add_comm]
theorem kY(s:Nat)(h:s≤32):(4294967296:Nat)=2 ^ (32-s)*2 ^ s:=by rw[← Nat.pow_add,show 32-s+s=32 by omega]
theorem zbp{v s:Nat}(hs:s≤32):v*4294967296 / 2 ^ s=v*2 ^ (32-s):=by
 rw[kY s hs,← Nat.mul_assoc,Nat.mul_div_cancel _ (Nat.pow_pos (by omega))]
theorem z6V{v s:Nat}(hs:s≤32):v*2 ^ (32-s) / 4294967296=v / 2 ^ s:=by
 rw[kY s hs,Nat.mul_comm v,Nat.mul_div_mul_left _ _ (Nat.pow_pos (by omega))]
theorem z62{v s:Nat}(hs:s≤32):v*2 ^ (32-s) % 4294967296=(v % 2 ^ s)*2 ^ (32-s):=by
 rw[kY s hs,Nat.mul_comm (2 ^ (32-s)),Nat.mul_mod_mul_right]
theorem z3E{V v P s C:Nat}(hs:s≤32)(hC:C=V / 2 ^ s):C+P*((v % 2 ^ s)*2 ^ (32-s))+P*4294967296*(v / 2 ^ s)=(V+P*4294967296*v) / 2 ^ s:=by
 have hp:0<2 ^ s:=Nat.pow_pos (by omega)
 have e1:V+P*4294967296*v=V+(P*2 ^ (32-s)*v)*2 ^ s:=by
  have:P*4294967296*v=P*(2 ^ (32-s)*2 ^ s)*v:=by rw[← kY s hs]
  rw[this]; grind
 rw[e1,Nat.add_mul_div_right _ _ hp,hC]
 have e2:v=v % 2 ^ s+2 ^ s*(v / 2 ^ s):=by have:=Nat.div_add_mod v (2 ^ s); omega
 have e3:P*4294967296*(v / 2 ^ s)=P*(2 ^ (32-s)*2 ^ s)*(v / 2 ^ s):=by rw[← kY s hs]
 rw[e3]
 have e4:P*2 ^ (32-s)*v=P*2 ^ (32-s)*(v % 2 ^ s+2 ^ s*(v / 2 ^ s)):=by rw[← e2]
 rw[e4]
 generalize v % 2 ^ s=lo
 generalize v / 2 ^ s=hi
 grind
theorem R7(x:List Int)(hx:zw x)(lx:x.length≤4000000000)(s:Nat)(hs:s<32) :
  ∃ r,(Xe (s:Int) x (x.length:Int) (0,List.replicate x.length 0)).run=some r∧zw r∧r.length=x.length∧nv r=nv x / 2 ^ s:=by
 refine T.xm (fun z:Int×List Int=>∃ i:Nat,z.1=(i:Int)∧i≤x.length∧zw z.2∧z.2.length=x.length∧(∀ j,i≤j→lm z.2 j=0)∧(∀ j,i=j+1→lm z.2 j=lm x j / 2 ^ s)∧nv (z.2.take i)=nv (x.take i) / 2 ^ s)
  (fun z=>x.length-z.1.toNat) _ ?_ ⟨0,rfl,by omega,xy _,by simp,fun j _ => ?_,fun j h=>by omega,by simp⟩
 ·rintro⟨_,xs⟩ ⟨i,rfl,hi,hl,hn,hz,hp,hv⟩
  simp only at hl hn hz hp hv ⊢
  by_cases qu:i<x.length
  ·left
   have IE:=wu hx i
   have hb:zx (lm x i:Int)=lm x i:=gQ (by omega)
   have h32:(32:Int)=((32:Nat):Int):=rfl
   have w1:xc .u64 (xZ .u64 (lm x i:Int) 32) (s:Int)=((lm x i*2 ^ (32-s):Nat):Int):=by
    rw[h32,Hl IE (by omega),z7E (by omega),← zbp (by omega)]
   have hq:lm x i / 2 ^ s<4294967296:=Nat.lt_of_le_of_lt (Nat.div_le_self _ _) IE
   have w2:qG (xc .u64 ((lm x i*2 ^ (32-s):Nat):Int) 32)=((lm x i / 2 ^ s:Nat):Int):=by rw[WG,z6V (by omega),ZF hq]
   have w3:gT .u32 (xp xs i 0) ((lm x i / 2 ^ s:Nat):Int)=((lm x i / 2 ^ s:Nat):Int):=by
    rw[jO hl,hz i (Nat.le_refl _),W4 (by omega) hq,Nat.zero_or]
   cases i with
   | zero =>
    refine⟨(1,xs.set 0 ((lm x 0 / 2 ^ s:Nat):Int)),?_,⟨1,rfl,by omega,we hl _ hq,by simpa using hn,fun j h => ?_,fun j h => ?_,?_⟩,by simp; omega⟩
    ·have w3':=w3
     simp only[Int.natCast_zero]at *
     have J5:nth x 0 0=(lm x 0:Int):=wE hx 0
     unfold bp
     simp only[xL,J5,Int.toNat_natCast,Nat.zero_add,hb,w1,w2,w3]
     have zhi:gT .u32 (xp xs (Int.toNat 0) 0) ((lm x 0 / 2 ^ s:Nat):Int)=((lm x 0 / 2 ^ s:Nat):Int):=w3
     generalize lm x 0 / 2 ^ s=q at *
     simp only[zhi]
     simp(disch:=omega) [qu,hn]
    ·rw[gz _ _ _ _ (by omega)]; exact hz j (by omega)
    ·have:j=0:=by omega
     subst this
     rw[Vc (by omega),if_pos rfl,Int.toNat_natCast]
    ·simp only
     rw[ur _ (by omega),qf]; simp only[Int.toNat_natCast,List.take_zero,HA,Nat.pow_zero,Nat.one_mul,Nat.zero_add]
   | succ i =>
    have BJ:=hp i rfl
    have zeT:=wu hx i
    have hq2:lm xs i<2 ^ (32-s):=by
     rw[BJ,Nat.div_lt_iff_lt_mul (Nat.pow_pos (by omega)),← kY s (by omega)]; exact zeT
    have hq3:lm x (i+1)*2 ^ (32-s) % 4294967296=(lm x (i+1) % 2 ^ s)*2 ^ (32-s):=z62 (by omega)
    have hq4:lm xs i+(lm x (i+1) % 2 ^ s)*2 ^ (32-s)<4294967296:=by
     have h1:lm x (i+1) % 2 ^ s+1≤2 ^ s:=Nat.mod_lt _ (Nat.pow_pos (by omega))
     have h2:=Nat.mul_le_mul_right (2 ^ (32-s)) h1
     rw[Nat.mul_comm (2 ^ s),← kY s (by omega),Nat.add_mul]at h2
     omega
    have hxi:=wu hl i
    have w4:∀ ys:List Int,zw ys→lm ys i=lm xs i→gT .u32 (xp ys i 0) (qG ((lm x (i+1)*2 ^ (32-s):Nat):Int))=((lm xs i+(lm x (i+1) % 2 ^ s)*2 ^ (32-s):Nat):Int):=by
     intro ys hys he
     rw[jO hys,he,KE,W4 hxi (Nat.mod_lt _ (by omega)),hq3,zai (by omega) hq2]
    have w5:=w4 _ (we hl (i+1) hq) (gz _ _ _ _ (by omega))
    refine⟨(((i+1+1:Nat):Int),(xs.set (i+1) ((lm x (i+1) / 2 ^ s:Nat):Int)).set i ((lm xs i+(lm x (i+1) % 2 ^ s)*2 ^ (32-s):Nat):Int)),?_,
     ⟨i+1+1,rfl,by omega,we (we hl _ hq) _ hq4,by simpa using hn,fun j h => ?_,fun j h => ?_,?_⟩,by simp; omega⟩
    ·unfold bp
     simp only[xL,wE hx,Int.toNat_natCast,Nat.zero_add,hb,w1,w2,w3,i1 (i+1) (by omega),im1 i (by omega),w5]
     rw[za (by simp; omega)]
     have Va:decide ((0:Int)<((i+1:Nat):Int))=true:=by simp
     generalize hG:(xs.set (i+1) ((lm x (i+1) / 2 ^ s:Nat):Int)).set i ((lm xs i+(lm x (i+1) % 2 ^ s)*2 ^ (32-s):Nat):Int)=G
     have hGl:G.length=xs.length:=by rw[← hG]; simp
     rw[qJ _ (by omega) (by omega),jb _ (by omega),jb _ (by omega),qJ _ (by omega) (by omega),jM _ rfl (by omega),jb _ (by omega),qJ _ (by omega) (by omega),jM _ rfl (by omega),za Va,
      qJ _ (by omega) (by omega),jM _ (by simp) (by simp; omega),qJ _ (by omega) (by omega),jM _ (by simp) (by simp; omega),ze _ (by omega) rfl (by omega),zy _ (by omega),z7]
    ·rw[gz _ _ _ _ (by omega),gz _ _ _ _ (by omega)]; exact hz j (by omega)
    ·have:j=i+1:=by omega
     subst this
     rw[gz _ _ _ _ (by omega),Vc (by omega),if_pos rfl,Int.toNat_natCast]
    ·simp only
     rw[qf,gz _ _ _ _ (by omega),Vc (by omega),if_pos rfl,Int.toNat_natCast,ur _ (by simp; omega),VF _ _ _ _ (by omega),Int.toNat_natCast,qf,Nat.pow_succ]
     have Xf:=hv
     rw[qf]at Xf
     have e:nv (xs.take i)+4294967296 ^ i*(lm xs i+lm x (i+1) % 2 ^ s*2 ^ (32-s))=(nv (xs.take i)+4294967296 ^ i*lm xs i)+4294967296 ^ i*(lm x (i+1) % 2 ^ s*2 ^ (32-s)):=by rw[Nat.mul_add]; omega
     rw[e]
     exact z3E (by omega) Xf
  ·right
   have:i=x.length:=by omega
   subst this
   refine⟨xs,?_,hl,hn,?_⟩
   ·unfold bp
    simp
   ·rw[List.take_length,qT (by omega)]at hv; exact hv
 ·show lm (List.replicate x.length 0) j=0
  unfold lm nth
  simp[List.getD_eq_getElem?_getD,List.getElem?_replicate]
  split<;>simp
theorem z3o{A k:Nat}(h:(zJ A).length≤k):A<4294967296 ^ k:=qe.1 h
theorem Gz(k:Nat):(4294967296:Nat) ^ (k / 32)*2 ^ (k % 32)=2 ^ k:=by
 have:(4294967296:Nat)=2 ^ 32:=by decide
 rw[this,← Nat.pow_mul,← Nat.pow_add]; congr 1; omega
theorem YN(a:List Int)(ha:zw a)(la:a.length≤1000000000)(k:Nat)(hk:k≤4096)(h0:0<k):(cu a (-(k:Int))).run=some (zJ (nv a / 2 ^ k)):=by
 have qa:=zW ha
 unfold cu
 rw[z6 (wa a ha (by omega))]
 generalize nv a=A at *
 have e1:wT (wc (-(k:Int)) (-4096)) 4096 = -(k:Int):=by unfold wT wc; repeat' split<;>omega
 have e2:zu (0 - -(k:Int))=(k:Int):=by rw[zQ (by omega) (by omega)]; omega
 have e3:zu (Int.tdiv (k:Int) 32)=((k / 32:Nat):Int):=by rw[dA (by omega),zQ (by omega) (by omega)]; omega
 have e4:zx (Int.tmod (k:Int) 32)=((k % 32:Nat):Int):=by rw[dG (by omega),qA (by omega) (by omega)]; omega
 simp only[e1,e2,e3,e4]
 rw[za (by simp; omega),vr _ (by omega)]
 have hx:=zq A
 by_cases c:(zJ A).length≤k / 32
 ·rw[za (by simp; omega),z7]
  have h1:=z3o c
  have h2:=Gz k
  have h3:4294967296 ^ (k / 32)≤2 ^ k:=by rw[← h2]; exact Nat.le_mul_of_pos_right _ (Nat.pow_pos (by omega))
  rw[Nat.div_eq_of_lt (by omega),qz]
 ·rw[z8 (by simp; omega),vr _ (by omega)]
  have e5:zu (((zJ A).length:Int)-((k / 32:Nat):Int))=(((zJ A).length-k / 32:Nat):Int):=by rw[zQ (by omega) (by omega)]; omega
  have e6:uz (e:=.int .u32) ((k / 32:Nat):Int) ((zJ A).length:Int) (zJ A)=(zJ A).drop (k / 32):=by unfold uz; simp only[Int.toNat_natCast,List.take_length]
  obtain⟨r,g1,g2,g3,g4⟩:=R7 ((zJ A).drop (k / 32)) (iV hx _) (by simp; omega) (k % 32) (Nat.mod_lt _ (by omega))
  have hlen:((zJ A).drop (k / 32)).length=(zJ A).length-k / 32:=List.length_drop
  rw[hlen]at g1
  simp only[e5,e6,Int.toNat_natCast,List.length_replicate,hlen]
  rw[T.run_mk _ (by omega) (by omega) (by omega) (by omega),oh _ (by omega) (by omega) (by omega),ze _ rfl rfl rfl,zP,z6 g1]
  simp only[Nat.zero_add,List.drop_zero,List.take_length]
  rw[zP,z6 (wa r g2 (by omega)),z7,g4]
  have h1:=kM (zJ A) (k / 32) (by omega)
  rw[zS]at h1
  have h2:=uy hx (k / 32)
  have h3:A / 4294967296 ^ (k / 32)=nv ((zJ A).drop (k / 32)):=by
   refine(congrArg (· / 4294967296 ^ (k / 32)) h1).trans ?_
   rw[Nat.add_mul_div_left _ _ (QW _),Nat.div_eq_of_lt h2,Nat.zero_add]
  rw[← h3,Nat.div_div_eq_div_mul,Gz]
theorem HB(k:Nat)(l:List Int):nv (List.replicate k 0++l)=4294967296 ^ k*nv l:=by rw[gI]; simp
theorem YH(a:List Int)(ha:zw a)(la:a.length≤1000000000)(k:Nat)(hk:k≤4096):(cu a (k:Int)).run=some (zJ (nv a*2 ^ k)):=by
 have qa:=zW ha
 unfold cu
 rw[z6 (wa a ha (by omega))]
 generalize nv a=A at *
 have e1:wT (wc (k:Int) (-4096)) 4096=(k:Int):=by unfold wT wc; repeat' split<;>omega
 have e3:zu (Int.tdiv (k:Int) 32)=((k / 32:Nat):Int):=by rw[dA (by omega),zQ (by omega) (by omega)]; omega
 have e4:zx (Int.tmod (k:Int) 32)=((k % 32:Nat):Int):=by rw[dG (by omega),qA (by omega) (by omega)]; omega
 have hx:=zq A
 have e5:zu ((zJ A).length+1:Int)=(((zJ A).length+1:Nat):Int):=i1 _ (by omega)
 have e6:zu (zu (((k / 32:Nat):Int)+(zJ A).length)+1)=((k / 32+(zJ A).length+1:Nat):Int):=by rw[zQ (x:=((k / 32:Nat):Int)+(zJ A).length) (by omega) (by omega),zQ (by omega) (by omega)]; omega
 have JK:nv (zJ A)*2 ^ (k % 32)<4294967296 ^ ((zJ A).length+1):=by
  have h1:=yq hx
  have h2:2 ^ (k % 32)≤2 ^ 32:=Nat.pow_le_pow_right (by omega) (by omega)
  rw[Nat.pow_succ]
  exact Nat.mul_lt_mul_of_lt_of_le h1 h2 (by omega)
 obtain⟨r,g1,g2,g3,g4⟩:=HO (zJ A) hx (by omega) (k % 32) ((zJ A).length+1) (Nat.mod_lt _ (by omega)) (by omega) (by omega) JK
 simp only[e1,e3,e4,e5,e6]
 rw[z8 (by simp),vr _ (by omega),T.run_mk _ (by omega) (by omega) (by omega) (by omega),oh _ (by omega) (by simp; omega) (by simp),vr _ (by omega),z6 g1]
 simp only[Int.toNat_natCast,Nat.zero_add,List.length_replicate,List.drop_zero]
 rw[z2h _ rfl (by omega),zP]
 have ec:((ym (k / 32) (k / 32+(zJ A).length+1-k / 32) (List.replicate (k / 32+(zJ A).length+1) (0:Int)) r))=List.replicate (k / 32) 0++r:=by
  unfold ym
  rw[List.take_replicate,List.drop_replicate,List.take_of_length_le (by omega)]
  rw[show k / 32+(zJ A).length+1-(k / 32+min (k / 32+(zJ A).length+1-k / 32) r.length)=0 by omega]
  rw[show min (k / 32) (k / 32+(zJ A).length+1)=k / 32 by omega]
  simp
 rw[ec,List.take_of_length_le (by simp; omega)]
 rw[z6 (wa _ (oM.2 ⟨xy _,g2⟩) (by simp; omega)),z7,HB,g4,zS]
 congr 2
 rw[← Gz k]; grind
theorem Uo(a:List Int)(ha:zw a)(la:a.length≤1000000000):(od a 1).run=some (zJ (nv a*2)):=by
 have qa:=zW ha
 unfold od
 rw[z6 (w7 a ha (by omega))]
 generalize nv a=A at *
 have hx:=zq A
 have hxn:=zS A
 generalize zJ A=x at *
 have e1:wT (wc (1:Int) (-4096)) 4096=1:=by decide
 have e3:zu (Int.tdiv (1:Int) 32)=0:=by decide
 have e4:zx (Int.tmod (1:Int) 32)=1:=by decide
 have e5:zu ((x.length:Int)+1)=((x.length+1:Nat):Int):=i1 _ (by omega)
 simp only[e1,e3,e4]
 rw[z8 (by decide),vr _ (by omega),T.run_mk _ (by omega) (by omega) (by omega) (by omega),vr _ (by omega)]
 simp only[Int.toNat_zero,List.replicate_zero,List.length_nil]
 have loop:∃ r:List Int,(Zm x 1 (0,0,[])).run=some r∧zw r∧r.length=x.length+1∧nv r=A*2:=by
  refine T.xm (fun s:Int×Int×List Int=>∃ (c i:Nat),s.1=(c:Int)∧s.2.1=(i:Int)∧c<2 ^ 1∧i≤x.length+1∧zw s.2.2∧s.2.2.length=i∧nv s.2.2+c*4294967296 ^ i=nv (x.take i)*2 ^ 1)
   (fun s=>x.length+1-s.2.1.toNat) _ ?_ ⟨0,0,rfl,rfl,by omega,by omega,yj,rfl,by simp⟩
  rintro⟨_,_,xs⟩ ⟨c,i,rfl,rfl,hc,hi,hl,hn,hv⟩
  simp only at hl hn hv ⊢
  by_cases qu:i<x.length+1
  ·left
   have IE:=wu hx i
   obtain⟨s1,s2,s3⟩:=G1 hc IE (show 1<32 by omega)
   have w1:xZ .u64 (lm x i:Int) 1=((lm x i*2 ^ 1:Nat):Int):=Hl (s:=1) IE (by omega)
   have w2:qG (gT .u64 ((lm x i*2 ^ 1:Nat):Int) (c:Int))=((c+lm x i*2 ^ 1 % 4294967296:Nat):Int):=by
    rw[N4 (by omega) (by omega),Kj _ _ 1 hc,KE]; omega
   refine⟨(((lm x i*2 ^ 1 / 4294967296:Nat):Int),((i+1:Nat):Int),xs++[((c+lm x i*2 ^ 1 % 4294967296:Nat):Int)]),?_,⟨_,i+1,rfl,rfl,s3,by omega,Qx hl (by omega) (by omega),by simp; omega,?_⟩,by simp; omega⟩
   ·unfold cK
    simp only[yw,e5]
    rw[if_pos (by simp; omega),z6 (gM x hx i)]
    simp only[w1,w2,WG,i1 i (by omega)]
    simp(disch:=omega) [hn]
   ·simp only
    rw[HW,hn,qf,Nat.pow_succ,Int.toNat_natCast]
    exact K8 hv rfl
  ·right
   have QJ:i=x.length+1:=by omega
   subst QJ
   refine⟨xs,?_,hl,hn,?_⟩
   ·unfold cK
    simp[e5]
   ·rw[qT (by omega),hxn]at hv
    have h1:=yq hx
    rw[hxn]at h1
    rcases Nat.eq_zero_or_pos c with z | z
    ·subst z; omega
    ·have:=Nat.mul_le_mul_right (4294967296 ^ (x.length+1)) z
     rw[Nat.pow_succ]at this hv; omega
 obtain⟨xs,hr,hl,hn,hv⟩:=loop
 rw[ze _ rfl rfl rfl,zP,z6 hr]
 simp only[List.drop_zero,Nat.zero_add,List.take_length]
 rw[zP,z6 (w7 xs hl (by omega)),hv,z7]
theorem O0{u2 u1 u0 v1 v2:Nat}(h2:u2<4294967296)(h1:u1<4294967296)(h0:u0<4294967296)(hv1:v1<4294967296)(Xf:v2<4294967296)(hn:2147483648≤v1)
  (ht:u2*18446744073709551616+u1*4294967296+u0<(v1*4294967296+v2+1)*4294967296) :
  (fI (u2:Int) (u1:Int) (u0:Int) (v1:Int) (v2:Int)).run=some ((min ((u2*18446744073709551616+u1*4294967296+u0) / (v1*4294967296+v2)) 4294967295:Nat):Int):=by
 obtain⟨t1,t2⟩:=Of hn Xf ht
 have ti:=F3 (u2:=u2) (u1:=u1) (u0:=u0) (v1:=v1) (v2:=v2) (by omega) h0
 obtain⟨Q,hQ⟩:∃ Q,(u2*18446744073709551616+u1*4294967296+u0) / (v1*4294967296+v2)=Q:=⟨_,rfl⟩
 rw[hQ]at ti ⊢
 have hV:0<v1*4294967296+v2:=by omega
 have e1:=D9 (x:=(u2:Int)) (y:=(u1:Int)) (by omega) (by omega) (by omega) (by omega)
 have e2:(u2:Int)*4294967296+(u1:Int)=((u2*4294967296+u1:Nat):Int):=by omega
 have w1:zx (u1:Int)=u1:=gQ (by omega)
 have w2:zx (u2:Int)=u2:=gQ (by omega)
 have w0:zx (u0:Int)=u0:=gQ (by omega)
 have x1:zx (v1:Int)=v1:=gQ (by omega)
 have x2:zx (v2:Int)=v2:=gQ (by omega)
 have e3:Int.tdiv ((u2*4294967296+u1:Nat):Int) (v1:Int)=(((u2*4294967296+u1) / v1:Nat):Int):=by rw[dA (by omega)]; rfl
 have e4:Int.tmod ((u2*4294967296+u1:Nat):Int) (v1:Int)=(((u2*4294967296+u1) % v1:Nat):Int):=by rw[dG (by omega)]; rfl
 have hm:(u2*4294967296+u1) % v1<v1:=Nat.mod_lt _ (by omega)
 have Py:=Nat.div_add_mod (u2*4294967296+u1) v1
 rw[Nat.mul_comm]at Py
 have loop:∃ r:Int,(QZ (u0:Int) (v1:Int) (v2:Int) ((((u2*4294967296+u1) / v1:Nat):Int),(((u2*4294967296+u1) % v1:Nat):Int))).run=some r∧r=((min Q 4294967295:Nat):Int):=by
  refine T.xm (fun s:Int×Int=>∃ q r:Nat,s.1=(q:Int)∧s.2=(r:Int)∧q≤4294967297∧r<4294967296∧q*v1+r=u2*4294967296+u1∧min Q 4294967295≤q)
   (fun s=>s.1.toNat) _ ?_ ⟨_,_,rfl,rfl,t2,by omega,Py,by omega⟩
  rintro⟨_,_⟩ ⟨q,r,rfl,rfl,hq,hr,hqr,z2O⟩
  have e5:=D9 (x:=(r:Int)) (y:=(u0:Int)) (by omega) (by omega) (by omega) (by omega)
  have es:xc .u64 (q:Int) 32=((q / 4294967296:Nat):Int):=WG q
  by_cases hbig:4294967296≤q∨r*4294967296+u0<q*v2
  ·-- too many
   have hgt:min Q 4294967295<q:=by
    rcases hbig with h | h
    ·omega
    ·have:=RV hV (z0I (u2:=u2) (u1:=u1) (u0:=u0) (v1:=v1) (v2:=v2) hqr h)
     omega
   have ec:((xc .u64 (q:Int) 32 != 0)||decide (gT .u64 (xZ .u64 (r:Int) 32) (u0:Int)<zx ((q:Int)*(v2:Int))))=true:=by
    rw[es,e5]
    by_cases h:4294967296≤q
    ·have:(((q / 4294967296:Nat):Int) != 0)=true:=by simp; omega
     rw[this]; rfl
    ·have hh:r*4294967296+u0<q*v2:=hbig.resolve_left h
     have NH:=mK (x:=q) (y:=v2) (Nat.lt_of_not_le h) Xf
     have e6:(q:Int)*(v2:Int)=((q*v2:Nat):Int):=by simp
     rw[e6,gQ (Nat.lt_of_le_of_lt NH (by decide))]
     generalize q*v2=z at *
     rw[show decide ((r:Int)*4294967296+(u0:Int)<(z:Int))=true from decide_eq_true (by omega)]; simp
   have eq1:zx ((q:Int)-1)=((q-1:Nat):Int):=by rw[qA (by omega) (by omega)]; omega
   have er1:zx ((r:Int)+(v1:Int))=((r+v1:Nat):Int):=by rw[qA (by omega) (by omega)]; omega
   have hq1:(q-1)*v1+(r+v1)=u2*4294967296+u1:=by
    obtain⟨p,rfl⟩:∃ p,q=p+1:=⟨q-1,by omega⟩
    rw[Nat.add_mul]at hqr
    simp only[Nat.add_sub_cancel]; omega
   by_cases hover:4294967296≤r+v1
   ·right
    refine⟨((q-1:Nat):Int),?_,?_⟩
    ·unfold bj
     simp only[w0,x1,x2,eq1,er1]
     rw[zc ⟨by omega,fun _=>by omega⟩,za ec,jb _ (by omega),za (by rw[WG]; simp; omega),z7]
    ·-- what is left cannot be more
     have hq2:q-1≤Q:=by
      rw[← hQ,Nat.le_div_iff_mul_le hV]
      refine DY (u0:=u0) hq1 ?_
      have h3:q-1≤4294967295:=by
       rcases Nat.lt_or_ge 4294967296 q with h | h
       ·have hq3:q=4294967297:=by omega
        subst hq3
        simp only[Nat.add_one_sub_one]at hq1
        omega
       ·omega
      have h4:(q-1)*v2≤4294967295*4294967295:=Nat.mul_le_mul h3 (by omega)
      generalize (q-1)*v2=z at *
      omega
     have h5:q-1≤4294967295:=by
      rcases Nat.lt_or_ge 4294967296 q with h | h
      ·have hq3:q=4294967297:=by omega
       subst hq3
       simp only[Nat.add_one_sub_one]at hq1
       omega
      ·omega
     omega
   ·left
    refine⟨(((q-1:Nat):Int),((r+v1:Nat):Int)),?_,⟨q-1,r+v1,rfl,rfl,by omega,by omega,hq1,by omega⟩,by simp; omega⟩
    unfold bj
    simp only[w0,x1,x2,eq1,er1]
    rw[zc ⟨by omega,fun _=>by omega⟩,za ec,jb _ (by omega),z8 (by rw[WG]; simp; omega),z7]
  ·right
   have NH:=mK (x:=q) (y:=v2) (by omega) Xf
   have e6:(q:Int)*(v2:Int)=((q*v2:Nat):Int):=by simp
   have ec:((xc .u64 (q:Int) 32 != 0)||decide (gT .u64 (xZ .u64 (r:Int) 32) (u0:Int)<zx ((q:Int)*(v2:Int))))=false:=by
    have hz:q / 4294967296=0:=by omega
    rw[es,e5,e6,gQ (Nat.lt_of_le_of_lt NH (by decide)),hz]
    have hh:¬ (r*4294967296+u0<q*v2):=by omega
    generalize q*v2=z at *
    rw[show decide ((r:Int)*4294967296+(u0:Int)<(z:Int))=false from decide_eq_false (by omega)]; rfl
   refine⟨(q:Int),?_,?_⟩
   ·unfold bj
    simp only[w0,x1,x2]
    rw[zc ⟨by omega,fun _=>by omega⟩,z8 ec,z7]
   ·have hq2:q≤Q:=by
     rw[← hQ,Nat.le_div_iff_mul_le hV]
     exact DY hqr (by omega)
    omega
 obtain⟨r,hr,rfl⟩:=loop
 unfold fI
 have e7:zx (((u2*4294967296+u1) / v1:Nat):Int)=(((u2*4294967296+u1) / v1:Nat):Int):=gQ (by omega)
 simp only[w1,w2,x1,e1,e2,e3,e4,e7]
 rw[jb _ (by omega),vr _ (by omega),vr _ (by omega),z6 hr,z7]
theorem WY{x y b:Nat}(hx:x<4294967296)(hy:y<4294967296)(hb:b≤1) :
  (ue (x:Int) (y:Int) (b:Int)).run=some ((((x+4294967296*(if x<y+b then 1 else 0))-(y+b):Nat):Int),((if x<y+b then 1 else 0:Nat):Int)):=by
 have e1:=zbB hx hy hb
 have e2:=RF hx hy hb rfl
 unfold ue
 rw[jb _ (by omega),e1,e2,z7]
 have e3:(x+4294967296*(if x<y+b then 1 else 0))-y-b=(x+4294967296*(if x<y+b then 1 else 0))-(y+b):=by omega
 rw[e3]
 split<;>rfl
theorem Nz{x y b:Nat}(hx:x<4294967296)(hy:y<4294967296)(hb:b≤1) :
  (gj (x:Int) (y:Int) (b:Int)).run=some ((((x+y+b) % 4294967296:Nat):Int),(((x+y+b) / 4294967296:Nat):Int)):=by
 have e:zx (zx ((x:Int)+(y:Int))+(b:Int))=((x+y+b:Nat):Int):=by rw[qA (x:=(x:Int)+y) (by omega) (by omega),qA (by omega) (by omega)]; omega
 unfold gj
 rw[jb _ (by omega),gQ (by omega),gQ (by omega),gQ (by omega),e,WG,KE,ZF (by omega),z7]
theorem gG(xs:List Int)(o i:Nat)(x:Int):(xs.set (o+i) x).drop o=(xs.drop o).set i x:=by
 rw[List.drop_set,if_neg (by omega)]; congr 1; omega
theorem iP(xs:List Int)(o i:Nat):lm (xs.drop o) i=lm xs (o+i):=by
 unfold lm nth
 rw[show(((o+i:Nat):Int)).toNat=o+i by omega,Int.toNat_natCast]
 simp[List.getD_eq_getElem?_getD,List.getElem?_drop]
theorem S5{X X' P N c bo q v w lo hi d Y k:Nat}(h:X+q*N=Y+(bo+c)*P)(hs:X'+P*w=X+P*d)(hc:c+q*v=lo+4294967296*hi)(hd:d+(lo+bo)=w+4294967296*k) :
  X'+q*(N+P*v)=Y+(k+hi)*(P*4294967296):=by
 have e1:P*(d+(lo+bo))=P*(w+4294967296*k):=by rw[hd]
 have e2:P*(c+q*v)=P*(lo+4294967296*hi):=by rw[hc]
 have e3:X'+P*w+q*N+P*(c+q*v)+P*(lo+bo)=X'+q*(N+P*v)+(P*w+P*c+P*(lo+bo)):=by grind
 have e4:X'+P*w+q*N+P*(c+q*v)+P*(lo+bo)=Y+(k+hi)*(P*4294967296)+(P*w+P*c+P*(lo+bo)):=by
  rw[hs,e2]
  have e5:X+P*d+q*N+P*(lo+4294967296*hi)+P*(lo+bo)=(X+q*N)+P*(d+(lo+bo))+P*(lo+4294967296*hi):=by grind
  rw[e5,e1,h]; grind
 omega
theorem zbx{c q v:Nat}(hc:c<4294967296)(hq:q<4294967296)(hv:v<4294967296):zx ((c:Int)+zx ((q:Int)*(v:Int)))=((c+q*v:Nat):Int)∧(c+q*v) / 4294967296<4294967296:=by
 have h:=mK hq hv
 have e:(q:Int)*(v:Int)=((q*v:Nat):Int):=by simp
 rw[e]
 generalize q*v=z at *
 rw[qA (x:=(z:Int)) (by omega) (by omega),qA (by omega) (by omega)]
 omega
theorem z7S(b:List Int)(hb:zw b)(lb:b.length≤1000000000)(q:Nat)(hq:q<4294967296)(u:List Int)(hu:zw u)(o:Nat)(ho:o+b.length<u.length) :
  ∃ r:(Nat×Nat)×Int×Int×List Int,(tc b (q:Int) b (b.length:Int) ((o,b.length+1),0,0,0,u)).run=some r∧r.1=(o,b.length+1)∧∃ c bo:Nat,r.2.1=(c:Int)∧r.2.2.1=(bo:Int)∧c<4294967296∧bo≤1∧zw r.2.2.2 ∧
   r.2.2.2.length=u.length∧r.2.2.2.take o=u.take o∧(r.2.2.2.drop o).drop b.length=(u.drop o).drop b.length∧nv (r.2.2.2.drop o)+q*nv b=nv (u.drop o)+(bo+c)*4294967296 ^ b.length:=by
 refine T.xm (fun s:(Nat×Nat)×Int×Int×Int×List Int=>s.1=(o,b.length+1)∧∃ c bo i:Nat,s.2.1=(c:Int)∧s.2.2.1=(bo:Int)∧s.2.2.2.1=(i:Int)∧c<4294967296∧bo≤1∧i≤b.length∧zw s.2.2.2.2 ∧
   s.2.2.2.2.length=u.length∧s.2.2.2.2.take o=u.take o∧(s.2.2.2.2.drop o).drop i=(u.drop o).drop i∧nv (s.2.2.2.2.drop o)+q*nv (b.take i)=nv (u.drop o)+(bo+c)*4294967296 ^ i)
  (fun s=>b.length-s.2.2.2.1.toNat) _ ?_ ⟨rfl,0,0,0,rfl,rfl,rfl,by omega,by omega,by omega,hu,rfl,rfl,rfl,by simp⟩
 rintro⟨_,_,_,_,xs⟩ ⟨rfl,c,bo,i,rfl,rfl,rfl,hc,hbo,hi,hl,hn,ht,hd,hv⟩
 simp only at hl hn ht hd hv ⊢
 by_cases qu:i<b.length
 ·left
  have hw:=wu hb i
  have hx:=wu hl (o+i)
  obtain⟨m1,m2⟩:=zbx hc hq hw
  have hs:=WY hx (show(c+q*lm b i) % 4294967296<4294967296 by omega) hbo
  have Nq:lm xs (o+i)+4294967296*(if lm xs (o+i)<(c+q*lm b i) % 4294967296+bo then 1 else 0)-((c+q*lm b i) % 4294967296+bo)<4294967296:=by split<;>omega
  have Ph:(if lm xs (o+i)<(c+q*lm b i) % 4294967296+bo then 1 else 0)≤1:=by split<;>omega
  have hde:lm xs (o+i)+4294967296*(if lm xs (o+i)<(c+q*lm b i) % 4294967296+bo then 1 else 0)-((c+q*lm b i) % 4294967296+bo)+((c+q*lm b i) % 4294967296+bo)=lm xs (o+i)+4294967296*(if lm xs (o+i)<(c+q*lm b i) % 4294967296+bo then 1 else 0):=by split<;>omega
  generalize hD:lm xs (o+i)+4294967296*(if lm xs (o+i)<(c+q*lm b i) % 4294967296+bo then 1 else 0)-((c+q*lm b i) % 4294967296+bo)=D at *
  generalize hB:(if lm xs (o+i)<(c+q*lm b i) % 4294967296+bo then 1 else 0)=B2 at *
  refine⟨((o,b.length+1),((((c+q*lm b i) / 4294967296:Nat)):Int),(B2:Int),((i+1:Nat):Int),xs.set (o+i) (D:Int)),?_,
   ⟨rfl,(c+q*lm b i) / 4294967296,B2,i+1,rfl,rfl,rfl,m2,Ph,by omega,we hl _ Nq,by simpa using hn,?_,?_,?_⟩,by simp; omega⟩
  ·unfold bc
   have ew:zx (lm b i:Int)=lm b i:=gQ (by omega)
   simp only[xL,wE hb,Int.toNat_natCast,jO hl,ew,m1,KE,WG,i1 i (by omega)]
   rw[za (by simp; omega),qJ _ (by omega) (by omega),qJ _ (by omega) (by omega),jM _ rfl (by omega),z6 hs]
   simp only
   rw[qJ _ (by omega) (by omega),jM _ rfl (by omega),jb _ (by omega),zP,zy _ (by simp),z7]
  ·simp only
   rw[List.take_set_of_le (by omega),ht]
  ·simp only
   rw[gG,jv]
   have:=congrArg (List.drop 1) hd
   rw[List.drop_drop,List.drop_drop,]at this
   simpa[Nat.add_assoc,Nat.add_comm]using this
  ·simp only
   rw[gG,qf,Nat.pow_succ]
   have lj:=WC (a:=xs.drop o) (i:=i) (D:Int) (by simp; omega)
   rw[Int.toNat_natCast,iP]at lj
   exact S5 (lo:=(c+q*lm b i) % 4294967296) hv lj (by generalize c+q*lm b i=z; omega) hde
 ·right
  have:i=b.length:=by omega
  subst this
  refine⟨((o,b.length+1),(c:Int),(bo:Int),xs),?_,rfl,c,bo,rfl,rfl,hc,hbo,hl,hn,ht,hd,by simpa[List.take_length]using hv⟩
  unfold bc
  simp
theorem Tv{X X' P N m v w d hi Y:Nat}(h:X+m*P=Y+N)(hs:X'+P*w=X+P*d)(hd:d+4294967296*hi=w+v+m):X'+hi*(P*4294967296)=Y+(N+P*v):=by
 have e1:P*(d+4294967296*hi)=P*(w+v+m):=by rw[hd]
 have e2:X'+hi*(P*4294967296)+(P*w+P*m)=Y+(N+P*v)+(P*w+P*m):=by
  have e3:X'+hi*(P*4294967296)+(P*w+P*m)=(X'+P*w)+P*(4294967296*hi)+P*m:=by grind
  rw[e3,hs]
  have e4:X+P*d+P*(4294967296*hi)+P*m=(X+m*P)+P*(d+4294967296*hi):=by grind
  rw[e4,e1,h]; grind
 omega
theorem z77(b:List Int)(hb:zw b)(lb:b.length≤1000000000)(u:List Int)(hu:zw u)(o:Nat)(ho:o+b.length<u.length) :
  ∃ r:(Nat×Nat)×Int×List Int,(rS b b (b.length:Int) ((o,b.length+1),0,0,u)).run=some r∧r.1=(o,b.length+1)∧∃ m:Nat,r.2.1=(m:Int)∧m≤1∧zw r.2.2 ∧
   r.2.2.length=u.length∧r.2.2.take o=u.take o∧(r.2.2.drop o).drop b.length=(u.drop o).drop b.length∧nv (r.2.2.drop o)+m*4294967296 ^ b.length=nv (u.drop o)+nv b:=by
 refine T.xm (fun s:(Nat×Nat)×Int×Int×List Int=>s.1=(o,b.length+1)∧∃ m i:Nat,s.2.1=(m:Int)∧s.2.2.1=(i:Int)∧m≤1∧i≤b.length∧zw s.2.2.2 ∧
   s.2.2.2.length=u.length∧s.2.2.2.take o=u.take o∧(s.2.2.2.drop o).drop i=(u.drop o).drop i∧nv (s.2.2.2.drop o)+m*4294967296 ^ i=nv (u.drop o)+nv (b.take i))
  (fun s=>b.length-s.2.2.1.toNat) _ ?_ ⟨rfl,0,0,rfl,rfl,by omega,by omega,hu,rfl,rfl,rfl,by simp⟩
 rintro⟨_,_,_,xs⟩ ⟨rfl,m,i,rfl,rfl,hm,hi,hl,hn,ht,hd,hv⟩
 simp only at hl hn ht hd hv ⊢
 by_cases qu:i<b.length
 ·left
  have hw:=wu hb i
  have hx:=wu hl (o+i)
  have hs:=Nz hx hw hm
  refine⟨((o,b.length+1),(((lm xs (o+i)+lm b i+m) / 4294967296:Nat):Int),((i+1:Nat):Int),xs.set (o+i) (((lm xs (o+i)+lm b i+m) % 4294967296:Nat):Int)),?_,
   ⟨rfl,_,i+1,rfl,rfl,by omega,by omega,we hl _ (by omega),by simpa using hn,?_,?_,?_⟩,by simp; omega⟩
  ·unfold bD
   simp only[xL,wE hb,Int.toNat_natCast,jO hl,i1 i (by omega)]
   rw[za (by simp; omega),qJ _ (by omega) (by omega),qJ _ (by omega) (by omega),jM _ rfl (by omega),z6 hs]
   simp only
   rw[qJ _ (by omega) (by omega),jM _ rfl (by omega),zP,zy _ (by simp),z7]
  ·simp only
   rw[List.take_set_of_le (by omega),ht]
  ·simp only
   rw[gG,jv]
   have:=congrArg (List.drop 1) hd
   rw[List.drop_drop,List.drop_drop,]at this
   simpa[Nat.add_assoc,Nat.add_comm]using this
  ·simp only
   rw[gG,qf,Nat.pow_succ]
   have lj:=WC (a:=xs.drop o) (i:=i) (((lm xs (o+i)+lm b i+m) % 4294967296:Nat):Int) (by simp; omega)
   rw[Int.toNat_natCast,iP]at lj
   exact Tv hv lj (by omega)
 ·right
  have:i=b.length:=by omega
  subst this
  refine⟨((o,b.length+1),(m:Int),xs),?_,rfl,m,rfl,hm,hl,hn,ht,hd,by simpa[List.take_length]using hv⟩
  unfold bD
  simp
theorem rR{D:List Int}(hl:zw D)(k:Nat)(hk:k≤D.length)(h:nv D<4294967296 ^ k):nv (D.drop k)=0:=by
 have h1:=kM D k hk
 rcases Nat.eq_zero_or_pos (nv (D.drop k))with z | z
 ·exact z
 ·have:=Nat.mul_le_mul_left (4294967296 ^ k) z
  omega
theorem QU{D:List Int}(hl:zw D)(k:Nat)(hk:k≤D.length)(h:nv (D.drop k)=0):nv D<4294967296 ^ k:=by
 have h1:=kM D k hk
 have h2:=uy hl k
 rw[h]at h1; omega
theorem PO{X X' P q N c bo w d Y k:Nat}(h:X+q*N=Y+(bo+c)*P)(hs:X'+P*w=X+P*d)(hd:d+(c+bo)=w+4294967296*k):X'+q*N=Y+k*(P*4294967296):=by
 have e1:P*(d+(c+bo))=P*(w+4294967296*k):=by rw[hd]
 have e2:X'+q*N+(P*w+P*(c+bo))=Y+k*(P*4294967296)+(P*w+P*(c+bo)):=by
  have e3:X'+q*N+(P*w+P*(c+bo))=(X'+P*w)+q*N+P*(c+bo):=by grind
  rw[e3,hs]
  have e4:X+P*d+q*N+P*(c+bo)=(X+q*N)+P*(d+(c+bo)):=by grind
  rw[e4,h,e1]; grind
 omega
theorem RZ{Z Y X U P L m p N:Nat}(h1:Z+P*L=Y+P*((L+m) % 4294967296))(h2:Y+m*P=X+N)(h3:X+(p+1)*N=U+1*(P*4294967296))(h4:Z<P*4294967296)(h5:(p+1)*N≤U+N)
  (hm:m≤1) (hL:L<4294967296):Z+(p+1-1)*N=U:=by
 rw[ES]at h3 h5
 rw[Nat.add_sub_cancel]
 rw[Nat.mul_comm m P]at h2
 by_cases hov:L+m<4294967296
 ·rw[Nat.mod_eq_of_lt hov,Nat.mul_add]at h1
  generalize P*L=a at *
  generalize P*m=b at *
  generalize p*N=c at *
  omega
 ·have zfi:(L+m) % 4294967296=0:=by omega
  have e5:P*(L+m)=P*4294967296:=by congr 1; omega
  rw[zfi,Nat.mul_zero]at h1
  rw[Nat.mul_add]at e5
  generalize P*L=a at *
  generalize P*m=b at *
  generalize p*N=c at *
  omega
theorem Nd(b:List Int)(hb:zw b)(lb:b.length≤1000000000)(q:Nat)(hq:q<4294967296)(u:List Int)(hu:zw u)(lu:u.length≤4000000000)(o:Nat)(ho:o+b.length<u.length)
  (JK:nv (u.drop o)<4294967296 ^ (b.length+1)) (zcI:q*nv b≤nv (u.drop o)+nv b) :
  ∃ xs:List Int,(lD (o,b.length+1) b (q:Int) u).run=some (decide (nv (u.drop o)<q*nv b),xs)∧zw xs∧xs.length=u.length∧xs.take o=u.take o ∧
   nv (xs.drop o)+(if nv (u.drop o)<q*nv b then q-1 else q)*nv b=nv (u.drop o):=by
 obtain⟨⟨_,_,_,xs⟩,hr,rfl,c,bo,rfl,rfl,hc,hbo,hl,hn,ht,hd,hv⟩:=z7S b hb lb q hq u hu o ho
 simp only at hl hn ht hd hv
 have hBl:=yq hb
 have hx:=wu hl (o+b.length)
 have hs:=WY hx hc hbo
 have Nq:lm xs (o+b.length)+4294967296*(if lm xs (o+b.length)<c+bo then 1 else 0)-(c+bo)<4294967296:=by split<;>omega
 have Ph:(if lm xs (o+b.length)<c+bo then 1 else 0)≤1:=by split<;>omega
 have hde:lm xs (o+b.length)+4294967296*(if lm xs (o+b.length)<c+bo then 1 else 0)-(c+bo)+(c+bo)=lm xs (o+b.length)+4294967296*(if lm xs (o+b.length)<c+bo then 1 else 0):=by split<;>omega
 generalize lm xs (o+b.length)+4294967296*(if lm xs (o+b.length)<c+bo then 1 else 0)-(c+bo)=D at *
 generalize (if lm xs (o+b.length)<c+bo then 1 else 0)=B2 at *
 have lj:=WC (a:=xs.drop o) (i:=b.length) (D:Int) (by simp; omega)
 rw[Int.toNat_natCast,iP,← gG]at lj
 have z6F:=PO hv lj hde
 have TG:zw (xs.set (o+b.length) (D:Int)):=we hl _ Nq
 have El:(xs.set (o+b.length) (D:Int)).length=u.length:=by simpa using hn
 have ht1:(xs.set (o+b.length) (D:Int)).take o=u.take o:=by rw[List.take_set_of_le (by omega),ht]
 have O3:((xs.set (o+b.length) (D:Int)).drop o).drop (b.length+1)=(u.drop o).drop (b.length+1):=by
  rw[gG,jv]
  have:=congrArg (List.drop 1) hd
  rw[List.drop_drop,List.drop_drop]at this
  simpa[Nat.add_assoc,Nat.add_comm]using this
 have hz:=rR (iV hu o) (b.length+1) (by simp; omega) JK
 have Tw:nv ((xs.set (o+b.length) (D:Int)).drop o)<4294967296 ^ (b.length+1):=QU (iV TG o) _ (by simp; omega) (by rw[O3]; exact hz)
 have zh1:(4294967296:Nat) ^ (b.length+1)=4294967296 ^ b.length*4294967296:=Nat.pow_succ ..
 have ec:qG (c:Int)=c:=ZF hc
 unfold lD
 rw[zy _ rfl,zy _ rfl,z6 hr]
 simp only[Int.toNat_natCast,xL,jO hl,ec]
 rw[qJ _ (by omega) (by omega),jM _ rfl (by omega),z6 hs]
 simp only
 rw[qJ _ (by omega) (by omega),jM _ rfl (by omega)]
 generalize hX:xs.set (o+b.length) (D:Int)=X at *
 rcases Nat.eq_zero_or_pos B2 with z | z
 ·subst z
  rw[za (by simp),zy _ (by omega),z7]
  have Ic:¬ (nv (u.drop o)<q*nv b):=by omega
  refine⟨X,by rw[decide_eq_false Ic],TG,El,ht1,?_⟩
  rw[if_neg Ic]; omega
 ·have hB2:B2=1:=by omega
  subst hB2
  have qu:nv (u.drop o)<q*nv b:=by omega
  obtain⟨⟨_,_,ys⟩,hr2,rfl,m,rfl,hm,iI,Yo,Ny,hd2,Xf⟩:=z77 b hb lb X TG o (by omega)
  simp only at iI Yo Ny hd2 Xf
  have hy:=wu iI (o+b.length)
  have eu:qG ((lm ys (o+b.length):Int)+(m:Int))=(((lm ys (o+b.length)+m) % 4294967296:Nat):Int):=by rw[← KE]; rfl
  rw[z8 (by simp),zP,zy _ (by omega),z6 hr2]
  simp only[Int.toNat_natCast,xL,jO iI,eu]
  rw[qJ _ (by omega) (by omega),jM _ rfl (by omega),qJ _ (by omega) (by omega),jM _ rfl (by omega),zy _ (by simp),z7]
  have z4w:=WC (a:=ys.drop o) (i:=b.length) (((lm ys (o+b.length)+m) % 4294967296:Nat):Int) (by simp; omega)
  rw[Int.toNat_natCast,iP,← gG]at z4w
  have hl3:zw (ys.set (o+b.length) (((lm ys (o+b.length)+m) % 4294967296:Nat):Int)):=we iI _ (by omega)
  have hd3:((ys.set (o+b.length) (((lm ys (o+b.length)+m) % 4294967296:Nat):Int)).drop o).drop (b.length+1)=(u.drop o).drop (b.length+1):=by
   rw[gG,jv,← O3]
   have:=congrArg (List.drop 1) hd2
   rw[List.drop_drop,List.drop_drop]at this
   simpa[Nat.add_assoc,Nat.add_comm]using this
  have z9x:nv ((ys.set (o+b.length) (((lm ys (o+b.length)+m) % 4294967296:Nat):Int)).drop o)<4294967296 ^ (b.length+1):=QU (iV hl3 o) _ (by simp; omega) (by rw[hd3]; exact hz)
  refine⟨_,by rw[decide_eq_true qu],hl3,by simp; omega,?_,?_⟩
  ·rw[List.take_set_of_le (by omega),Ny,ht1]
  ·rw[if_pos qu]
   generalize nv ((ys.set (o+b.length) (((lm ys (o+b.length)+m) % 4294967296:Nat):Int)).drop o)=Z at *
   obtain⟨p,rfl⟩:∃ p,q=p+1:=⟨q-1,by
    rcases Nat.eq_zero_or_pos q with h | h
    ·subst h; omega
    ·omega⟩
   rw[zh1]at z9x
   exact RZ z4w Xf z6F z9x zcI hm hy
def oP:zf:=[0,1,2,2,3,3,3,3,4,4,4,4,4,4,4,4]++List.replicate 16 5++List.replicate 32 6++List.replicate 64 7++List.replicate 128 8
theorem O9:∀ y:Fin 256,y.val≠0→1≤(oP.getD y.val 0).toNat∧(oP.getD y.val 0).toNat≤8∧2 ^ ((oP.getD y.val 0).toNat-1)≤y.val∧y.val<2 ^ (oP.getD y.val 0).toNat:=by decide +kernel
set_option maxRecDepth 100000 in
theorem Ia:oP.length=256:=by decide +kernel
theorem len8{y:Nat}(h0:0<y)(h:y<256):∃ t:Nat,wG oP (y:Int)=(t:Int)∧1≤t∧t≤8∧2 ^ (t-1)≤y∧y<2 ^ t:=by
 have:=O9 ⟨y,h⟩ (by simp; omega)
 refine⟨(oP.getD y 0).toNat,?_,this⟩
 unfold wG
 rw[Int.toNat_natCast]
theorem B0{x s:Nat}(hs:s≤32):xc .u32 (x:Int) (s:Int)=((x / 2 ^ s:Nat):Int):=by
 have e:min (s:Int).toNat 32=s:=by simp; omega
 show Int.fdiv (x:Int) (2 ^ (min (s:Int).toNat 32))=_
 rw[e]
 have e2:(2:Int) ^ s=((2 ^ s:Nat):Int):=by simp
 rw[e2,Int.fdiv_eq_ediv_of_nonneg _ (Int.natCast_nonneg _)]; rfl
set_option maxRecDepth 100000 in
theorem ND{x:Nat}(h0:0<x)(h:x<4294967296):∃ t:Nat,(gm (x:Int)).run=some (t:Int)∧1≤t∧t≤32∧2 ^ (t-1)≤x∧x<2 ^ t:=by
 have zfz:gm (x:Int)=(.zd (((decide ((65536:Int)≤(x:Int)))=true)→((0:Int)≤(16:Int))) <|
  .zd (((decide ((256:Int)≤(bif (decide ((65536:Int)≤(x:Int)))then(xc .u32 (x:Int) (16:Int))else(x:Int))))=true)→((0:Int)≤(8:Int))) <|
  .zd (zi (MR (bif (decide ((256:Int)≤(bif (decide ((65536:Int)≤(x:Int)))then(xc .u32 (x:Int) (16:Int))else(x:Int))))then(xc .u32 (bif (decide ((65536:Int)≤(x:Int)))then(xc .u32 (x:Int) (16:Int))else(x:Int)) (8:Int))else(bif (decide ((65536:Int)≤(x:Int)))then(xc .u32 (x:Int) (16:Int))else(x:Int)))) oP.length) <|
  .ret (zu ((bif (decide ((256:Int)≤(bif (decide ((65536:Int)≤(x:Int)))then(xc .u32 (x:Int) (16:Int))else(x:Int))))then(zu ((bif (decide ((65536:Int)≤(x:Int)))then(16:Int)else(0:Int))+(8:Int)))else(bif (decide ((65536:Int)≤(x:Int)))then(16:Int)else(0:Int)))+(zu (wG oP (MR (bif (decide ((256:Int)≤(bif (decide ((65536:Int)≤(x:Int)))then(xc .u32 (x:Int) (16:Int))else(x:Int))))then(xc .u32 (bif (decide ((65536:Int)≤(x:Int)))then(xc .u32 (x:Int) (16:Int))else(x:Int)) (8:Int))else(bif (decide ((65536:Int)≤(x:Int)))then(xc .u32 (x:Int) (16:Int))else(x:Int)))))))):T Int):=by rfl
 rw[zfz,Ia]
 -- y: what is left; k: how many bits ahead of it
 obtain⟨y,k,e1,e2,hk,TI,hy,hlo,hhi⟩:∃ y k:Nat,(bif (decide ((256:Int)≤(bif (decide ((65536:Int)≤(x:Int)))then(xc .u32 (x:Int) (16:Int))else(x:Int))))then(xc .u32 (bif (decide ((65536:Int)≤(x:Int)))then(xc .u32 (x:Int) (16:Int))else(x:Int)) (8:Int))else(bif (decide ((65536:Int)≤(x:Int)))then(xc .u32 (x:Int) (16:Int))else(x:Int)))=(y:Int) ∧
   (bif (decide ((256:Int)≤(bif (decide ((65536:Int)≤(x:Int)))then(xc .u32 (x:Int) (16:Int))else(x:Int))))then(zu ((bif (decide ((65536:Int)≤(x:Int)))then(16:Int)else(0:Int))+(8:Int)))else(bif (decide ((65536:Int)≤(x:Int)))then(16:Int)else(0:Int)))=(k:Int) ∧
   k≤24∧0<y∧y<256∧y*2 ^ k≤x∧x<(y+1)*2 ^ k:=by
  have s16:xc .u32 (x:Int) 16=((x / 65536:Nat):Int):=B0 (s:=16) (by omega)
  have s8:∀ z:Nat,xc .u32 (z:Int) 8=((z / 256:Nat):Int):=fun z=>B0 (s:=8) (by omega)
  by_cases c1:65536≤x
  ·rw[show decide ((65536:Int)≤(x:Int))=true from decide_eq_true (by omega)]
   simp only[cond_true,s16]
   by_cases c2:256≤x / 65536
   ·rw[show decide ((256:Int)≤((x / 65536:Nat):Int))=true from decide_eq_true (by omega)]
    simp only[cond_true,s8]
    exact⟨x / 65536 / 256,24,rfl,by decide,by omega,by omega,by omega,by omega,by omega⟩
   ·rw[show decide ((256:Int)≤((x / 65536:Nat):Int))=false from decide_eq_false (by omega)]
    simp only[cond_false]
    exact⟨x / 65536,16,rfl,rfl,by omega,by omega,by omega,by omega,by omega⟩
  ·rw[show decide ((65536:Int)≤(x:Int))=false from decide_eq_false (by omega)]
   simp only[cond_false]
   by_cases c2:256≤x
   ·rw[show decide ((256:Int)≤(x:Int))=true from decide_eq_true (by omega)]
    simp only[cond_true,s8]
    exact⟨x / 256,8,rfl,by decide,by omega,by omega,by omega,by omega,by omega⟩
   ·rw[show decide ((256:Int)≤(x:Int))=false from decide_eq_false (by omega)]
    simp only[cond_false]
    exact⟨x,0,rfl,rfl,by omega,by omega,by omega,by omega,by omega⟩
 obtain⟨t,t1,t2,t3,t4,t5⟩:=len8 TI hy
 rw[e1,e2,z0i (by omega) (by omega),t1,zQ (x:=(t:Int)) (by omega) (by omega),zQ (by omega) (by omega)]
 refine⟨k+t,?_,by omega,by omega,?_,?_⟩
 ·rw[zc (fun _=>by omega),zc (fun _=>by omega),qJ _ (by omega) (by omega),z7]; rfl
 ·rw[show k+t-1=(t-1)+k by omega,Nat.pow_add]
  exact Nat.le_trans (Nat.mul_le_mul_right _ t4) hlo
 ·rw[show k+t=t+k by omega,Nat.pow_add]
  exact Nat.lt_of_lt_of_le hhi (Nat.mul_le_mul_right _ t5)
theorem So{x:Nat}(h0:0<x)(h:x<4294967296):∃ s:Nat,(wW (x:Int)).run=some (s:Int)∧s<32∧2147483648≤x*2 ^ s∧x*2 ^ s<4294967296:=by
 obtain⟨t,t1,t2,t3,t4,t5⟩:=ND h0 h
 refine⟨32-t,?_,by omega,?_,?_⟩
 ·unfold wW
  rw[z6 t1,z7,zQ (by omega) (by omega)]
  congr 1; omega
 ·have:=Nat.mul_le_mul_right (2 ^ (32-t)) t4
  rw[← Nat.pow_add,show t-1+(32-t)=31 by omega]at this
  exact this
 ·have:=Nat.mul_lt_mul_of_pos_right t5 (show 0<2 ^ (32-t)from Nat.pow_pos (by omega))
  rw[← Nat.pow_add,show t+(32-t)=32 by omega]at this
  exact this
theorem horner(a b c:Nat):(a*4294967296+b)*4294967296+c=a*18446744073709551616+b*4294967296+c:=by
 rw[Nat.add_mul,Nat.mul_assoc]
theorem EO{u2 u1 u0 v1 v2:Nat}(h2:u2<4294967296)(h1:u1<4294967296)(h0:u0<4294967296)(hv1:v1<4294967296)(Xf:v2<4294967296)(hn:2147483648≤v1)
  (ht:(u2*4294967296+u1)*4294967296+u0<(v1*4294967296+v2+1)*4294967296) :
  (fI (u2:Int) (u1:Int) (u0:Int) (v1:Int) (v2:Int)).run=some ((min (((u2*4294967296+u1)*4294967296+u0) / (v1*4294967296+v2)) 4294967295:Nat):Int):=by
 rw[horner]at ht ⊢
 exact O0 h2 h1 h0 hv1 Xf hn ht
theorem z0h(a b P t:Nat):t+P*b+P*4294967296*a=(a*4294967296+b)*P+t:=by grind
theorem za9(d:List Int)(n:Nat)(hn:d.length=n+2):nv d=(lm d (n+1)*4294967296+lm d n)*4294967296 ^ n+nv (d.take n):=by
 have h1:=qf d n
 have h2:=qf d (n+1)
 rw[qT (by omega)]at h2
 rw[h2,h1,Nat.pow_succ,z0h]
theorem z0H{B a b c P t0 t1 t2 t3:Nat}(h1:t1=t0+P*c)(h2:t2=t1+P*B*b)(h3:t3=t2+P*B*B*a):t3=((a*B+b)*B+c)*P+t0:=by
 rw[h3,h2,h1]; grind
theorem zdZ(w:List Int)(n:Nat)(h:nv (w.drop (n+1+1+1))=0):nv w=((lm w (n+1+1)*4294967296+lm w (n+1))*4294967296+lm w n)*4294967296 ^ n+nv (w.take n):=by
 have h0:nv w=nv (w.take (n+1+1+1)):=by
  by_cases c:n+1+1+1≤w.length
  ·have:=kM w (n+1+1+1) c
   rw[h,Nat.mul_zero,Nat.add_zero]at this; exact this
  ·rw[qT (by omega)]
 have h1:=qf w n
 have h2:=qf w (n+1)
 have h3:=qf w (n+1+1)
 rw[Nat.pow_succ]at h2
 rw[Nat.pow_succ,Nat.pow_succ,← h0]at h3
 exact z0H h1 h2 h3
theorem Fw{a b:List Int}{k i:Nat}(h:a.take k=b.take k)(hi:i<k):lm a i=lm b i:=by
 have e:=congrArg (fun l=>l[i]?) h
 simp only[List.getElem?_take,if_pos hi]at e
 unfold lm nth
 rw[List.getD_eq_getElem?_getD,List.getD_eq_getElem?_getD,Int.toNat_natCast,e]
theorem z8q{U3 V2 D X Y U V:Nat}(hU:U=U3*D+X)(hV:V=V2*D+Y)(hY:Y<D)(hUV:U<V*4294967296):U3<(V2+1)*4294967296:=by
 have h1:U3*D<(V2+1)*4294967296*D:=by
  have e:(V2+1)*4294967296*D=(V2*D+D)*4294967296:=by grind
  rw[e]
  have:V*4294967296≤(V2*D+D)*4294967296:=Nat.mul_le_mul_right _ (by omega)
  omega
 exact Nat.lt_of_mul_lt_mul_right h1
theorem NV(d:List Int)(hd:zw d)(n:Nat)(hn:d.length=n+2)(Co:2147483648≤lm d (n+1))(w:List Int)(hw:zw w)(hwl:n+1+1+1≤w.length)(hW:nv w<nv d*4294967296) :
  ∃ x:Nat,(fI (lm w (n+1+1):Int) (lm w (n+1):Int) (lm w n:Int) (lm d (n+1):Int) (lm d n:Int)).run=some (x:Int)∧x<4294967296∧nv w / nv d≤x∧x≤nv w / nv d+1∧nv w<4294967296 ^ (d.length+1):=by
 have Nq:=yq hd
 have hdt:=za9 d n hn
 have hdn:=uy hd n
 have hWp:nv w<4294967296 ^ (d.length+1):=by
  rw[Nat.pow_succ]
  exact Nat.lt_of_lt_of_le hW (Nat.mul_le_mul_right _ (Nat.le_of_lt Nq))
 have hz:=rR hw (d.length+1) (by omega) hWp
 rw[show d.length+1=n+1+1+1 by omega]at hz
 have ht3:=zdZ w n hz
 have hwn:=uy hw n
 have hU3:=z8q ht3 hdt hdn hW
 refine⟨_,EO (wu hw _) (wu hw _) (wu hw _) (wu hd _) (wu hd _) Co hU3,?_,?_,?_,hWp⟩
 ·exact Nat.lt_of_le_of_lt (Nat.min_le_right _ _) (by decide)
 ·refine(Mf ht3 hwn hdt hdn ?_ hW rfl).1
  exact Nat.le_trans (Nat.mul_le_mul_right 4294967296 Co) (Nat.le_add_right _ _)
 ·refine(Mf ht3 hwn hdt hdn ?_ hW rfl).2
  exact Nat.le_trans (Nat.mul_le_mul_right 4294967296 Co) (Nat.le_add_right _ _)
theorem zgP{W V x:Nat}(g2:x≤W / V+1):x*V≤W+V:=by
 have h1:=Nat.mul_le_mul_right V g2
 have h2:=Nat.div_mul_le_self W V
 rw[Nat.add_mul,Nat.one_mul]at h1
 omega
theorem digit{W V x:Nat}(hV:0<V)(g1:W / V≤x)(g2:x≤W / V+1):(if W<x*V then x-1 else x)=W / V:=by
 have Py:=Nat.div_add_mod W V
 have hml:=Nat.mod_lt W hV
 have hz:0≤W / V:=Nat.zero_le _
 split
 ·rename_i c
  have:x≠W / V:=by
   intro h
   rw[h,Nat.mul_comm]at c; omega
  generalize W / V=z at *
  omega
 ·rename_i c
  have hle:x≤W / V:=(Nat.le_div_iff_mul_le hV).2 (by omega)
  exact Nat.le_antisymm hle g1
theorem z7G{l N V:Nat}(hl:l<4294967296)(hN:N<V):l+4294967296*N<V*4294967296:=by
 have:=Nat.mul_le_mul_left 4294967296 (show N+1≤V from hN)
 omega
theorem NM{l N Q V z r R:Nat}(h:r+z*V=l+4294967296*N)(hR:R=Q*V+N):l+4294967296*R=(z+4294967296*Q)*V+r:=by
 rw[hR]
 have e:(z+4294967296*Q)*V+r=(r+z*V)+4294967296*(Q*V):=by grind
 rw[e,h]; omega
theorem Fv(d:List Int)(hd:zw d)(n:Nat)(hn:d.length=n+2)(ln:n≤999999990)(Co:2147483648≤lm d (n+1))(y:Int)(i:Nat)(li:i≤1000000000)(u q:List Int)(hl:zw u)(lu:u.length≤2000000000)(hiu:i+d.length<u.length)
  (hq:zw q) (hiq:i<q.length) (qu:nv (u.drop (i+1))<nv d) :
  ∃ (xs:List Int) (z:Nat),(dF y d ((n+2:Nat):Int) ((i:Int),u,q)).run=some (.inl ((i:Int)-1,xs,q.set i (z:Int)))∧z<4294967296∧zw xs∧xs.length=u.length∧xs.take i=u.take i∧nv (xs.drop i)<nv d ∧
   nv (xs.drop i)+z*nv d=lm u i+4294967296*nv (u.drop (i+1)):=by
 have hwd:=Z2 (a:=u) (i:=i) (by omega)
 have hW:=z7G (wu hl i) qu
 rw[← hwd]at hW
 obtain⟨x,hg,hx,g1,g2,hWp⟩:=NV d hd n hn Co (u.drop i) (iV hl i) (by rw[List.length_drop]; omega) hW
 have hdp:0<nv d:=Nat.lt_of_le_of_lt (Nat.zero_le _) qu
 obtain⟨xs,hr,IE,hxn,hxt,I0⟩:=Nd d hd (by omega) x hx u hl (by omega) i hiu hWp (zgP g2)
 have z5A:=digit hdp g1 g2
 rw[z5A]at I0
 rw[iP,iP,iP]at hg
 have hdq:nv (u.drop i) / nv d<4294967296:=Nat.lt_of_le_of_lt g1 hx
 have z1V:nv (xs.drop i)<nv d:=by
  have h1:=Nat.div_add_mod (nv (u.drop i)) (nv d)
  have h2:=Nat.mod_lt (nv (u.drop i)) hdp
  rw[Nat.mul_comm]at h1
  omega
 refine⟨xs,nv (u.drop i) / nv d,?_,hdq,IE,hxn,hxt,z1V,by rw[I0,hwd]⟩
 have hx1:∀ c:Bool,c=decide (nv (u.drop i)<x*nv d)→(if c=true then zx ((x:Int)-1)else(x:Int))=((nv (u.drop i) / nv d:Nat):Int):=by
  intro c hc
  rw[← z5A]
  by_cases cc:nv (u.drop i)<x*nv d
  ·have J5:x≠0:=by intro h; subst h; omega
   rw[hc,decide_eq_true cc,if_pos rfl,if_pos cc,qA (by omega) (by omega)]; omega
  ·rw[hc,decide_eq_false cc,if_neg (by simp),if_neg cc]
 generalize nv (u.drop i) / nv d=z at *
 clear g1 g2 I0 z5A hW hWp qu z1V hwd
 have ei:zu ((i:Int)-1)=(i:Int)-1:=zQ (by omega) (by omega)
 have a0:zu ((i:Int)+((n+2:Nat):Int))=((i+(n+1+1):Nat):Int):=by rw[zQ (by omega) (by omega)]; omega
 have a1:zu (((i+(n+1+1):Nat):Int)-1)=((i+(n+1):Nat):Int):=by rw[zQ (by omega) (by omega)]; omega
 have a2:zu (((i+(n+1+1):Nat):Int)-2)=((i+n:Nat):Int):=by rw[zQ (by omega) (by omega)]; omega
 have a3:zu (((n+2:Nat):Int)-1)=((n+1:Nat):Int):=by rw[zQ (by omega) (by omega)]; omega
 have a4:zu (((n+2:Nat):Int)-2)=((n:Nat):Int):=by rw[zQ (by omega) (by omega)]; omega
 have a5:zu (((i+(n+1+1):Nat):Int)+1)=((i+(n+1+1)+1:Nat):Int):=i1 _ (by omega)
 have zgc:i+(n+1+1)+1-i=d.length+1:=by omega
 unfold dF
 simp only[ei,a0,a1,a2,a3,a4,a5]
 rw[za (by simp)]
 rw[qJ _ (by omega) (by omega),jM _ rfl (by omega),qJ _ (by omega) (by omega),jM _ rfl (by omega),qJ _ (by omega) (by omega),jM _ rfl (by omega),qJ _ (by omega) (by omega),qJ _ (by omega) (by omega)]
 simp only[Int.toNat_natCast,Nat.zero_add,xL,jO hl,wE hd,zgc]
 rw[z6 hg]
 have hc:=hx1 _ rfl
 rw[z6 (a:=((z:Int),xs,q)) ?_]
 ·simp only[ZF hdq]
  rw[qJ _ (by omega) (by omega),jM _ rfl (by omega),ze _ (by simp) rfl (by simp),ze _ rfl rfl rfl,zP,zy _ (by simp),z7]
 ·rw[oh _ (by omega) (by omega) (by omega),zP,zP,z6 hr]
  simp only[yw]
  by_cases cc:nv (u.drop i)<x*nv d
  ·rw[if_pos (decide_eq_true cc)]at hc ⊢
   rw[ze _ rfl rfl rfl,ze _ (by omega) rfl (by omega),zP,zP,z7,hc]
  ·rw[if_neg (by simpa using cc)]at hc ⊢
   rw[ze _ rfl rfl rfl,ze _ (by omega) rfl (by omega),zP,zP,z7,hc]
theorem Nn(d:List Int)(hd:zw d)(m n:Nat)(hn:d.length=n+2)(hm:n+2≤m)(lm':m≤999999990)(Co:2147483648≤lm d (n+1))(u0:List Int)(hu0:zw u0)(hlu:u0.length=m+1)
  (xR:nv (u0.drop (m-(n+2)+1))<nv d) (y:Int) :
  ∃ r:List Int×List Int,(Ua y d ((n+2:Nat):Int) (((m-(n+2):Nat):Int),u0,List.replicate (m-(n+2)+1) 0)).run=some r∧zw r.1∧r.1.length=m+1∧zw r.2∧r.2.length=m-(n+2)+1∧nv r.1<nv d∧nv u0=nv r.2*nv d+nv r.1:=by
 refine T.xm (fun s:Int×List Int×List Int=>∃ k:Nat,s.1=(k:Int)-1∧k≤m-(n+2)+1∧zw s.2.1∧s.2.1.length=m+1∧zw s.2.2∧s.2.2.length=m-(n+2)+1∧s.2.1.take k=u0.take k ∧
   nv (s.2.1.drop k)<nv d∧nv (u0.drop k)=nv (s.2.2.drop k)*nv d+nv (s.2.1.drop k))
  (fun s=>(s.1+1).toNat) _ ?_ ⟨m-(n+2)+1,by simp,Nat.le_refl _,hu0,hlu,xy _,by simp,rfl,xR,by simp⟩
 rintro⟨_,u,q⟩ ⟨k,rfl,hk,hl,hul,hq,hql,htk,qu,hv⟩
 simp only at hl hul hq hql htk qu hv ⊢
 cases k with
 | zero =>
  right
  refine⟨(u,q),?_,hl,hul,hq,hql,by simpa using qu,by simpa using hv⟩
  unfold dF
  simp
 | succ i =>
  left
  obtain⟨xs,z,hr,hz,IE,hxn,hxt,hxm,I0⟩:=Fv d hd n hn (by omega) Co y i (by omega) u q hl (by omega) (by omega) hq (by omega) qu
  have e1:((i+1:Nat):Int)-1=(i:Int):=by omega
  refine⟨((i:Int)-1,xs,q.set i (z:Int)),by rw[e1]; exact hr,⟨i,rfl,by omega,IE,hxn.trans hul,we hq _ hz,by simpa using hql,?_,hxm,?_⟩,by simp⟩
  ·simp only
   rw[hxt]
   have:=congrArg (List.take i) htk
   rwa [List.take_take,List.take_take,show min i (i+1)=i by omega]at this
  ·simp only
   rw[set_drop _ (by omega),Int.toNat_natCast,Z2 (a:=u0) (by omega),← Fw htk (show i<i+1 by omega)]
   exact NM I0 hv
theorem z01{A B S Q R:Nat}(hS:0<S)(h:A*S=Q*(B*S)+R)(hR:R<B*S):Q=A / B∧R / S=A % B:=by
 have hB:0<B:=Nat.pos_of_ne_zero fun z=>by subst z; simp at hR
 have h1:=Nat.div_add_mod R S
 have h2:=Nat.mod_lt R hS
 -- R is a multiple of S
 have h3:A*S=S*(Q*B+R / S)+R % S:=by
  have e:Q*(B*S)=S*(Q*B):=by grind
  rw[h,e,Nat.mul_add]; omega
 have h4:R % S=0:=by
  have:=congrArg (· % S) h3
  simp only[Nat.mul_mod_left]at this
  rw[Nat.add_comm,Nat.add_mul_mod_self_left,Nat.mod_mod]at this
  exact this.symm
 rw[h4,Nat.add_zero,Nat.mul_comm A]at h3
 have h5:=Nat.eq_of_mul_eq_mul_left hS h3
 have h6:R / S<B:=(Nat.div_lt_iff_lt_mul hS).2 hR
 constructor
 ·rw[h5,Nat.mul_comm,Nat.mul_add_div hB,Nat.div_eq_of_lt h6,Nat.add_zero]
 ·rw[h5,Nat.mul_comm,Nat.mul_add_mod,Nat.mod_eq_of_lt h6]
theorem RX{A S P D V X:Nat}(hA:A<D*P)(hS:S≤2147483648)(hV:2147483648*P≤V)(hX:X*D≤A*S)(hD:0<D)(hS0:0<S):X<V:=by
 have h1:A*S<D*V:=by
  have a1:A*S<D*P*S:=Nat.mul_lt_mul_of_pos_right hA hS0
  have a2:D*P*S≤D*V:=by
   have:P*S≤V:=by
    have:=Nat.mul_le_mul_left P hS
    rw[Nat.mul_comm P 2147483648]at this
    exact Nat.le_trans this hV
   rw[Nat.mul_assoc]
   exact Nat.mul_le_mul_left D this
  omega
 have h2:X*D<V*D:=by rw[Nat.mul_comm V]; exact Nat.lt_of_le_of_lt hX h1
 exact Nat.lt_of_mul_lt_mul_right h2
theorem HE(a b:List Int)(ha:zw a)(hb:zw b)(la:a.length≤100000000)(n:Nat)(hbn:b.length=n+2)(hba:b.length≤a.length)(Co:lm b (n+1)≠0) :
  (XM a b).run=some (zJ (nv a / nv b),zJ (nv a % nv b)):=by
 have ht:=wu hb (n+1)
 obtain⟨s,hs,OZ,hs2,hs3⟩:=So (x:=lm b (n+1)) (by omega) ht
 have zdu:2 ^ s≤2147483648:=by
  have:2 ^ s≤2 ^ 31:=Nat.pow_le_pow_right (by omega) (by omega)
  exact this
 have Z1:0<2 ^ s:=Nat.pow_pos (by omega)
 have hBt:=za9 b n hbn
 -- the divisor
 have z50:nv b*2 ^ s<4294967296 ^ b.length:=by
  have h1:=qf b (n+1)
  rw[qT (by omega)]at h1
  have h2:=uy hb (n+1)
  have h3:nv b<4294967296 ^ (n+1)*(lm b (n+1)+1):=by rw[h1,Nat.mul_add]; omega
  rw[hbn]
  have h4:(lm b (n+1)+1)*2 ^ s≤4294967296:=by
   have hm:4294967296=2 ^ (32-s)*2 ^ s:=kY s (by omega)
   have h5:lm b (n+1)<2 ^ (32-s):=by
    rw[hm]at hs3
    exact Nat.lt_of_mul_lt_mul_right hs3
   have:=Nat.mul_le_mul_right (2 ^ s) (show lm b (n+1)+1≤2 ^ (32-s)from h5)
   rw[← hm]at this; exact this
  have h5:nv b*2 ^ s<4294967296 ^ (n+1)*(lm b (n+1)+1)*2 ^ s:=Nat.mul_lt_mul_of_pos_right h3 Z1
  have h6:4294967296 ^ (n+1)*(lm b (n+1)+1)*2 ^ s≤4294967296 ^ (n+2):=by
   rw[Nat.mul_assoc,Nat.pow_succ 4294967296 (n+1)]
   exact Nat.mul_le_mul_left _ h4
  exact Nat.lt_of_lt_of_le h5 h6
 obtain⟨d,hd,Nq,hdn,hdv⟩:=tn b hb (by omega) s b.length OZ (Nat.le_refl _) (by omega) z50
 have zbh:nv a*2 ^ s<4294967296 ^ (a.length+1):=by
  have h1:=yq ha
  rw[Nat.pow_succ]
  exact Nat.mul_lt_mul_of_lt_of_le h1 (Nat.le_trans zdu (by omega)) (by omega)
 obtain⟨u,hu,hul,hun,huv⟩:=tn a ha (by omega) s (a.length+1) OZ (by omega) (by omega) zbh
 -- ry highest limb
 have z4h:2147483648≤lm d (n+1):=by
  have h1:=qf d (n+1)
  rw[qT (by omega),hdv]at h1
  have h2:=uy Nq (n+1)
  have h3:=qf b (n+1)
  rw[qT (by omega)]at h3
  have h4:4294967296 ^ (n+1)*(lm b (n+1)*2 ^ s)≤nv b*2 ^ s:=by
   rw[← Nat.mul_assoc]
   exact Nat.mul_le_mul_right _ (by omega)
  have h5:4294967296 ^ (n+1)*2147483648≤nv b*2 ^ s:=Nat.le_trans (Nat.mul_le_mul_left _ hs2) h4
  have h6:4294967296 ^ (n+1)*2147483648<4294967296 ^ (n+1)*(lm d (n+1)+1):=by
   rw[Nat.mul_add]; omega
  have:=Nat.lt_of_mul_lt_mul_left h6
  omega
 have xR:nv (u.drop (a.length-(n+2)+1))<nv d:=by
  have h1:=kM u (a.length-(n+2)+1) (by omega)
  have h2:nv (u.drop (a.length-(n+2)+1))*4294967296 ^ (a.length-(n+2)+1)≤nv a*2 ^ s:=by
   rw[← huv,h1,Nat.mul_comm]; omega
  have h3:2147483648*4294967296 ^ (n+1)≤nv d:=by
   have h4:=qf d (n+1)
   rw[qT (by omega)]at h4
   have h5:=Nat.mul_le_mul_left (4294967296 ^ (n+1)) z4h
   rw[Nat.mul_comm 2147483648]; omega
  have h4:nv a<4294967296 ^ (a.length-(n+2)+1)*4294967296 ^ (n+1):=by
   rw[← Nat.pow_add,show a.length-(n+2)+1+(n+1)=a.length by omega]
   exact yq ha
  exact RX h4 zdu h3 h2 (QW _) Z1
 obtain⟨⟨xu,xq⟩,hr,hxu,hxun,hxq,hxqn,hxlt,I0⟩:=Nn d Nq a.length n (by omega) (by omega) (by omega) z4h u hul (by omega) xR (s:Int)
 simp only at hxu hxun hxq hxqn hxlt I0
 rw[huv,hdv]at I0
 rw[hdv]at hxlt
 obtain⟨f1,f2⟩:=z01 Z1 I0 hxlt
 -- the text
 have e1:zu ((b.length:Int)-1)=((n+1:Nat):Int):=by rw[zQ (by omega) (by omega)]; omega
 have es:zx (s:Int)=s:=gQ (by omega)
 have e2:zu ((a.length:Int)+1)=((a.length+1:Nat):Int):=i1 _ (by omega)
 have e3:zu (zu ((a.length:Int)-((n+2:Nat):Int))+1)=((a.length-(n+2)+1:Nat):Int):=by rw[zQ (x:=(a.length:Int)-((n+2:Nat):Int)) (by omega) (by omega),zQ (by omega) (by omega)]; omega
 have e4:zu (((a.length-(n+2)+1:Nat):Int)-1)=((a.length-(n+2):Nat):Int):=im1 _ (by omega)
 have e5:zu (s:Int)=s:=zQ (by omega) (by omega)
 have e6:zu (0-(s:Int)) = -(s:Int):=by rw[zQ (by omega) (by omega)]; omega
 unfold XM
 simp only[e1,e2,xL,wE hb]
 rw[qJ _ (by omega) (by omega),z6 hs]
 simp only[es]
 rw[z6 hu,z6 hd]
 simp only[e3,e4,e5,e6,Int.toNat_natCast,List.length_replicate,Nat.zero_add,List.drop_zero,List.take_length,hdn,hbn]
 rw[T.run_mk _ (by omega) (by omega) (by omega) (by omega),zP,ze _ rfl rfl rfl,ze _ rfl rfl rfl,zP,zP]
 have zgh:d.take (n+2)=d:=List.take_of_length_le (by omega)
 simp only[zgh]
 rw[z6 hr]
 simp only[List.take_length]
 rw[zP,zP,z6 (wa xq hxq (by omega)),oh _ (by omega) (by omega) (by omega)]
 have ec:uz (e:=.int .u32) 0 ((n+2:Nat):Int) xu=xu.take (n+2):=by unfold uz; simp only[Int.toNat_natCast,Int.toNat_zero,List.drop_zero]
 have hxt:nv (xu.take (n+2))=nv xu:=by
  have h1:=kM xu (n+2) (by omega)
  have h2:=rR hxu (n+2) (by omega) (Nat.lt_trans hxlt (by rw[← hbn]; exact z50))
  rw[h2]at h1; omega
 rw[ec]
 have hsh:(cu (xu.take (n+2)) (-(s:Int))).run=some (zJ (nv xu / 2 ^ s)):=by
  rcases Nat.eq_zero_or_pos s with z | z
  ·subst z
   have:=YH (xu.take (n+2)) (o7 hxu _) (by simp; omega) 0 (by omega)
   rw[hxt]at this
   simpa using this
  ·have:=YN (xu.take (n+2)) (o7 hxu _) (by simp; omega) s (by omega) z
   rw[hxt]at this
   exact this
 rw[z6 hsh,z7,f2,f1]
theorem z16{A:Nat}(k:Nat)(h:(zJ A).length=k+1):lm (zJ A) k≠0:=by
 intro hz
 have h1:=qf (zJ A) k
 rw[qT (by omega),hz,Nat.mul_zero,Nat.add_zero,zS]at h1
 have h2:=uy (zq A) k
 have:=qe.2 (show A<4294967296 ^ k by omega)
 omega
theorem bU(a b:List Int)(ha:zw a)(hb:zw b)(la:a.length≤100000000)(lb:b.length≤100000000) :
  (gx a b).run=some (if nv b=0 then([],[],false)else(zJ (nv a / nv b),zJ (nv a % nv b),true)):=by
 have qa:=zW ha
 have qb:=zW hb
 unfold gx
 rw[z6 (wa a ha (by omega)),z6 (wa b hb (by omega))]
 generalize nv a=A at *
 generalize nv b=B at *
 by_cases hB:B=0
 ·subst hB
  rw[qz]; simp
 ·have uv:(zJ B).length≠0:=by
   intro h
   exact hB (xB.1 (List.eq_nil_of_length_eq_zero h))
  rw[if_neg hB,z8 (by simpa using uv),z6 (lM _ _ (zq A) (zq B) (by omega) (by omega)),zS,zS]
  by_cases qu:A<B
  ·rw[za (by unfold iO; rw[if_pos qu]; rfl),z6 (mO _ (zq A) (by omega)),z7,zS,Nat.div_eq_of_lt qu,Nat.mod_eq_of_lt qu,qz]
  ·rw[z8 (by unfold iO; rw[if_neg qu]; split<;>simp)]
   by_cases h1:(zJ B).length=1
   ·-- by one limb
    have BN:zJ B=[(B:Int)]:=by
     rw[yb hB]at h1 ⊢
     have:B / 4294967296=0:=by
      have:(zJ (B / 4294967296)).length=0:=by simpa using h1
      exact xB.1 (List.eq_nil_of_length_eq_zero this)
     rw[this,qz]
     congr 1; omega
    have hBl:B<4294967296:=by
     have:=qe.1 (Nat.le_of_eq h1)
     simpa using this
    have e0:nth (zJ B) 0 0=(B:Int):=by rw[BN]; rfl
    have hm:=Nat.mod_lt A (Nat.pos_of_ne_zero hB)
    have hs:=ZR (zJ A) (zq A) (by omega) B (by omega) hBl
    rw[zS]at hs
    rw[za (by rw[h1]; rfl),qJ _ (by omega) (by omega)]
    simp only[xL,e0]
    rw[z6 hs]
    simp only[gQ (show A % B<18446744073709551616 by omega)]
    rw[z6 (kL _ (by omega)),z7]
   ·obtain⟨n,hn⟩:∃ n,(zJ B).length=n+2:=⟨(zJ B).length-2,by omega⟩
    have hle:(zJ B).length≤(zJ A).length:=by
     rcases Nat.lt_or_ge (zJ A).length (zJ B).length with h | h
     ·exact absurd (mW h) qu
     ·exact h
    have hl:=HE (zJ A) (zJ B) (zq A) (zq B) (by omega) n hn hle (z16 (n+1) (by omega))
    rw[zS,zS]at hl
    rw[z8 (by simp; omega),z6 hl,z7]
theorem Vr(a b:List Int)(ha:zw a)(hb:zw b)(la:a.length≤100000000)(lb:b.length≤100000000):(Xx a b).run=some (zJ (Nat.gcd (nv a) (nv b))):=by
 have qa:=zW ha
 have qb:=zW hb
 unfold Xx
 rw[z6 (mO a ha (by omega)),z6 (mO b hb (by omega))]
 generalize nv a=A at *
 generalize nv b=B at *
 have key:(Jj (zJ A,zJ B)).run=some (zJ (Nat.gcd A B)):=by
  have:=uo (r:=iY) (fun s:List Int×List Int=>∃ A B:Nat,s=(zJ A,zJ B)∧(zJ A).length≤100000000∧(zJ B).length≤100000000)
   (fun s=>nv s.2) (fun s=>zJ (Nat.gcd (nv s.1) (nv s.2))) ?_ (s:=(zJ A,zJ B)) ⟨A,B,rfl,by omega,by omega⟩
  ·rw[zS,zS]at this; exact this
  ·rintro _ ⟨A,B,rfl,hA,hB'⟩
   simp only[zS]
   by_cases hB:B=0
   ·right
    subst hB
    unfold iY
    rw[qz]; simp
   ·left
    have hd:=bU (zJ A) (zJ B) (zq A) (zq B) hA hB'
    rw[zS,zS,if_neg hB]at hd
    have hm:=Nat.mod_lt A (Nat.pos_of_ne_zero hB)
    have uv:(zJ B).length≠0:=fun h=>hB (xB.1 (List.eq_nil_of_length_eq_zero h))
    refine⟨(zJ B,zJ (A % B)),?_,⟨B,A % B,rfl,hB',?_⟩,by simpa using hm,?_⟩
    ·unfold iY
     rw[za (by simp; omega),z6 hd,z7]
    ·have:(zJ (A % B)).length≤(zJ B).length:=qe.2 (Nat.lt_trans hm (qe.1 (Nat.le_refl _)))
     omega
    ·simp only[zS]
     rw[Nat.gcd_comm,← Nat.gcd_rec,Nat.gcd_comm]
 rw[z6 key,z7]
theorem z44{a:List Int}(ha:zw a)(j:Nat):lm a j=nv a / 4294967296 ^ j % 4294967296:=by
 by_cases h:j<a.length
 ·have h1:=kM a j (by omega)
  have h2:=uy ha j
  have h3:=Z2 (a:=a) h
  have h4:=wu ha j
  have h5:nv a / 4294967296 ^ j=nv (a.drop j):=by
   refine(congrArg (· / 4294967296 ^ j) h1).trans ?_
   rw[Nat.add_mul_div_left _ _ (QW _),Nat.div_eq_of_lt h2,Nat.zero_add]
  rw[h5,h3]; omega
 ·rw[Dc (by omega)]
  have h1:=yq ha
  have h2:4294967296 ^ a.length≤4294967296 ^ j:=Nat.pow_le_pow_right (by omega) (by omega)
  rw[Nat.div_eq_of_lt (by omega)]
theorem z6K{a:List Int}(ha:zw a)(i:Nat):lm a (i / 32) / 2 ^ (i % 32) % 2=nv a / 2 ^ i % 2:=by
 rw[z44 ha,← Gz i]
 generalize hs:i % 32=s
 have hs2:s<32:=by omega
 rw[← Nat.div_div_eq_div_mul]
 generalize nv a / 4294967296 ^ (i / 32)=z
 have e:4294967296=2 ^ s*2 ^ (32-s):=by rw[Nat.mul_comm]; exact kY s (by omega)
 rw[e,Nat.mod_mul_right_div_self]
 have e2:2 ∣ 2 ^ (32-s):=⟨2 ^ (31-s),by rw[← Nat.pow_succ']; congr 1; omega⟩
 exact Nat.mod_mod_of_dvd _ e2
theorem z2f{D B t:Nat}(hB:0<B)(ht:t≤1) :
  (D*2+t) / B=D / B*2+(if B≤D % B*2+t then 1 else 0)∧(D*2+t) % B=(D % B*2+t)-(if B≤D % B*2+t then B else 0):=by
 have h1:=Nat.div_add_mod D B
 have h2:=Nat.mod_lt D hB
 generalize D / B=q at *
 generalize D % B=r at *
 subst h1
 have e:(B*q+r)*2+t=B*(q*2)+(r*2+t):=by grind
 rw[e,Nat.mul_add_div hB,Nat.mul_add_mod]
 split
 ·rename_i c
  have e2:r*2+t=B+(r*2+t-B):=by omega
  rw[e2,Nat.add_div_left _ hB,Nat.add_mod_left,Nat.div_eq_of_lt (by omega),Nat.mod_eq_of_lt (by omega)]
  omega
 ·rename_i c
  rw[Nat.div_eq_of_lt (by omega),Nat.mod_eq_of_lt (by omega)]; omega
theorem Ot(A i:Nat):A / 2 ^ i=A / 2 ^ (i+1)*2+A / 2 ^ i % 2:=by
 rw[Nat.pow_succ,← Nat.div_div_eq_div_mul]
 have:=Nat.div_add_mod (A / 2 ^ i) 2
 omega
theorem z7N{x s:Nat}(hs:s<32)(hx:x<4294967296)(hd:2 ^ (s+1) ∣ x):gT .u32 (x:Int) (xZ .u32 1 (s:Int))=((x+2 ^ s:Nat):Int)∧x+2 ^ s<4294967296:=by
 have hp:2 ^ s<4294967296:=Nat.pow_lt_pow_right (by omega) (show s<32 by omega)
 have e1:xZ .u32 1 (s:Int)=((2 ^ s:Nat):Int):=by
  have e:min (s:Int).toNat 32=s:=by simp; omega
  show qG ((1:Int)*2 ^ (min (s:Int).toNat 32))=_
  rw[e,Int.one_mul]
  have e2:(2:Int) ^ s=((2 ^ s:Nat):Int):=by simp
  rw[e2,ZF hp]
 obtain⟨m,rfl⟩:=hd
 rw[e1,W4 hx hp]
 have e3:2 ^ (s+1)*m ||| 2 ^ s=2 ^ (s+1)*m+2 ^ s:=by
  rw[Nat.mul_comm]
  exact Kj m (2 ^ s) (s+1) (Nat.pow_lt_pow_right (by omega) (by omega))
 rw[e3]
 refine⟨rfl,?_⟩
 have e4:(4294967296:Nat)=2 ^ (s+1)*2 ^ (31-s):=by rw[← Nat.pow_add,show s+1+(31-s)=32 by omega]
 rw[e4]at hx ⊢
 have h5:m<2 ^ (31-s):=Nat.lt_of_mul_lt_mul_left hx
 have h6:=Nat.mul_le_mul_left (2 ^ (s+1)) (show m+1≤2 ^ (31-s)from h5)
 rw[Nat.mul_add,Nat.mul_one]at h6
 have h7:2 ^ s<2 ^ (s+1):=Nat.pow_lt_pow_right (by omega) (by omega)
 exact Nat.lt_of_lt_of_le (Nat.add_lt_add_left h7 _) h6
theorem z5Z{xs:List Int}(h:zw xs)(i M:Nat)(hv:nv xs=M*2 ^ (i+1)):2 ^ (i % 32+1) ∣ lm xs (i / 32):=by
 rw[z44 h,hv]
 have e1:2 ^ (i+1)=4294967296 ^ (i / 32)*2 ^ (i % 32+1):=by
  rw[Nat.pow_succ,← Gz i,Nat.pow_succ,Nat.mul_assoc]
 rw[e1]
 have e2:M*(4294967296 ^ (i / 32)*2 ^ (i % 32+1)) / 4294967296 ^ (i / 32)=M*2 ^ (i % 32+1):=by
  have:M*(4294967296 ^ (i / 32)*2 ^ (i % 32+1))=4294967296 ^ (i / 32)*(M*2 ^ (i % 32+1)):=by grind
  rw[this,Nat.mul_div_cancel_left _ (QW _)]
 rw[e2]
 have e3:(4294967296:Nat)=2 ^ (31-i % 32)*2 ^ (i % 32+1):=by rw[← Nat.pow_add,show 31-i % 32+(i % 32+1)=32 by omega]
 rw[e3,Nat.mul_mod_mul_right]
 exact⟨_,Nat.mul_comm _ _⟩
theorem z2V{X P l t M z:Nat}(h:X+P*l=M*(z*2)+P*(l+t))(h2:P*t=z):X=(M*2+1)*z:=by
 rw[Nat.mul_add,h2]at h
 have e:(M*2+1)*z=M*(z*2)+z:=by grind
 rw[e]; omega
theorem z1x{xs:List Int}(i M:Nat)(hi:i / 32<xs.length)(hv:nv xs=M*2 ^ (i+1)):nv (xs.set (i / 32) ((lm xs (i / 32)+2 ^ (i % 32):Nat):Int))=(M*2+1)*2 ^ i:=by
 have h:=WC (a:=xs) (i:=i / 32) ((lm xs (i / 32)+2 ^ (i % 32):Nat):Int) hi
 rw[Int.toNat_natCast,hv]at h
 have h2:=Gz i
 rw[Nat.pow_succ]at h
 exact z2V h h2
theorem Rb{D B t k:Nat}(hB:0<B)(hk:B<4294967296 ^ k):(zJ (D % B)).length≤k∧(zJ (D % B*2)).length≤k+1:=by
 have h1:D % B<4294967296 ^ k:=Nat.lt_trans (Nat.mod_lt _ hB) hk
 refine⟨qe.2 h1,qe.2 ?_⟩
 rw[Nat.pow_succ]
 have h2:D % B*2<4294967296 ^ k*2:=Nat.mul_lt_mul_of_pos_right h1 (by omega)
 exact Nat.lt_of_lt_of_le h2 (Nat.mul_le_mul_left _ (by omega))
theorem Jf:zw [(1:Int)]:=by
 intro x hx; simp at hx; omega
theorem Ig(a b:List Int)(ha:zw a)(hb:zw b)(la:a.length≤100000000)(lb:b.length≤100000000)(hB:0<nv b)(i:Nat)(hi:i<32*a.length)(xs:List Int)(hl:zw xs)(hn:xs.length=a.length)
  (hv:nv xs=nv a / 2 ^ (i+1) / nv b*2 ^ (i+1)) :
  ∃ ys:List Int,(uL a b (zJ (nv a / 2 ^ (i+1) % nv b),(i:Int),xs)).run=some (.inl (zJ (nv a / 2 ^ i % nv b),(i:Int)-1,ys))∧zw ys∧ys.length=a.length∧nv ys=nv a / 2 ^ i / nv b*2 ^ i:=by
 have zha:=z6K ha i
 have z4A:=Ot (nv a) i
 have hx:=wu ha (i / 32)
 have IE:=wu hl (i / 32)
 obtain⟨q1,q2⟩:=Rb (D:=nv a / 2 ^ (i+1)) (t:=0) hB (yq hb)
 obtain⟨k1,k2⟩:=z2f (D:=nv a / 2 ^ (i+1)) hB (show nv a / 2 ^ i % 2≤1 by omega)
 rw[← z4A]at k1 k2
 obtain⟨o1,o2⟩:=z7N (s:=i % 32) (by omega) IE (z5Z hl i _ hv)
 have hsb:=z1x (xs:=xs) i _ (by omega) hv
 have hsh:=Uo (zJ (nv a / 2 ^ (i+1) % nv b)) (zq _) (by omega)
 rw[zS]at hsh
 have hv0:nv a / 2 ^ (i+1) / nv b*2 ^ (i+1)=nv a / 2 ^ (i+1) / nv b*2*2 ^ i:=by rw[Nat.pow_succ,Nat.mul_comm (2 ^ i) 2,Nat.mul_assoc]
 rw[hv0]at hv
 clear z4A hv0
 generalize nv a / 2 ^ (i+1)=D at *
 generalize nv a / 2 ^ i=D0 at *
 have Jy:=X0 (zJ (D % nv b*2)) [1] (zq _) Jf (by omega) (by simp)
 rw[zS,show nv [1]=1 from rfl]at Jy
 have ht1:D0 % 2≤1:=by omega
 generalize D0 % 2=t at *
 have q3:(zJ (D % nv b*2+t)).length≤b.length+1:=by
  refine qe.2 ?_
  rw[Nat.pow_succ]
  have h1:=Nat.mod_lt D hB
  have h2:=yq hb
  have h3:D % nv b*2+t<4294967296 ^ b.length*2:=by omega
  exact Nat.lt_of_lt_of_le h3 (Nat.mul_le_mul_left _ (by omega))
 have z69:=nT (zJ (D % nv b*2+t)) b (zq _) hb (by omega) (by omega)
 have Ir:=XZ (zJ (D % nv b*2+t)) b (zq _) hb (by omega) (by omega)
 rw[zS]at z69 Ir
 have e1:zu (Int.tdiv (i:Int) 32)=((i / 32:Nat):Int):=by rw[dA (by omega),zQ (by omega) (by omega)]; omega
 have e2:zx (Int.tmod (i:Int) 32)=((i % 32:Nat):Int):=by rw[dG (by omega),qA (by omega) (by omega)]; omega
 have e3:zu ((i:Int)-1)=(i:Int)-1:=zQ (by omega) (by omega)
 have e4:FP .u32 (xc .u32 (lm a (i / 32):Int) ((i % 32:Nat):Int)) 1=(t:Int):=by
  rw[B0 (by omega)]
  have:=Y3 (x:=lm a (i / 32) / 2 ^ (i % 32)) (y:=1) (Nat.lt_of_le_of_lt (Nat.div_le_self _ _) hx) (by omega)
  rw[Nat.and_one_is_mod,zha]at this
  exact this
 have hbl:=we (a:=xs) hl (i / 32) o2
 by_cases c:nv b≤D % nv b*2+t
 ·rw[if_pos c]at k1 k2
  rw[if_neg (by omega)]at Ir
  refine⟨xs.set (i / 32) ((lm xs (i / 32)+2 ^ (i % 32):Nat):Int),?_,hbl,by simpa using hn,?_⟩
  ·unfold uL
   simp only[e1,e2,e3,xL,wE ha,e4,Int.toNat_natCast,Nat.zero_add,jO hl,o1]
   rw[za (by simp),z6 hsh]
   rw[z6 (a:=(zJ (D % nv b*2+t),xs)) ?_]
   rotate_left
   ·rw[vr _ (by omega),qJ _ (by omega) (by omega),vr _ (by omega),jb _ (by omega)]
    have:t=0∨t=1:=by omega
    rcases this with rfl | rfl
    ·rw[z8 (by decide),ze _ rfl rfl rfl,zP,z7]; rfl
    ·rw[za (by decide),z6 Jy,ze _ rfl rfl rfl,zP,z7]
   simp only
   rw[z6 z69,za (by unfold iO; rw[if_neg (by omega)]; split<;>simp),z6 Ir]
   simp only
   rw[vr _ (by omega),vr _ (by omega),qJ _ (by omega) (by omega),jM _ rfl (by omega),vr _ (by omega),jb _ (by omega),qJ _ (by omega) (by omega),jM _ rfl (by omega),
    ze _ (by simp) rfl (by simp),zy _ (by simp),z7,k2,jO hl,o1]
  ·rw[hsb,k1]
 ·rw[if_neg c]at k1 k2
  refine⟨xs,?_,hl,hn,?_⟩
  ·unfold uL
   simp only[e1,e2,e3,xL,wE ha,e4,Int.toNat_natCast,Nat.zero_add,jO hl,o1]
   rw[za (by simp),z6 hsh]
   rw[z6 (a:=(zJ (D % nv b*2+t),xs)) ?_]
   rotate_left
   ·rw[vr _ (by omega),qJ _ (by omega) (by omega),vr _ (by omega),jb _ (by omega)]
    have:t=0∨t=1:=by omega
    rcases this with rfl | rfl
    ·rw[z8 (by decide),ze _ rfl rfl rfl,zP,z7]; rfl
    ·rw[za (by decide),z6 Jy,ze _ rfl rfl rfl,zP,z7]
   simp only
   rw[z6 z69,z8 (by unfold iO; rw[if_pos (by omega)]; rfl),ze _ rfl rfl rfl,zP,z7,k2,Nat.sub_zero]
  ·rw[hv,k1,Nat.add_zero]
theorem NW(a b:List Int)(ha:zw a)(hb:zw b)(la:a.length≤100000000)(lb:b.length≤100000000)(hB:0<nv b) :
  ∃ xs:List Int,(fQ a b ([],((32*a.length:Nat):Int)-1,List.replicate a.length 0)).run=some (zJ (nv a % nv b),xs)∧zw xs∧xs.length=a.length∧nv xs=nv a / nv b:=by
 have h0:nv a / 2 ^ (32*a.length)=0:=by
  refine Nat.div_eq_of_lt ?_
  have h1:=yq ha
  have e:(4294967296:Nat)=2 ^ 32:=by decide
  rw[e,← Nat.pow_mul]at h1; exact h1
 obtain⟨⟨r,xs⟩,g1,g2,g3,g4,g5⟩:∃ r:List Int×List Int,(fQ a b ([],((32*a.length:Nat):Int)-1,List.replicate a.length 0)).run=some r∧r.1=zJ (nv a % nv b)∧zw r.2∧r.2.length=a.length∧nv r.2=nv a / nv b:=by
  refine T.xm (fun s:List Int×Int×List Int=>∃ k:Nat,s.2.1=(k:Int)-1∧k≤32*a.length∧s.1=zJ (nv a / 2 ^ k % nv b)∧zw s.2.2∧s.2.2.length=a.length∧nv s.2.2=nv a / 2 ^ k / nv b*2 ^ k)
   (fun s=>(s.2.1+1).toNat) _ ?_ ⟨32*a.length,rfl,Nat.le_refl _,by rw[h0,Nat.zero_mod,qz],xy _,by simp,by rw[h0]; simp⟩
  rintro⟨_,_,xs⟩ ⟨k,rfl,hk,rfl,hl,hn,hv⟩
  simp only at hl hn hv ⊢
  cases k with
  | zero =>
   right
   refine⟨(_,xs),?_,rfl,hl,hn,by simpa using hv⟩
   unfold uL
   simp
  | succ i =>
   left
   obtain⟨ys,f1,f2,f3,f4⟩:=Ig a b ha hb la lb hB i (by omega) xs hl hn hv
   have e1:((i+1:Nat):Int)-1=(i:Int):=by omega
   exact⟨(zJ (nv a / 2 ^ i % nv b),(i:Int)-1,ys),by rw[e1]; exact f1,⟨i,rfl,by omega,rfl,f2,f3,f4⟩,by simp⟩
 simp only at g2 g3 g4 g5
 subst g2
 exact⟨xs,g1,g3,g4,g5⟩
theorem gu(a b:List Int)(ha:zw a)(hb:zw b)(la:a.length≤100000000)(lb:b.length≤100000000) :
  (jS a b).run=some (if nv b=0 then([],[],false)else(zJ (nv a / nv b),zJ (nv a % nv b),true)):=by
 unfold jS
 rw[z6 (w7 b hb (by omega))]
 by_cases hB:nv b=0
 ·rw[if_pos hB,hB,qz]; simp
 ·have hBp:0<nv b:=Nat.pos_of_ne_zero hB
  have uv:(zJ (nv b)).length≠0:=fun h=>hB (xB.1 (List.eq_nil_of_length_eq_zero h))
  obtain⟨xs,g1,g2,g3,g4⟩:=NW a b ha hb la lb hBp
  have e5:zu (zu (32*(a.length:Int))-1)=((32*a.length:Nat):Int)-1:=by rw[zQ (x:=32*(a.length:Int)) (by omega) (by omega),zQ (by omega) (by omega)]; omega
  have NH:(zJ (nv a % nv b)).length≤100000000:=Nat.le_trans (qe.2 (Nat.lt_trans (Nat.mod_lt _ hBp) (yq hb))) lb
  have t1:=w7 xs g2 (by omega)
  have t2:=w7 (zJ (nv a % nv b)) (zq _) (by omega)
  rw[g4]at t1
  rw[zS]at t2
  rw[if_neg hB,z8 (by simpa using uv),z6 (Vz a ha (by omega)),z6 (Vz b hb (by omega))]
  by_cases c2:nv b<18446744073709551616
  ·by_cases c1:nv a<18446744073709551616
   ·-- both are words
    have hq:nv a / nv b<18446744073709551616:=Nat.lt_of_le_of_lt (Nat.div_le_self _ _) c1
    have hm:nv a % nv b<18446744073709551616:=Nat.lt_of_le_of_lt (Nat.mod_le _ _) c1
    have e3:Int.tdiv ((nv a:Nat):Int) ((nv b:Nat):Int)=((nv a / nv b:Nat):Int):=by rw[dA (by omega)]; exact(Int.natCast_ediv _ _).symm
    have e4:Int.tmod ((nv a:Nat):Int) ((nv b:Nat):Int)=((nv a % nv b:Nat):Int):=by rw[dG (by omega)]; exact(Int.natCast_emod _ _).symm
    simp only[if_pos c1,if_pos c2,Bool.and_self,zD,e3,e4]
    rw[vr _ (by omega),gQ hq,z6 (mj _ hq),vr _ (by omega),z6 (mj _ hm),z7]
   ·rw[if_neg c1,if_pos c2]
    rw[z8 (by rfl)]
    by_cases c3:nv b<4294967296
    ·have hm:=Nat.mod_lt (nv a) hBp
     rw[za (show(true&&decide ((nv b:Int)<4294967296))=true by rw[Bool.true_and]; exact decide_eq_true (by omega)),z6 (tk a ha (by omega) (nv b) hBp c3)]
     simp only
     have hm3:nv a % nv b<18446744073709551616:=Nat.lt_trans hm c2
     rw[z6 (mj _ hm3),z7]
    ·rw[z8 (show(true&&decide ((nv b:Int)<4294967296))=false by rw[Bool.true_and]; exact decide_eq_false (by omega)),e5]
     simp only[Int.toNat_natCast,List.length_replicate]
     rw[T.run_mk _ (by omega) (by omega) (by omega) (by omega),ze _ rfl rfl rfl,zP,z6 g1]
     simp only[Nat.zero_add,List.drop_zero,List.take_length]
     rw[zP,z6 t1,z6 t2,z7]
  ·rw[if_neg c2]
   simp only[Bool.and_false,Bool.false_and,zr]
   rw[e5]
   simp only[Int.toNat_natCast,List.length_replicate]
   rw[T.run_mk _ (by omega) (by omega) (by omega) (by omega),ze _ rfl rfl rfl,zP,z6 g1]
   simp only[Nat.zero_add,List.drop_zero,List.take_length]
   rw[zP,z6 t1,z6 t2,z7]
end Go.AM.Lf
namespace Go.AM.PL
def OK(n:Nat):UInt8:=UInt8.ofNat (48+n % 10)
def Fq(n:Nat):zf:=if h:n=0 then[]else Fq (n / 10)++[OK n]
termination_by n
decreasing_by omega
def pr(n:Nat):zf:=if n=0 then[48]else Fq n
theorem sS:Fq 0=[]:=by rw[Fq]; rfl
theorem tJ{n:Nat}(h:n≠0):Fq n=Fq (n / 10)++[OK n]:=by rw[Fq,dif_neg h]
def rd(n:Nat):List Int:=if h:n=0 then[]else((48+n % 10:Nat):Int)::rd (n / 10)
termination_by n
decreasing_by omega
theorem tx:rd 0=[]:=by rw[rd]; rfl
theorem JB{n:Nat}(h:n≠0):rd n=((48+n % 10:Nat):Int)::rd (n / 10):=by rw[rd,dif_neg h]
def oq:Nat→Nat→List Int
 | 0,_=>[]
 | k+1,n=>((48+n % 10:Nat):Int)::oq k (n / 10)
theorem Xy(k n:Nat):(oq k n).length=k:=by
 induction k generalizing n with
 | zero=>rfl
 | succ k ih=>simp[oq,ih]
theorem Rn(k n:Nat):oq k (n % 10 ^ k)=oq k n:=by
 induction k generalizing n with
 | zero=>rfl
 | succ k ih =>
  simp only[oq]
  have e1:n % 10 ^ (k+1) % 10=n % 10:=Nat.mod_mod_of_dvd _ ⟨10 ^ k,by rw[Nat.pow_succ,Nat.mul_comm]⟩
  have e2:n % 10 ^ (k+1) / 10=n / 10 % 10 ^ k:=by rw[Nat.pow_succ,Nat.mul_comm,Nat.mod_mul_right_div_self]
  rw[e1,e2,ih]
theorem S0(k n:Nat)(h:n / 10 ^ k≠0):rd n=oq k n++rd (n / 10 ^ k):=by
 induction k generalizing n with
 | zero=>simp[oq]
 | succ k ih =>
  have hn:n≠0:=by intro z; subst z; simp at h
  have e:n / 10 ^ (k+1)=n / 10 / 10 ^ k:=by rw[Nat.pow_succ,Nat.mul_comm,Nat.div_div_eq_div_mul]
  rw[e]at h ⊢
  rw[JB hn,ih _ h]; rfl
theorem ER(k n:Nat)(h:n / 10 ^ k=0):∃ z,oq k n=rd n++List.replicate z 48:=by
 induction k generalizing n with
 | zero=>simp at h; subst h; exact⟨0,by rw[tx]; rfl⟩
 | succ k ih =>
  have e:n / 10 ^ (k+1)=n / 10 / 10 ^ k:=by rw[Nat.pow_succ,Nat.mul_comm,Nat.div_div_eq_div_mul]
  rw[e]at h
  obtain⟨z,hz⟩:=ih _ h
  simp only[oq]
  by_cases hn:n=0
  ·subst hn
   refine⟨z+1,?_⟩
   rw[hz]
   simp[tx,List.replicate_succ]
  ·exact⟨z,by rw[hz,JB hn]; rfl⟩
def blk(n:Nat):List Int:=if h:n=0 then[]else oq 9 (n % 1000000000)++blk (n / 1000000000)
termination_by n
decreasing_by omega
theorem nE:blk 0=[]:=by rw[blk]; rfl
theorem J3{n:Nat}(h:n≠0):blk n=oq 9 (n % 1000000000)++blk (n / 1000000000):=by rw[blk,dif_neg h]
theorem I4(n:Nat):∃ z,blk n=rd n++List.replicate z 48:=by
 induction n using Nat.strongRecOn with
 | _ n ih =>
  by_cases hn:n=0
  ·subst hn; exact⟨0,by rw[nE,tx]; rfl⟩
  ·rw[J3 hn]
   have e:oq 9 (n % 1000000000)=oq 9 n:=Rn 9 n
   rw[e]
   by_cases h:n / 1000000000=0
   ·rw[h,nE,List.append_nil]
    exact ER 9 n h
   ·obtain⟨z,hz⟩:=ih (n / 1000000000) (by omega)
    refine⟨z,?_⟩
    rw[hz,← List.append_assoc]
    congr 1
    exact(S0 9 n h).symm
theorem EZ(n:Nat):Fq n=qV (rd n).reverse:=by
 induction n using Nat.strongRecOn with
 | _ n ih =>
  by_cases hn:n=0
  ·subst hn; rw[sS,tx]; rfl
  ·rw[tJ hn,JB hn,ih _ (by omega)]
   simp only[List.reverse_cons,qV,List.map_append,List.map_cons,List.map_nil]
   congr 1
theorem z4H{n:Nat}(h:n≠0):rd n≠[]:=by rw[JB h]; simp
theorem z3I(n:Nat):∀ x,(rd n).getLast? = some x→x≠48:=by
 induction n using Nat.strongRecOn with
 | _ n ih =>
  intro x hx
  by_cases hn:n=0
  ·subst hn; rw[tx]at hx; cases hx
  ·rw[JB hn]at hx
   by_cases h2:n / 10=0
   ·rw[h2,tx]at hx
    simp at hx; omega
   ·refine ih (n / 10) (by omega) x ?_
    rw[← hx]
    cases hc:rd (n / 10)with
    | nil=>exact absurd hc (z4H h2)
    | cons y l=>rw[List.getLast?_cons_cons]
end Go.AM.PL
namespace Go.AM.Lf
open PL
@[simp] theorem Hy:zb (.int .u8)=(0:Int):=rfl
theorem Na:([48,49,50,51,52,53,54,55,56,57]:zf).length=10:=rfl
theorem z3e(r:Nat):wG ([48,49,50,51,52,53,54,55,56,57]:zf) ((r % 10:Nat):Int)=((48+r % 10:Nat):Int):=by
 have key:∀ d:Fin 10,wG ([48,49,50,51,52,53,54,55,56,57]:zf) ((d.val:Nat):Int)=((48+d.val:Nat):Int):=by decide
 exact key ⟨r % 10,by omega⟩
theorem OT(q:List Int)(rest:Nat)(hr:rest<4294967296)(xs:List Int)(hx:xs.length≤1000000000):(oy q ((rest:Int),0,xs)).run=some (xs++oq 9 rest):=by
 have:=uo (r:=bE q) (fun s:Int×Int×List Int=>∃ (r k:Nat),s.1=(r:Int)∧r<4294967296∧s.2.1=(k:Int)∧k≤9∧s.2.2.length≤1000000000+k)
  (fun s=>9-s.2.1.toNat) (fun s=>s.2.2++oq (9-s.2.1.toNat) s.1.toNat) ?_ (s:=((rest:Int),0,xs)) ⟨rest,0,rfl,hr,rfl,by omega,by omega⟩
 ·unfold oy
  simpa using this
 ·rintro⟨_,_,ys⟩ ⟨r,k,rfl,h1,rfl,h2,h3⟩
  simp only at h3 ⊢
  by_cases hk:k<9
  ·left
   have e1:Int.tmod (r:Int) 10=((r % 10:Nat):Int):=by rw[dG (by omega)]; rfl
   have e2:qG (Int.tdiv (r:Int) 10)=((r / 10:Nat):Int):=by rw[dA (by omega)]; exact ZF (n:=r / 10) (by omega)
   refine⟨(((r / 10:Nat):Int),((k+1:Nat):Int),ys++[((48+r % 10:Nat):Int)]),?_,⟨r / 10,k+1,rfl,by omega,rfl,by omega,by simp; omega⟩,by simp; omega,?_⟩
   ·unfold bE
    simp only[e1,e2,z3e,i1 k (by omega),Na]
    rw[za (by simp; omega)]
    simp(disch:=omega)
   ·simp only[Int.toNat_natCast]
    rw[show 9-k=(9-(k+1))+1 by omega,oq]
    simp
  ·right
   have:k=9:=by omega
   subst this
   unfold bE
   simp[oq]
theorem UR(n j:Nat)(h:n<4294967296 ^ j):(blk n).length≤18*j:=by
 induction j generalizing n with
 | zero =>
  have:n=0:=by simpa using h
  subst this; rw[nE]; simp
 | succ j ih =>
  by_cases hn:n=0
  ·subst hn; rw[nE]; simp
  ·rw[J3 hn]
   by_cases h2:n / 1000000000=0
   ·rw[h2,nE]; simp[Xy]; omega
   ·rw[J3 h2]
    have h3:n / 1000000000 / 1000000000<4294967296 ^ j:=by
     rw[Nat.div_div_eq_div_mul,Nat.div_lt_iff_lt_mul (by omega)]
     rw[Nat.pow_succ]at h
     exact Nat.lt_of_lt_of_le h (Nat.mul_le_mul_left _ (by omega))
    have:=ih _ h3
    simp[Xy]; omega
theorem EH(n:Nat)(hn:(zJ n).length≤1000000):(ow (zJ n,[])).run=some (blk n):=by
 have hbl:=UR n (zJ n).length (qe.1 (Nat.le_refl _))
 have:=uo (r:=bJ) (fun s:List Int×List Int=>∃ m:Nat,s.1=zJ m∧(zJ m).length≤1000000∧s.2.length+(blk m).length≤18000000)
  (fun s=>nv s.1) (fun s=>s.2++blk (nv s.1)) ?_ (s:=(zJ n,[])) ⟨n,rfl,hn,by simp; omega⟩
 ·unfold ow
  simpa using this
 ·rintro⟨_,xs⟩ ⟨m,rfl,h1,h2⟩
  simp only[zS]at h2 ⊢
  by_cases hm:m=0
  ·right
   subst hm
   unfold bJ
   rw[qz,nE]; simp
  ·left
   have uv:(zJ m).length≠0:=fun h=>hm (xB.1 (List.eq_nil_of_length_eq_zero h))
   have hs:(fD (zJ m) 1000000000).run=some (zJ (nv (zJ m) / 1000000000),((nv (zJ m) % 1000000000:Nat):Int)):=ZR (zJ m) (zq m) (by omega) 1000000000 (by omega) (by omega)
   rw[zS]at hs
   have hbm:=J3 hm
   have hl:=congrArg List.length hbm
   rw[List.length_append,Xy]at hl
   have hg:=OT (zJ (m / 1000000000)) (m % 1000000000) (by omega) xs (by omega)
   have hlen:(zJ (m / 1000000000)).length≤(zJ m).length:=qe.2 (Nat.lt_of_le_of_lt (Nat.div_le_self _ _) (qe.1 (Nat.le_refl _)))
   refine⟨(zJ (m / 1000000000),xs++oq 9 (m % 1000000000)),?_,⟨m / 1000000000,rfl,by omega,?_⟩,?_,?_⟩
   ·unfold bJ
    rw[za (by simp; omega),z6 hs]
    simp only
    rw[ze _ rfl rfl rfl,zP,z6 hg,ze _ rfl rfl rfl,zP,z7]
   ·simp only[List.length_append,Xy]; omega
   ·simp only[zS]; omega
   ·simp only[zS]
    rw[hbm,List.append_assoc]
theorem OC(l:List Int)(z:Nat)(hl:l≠[])(zbe:∀ x,l.getLast? = some x→x≠48)(hn:l.length+z≤100000000) :
  (QS ((0,(l++List.replicate z 48).length),l++List.replicate z 48)).run=some ((0,l.length),l++List.replicate z 48):=by
 generalize hX:l++List.replicate z 48=X
 have hXl:X.length=l.length+z:=by rw[← hX]; simp
 have Va:0<l.length:=List.length_pos_iff.2 hl
 have NS:∀ p:Nat,xp X p 0=if p<l.length then xp l p 0 else if p<l.length+z then 48 else 0:=by
  intro p
  unfold xp
  rw[← hX,List.getD_eq_getElem?_getD,List.getD_eq_getElem?_getD]
  by_cases h:p<l.length
  ·rw[if_pos h,List.getElem?_append_left h]
  ·rw[if_neg h,List.getElem?_append_right (by omega),List.getElem?_replicate]
   by_cases h2:p<l.length+z
   ·rw[if_pos h2,if_pos (by omega)]; rfl
   ·rw[if_neg h2,if_neg (by omega)]; rfl
 have:=uo (r:=bB) (fun s:(Nat×Nat)×List Int=>∃ k:Nat,s.1=(0,l.length+k)∧k≤z∧s.2=X) (fun s=>s.1.2) (fun _=>((0,l.length),X)) ?_ (s:=((0,X.length),X)) ⟨z,by rw[hXl],Nat.le_refl _,rfl⟩
 ·exact this
 ·rintro⟨w,y⟩ ⟨k,h1,hk,h2⟩
  simp only at h1 h2
  rw[h1,h2]
  have e1:zu (((l.length+k:Nat):Int)-1)=((l.length+k-1:Nat):Int):=by rw[zQ (by omega) (by omega)]; omega
  have hg:=NS (l.length+k-1)
  cases k with
  | zero =>
   right
   have Sa:xp l (l.length-1) 0≠48:=by
    refine zbe _ ?_
    rw[List.getLast?_eq_getElem?]
    unfold xp
    rw[List.getD_eq_getElem?_getD,List.getElem?_eq_getElem (by omega)]; rfl
   rw[Nat.add_zero]at hg
   rw[if_pos (by omega)]at hg
   unfold bB
   simp only[Nat.add_zero]at e1 ⊢
   simp only[e1,Int.toNat_natCast,Nat.zero_add,Hy,hg]
   rw[zc (fun _=>⟨⟨by omega,by omega⟩,⟨rfl,by omega⟩⟩),z8 (by simp[Sa]),zP,zP,z7]
  | succ k =>
   left
   rw[show l.length+(k+1)-1=l.length+k by omega]at e1 hg
   rw[if_neg (by omega),if_pos (by omega)]at hg
   refine⟨((0,l.length+k),X),?_,⟨k,rfl,by omega,rfl⟩,by simp,rfl⟩
   unfold bB
   simp only[e1,Int.toNat_natCast,Nat.zero_add,Hy,hg]
   rw[zc (fun _=>⟨⟨by omega,by omega⟩,⟨rfl,by omega⟩⟩),za (by simp; omega),oh _ (by omega) (by omega) (by omega),zP,zP,z7]
   simp
theorem D8(xs:List Int)(n:Nat)(hn:n≤xs.length)(hx:xs.length≤1000000000):∃ ys:List Int,(wV (0,n) xs).run=some ys∧ys.length=xs.length∧ys.take n=(xs.take n).reverse:=by
 have e0:zu ((n:Int)-1)=(n:Int)-1:=zQ (by omega) (by omega)
 have loop:∃ ys:List Int,(jL ((0,n),0,(n:Int)-1,xs)).run=some ys∧ys.length=xs.length∧∀ p,p<n→ys[p]? = xs[n-1-p]? := by
  refine T.xm (fun s:(Nat×Nat)×Int×Int×List Int=>s.1=(0,n)∧∃ i:Nat,s.2.1=(i:Int)∧s.2.2.1=(n:Int)-1-(i:Int)∧i≤n∧s.2.2.2.length=xs.length∧2*i≤n+1∧∀ p,p<n→s.2.2.2[p]? = if p<i∨n<p+i+1 then xs[n-1-p]? else xs[p]?)
   (fun s=>n-s.2.1.toNat) _ ?_ ⟨rfl,0,rfl,by simp,by omega,rfl,by omega,fun p hp=>by rw[if_neg (by omega)]⟩
  rintro⟨_,_,_,zs⟩ ⟨rfl,i,rfl,rfl,hi,hl,h2i,hv⟩
  simp only at hl hv ⊢
  by_cases qu:(i:Int)<(n:Int)-1-(i:Int)
  ·left
   have hj:((n:Int)-1-(i:Int)).toNat=n-1-i:=by omega
   have ej:zu ((n:Int)-1-(i:Int)-1)=(n:Int)-1-((i+1:Nat):Int):=by rw[zQ (by omega) (by omega)]; omega
   refine⟨((0,n),((i+1:Nat):Int),(n:Int)-1-((i+1:Nat):Int),(zs.set i (xp zs (n-1-i) 0)).set (n-1-i) (xp zs i 0)),?_,⟨rfl,i+1,rfl,rfl,by omega,by simpa using hl,by omega,?_⟩,by simp; omega⟩
   ·unfold wj
    simp only[hj,Int.toNat_natCast,Nat.zero_add,Hy,i1 i (by omega),ej]
    rw[za (decide_eq_true qu),qJ _ (by omega) (by omega),jM _ rfl (by omega),qJ _ (by omega) (by omega),jM _ rfl (by omega),qJ _ (by omega) (by omega),jM _ rfl (by omega),qJ _ (by omega) (by omega),jM _ (by simp) (by simp; omega),zP,zy _ (by simp),z7]
   ·intro p hp
    have g1:=hv i (by omega)
    have g2:=hv (n-1-i) (by omega)
    rw[if_neg (by omega)]at g1 g2
    simp only[List.getElem?_set,List.length_set]
    by_cases c1:n-1-i=p
    ·rw[if_pos c1,if_pos (by omega),if_pos (by omega)]
     unfold xp
     rw[List.getD_eq_getElem?_getD,g1,← c1,show n-1-(n-1-i)=i by omega,List.getElem?_eq_getElem (by omega)]; rfl
    ·rw[if_neg c1]
     by_cases c2:i=p
     ·rw[if_pos c2,if_pos (by omega),if_pos (by omega)]
      unfold xp
      rw[List.getD_eq_getElem?_getD,g2,← c2,List.getElem?_eq_getElem (by omega)]; rfl
     ·rw[if_neg c2,hv p hp]
      by_cases c3:p<i∨n<p+i+1
      ·rw[if_pos c3,if_pos (by omega)]
      ·rw[if_neg c3,if_neg (by omega)]
  ·right
   refine⟨zs,?_,hl,fun p hp => ?_⟩
   ·unfold wj
    rw[z8 (decide_eq_false qu),zy _ rfl,z7]
   ·rw[hv p hp]
    split
    ·rfl
    ·rw[show n-1-p=p by omega]
 obtain⟨ys,hr,hl,hv⟩:=loop
 refine⟨ys,?_,hl,?_⟩
 ·unfold wV
  rw[zy _ rfl,zy _ rfl,e0,z6 hr,zy _ rfl,z7]
 ·apply List.ext_getElem?
  intro p
  by_cases hp:p<n
  ·have iI:(xs.take n).length=n:=by simp; omega
   rw[List.getElem?_take,if_pos hp,hv p hp,List.getElem?_reverse (by omega),iI,List.getElem?_take,if_pos (by omega)]
  ·rw[List.getElem?_eq_none (by simp; omega),List.getElem?_eq_none (by simp; omega)]
theorem mC(a:List Int)(ha:zw a)(la:a.length≤1000000):(fv a).run=some (pr (nv a)):=by
 have qa:=zW ha
 unfold fv
 rw[z6 (mO a ha (by omega))]
 generalize nv a=n at *
 by_cases hn:n=0
 ·subst hn; rw[qz]; simp[pr]
 ·have uv:(zJ n).length≠0:=fun h=>hn (xB.1 (List.eq_nil_of_length_eq_zero h))
  rw[z8 (by simpa using uv),ze _ rfl rfl rfl,zy _ rfl,z6 (EH n (by omega))]
  have hbl:=UR n (zJ n).length (qe.1 (Nat.le_refl _))
  obtain⟨z,hz⟩:=I4 n
  have hzl:=congrArg List.length hz
  rw[List.length_append,List.length_replicate]at hzl
  have xR:=OC (rd n) z (z4H hn) (z3I n) (by omega)
  rw[← hz]at xR
  obtain⟨ys,hr,hl,hv⟩:=D8 (blk n) (rd n).length (by omega) (by omega)
  rw[zy _ rfl,zy _ rfl,z6 xR]
  simp only[zP]
  rw[z6 hr,zy _ hl.symm,z7]
  simp only[Nat.zero_add,List.drop_zero]
  rw[hv,hz,List.take_left,← EZ]
  unfold pr
  rw[if_neg hn]
theorem SF(r:Nat)(h:r<10):qV [MR (zx (48+(r:Int)))]=[OK r]:=by
 have e:zx (48+(r:Int))=((48+r:Nat):Int):=by rw[qA (by omega) (by omega)]; omega
 have e2:MR ((48+r:Nat):Int)=((48+r:Nat):Int):=z0i (by omega) (by omega)
 rw[e,e2]
 simp only[qV,List.map_cons,List.map_nil,byteOf,OK,Int.toNat_natCast,Nat.mod_eq_of_lt h]
theorem iX(a:List Int)(ha:zw a)(la:a.length≤1000000):(cx a).run=some (pr (nv a)):=by
 have qa:=zW ha
 unfold cx
 rw[z6 (w7 a ha (by omega))]
 generalize nv a=n at *
 by_cases hn:n=0
 ·subst hn; rw[qz]; simp[pr]
 ·have uv:(zJ n).length≠0:=fun h=>hn (xB.1 (List.eq_nil_of_length_eq_zero h))
  have hd:∀ m:Nat,(zJ m).length≤1000000→(Fq m).length≤18000000:=by
   intro m hm
   obtain⟨z,hz⟩:=I4 m
   have h1:=UR m (zJ m).length (qe.1 (Nat.le_refl _))
   have h2:=congrArg List.length hz
   rw[List.length_append]at h2
   rw[EZ]
   simp only[qV,List.length_map,List.length_reverse]
   omega
  have loop:(mn (zJ n,[])).run=some (Fq n):=by
   have:=uo (r:=yx) (fun s:List Int×zf=>∃ m:Nat,s.1=zJ m∧(zJ m).length≤1000000∧s.2.length+(Fq m).length≤18000000) (fun s=>nv s.1) (fun s=>Fq (nv s.1)++s.2) ?_ (s:=(zJ n,[])) ⟨n,rfl,by omega,by simpa using hd n (by omega)⟩
   ·unfold mn
    simpa using this
   ·rintro⟨_,s⟩ ⟨m,rfl,h1,h2⟩
    simp only[zS]at h2 ⊢
    by_cases hm:m=0
    ·right
     subst hm
     unfold yx
     rw[qz,sS]; simp
    ·left
     have uv:(zJ m).length≠0:=fun h=>hm (xB.1 (List.eq_nil_of_length_eq_zero h))
     have hs:(cz (zJ m) 10).run=some (zJ (nv (zJ m) / 10),((nv (zJ m) % 10:Nat):Int)):=tk (zJ m) (zq m) (by omega) 10 (by omega) (by omega)
     rw[zS]at hs
     have hdp:=tJ hm
     have Nq:=congrArg List.length hdp
     simp only[List.length_append,List.length_cons,List.length_nil]at Nq
     have hlen:(zJ (m / 10)).length≤(zJ m).length:=qe.2 (Nat.lt_of_le_of_lt (Nat.div_le_self _ _) (qe.1 (Nat.le_refl _)))
     have eb:=SF (m % 10) (by omega)
     have ed:OK (m % 10)=OK m:=by unfold OK; rw[Nat.mod_mod]
     rw[ed]at eb
     refine⟨(zJ (m / 10),OK m::s),?_,⟨m / 10,rfl,by omega,?_⟩,?_,?_⟩
     ·unfold yx
      rw[za (by simp; omega),z6 hs]
      simp only[eb]
      rw[zG _ (by simp; omega),z7]; rfl
     ·simp only[List.length_cons]; omega
     ·simp only[zS]; omega
     ·simp only[zS]
      rw[hdp]; simp
  rw[z8 (by simpa using uv),z6 loop,z7]
  unfold pr
  rw[if_neg hn]
def kZ(neg:Bool)(n d:Nat):Rat:=if n=0∨d=0 then(false,[],[1],())else(neg,zJ (n / Nat.gcd n d),zJ (d / Nat.gcd n d),())
def qS(k:Nat)(a:Rat):Prop:=zw a.2.1∧zw a.2.2.1∧a.2.1.length≤k∧a.2.2.1.length≤k
theorem lG:zJ 1=[1]:=by rw[yb (by omega),show 1 / 4294967296=0 from rfl,qz]; rfl
theorem j7{m n:Nat}(h:m≤n):(zJ m).length≤(zJ n).length:=qe.2 (Nat.lt_of_le_of_lt h (qe.1 (Nat.le_refl _)))
theorem z2z(neg:Bool)(n d k:Nat)(hk:1≤k)(hn:(zJ n).length≤k)(hd:(zJ d).length≤k):qS k (kZ neg n d):=by
 unfold kZ
 split
 ·exact⟨yj,Jf,by simp,by simpa using hk⟩
 ·exact⟨zq _,zq _,Nat.le_trans (j7 (Nat.div_le_self _ _)) hn,Nat.le_trans (j7 (Nat.div_le_self _ _)) hd⟩
theorem KQ(neg:Bool)(n d:List Int)(hn:zw n)(hd:zw d)(ln:n.length≤100000000)(ld:d.length≤100000000):(pj neg n d).run=some (kZ neg (nv n) (nv d)):=by
 have qn:=zW hn
 have qd:=zW hd
 unfold pj
 rw[z6 (mO n hn (by omega)),z6 (mO d hd (by omega))]
 generalize nv n=N at *
 generalize nv d=D at *
 unfold kZ
 by_cases h:N=0∨D=0
 ·rw[if_pos h]
  have e:(((zJ N).length:Int)==0||((zJ D).length:Int)==0)=true:=by
   rcases h with rfl | rfl<;>simp[qz]
  have h1:(jV 1).run=some (zJ 1):=kL 1 (by omega)
  rw[za e,z6 h1,z7,lG]
 ·rw[if_neg h]
  have hN:N≠0:=fun z=>h (.inl z)
  have hD:D≠0:=fun z=>h (.inr z)
  have n1:(zJ N).length≠0:=fun h=>hN (xB.1 (List.eq_nil_of_length_eq_zero h))
  have n2:(zJ D).length≠0:=fun h=>hD (xB.1 (List.eq_nil_of_length_eq_zero h))
  have e:(((zJ N).length:Int)==0||((zJ D).length:Int)==0)=false:=by rw[Bool.or_eq_false_iff]; exact⟨by simpa using n1,by simpa using n2⟩
  have hg:=Vr (zJ N) (zJ D) (zq N) (zq D) (by omega) (by omega)
  rw[zS,zS]at hg
  have hgp:Nat.gcd N D≠0:=fun z=>hN (Nat.gcd_eq_zero_iff.1 z).1
  have Sa:(zJ (Nat.gcd N D)).length≤100000000:=Nat.le_trans (j7 (Nat.gcd_le_left D (Nat.pos_of_ne_zero hN))) (by omega)
  have h1:=bU (zJ N) (zJ (Nat.gcd N D)) (zq N) (zq _) (by omega) Sa
  have h2:=bU (zJ D) (zJ (Nat.gcd N D)) (zq D) (zq _) (by omega) Sa
  rw[zS,zS,if_neg hgp]at h1 h2
  rw[z8 e,z6 hg,z6 h1]
  simp only
  rw[z6 h2,z7]
theorem Hv(a:Rat)(h:qS 100000000 a):(xV a).run=some (kZ a.1 (nv a.2.1) (nv a.2.2.1)):=by
 unfold xV
 rw[z6 (KQ _ _ _ h.1 h.2.1 h.2.2.1 h.2.2.2),z7]
theorem Bp(a b:List Int)(ha:zw a)(hb:zw b)(la:a.length≤100000000)(lb:b.length≤100000000):(QY a b).run=some (zJ (Nat.gcd (nv a) (nv b))):=by
 have qa:=zW ha
 have qb:=zW hb
 unfold QY
 rw[z6 (w7 a ha (by omega)),z6 (w7 b hb (by omega))]
 generalize nv a=A at *
 generalize nv b=B at *
 have key:(Uc (zJ A,zJ B)).run=some (zJ (Nat.gcd A B)):=by
  have:=uo (r:=dv) (fun s:List Int×List Int=>∃ A B:Nat,s=(zJ A,zJ B)∧(zJ A).length≤100000000∧(zJ B).length≤100000000)
   (fun s=>nv s.2) (fun s=>zJ (Nat.gcd (nv s.1) (nv s.2))) ?_ (s:=(zJ A,zJ B)) ⟨A,B,rfl,by omega,by omega⟩
  ·rw[zS,zS]at this; exact this
  ·rintro _ ⟨A,B,rfl,hA,hB'⟩
   simp only[zS]
   by_cases hB:B=0
   ·right
    subst hB
    unfold dv
    rw[qz]; simp
   ·left
    have hd:=gu (zJ A) (zJ B) (zq A) (zq B) hA hB'
    rw[zS,zS,if_neg hB]at hd
    have hm:=Nat.mod_lt A (Nat.pos_of_ne_zero hB)
    have uv:(zJ B).length≠0:=fun h=>hB (xB.1 (List.eq_nil_of_length_eq_zero h))
    refine⟨(zJ B,zJ (A % B)),?_,⟨B,A % B,rfl,hB',?_⟩,by simpa using hm,?_⟩
    ·unfold dv
     rw[za (by simp; omega),z6 hd,z7]
    ·have:=j7 (Nat.le_of_lt hm)
     omega
    ·simp only[zS]
     rw[Nat.gcd_comm,← Nat.gcd_rec,Nat.gcd_comm]
 rw[z6 key,z7]
theorem Zq(a:Rat)(h:qS 100000000 a):(qL a).run=some (kZ a.1 (nv a.2.1) (nv a.2.2.1)):=by
 obtain⟨neg,n,d,u⟩:=a
 obtain⟨hn,hd,ln,ld⟩:=h
 simp only at hn hd ln ld
 have qn:=zW hn
 have qd:=zW hd
 unfold qL
 simp only
 rw[z6 (w7 n hn (by omega)),z6 (w7 d hd (by omega))]
 generalize nv n=N at *
 generalize nv d=D at *
 unfold kZ
 by_cases h:N=0∨D=0
 ·rw[if_pos h]
  have e:(((zJ D).length:Int)==0||((zJ N).length:Int)==0)=true:=by
   rcases h with rfl | rfl<;>simp[qz]
  rw[za e,z7]
 ·rw[if_neg h]
  have hN:N≠0:=fun z=>h (.inl z)
  have hD:D≠0:=fun z=>h (.inr z)
  have n1:(zJ N).length≠0:=fun h=>hN (xB.1 (List.eq_nil_of_length_eq_zero h))
  have n2:(zJ D).length≠0:=fun h=>hD (xB.1 (List.eq_nil_of_length_eq_zero h))
  have e:(((zJ D).length:Int)==0||((zJ N).length:Int)==0)=false:=by rw[Bool.or_eq_false_iff]; exact⟨by simpa using n2,by simpa using n1⟩
  have hg:=Bp (zJ N) (zJ D) (zq N) (zq D) (by omega) (by omega)
  rw[zS,zS]at hg
  have hgp:Nat.gcd N D≠0:=fun z=>hN (Nat.gcd_eq_zero_iff.1 z).1
  have Sa:(zJ (Nat.gcd N D)).length≤100000000:=Nat.le_trans (j7 (Nat.gcd_le_left D (Nat.pos_of_ne_zero hN))) (by omega)
  have h1:=gu (zJ N) (zJ (Nat.gcd N D)) (zq N) (zq _) (by omega) Sa
  have h2:=gu (zJ D) (zJ (Nat.gcd N D)) (zq D) (zq _) (by omega) Sa
  rw[zS,zS,if_neg hgp]at h1 h2
  rw[z8 e,z6 hg,z6 h1]
  simp only
  rw[z6 h2,z7]
theorem Vj(neg:Bool)(n d:List Int)(hn:zw n)(hd:zw d)(ln:n.length≤100000000)(ld:d.length≤100000000):(cT neg n d).run=some (kZ neg (nv n) (nv d)):=by
 unfold cT
 rw[z6 (Zq (neg,n,d,()) ⟨hn,hd,ln,ld⟩),z7]
theorem Xq(k:Nat):(zJ (10 ^ k)).length≤k+1:=by
 refine qe.2 ?_
 have h1:(10:Nat) ^ k≤4294967296 ^ k:=Nat.pow_le_pow_left (by omega) k
 have h2:(4294967296:Nat) ^ k<4294967296 ^ (k+1):=Nat.pow_lt_pow_right (by omega) (by omega)
 omega
theorem LH(m n:Nat):(zJ (m*n)).length≤(zJ m).length+(zJ n).length:=by
 refine qe.2 ?_
 rw[Nat.pow_add]
 exact Nat.mul_lt_mul'' (qe.1 (Nat.le_refl _)) (qe.1 (Nat.le_refl _))
theorem VE(k:Nat)(hk:k≤10000):(UF (k:Int)).run=some (zJ (10 ^ k)):=by
 have h1:(jV 1).run=some (zJ 1):=kL 1 (by omega)
 have h10:(jV 10).run=some (zJ 10):=kL 10 (by omega)
 have loop:=uo (r:=iS (k:Int)) (fun s:List Int×Int=>∃ i:Nat,s=(zJ (10 ^ i),(i:Int))∧i≤k) (fun s=>k-s.2.toNat) (fun _=>zJ (10 ^ k)) ?_ (s:=(zJ 1,0)) ⟨0,rfl,by omega⟩
 ·have KW:(Kb (k:Int) (zJ 1,0)).run=some (zJ (10 ^ k)):=loop
  unfold UF
  rw[z6 h1,z6 KW,z7]
 ·rintro _ ⟨i,rfl,hi⟩
  simp only
  by_cases qu:i<k
  ·left
   have hl:=Xq i
   have hm:=rJ (zJ (10 ^ i)) (zJ 10) (zq _) (zq _) (by omega) (by have:=Xq 1; simp at this; omega)
   rw[zS,zS,← Nat.pow_succ]at hm
   refine⟨(zJ (10 ^ (i+1)),((i+1:Nat):Int)),?_,⟨i+1,rfl,by omega⟩,by simp; omega,trivial⟩
   unfold iS
   rw[za (by simp; omega),z6 h10,z6 hm,z7,i1 i (by omega)]
  ·right
   have:i=k:=by omega
   subst this
   unfold iS
   simp
theorem z0o(n d:Nat)(h:Nat.gcd n d≠0):Nat.gcd (n / Nat.gcd n d) (d / Nat.gcd n d)=1:=by
 have:=Nat.gcd_mul_left (Nat.gcd n d) (n / Nat.gcd n d) (d / Nat.gcd n d)
 rw[Nat.mul_div_cancel' (Nat.gcd_dvd_left n d),Nat.mul_div_cancel' (Nat.gcd_dvd_right n d)]at this
 have h2:Nat.gcd n d*Nat.gcd (n / Nat.gcd n d) (d / Nat.gcd n d)=Nat.gcd n d*1:=by omega
 exact Nat.eq_of_mul_eq_mul_left (Nat.pos_of_ne_zero h) h2
theorem OO(neg:Bool)(n d:Nat):kZ (kZ neg n d).1 (nv (kZ neg n d).2.1) (nv (kZ neg n d).2.2.1)=kZ neg n d:=by
 by_cases h:n=0∨d=0
 ·have e:kZ neg n d=(false,[],[1],()):=by unfold kZ; rw[if_pos h]
  rw[e]; rfl
 ·have e:kZ neg n d=(neg,zJ (n / Nat.gcd n d),zJ (d / Nat.gcd n d),()):=by unfold kZ; rw[if_neg h]
  rw[e]
  have hn:n≠0:=fun z=>h (.inl z)
  have hd:d≠0:=fun z=>h (.inr z)
  have hg:Nat.gcd n d≠0:=fun z=>hn (Nat.gcd_eq_zero_iff.1 z).1
  have h1:n / Nat.gcd n d≠0:=Nat.div_ne_zero_iff.2 ⟨hg,Nat.gcd_le_left d (Nat.pos_of_ne_zero hn)⟩
  have h2:d / Nat.gcd n d≠0:=Nat.div_ne_zero_iff.2 ⟨hg,Nat.gcd_le_right n (Nat.pos_of_ne_zero hd)⟩
  simp only[zS]
  unfold kZ
  rw[if_neg (by intro z; rcases z with z | z<;>contradiction),z0o n d hg,Nat.div_one,Nat.div_one]
theorem Y5(neg:Bool)(n d:Nat):nv (kZ neg n d).2.2.1≠0:=by
 unfold kZ
 split
 ·show nv [1]≠0; decide
 ·rename_i h
  have hn:n≠0:=fun z=>h (.inl z)
  have hd:d≠0:=fun z=>h (.inr z)
  have hg:Nat.gcd n d≠0:=fun z=>hn (Nat.gcd_eq_zero_iff.1 z).1
  simp only[zS]
  exact Nat.div_ne_zero_iff.2 ⟨hg,Nat.gcd_le_right n (Nat.pos_of_ne_zero hd)⟩
theorem SJ(neg:Bool)(n d:Nat)(h:(kZ neg n d).1=true):nv (kZ neg n d).2.1≠0:=by
 unfold kZ at h ⊢
 split at h
 ·cases h
 ·rename_i c
  have hn:n≠0:=fun z=>c (.inl z)
  have hg:Nat.gcd n d≠0:=fun z=>hn (Nat.gcd_eq_zero_iff.1 z).1
  rw[if_neg c]
  simp only[zS]
  exact Nat.div_ne_zero_iff.2 ⟨hg,Nat.gcd_le_left d (Nat.pos_of_ne_zero hn)⟩
theorem xM{j k:Nat}{a:Rat}(h:qS j a)(hk:j≤k):qS k a:=⟨h.1,h.2.1,Nat.le_trans h.2.2.1 hk,Nat.le_trans h.2.2.2 hk⟩
def norm(a:Rat):Rat:=kZ a.1 (nv a.2.1) (nv a.2.2.1)
theorem oZ{k:Nat}(hk:1≤k){a:Rat}(h:qS k a):qS k (norm a):=z2z _ _ _ k hk (Nat.le_trans (zW h.1) h.2.2.1) (Nat.le_trans (zW h.2.1) h.2.2.2)
theorem ji(a:Rat)(h:qS 100000000 a):(xV a).run=some (norm a):=Hv a h
theorem xA(a:Rat)(h:qS 100000000 a):(qL a).run=some (norm a):=Zq a h
end Go.AM.Lf
namespace Go.AM.PL
abbrev Q:=_root_.Rat
def qv(neg:Bool)(n d:Nat):Q:=mkRat (if neg=true then -(n:Int)else(n:Int)) d
def qR(q:Q):Bool×List Int×List Int×Unit:=(decide (q.num<0),zJ q.num.natAbs,zJ q.den,())
theorem lY(q:Q):(qR q).1=decide (q.num<0):=rfl
theorem vO(q:Q):(qR q).2.1=zJ q.num.natAbs:=rfl
theorem ye(q:Q):(qR q).2.2.1=zJ q.den:=rfl
theorem Uf:zJ 1=[1]:=by rw[yb (by omega),show 1 / 4294967296=0 from rfl,qz]; rfl
theorem DA(b:Bool)(d:Nat):qv b 0 d=0:=by unfold qv; cases b<;>simp
theorem U6(b:Bool)(n:Nat):qv b n 0=0:=by unfold qv; simp
theorem E4:qR 0=(false,[],[1],()):=by
 unfold qR
 rw[Rat.zero_num,Rat.zero_den,Uf]
 show(decide ((0:Int)<0),zJ 0,[1],())=_
 rw[qz]; rfl
theorem nW(b:Bool)(n:Nat):(if b=true then -(n:Int)else(n:Int)).natAbs=n:=by cases b<;>simp
theorem TY(b:Bool)(n d:Nat)(hd:d≠0):(qv b n d).den=d / Nat.gcd n d:=by
 unfold qv
 rw[Rat.den_mkRat,if_neg hd,nW,Nat.gcd_comm]
theorem z0w(b:Bool)(n d:Nat)(hd:d≠0):(qv b n d).num=if b=true then -((n / Nat.gcd n d:Nat):Int)else((n / Nat.gcd n d:Nat):Int):=by
 unfold qv
 rw[Rat.num_mkRat,if_neg hd,nW,Nat.gcd_comm]
 cases b with
 | false=>simp only[Bool.false_eq_true,if_false]; rw[Int.natCast_ediv]
 | true =>
  simp only[if_true]
  rw[Int.neg_ediv_of_dvd (Int.natCast_dvd_natCast.2 (Nat.gcd_dvd_left n d)),Int.natCast_ediv]
theorem z7O(b:Bool)(n d:Nat)(hn:n≠0)(hd:d≠0):qR (qv b n d)=(b,zJ (n / Nat.gcd n d),zJ (d / Nat.gcd n d),()):=by
 unfold qR
 rw[TY b n d hd,z0w b n d hd]
 have hg:0<Nat.gcd n d:=Nat.gcd_pos_of_pos_left d (Nat.pos_of_ne_zero hn)
 have hp:0<n / Nat.gcd n d:=Nat.div_pos (Nat.le_of_dvd (Nat.pos_of_ne_zero hn) (Nat.gcd_dvd_left n d)) hg
 rw[nW]
 cases b with
 | false=>simp only[Bool.false_eq_true,if_false]; congr 1
 | true=>simp only[if_true]; congr 1; simp only[decide_eq_true_eq]; omega
theorem FT(q:Q):qv (qR q).1 (nv (qR q).2.1) (nv (qR q).2.2.1)=q:=by
 rw[lY,vO,ye,zS,zS]
 unfold qv
 have e:(if decide (q.num<0)=true then -((q.num.natAbs:Nat):Int)else((q.num.natAbs:Nat):Int))=q.num:=by
  by_cases h:q.num<0
  ·rw[if_pos (by simpa using h)]; omega
  ·rw[if_neg (by simpa using h)]; omega
 rw[e,Rat.mkRat_self]
theorem z2v{p q:Q}(h:qR p=qR q):p=q:=by rw[← FT p,← FT q,h]
def qX(q:Q):Nat:=max (zJ q.num.natAbs).length (zJ q.den).length
theorem cd{m n:Nat}(h:m≤n):(zJ m).length≤(zJ n).length:=qe.2 (Nat.lt_of_le_of_lt h (qe.1 (Nat.le_refl _)))
theorem xl(m n:Nat):(zJ (m*n)).length≤(zJ m).length+(zJ n).length:=by
 rw[qe,Nat.pow_add]
 have h1:=qe.1 (Nat.le_refl (zJ m).length)
 have h2:=qe.1 (Nat.le_refl (zJ n).length)
 exact Nat.mul_lt_mul'' h1 h2
theorem sx(m n k:Nat)(hm:(zJ m).length≤k)(hn:(zJ n).length≤k):(zJ (m+n)).length≤k+1:=by
 rw[qe,Nat.pow_succ]
 have h1:=qe.1 hm
 have h2:=qe.1 hn
 omega
theorem FA(b:Bool)(n d k:Nat)(hk:1≤k)(hn:(zJ n).length≤k)(hd:(zJ d).length≤k):qX (qv b n d)≤k:=by
 unfold qX
 by_cases z:d=0
 ·subst z; rw[U6,Rat.zero_num,Rat.zero_den,Uf]
  show max (zJ 0).length 1≤k
  rw[qz]; simp; exact hk
 ·rw[TY _ _ _ z,z0w _ _ _ z,nW]
  exact Nat.max_le.2 ⟨Nat.le_trans (cd (Nat.div_le_self _ _)) hn,Nat.le_trans (cd (Nat.div_le_self _ _)) hd⟩
theorem RB(q:Q):1≤qX q:=by
 unfold qX
 have:zJ q.den≠[]:=fun h=>q.den_nz (xB.1 h)
 have:=List.length_pos_iff.2 this
 omega
theorem wI(q:Q):(zJ q.num.natAbs).length≤qX q:=Nat.le_max_left _ _
theorem wi(q:Q):(zJ q.den).length≤qX q:=Nat.le_max_right _ _
theorem fy:qX 0=1:=by
 unfold qX
 rw[Rat.zero_num,Rat.zero_den,Uf]
 show max (zJ 0).length 1=1
 rw[qz]; rfl
def VY(b:Bool)(n:Nat):Int:=if b=true then -(n:Int)else(n:Int)
theorem eI(b:Bool)(n d:Nat):qv b n d=mkRat (VY b n) d:=rfl
theorem UP(q:Q):VY (decide (q.num<0)) q.num.natAbs=q.num:=by
 unfold VY
 by_cases h:q.num<0
 ·rw[if_pos (by simpa using h)]; omega
 ·rw[if_neg (by simpa using h)]; omega
theorem z18(b c:Bool)(m n:Nat):VY (b != c) (m*n)=VY b m*VY c n:=by
 unfold VY
 cases b<;>cases c<;>simp[Int.neg_mul,Int.mul_neg]
theorem VQ(b:Bool)(m n:Nat):VY b (m*n)=VY b m*(n:Int):=by
 unfold VY; cases b<;>simp[Int.neg_mul]
theorem L5(b:Bool)(m n:Nat):VY b (m+n)=VY b m+VY b n:=by
 unfold VY; cases b<;>simp; omega
theorem Jb(b c:Bool)(m n:Nat)(hb:b≠c)(h:n≤m):VY b (m-n)=VY b m+VY c n:=by
 unfold VY; cases b<;>cases c<;>simp at hb ⊢ <;> omega
theorem TU(p q:Q):p+q=mkRat (VY (decide (p.num<0)) (p.num.natAbs*q.den)+VY (decide (q.num<0)) (q.num.natAbs*p.den)) (p.den*q.den):=by
 rw[Rat.add_def',VQ,VQ,UP,UP]
theorem LC(p q:Q):p*q=mkRat (VY (decide (p.num<0) != decide (q.num<0)) (p.num.natAbs*q.num.natAbs)) (p.den*q.den):=by
 rw[Rat.mul_def',z18,UP,UP]
theorem z2c(q:Q):qR (-q)=(decide (0<q.num),zJ q.num.natAbs,zJ q.den,()):=by
 unfold qR
 rw[Rat.neg_num,Rat.neg_den,Int.natAbs_neg]
 congr 1
 exact decide_eq_decide.2 (by omega)
theorem iu(p q:Q):qX (p+q)≤qX p+qX q+1:=by
 rw[TU]
 have h1:=Nat.le_trans (xl p.num.natAbs q.den) (Nat.add_le_add (wI p) (wi q))
 have h2:=Nat.le_trans (xl q.num.natAbs p.den) (Nat.add_le_add (wI q) (wi p))
 have h3:=Nat.le_trans (xl p.den q.den) (Nat.add_le_add (wi p) (wi q))
 have h4:=sx _ _ _ h1 (Nat.le_trans h2 (by omega:_≤qX p+qX q))
 have e:∀ z:Int,mkRat z (p.den*q.den)=qv (decide (z<0)) z.natAbs (p.den*q.den):=by
  intro z
  rw[eI]; congr 1; unfold VY
  by_cases h:z<0
  ·rw[if_pos (by simpa using h)]; omega
  ·rw[if_neg (by simpa using h)]; omega
 rw[e]
 refine FA _ _ _ _ (by omega) (Nat.le_trans (cd ?_) h4) (by omega)
 unfold VY
 split<;>split<;>omega
theorem dq(p q:Q):qX (p*q)≤qX p+qX q:=by
 rw[LC,← eI]
 have h1:=Nat.le_trans (xl p.num.natAbs q.num.natAbs) (Nat.add_le_add (wI p) (wI q))
 have h3:=Nat.le_trans (xl p.den q.den) (Nat.add_le_add (wi p) (wi q))
 have:=RB p
 exact FA _ _ _ _ (by omega) h1 h3
theorem Ya(q:Q):qX (-q)=qX q:=by unfold qX; rw[Rat.neg_num,Rat.neg_den,Int.natAbs_neg]
theorem CV(p q:Q):qX (p-q)≤qX p+qX q+1:=by
 rw[Rat.sub_eq_add_neg]
 have:=iu p (-q)
 rwa [Ya]at this
theorem BT(q:Q):qX q⁻¹≤qX q:=by
 by_cases h:q=0
 ·subst h; rw[Rat.inv_zero]; exact Nat.le_refl _
 ·unfold qX
  rw[Rat.num_inv,Rat.den_inv,if_neg (fun z=>h (Rat.num_eq_zero.1 z)),Int.natAbs_mul]
  have h1:q.num.sign.natAbs=1:=Int.natAbs_sign_of_ne_zero (fun z=>h (Rat.num_eq_zero.1 z))
  rw[h1,Nat.one_mul,Int.natAbs_natCast,Nat.max_comm]
  exact Nat.le_refl _
end Go.AM.PL
