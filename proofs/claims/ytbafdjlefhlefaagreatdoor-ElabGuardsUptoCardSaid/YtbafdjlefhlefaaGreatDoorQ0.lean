/-
  Plain laws of the lifted program, part 0.
-/
import Derived.Test.YtbafdjlefhlefaaGreatDoorLf1
import Derived.Test.YtbafdjlefhlefaaGreatDoorAmA
import Derived.Test.YtbafdjlefhlefaaGreatDoorAmD
set_option linter.unusedVariables false
open Go.AM.T (j3 jD kS mW nC qF qI qh ud vg yk z11 z6 z7 z8 zA zD zM za zc ze zr zx)
namespace Go.AM.PL
def vE{α:Type}(p:α→Bool)(i:Int):List α→Int
 | [] => -1
 | x::r=>if p x=true then i else vE p (i+1) r
theorem TF{α:Type}(p:α→Bool)(l:List α)(i:Int)(h:0≤i):vE p i l = -1∨(i≤vE p i l∧vE p i l<i+l.length):=by
 induction l generalizing i with
 | nil=>exact .inl rfl
 | cons x r ih =>
  simp only[vE,List.length_cons]
  split
  ·right; omega
  ·rcases ih (i+1) (by omega)with h | h
   ·exact .inl h
   ·right; omega
theorem eU{α:Type}(p:α→Bool)(l:List α)(i:Int)(h:0≤i):decide (0≤vE p i l)=l.any p:=by
 induction l generalizing i with
 | nil=>rfl
 | cons x r ih =>
  simp only[vE,List.any_cons]
  split
  ·rename_i hp; rw[hp]; simp[h]
  ·rename_i hp; rw[ih (i+1) (by omega)]; simp[hp]
theorem yS{α:Type}(l:List α)(d:α)(p:α→Bool){r:Int→T (Int⊕(Unit⊕Int))}
  (h1:∀ i,0≤i→i<(l.length:Int)→p (nth l i d)=true→(r i).run=some (.inr (.inr i)))
  (h2:∀ i,0≤i→i<(l.length:Int)→p (nth l i d)=false→(r i).run=some (.inl (i+1)))
  (h3:∀ i,¬ i<(l.length:Int)→(r i).run=some (.inr (.inl ()))):(T.loop r 0).run=some (if vE p 0 l = -1 then .inl ()else .inr (vE p 0 l)):=by
 have:=ud (r:=r) (fun i=>0≤i) (fun i=>((l.length:Int)-i).toNat) (fun i=>if vE p i (l.drop i.toNat) = -1 then .inl ()else .inr (vE p i (l.drop i.toNat))) (fun i h => ?_) (s:=0) (Int.le_refl 0)
 ·simpa using this
 ·by_cases hi:i<l.length
  ·rw[Dv l d h hi]
   cases hp:p (nth l i d)with
   | true =>
    right
    have:¬ i = -1:=by omega
    rw[h1 i h hi hp]
    simp[vE,hp,this]
   | false =>
    left
    exact⟨i+1,h2 i h hi hp,by omega,by omega,by simp[vE,hp]⟩
  ·right
   rw[PI _ hi,h3 i hi]
   rfl
theorem xH(a b:zf):zF a b=decide (a=b):=by
 unfold zF
 by_cases h:a=b
 ·subst h; simp
 ·simp[h]
end Go.AM.PL
namespace Go.AM.Lf
open PL
theorem cB(l:List zf)(v:zf)(hl:(l.length:Int)≤4611686018427387904):(qQ l v).run=some (l.any (zF v)):=by
 have key:(vS l v (l.length:Int) 0).run=some (if vE (zF v) 0 l = -1 then .inl ()else .inr (vE (zF v) 0 l)):=by
  refine yS l (zb .str) (zF v) (fun i h hi hp => ?_) (fun i h hi hp => ?_) (fun i hi => ?_)
  ·simp(disch:=omega) [qs,hi,hp]
  ·simp(disch:=omega) [qs,hi,hp]
  ·simp[qs,hi]
 have hx:(qw l v).run=some (vE (zF v) 0 l):=by
  unfold qw
  rw[z6 key]
  split<;>rename_i h<;>simp[h]
 unfold qQ
 rw[z6 hx,z7,eU _ _ _ (Int.le_refl 0)]
mutual
def nmE:Expr→List zf→List zf
 | .mk k _ s l,acc=>nmEs l (if k=2∧acc.any (zF s)=false then acc++[s]else acc)
def nmEs:List Expr→List zf→List zf
 | [],acc=>acc
 | e::r,acc=>nmEs r (nmE e acc)
end
mutual
def allE:Expr→List zf
 | .mk k _ s l=>(if k=2 then[s]else[])++allEs l
def allEs:List Expr→List zf
 | []=>[]
 | e::r=>allE e++allEs r
end
mutual
theorem Xm:∀ (e:Expr) (acc:List zf),(nmE e acc).length≤acc.length+bkE e
 | .mk k n s l,acc=>by
  have:=Dx l (if k=2∧acc.any (zF s)=false then acc++[s]else acc)
  have h2:(if k=2∧acc.any (zF s)=false then acc++[s]else acc).length≤acc.length+1:=by split<;>simp
  simp only[nmE,bkE]
  omega
theorem Dx:∀ (l:List Expr) (acc:List zf),(nmEs l acc).length≤acc.length+bkEs l
 | [],acc=>by simp[nmEs]
 | e::r,acc=>by
  have h1:=Xm e acc
  have h2:=Dx r (nmE e acc)
  simp only[nmEs,bkEs]
  omega
end
mutual
theorem GC:∀ (e:Expr) (acc:List zf) (x:zf),x∈nmE e acc↔x∈acc∨x∈allE e
 | .mk k n s l,acc,x=>by
  have:=Dh l (if k=2∧acc.any (zF s)=false then acc++[s]else acc) x
  simp only[nmE,allE,this]
  by_cases hk:k=2
  ·by_cases ha:acc.any (zF s)=false
   ·simp[hk,ha,or_assoc]
   ·have hs:s∈acc:=by
     simp only[Bool.not_eq_false,List.any_eq_true]at ha
     obtain⟨y,hy,he⟩:=ha
     rw[xH,decide_eq_true_eq]at he
     exact he▸hy
    simp only[hk,ha,and_false,if_false,if_true,List.singleton_append,List.mem_cons]
    constructor
    ·rintro(h | h)
     ·exact .inl h
     ·exact .inr (.inr h)
    ·rintro(h | rfl | h)
     ·exact .inl h
     ·exact .inl hs
     ·exact .inr h
  ·simp[hk]
theorem Dh:∀ (l:List Expr) (acc:List zf) (x:zf),x∈nmEs l acc↔x∈acc∨x∈allEs l
 | [],acc,x=>by simp[nmEs,allEs]
 | e::r,acc,x=>by
  have h1:=GC e acc x
  have h2:=Dh r (nmE e acc) x
  simp only[nmEs,allEs,h2,h1,List.mem_append,or_assoc]
end
theorem z0H(e:Expr):1≤bkE e:=by cases e; simp only[bkE]; omega
theorem hO{l:List Expr}{e:Expr}(h:e∈l):bkE e≤bkEs l:=by
 induction l with
 | nil=>cases h
 | cons x r ih =>
  simp only[bkEs]
  rcases List.mem_cons.1 h with rfl | h
  ·omega
  ·have:=ih h; omega
theorem gq(e:Expr):bkEs e.kids<bkE e:=by cases e; simp only[Expr.kids,bkE]; omega
theorem iJ(l:List Expr):l.length≤bkEs l:=by
 induction l with
 | nil=>exact Nat.le_refl _
 | cons x r ih=>have:=z0H x; simp only[bkEs,List.length_cons]; omega
theorem vi{α:Type}{l:List α}{i:Int}{d:α}(h:0≤i)(hi:i<(l.length:Int)):nth l i d∈l:=by
 unfold nth
 have:i.toNat<l.length:=by omega
 simp[List.getD_eq_getElem?_getD,this]
theorem MD(e:Expr)(l:List zf)(hb:l.length+bkE e≤1000000000):(eS e l).run=some (nmE e l):=by
 unfold eS
 refine kS (fun x:Expr×List zf=>x.2.length+bkE x.1≤1000000000) (fun x=>bkE x.1) (fun x=>nmE x.1 x.2) (fun x hx g hg => ?_) (x:=(e,l)) hb
 obtain⟨e,l⟩:=x
 simp only at hx hg
 have hk:=gq e
 have Ev:=iJ e.kids
 have loop:∀ acc:List zf,acc.length+bkEs e.kids≤1000000000→(pD (fun y0 y1=>g (y0,y1)) e.kids (e.kids.length:Int) (0,acc)).run=some (nmEs e.kids acc):=by
  intro acc FA
  refine mW e.kids (zb .expr) (fun b i=>(i,b)) (fun b r=>b.length+bkEs r≤1000000000∧∀ x∈r,x∈e.kids) (fun r b=>nmEs r b) ?_ ?_ ⟨FA,fun x hx=>hx⟩
  ·rintro b x xs i h0 hi hx ⟨h1,h2⟩
   simp only[bkEs]at h1
   have hm:=hO (h2 x List.mem_cons_self)
   have hl:=Xm x b
   have hr:=hg (x,b) (by simp only; omega) (by simp only; omega)
   refine .inl ⟨nmE x b,?_,⟨by omega,fun y hy=>h2 y (List.mem_cons_of_mem _ hy)⟩,rfl⟩
   simp only at hr
   simp(disch:=omega) [yY,hi,hx,hr]
  ·rintro b _
   simp[yY,nmEs]
 unfold bz
 cases e with | mk k n s kids =>
 simp only[Expr.kids,Expr.kind,Expr.name,bkE]at *
 have hc:=cB l s (by omega)
 by_cases yh:k=2
 ·cases ha:l.any (zF s)with
  | true =>
   have hL:=loop l (by omega)
   simp(disch:=omega) [yh,hc,ha,hL,nmE]
  | false =>
   have hL:=loop (l++[s]) (by simp; omega)
   simp(disch:=omega) [yh,hc,ha,hL,nmE]
 ·have hL:=loop l (by omega)
  simp(disch:=omega) [yh,hL,nmE]
theorem FR(e:Expr)(l:List zf)(hx:l.length+bkE e≤1000000000):(cC e l).run=some (nmE e l):=by
 have hk:=gq e
 have Ev:=iJ e.kids
 have loop:∀ acc:List zf,acc.length+bkEs e.kids≤1000000000→(mE e.kids (e.kids.length:Int) (0,acc)).run=some (nmEs e.kids acc):=by
  intro acc FA
  refine mW e.kids (zb .expr) (fun b i=>(i,b)) (fun b r=>b.length+bkEs r≤1000000000∧∀ x∈r,x∈e.kids) (fun r b=>nmEs r b) ?_ ?_ ⟨FA,fun x hx=>hx⟩
  ·rintro b x xs i h0 hi hx ⟨h1,h2⟩
   simp only[bkEs]at h1
   have hm:=hO (h2 x List.mem_cons_self)
   have hl:=Xm x b
   have hr:=MD x b (by omega)
   refine .inl ⟨nmE x b,?_,⟨by omega,fun y hy=>h2 y (List.mem_cons_of_mem _ hy)⟩,rfl⟩
   simp(disch:=omega) [kT,hi,hx,hr]
  ·rintro b _
   simp[kT,nmEs]
 unfold cC
 cases e with | mk k n s kids =>
 simp only[Expr.kids,Expr.kind,Expr.name,bkE]at *
 have hc:=cB l s (by omega)
 by_cases yh:k=2
 ·cases ha:l.any (zF s)with
  | true =>
   have hL:=loop l (by omega)
   simp(disch:=omega) [yh,hc,ha,hL,nmE]
  | false =>
   have hL:=loop (l++[s]) (by simp; omega)
   simp(disch:=omega) [yh,hc,ha,hL,nmE]
 ·have hL:=loop l (by omega)
  simp(disch:=omega) [yh,hL,nmE]
theorem nh(e:Expr)(hb:bkE e≤1000000000):(kt e).run=some (nmE e []):=by
 have:=FR e [] (by simpa using hb)
 simp[kt,this]
def oA(e:Expr)(F:List zf):Bool:=(nmE e []).any fun x=>F.any (zF x)
theorem OV(e:Expr)(F:List zf):oA e F=true↔∃ x∈allE e,x∈F:=by
 simp only[oA,List.any_eq_true,GC,List.not_mem_nil,false_or]
 constructor
 ·rintro⟨x,h1,y,h2,h3⟩
  rw[xH,decide_eq_true_eq]at h3
  exact⟨x,h1,h3▸h2⟩
 ·rintro⟨x,h1,h2⟩
  exact⟨x,h1,x,h2,by rw[xH]; simp⟩
theorem I5(e:Expr)(F:List zf)(hb:bkE e≤1000000000)(hF:(F.length:Int)≤4611686018427387904):(gE e F).run=some (oA e F):=by
 have hN:=nh e hb
 have hl:=Xm e []
 generalize hL:nmE e []=L at hN hl
 have hl:L.length≤1000000000:=by simp at hl; omega
 have key:(wU L (fun z0=>wQ z0 F) (L.length:Int) 0).run=some (if vE (fun x=>F.any (zF x)) 0 L = -1 then .inl ()else .inr (vE (fun x=>F.any (zF x)) 0 L)):=by
  have hf:∀ x,(wQ x F).run=some (F.any (zF x)):=fun x=>by
   unfold wQ; rw[z6 (cB F x hF),z7]
  refine yS L (zb .str) (fun x=>F.any (zF x)) (fun i h hi hp => ?_) (fun i h hi hp => ?_) (fun i hi => ?_)
  ·simp(disch:=omega) [qe,hi,hf,hp]
  ·simp(disch:=omega) [qe,hi,hf,hp]
  ·simp[qe,hi]
 have hx:(qm L (fun z0=>wQ z0 F)).run=some (vE (fun x=>F.any (zF x)) 0 L):=by
  unfold qm
  rw[z6 key]
  split<;>rename_i h<;>simp[h]
 unfold gE
 rw[z6 hN]
 have hc:(xS L (fun z0=>wQ z0 F)).run=some (L.any fun x=>F.any (zF x)):=by
  unfold xS
  rw[z6 hx,z7,eU _ _ _ (Int.le_refl 0)]
 rw[z6 hc,z7]
 simp only[oA,hL]
def Jk(F:List zf)(k:Int):List Expr→Bool
 | [a,b]=>(k==5&&(oA a F&&oA b F))||(k==6&&oA b F)
 | _=>false
mutual
def dh(F:List zf):Expr→Bool
 | .mk k _ _ l => !Jk F k l&&rK F l
def rK(F:List zf):List Expr→Bool
 | []=>true
 | e::r=>dh F e&&rK F r
end
theorem Nc(F:List zf)(l:List Expr):rK F l = !(l.any fun e => !dh F e):=by
 induction l with
 | nil=>rfl
 | cons e r ih=>simp[rK,ih]
theorem Ke(e:Expr)(F:List zf)(hb:bkE e≤1000000000)(hF:(F.length:Int)≤4611686018427387904):(gP e F).run=some (dh F e):=by
 unfold gP
 refine kS (fun x:Expr×List zf=>bkE x.1≤1000000000∧(x.2.length:Int)≤4611686018427387904) (fun x=>bkE x.1) (fun x=>dh x.2 x.1) (fun x hx g hg => ?_) (x:=(e,F)) ⟨hb,hF⟩
 obtain⟨e,F⟩:=x
 obtain⟨hx,hF⟩:=hx
 simp only at hx hg hF
 have hk:=gq e
 have Ev:=iJ e.kids
 have LK:(wc (fun y0 y1=>g (y0,y1)) e.kids (fun z0=>xL (fun y0 y1=>g (y0,y1)) z0 F)).run=some (e.kids.any fun k => !dh F k):=by
  have hf:∀ x∈e.kids,(xL (fun y0 y1=>g (y0,y1)) x F).run=some (!dh F x):=fun x hxm=>by
   have:=hO hxm
   unfold xL
   rw[z6 (hg (x,F) ⟨by simp only; omega,hF⟩ (by simp only; omega)),z7]
  have key:(jH (fun y0 y1=>g (y0,y1)) e.kids (fun z0=>xL (fun y0 y1=>g (y0,y1)) z0 F) (e.kids.length:Int) 0).run=some (if vE (fun k => !dh F k) 0 e.kids = -1 then .inl ()else .inr (vE (fun k => !dh F k) 0 e.kids)):=by
   refine yS e.kids (zb .expr) (fun k => !dh F k) (fun i h hi hp => ?_) (fun i h hi hp => ?_) (fun i hi => ?_)
   ·have hm:=vi (d:=zb .expr) h hi
    simp(disch:=omega) [xx,hi,hf _ hm,hp]
   ·have hm:=vi (d:=zb .expr) h hi
    simp(disch:=omega) [xx,hi,hf _ hm,hp]
   ·simp[xx,hi]
  have hx:(wI (fun y0 y1=>g (y0,y1)) e.kids (fun z0=>xL (fun y0 y1=>g (y0,y1)) z0 F)).run=some (vE (fun k => !dh F k) 0 e.kids):=by
   unfold wI
   rw[z6 key]
   split<;>rename_i h<;>simp[h]
  unfold wc
  rw[z6 hx,z7,eU _ _ _ (Int.le_refl 0)]
 unfold gO
 cases e with | mk k n s kids =>
 simp only[Expr.kids,Expr.kind,bkE]at *
 simp only[dh,Nc]
 by_cases h2:kids.length=2
 ·match kids,h2 with
  | [a,b],_ =>
  have ha:bkE a≤1000000000:=by have:=hO (l:=[a,b]) (e:=a) (by simp); omega
  have hb:bkE b≤1000000000:=by have:=hO (l:=[a,b]) (e:=b) (by simp); omega
  have hA:=I5 a F ha hF
  have hB:=I5 b F hb hF
  have n0:nth [a,b] 0 (zb .expr)=a:=rfl
  have n1:nth [a,b] 1 (zb .expr)=b:=rfl
  by_cases k5:k=5
  ·subst k5
   cases ca:oA a F<;>cases cb:oA b F<;>simp[qF,n0,n1,hA,hB,ca,cb,Jk,LK]
  ·by_cases k6:k=6
   ·subst k6
    cases cb:oA b F<;>simp[qF,n0,n1,hB,cb,Jk,LK]
   ·simp[qF,n0,n1,Jk,LK,k5,k6]
 ·have zeG:Jk F k kids=false:=by
   unfold Jk
   split
   ·exact absurd rfl h2
   ·rfl
  have h2':¬ ((kids.length:Int)=2):=by omega
  simp[h2',LK,zeG]
mutual
def wtE:Expr→Int→Int
 | .mk _ n s l,left=>wtEs l (left-3-s.length-8*n.2.1.length-8*n.2.2.1.length)
def wtEs:List Expr→Int→Int
 | [],left=>left
 | e::r,left=>if 0≤left then wtEs r (wtE e left)else left
end
mutual
theorem Wj:∀ (e:Expr) (left:Int),wtE e left≤left∧left-16*bkE e≤wtE e left
 | .mk _ n s l,left=>by
  have:=GJ l (left-3-s.length-8*n.2.1.length-8*n.2.2.1.length)
  simp only[wtE,bkE]
  constructor<;>omega
theorem GJ:∀ (l:List Expr) (left:Int),wtEs l left≤left∧left-16*bkEs l≤wtEs l left
 | [],left=>by simp[wtEs,bkEs]
 | e::r,left=>by
  have h1:=Wj e left
  have h2:=GJ r (wtE e left)
  simp only[wtEs,bkEs]
  split<;>constructor<;>omega
end
theorem Sp(l:List Expr)(left:Int)(h:¬ 0≤left):wtEs l left=left:=by cases l<;>simp[wtEs,h]
end Go.AM.Lf
namespace Go.AM.PL
def nv:List Int→Nat
 | []=>0
 | x::l=>x.toNat+4294967296*nv l
def zu(l:List Int):Prop:=∀ x∈l,0≤x∧x<4294967296
def zH(n:Nat):List Int:=if h:n=0 then[]else((n % 4294967296:Nat):Int)::zH (n / 4294967296)
termination_by n
decreasing_by omega
theorem qA:zH 0=[]:=by rw[zH]; rfl
theorem y6{n:Nat}(h:n≠0):zH n=((n % 4294967296:Nat):Int)::zH (n / 4294967296):=by rw[zH,dif_neg h]
theorem kW:zu []:=fun _ h=>nomatch h
theorem nn{x:Int}{l:List Int}:zu (x::l)↔(0≤x∧x<4294967296)∧zu l:=by
 unfold zu; simp[List.forall_mem_cons]
theorem nX{a b:List Int}:zu (a++b)↔zu a∧zu b:=by
 unfold zu; simp only[List.mem_append]
 exact⟨fun h=>⟨fun x hx=>h x (.inl hx),fun x hx=>h x (.inr hx)⟩,fun h x hx=>hx.elim (h.1 x) (h.2 x)⟩
theorem oK{a:List Int}(h:zu a)(n:Nat):zu (a.take n):=fun x hx=>h x (List.mem_of_mem_take hx)
theorem fJ{a:List Int}(h:zu a)(n:Nat):zu (a.drop n):=fun x hx=>h x (List.mem_of_mem_drop hx)
theorem xr(n:Nat):zu (List.replicate n 0):=fun x hx=>by
 have:=(List.mem_replicate.1 hx).2; omega
theorem cv{a:List Int}(h:zu a)(i:Nat){x:Int}(h0:0≤x)(h1:x<4294967296):zu (a.set i x):=fun y hy=>by
 rcases List.mem_or_eq_of_mem_set hy with h' | h'
 ·exact h y h'
 ·subst h'; exact⟨h0,h1⟩
theorem YP{a:List Int}(h:zu a)(i:Int):0≤nth a i 0∧nth a i 0<4294967296:=by
 unfold nth
 rw[List.getD_eq_getElem?_getD]
 cases hx:a[i.toNat]? with
 | none=>simp
 | some x=>exact h x (List.mem_of_getElem? hx)
theorem zp(n:Nat):zu (zH n):=by
 induction n using Nat.strongRecOn with
 | _ n ih =>
  by_cases h:n=0
  ·subst h; rw[qA]; exact kW
  ·rw[y6 h]
   exact nn.2 ⟨by omega,ih _ (by omega)⟩
@[simp] theorem Gz:nv []=0:=rfl
@[simp] theorem eG(x:Int)(l:List Int):nv (x::l)=x.toNat+4294967296*nv l:=rfl
@[simp] theorem zO(n:Nat):nv (zH n)=n:=by
 induction n using Nat.strongRecOn with
 | _ n ih =>
  by_cases h:n=0
  ·subst h; rw[qA]; rfl
  ·rw[y6 h,eG,ih _ (by omega)]; omega
theorem gD(a b:List Int):nv (a++b)=nv a+4294967296 ^ a.length*nv b:=by
 induction a with
 | nil=>simp
 | cons x a ih=>simp only[List.cons_append,eG,ih,List.length_cons,Nat.pow_succ,Nat.mul_add]; rw[← Nat.mul_assoc,Nat.mul_comm 4294967296 (4294967296 ^ a.length)]; omega
theorem ya{l:List Int}(h:zu l):nv l<4294967296 ^ l.length:=by
 induction l with
 | nil=>simp
 | cons x l ih =>
  have h':=nn.1 h
  have:=ih h'.2
  simp only[eG,List.length_cons,Nat.pow_succ]
  omega
@[simp] theorem z1Y(n:Nat):nv (List.replicate n 0)=0:=by
 induction n with
 | zero=>rfl
 | succ n ih=>simp[List.replicate_succ,ih]
def WQ(l:List Int):Prop:=∀ x,l.getLast? = some x→x≠0
theorem Wx:WQ []:=fun _ h=>nomatch h
theorem Kw{x:Int}{l:List Int}(h:WQ (x::l)):WQ l:=by
 cases l with
 | nil=>exact Wx
 | cons y l=>intro z hz; exact h z (by simpa[List.getLast?_cons_cons]using hz)
theorem z61{l:List Int}(h:zu l)(ht:WQ l)(hn:l≠[]):nv l≠0:=by
 induction l with
 | nil=>exact absurd rfl hn
 | cons x l ih =>
  have h':=nn.1 h
  cases l with
  | nil =>
   have:=ht x rfl
   simp; omega
  | cons y l =>
   have:=ih h'.2 (Kw ht) (by simp)
   rw[eG]; omega
theorem Q7{l:List Int}(h:zu l)(ht:WQ l):zH (nv l)=l:=by
 induction l with
 | nil=>exact qA
 | cons x l ih =>
  have h':=nn.1 h
  have h1:=ih h'.2 (Kw ht)
  rw[y6 (z61 h ht (by simp)),eG]
  have e1:(x.toNat+4294967296*nv l) % 4294967296=x.toNat:=by omega
  have e2:(x.toNat+4294967296*nv l) / 4294967296=nv l:=by omega
  rw[e1,e2,h1]
  congr 1; omega
theorem sT(n:Nat):WQ (zH n):=by
 induction n using Nat.strongRecOn with
 | _ n ih =>
  by_cases h:n=0
  ·subst h; rw[qA]; exact Wx
  ·rw[y6 h]
   intro x hx
   by_cases h2:n / 4294967296=0
   ·rw[h2,qA]at hx
    simp at hx; omega
   ·have:=ih (n / 4294967296) (by omega)
    have uj:zH (n / 4294967296)≠[]:=by rw[y6 h2]; simp
    refine this x ?_
    rw[← hx]
    cases hc:zH (n / 4294967296)with
    | nil=>exact absurd hc uj
    | cons y l=>rw[List.getLast?_cons_cons]
theorem xI{n:Nat}:zH n=[]↔n=0:=by
 constructor
 ·intro h; rw[← zO n,h]; rfl
 ·rintro rfl; exact qA
theorem UZ(l:List Int):nv (l++[0])=nv l:=by simp[gD]
theorem qc{n k:Nat}:(zH n).length≤k↔n<4294967296 ^ k:=by
 induction k generalizing n with
 | zero =>
  simp only[Nat.le_zero_eq,List.length_eq_zero_iff,xI,Nat.pow_zero]; omega
 | succ k ih =>
  by_cases h:n=0
  ·subst h; rw[qA]; simp[Nat.pow_pos]
  ·rw[y6 h,List.length_cons,Nat.pow_succ,Nat.add_le_add_iff_right,ih]
   rw[Nat.div_lt_iff_lt_mul (by omega)]
theorem FX{n k:Nat}:k<(zH n).length↔4294967296 ^ k≤n:=by
 have:=qc (n:=n) (k:=k); omega
theorem zT{l:List Int}(h:zu l):(zH (nv l)).length≤l.length:=qc.2 (ya h)
theorem GM{a b:List Int}(i:Int)(h:(a.length:Int)≤i):nth (a++b) i 0=nth b (i-a.length) 0:=by
 unfold nth
 rw[List.getD_eq_getElem?_getD,List.getD_eq_getElem?_getD,List.getElem?_append_right (by omega)]
 congr 2; omega
theorem lR(a:List Int)(i:Nat)(h:i<a.length):a.take (i+1)=a.take i++[nth a i 0]:=by
 rw[List.take_succ_eq_append_getElem h]; simp[nth,h]
theorem Qi{a:List Int}{i:Nat}(h:i<a.length):nv (a.take (i+1))=nv (a.take i)+4294967296 ^ i*(nth a i 0).toNat:=by
 rw[lR a i h,gD]
 have:(a.take i).length=i:=by simp; omega
 simp[this]
theorem jX(a:List Int)(i:Nat)(h:i≤a.length):nv a=nv (a.take i)+4294967296 ^ i*nv (a.drop i):=by
 have:=gD (a.take i) (a.drop i)
 rw[List.take_append_drop]at this
 rw[this]; congr 3; simp; omega
theorem DD{a:List Int}{i:Nat}(h:i<a.length):nv (a.drop i)=(nth a i 0).toNat+4294967296*nv (a.drop (i+1)):=by
 rw[List.drop_eq_getElem_cons h,eG]; simp[nth,h,List.getD_eq_getElem?_getD]
theorem WH{α:Type}(a:List α)(i j:Nat)(x:α)(h:j≤i):(a.set i x).take j=a.take j:=by
 rw[List.take_set_of_le h]
theorem Zg(a:List Int)(i:Nat)(x:Int)(h:i<a.length):(a.set i x).take (i+1)=a.take i++[x]:=by
 rw[lR _ _ (by simpa using h),List.take_set_of_le (Nat.le_refl _)]
 simp[nth,h]
theorem jo(a:List Int)(i:Nat)(x:Int):(a.set i x).drop (i+1)=a.drop (i+1):=by
 rw[List.drop_set_of_lt (by omega)]
end Go.AM.PL
namespace Go.AM.T
variable {σ ρ:Type}
theorem xg{r:σ→T (σ⊕ρ)}(I:σ→Prop)(μ:σ→Nat)(Q:ρ→Prop)
  (h:∀ s,I s→(∃ s',(r s).run=some (.inl s')∧I s'∧μ s'<μ s)∨(∃ x,(r s).run=some (.inr x)∧Q x)) {s:σ} (hs:I s):∃ x,(loop r s).run=some x∧Q x:=by
 generalize hm:μ s=m
 induction m using Nat.strongRecOn generalizing s with
 | _ m ih =>
  rcases h s hs with⟨s',h1,h2,h3⟩ | ⟨x,h1,h2⟩
  ·rw[qI h1]
   exact ih (μ s') (by omega) h2 rfl
  ·exact⟨x,qh h1,h2⟩
end Go.AM.T
namespace Go.AM.PL
def lm(a:List Int)(i:Nat):Nat:=(nth a (i:Int) 0).toNat
theorem wi{a:List Int}(h:zu a)(i:Nat):lm a i<4294967296:=by have:=YP h i; unfold lm; omega
theorem wB{a:List Int}(h:zu a)(i:Nat):nth a (i:Int) 0=(lm a i:Int):=by have:=YP h i; unfold lm; omega
theorem jE{a:List Int}(h:zu a)(i:Nat):xj a i 0=(lm a i:Int):=by have:=wB h i; unfold nth at this; unfold xj; simpa using this
theorem BR{a:List Int}{i:Nat}(h:a.length≤i):lm a i=0:=by
 unfold lm nth; simp[List.getD_eq_getElem?_getD,List.getElem?_eq_none h]
theorem q9(a:List Int)(i:Nat):nv (a.take (i+1))=nv (a.take i)+4294967296 ^ i*lm a i:=by
 by_cases h:i<a.length
 ·exact Qi h
 ·rw[BR (by omega),List.take_of_length_le (by omega),List.take_of_length_le (by omega)]; simp
theorem qN{a:List Int}{i:Nat}(h:a.length≤i):nv (a.take i)=nv a:=by rw[List.take_of_length_le h]
theorem DM(a:List Int)(i:Nat):nv (a.take i)≤nv a:=by
 have:=gD (a.take i) (a.drop i)
 rw[List.take_append_drop]at this; omega
theorem XY{a:List Int}{i j:Nat}{x:Int}(h:i<a.length):lm (a.set i x) j=if i=j then x.toNat else lm a j:=by
 unfold lm nth
 simp only[Int.toNat_natCast,List.getD_eq_getElem?_getD,List.getElem?_set]
 by_cases e:i=j
 ·subst e; simp[h]
 ·simp[e]
theorem W2{a:List Int}{i:Nat}(x:Int)(h:i<a.length):nv (a.set i x)+4294967296 ^ i*lm a i=nv a+4294967296 ^ i*x.toNat:=by
 have h1:=jX (a.set i x) (i+1) (by simp; omega)
 have h2:=jX a (i+1) (by omega)
 rw[jo,Zg a i x h,gD]at h1
 rw[q9]at h2
 have h3:(a.take i).length=i:=by simp; omega
 rw[h3]at h1
 simp only[eG,Gz,Nat.mul_zero,Nat.add_zero]at h1
 omega
theorem u7{a:List Int}{i:Nat}(x:Int)(h:i<a.length):nv ((a.set i x).take (i+1))=nv (a.take i)+4294967296 ^ i*x.toNat:=by
 rw[Zg a i x h,gD]
 have h3:(a.take i).length=i:=by simp; omega
 rw[h3]; simp
theorem XD(i:Nat):0<4294967296 ^ i:=Nat.pow_pos (by omega)
theorem ur{a:List Int}(h:zu a)(i:Nat):nv (a.take i)<4294967296 ^ i:=by
 have:=ya (oK h i)
 have h2:(4294967296:Nat) ^ (a.take i).length≤4294967296 ^ i:=Nat.pow_le_pow_right (by omega) (by simp; omega)
 omega
def iC(a b:Nat):Int:=if a<b then -1 else if b<a then 1 else 0
theorem C8{r:Int→T (Int⊕(Unit⊕Int))}(x y:List Int)(hx:zu x)(hy:zu y)(hl:x.length=y.length)
  (h:∀ i:Nat,i<x.length→(r (i:Int)).run=some (if nth x i 0<nth y i 0 then .inr (.inr (-1))else if nth y i 0<nth x i 0 then .inr (.inr 1)else .inl ((i:Int)-1)))
  (h0:(r (-1)).run=some (.inr (.inl ()))):(T.loop r ((x.length:Int)-1)).run=some (if nv x<nv y then .inr (-1)else if nv y<nv x then .inr 1 else .inl ()):=by
 have key:∀ n:Nat,n≤x.length→(T.loop r ((n:Int)-1)).run=some (if nv (x.take n)<nv (y.take n)then .inr (-1)else if nv (y.take n)<nv (x.take n)then .inr 1 else .inl ()):=by
  intro n
  induction n with
  | zero=>intro _; simpa using qh h0
  | succ n ih =>
   intro hn
   have e1:((n+1:Nat):Int)-1=(n:Int):=by omega
   rw[e1]
   have hr:=h n (by omega)
   rw[wB hx,wB hy]at hr
   have a1:=ur hx n
   have a2:=ur hy n
   rw[q9,q9]
   rcases Nat.lt_trichotomy (lm x n) (lm y n)with c | c | c
   ·have hm:=Nat.mul_le_mul_left (4294967296 ^ n) (show lm x n+1≤lm y n by omega)
    rw[Nat.mul_add]at hm
    rw[if_pos (by omega)]at hr
    rw[if_pos (by omega)]
    exact qh hr
   ·rw[if_neg (by omega),if_neg (by omega)]at hr
    rw[qI hr,ih (by omega),c]
    simp only[Nat.add_lt_add_iff_right]
   ·have hm:=Nat.mul_le_mul_left (4294967296 ^ n) (show lm y n+1≤lm x n by omega)
    rw[Nat.mul_add]at hm
    rw[if_neg (by omega),if_pos (by omega)]at hr
    rw[if_neg (by omega),if_pos (by omega)]
    exact qh hr
 have:=key x.length (Nat.le_refl _)
 rw[List.take_length]at this
 rw[hl,List.take_length,← hl]at this
 exact this
theorem mQ{A B:Nat}(h:(zH A).length<(zH B).length):A<B:=by
 have h1:=qc.1 (Nat.le_refl (zH A).length)
 have h2:=FX.1 h
 omega
end Go.AM.PL
namespace Go.AM.PL
theorem UT(q a b c:Nat):q*(a*c+b)=(q*a)*c+q*b:=by grind
theorem FE(a b:Nat):(a+1)*b=a*b+b:=by grind
theorem z6z(a b c:Nat):(a+b)*c=a*c+b*c:=by grind
theorem BG{u2 u1 u0 v1 v2 q r:Nat}(hr:q*v1+r=u2*4294967296+u1)(h:q*v2≤r*4294967296+u0) :
  q*(v1*4294967296+v2)≤u2*18446744073709551616+u1*4294967296+u0:=by
 rw[UT]
 generalize q*v1=x at *
 generalize q*v2=y at *
 omega
theorem TS{u2 u1 u0 v1 v2 q r:Nat}(hr:q*v1+r=u2*4294967296+u1)(h:r*4294967296+u0<q*v2) :
  u2*18446744073709551616+u1*4294967296+u0<q*(v1*4294967296+v2):=by
 rw[UT]
 generalize q*v1=x at *
 generalize q*v2=y at *
 grind
theorem SB{U V q:Nat}(hV:0<V)(h:U<q*V):U / V<q:=(Nat.div_lt_iff_lt_mul hV).2 h
theorem FO{u2 u1 u0 v1 v2:Nat}(hv:0<v1)(hu0:u0<4294967296):(u2*18446744073709551616+u1*4294967296+u0) / (v1*4294967296+v2)≤(u2*4294967296+u1) / v1:=by
 rw[Nat.le_div_iff_mul_le hv]
 have h:=Nat.div_mul_le_self (u2*18446744073709551616+u1*4294967296+u0) (v1*4294967296+v2)
 generalize (u2*18446744073709551616+u1*4294967296+u0) / (v1*4294967296+v2)=q at *
 have e:=UT q v1 v2 4294967296
 rw[e]at h; omega
theorem ND{u2 u1 u0 v1 v2:Nat}(hv:2147483648≤v1)(Xi:v2<4294967296)(h:u2*18446744073709551616+u1*4294967296+u0<(v1*4294967296+v2+1)*4294967296) :
  (u2*4294967296+u1)≤v1*4294967296+v2∧(u2*4294967296+u1) / v1≤4294967297:=by
 have h1:u2*4294967296+u1≤v1*4294967296+v2:=by omega
 refine⟨h1,?_⟩
 rw[Nat.div_le_iff_le_mul (by omega)]
 omega
theorem Ik{U V D U3 V2 X Y q:Nat}(hU:U=U3*D+X)(hX:X<D)(hV:V=V2*D+Y)(hY:Y<D)(hVt:2147483648*4294967296≤V2)(hUV:U<V*4294967296)(hq:q=min (U3 / V2) 4294967295) :
  U / V≤q∧q≤U / V+1:=by
 have hD:0<D:=by omega
 have hV2:0<V2:=by omega
 have hVp:0<V:=by rw[hV]; have:=Nat.mul_pos hV2 hD; omega
 constructor
 ·rw[hq,Nat.le_min]
  constructor
  ·rw[Nat.le_div_iff_mul_le hV2]
   have h:=Nat.div_mul_le_self U V
   generalize U / V=z at *
   rw[hV,hU]at h
   have e:=UT z V2 Y D
   rw[e]at h
   have h2:(z*V2)*D<(U3+1)*D:=by 
    rw[FE]
    generalize z*V2*D=m at *
    generalize z*Y=m2 at *
    omega
   exact Nat.lt_succ_iff.1 (Nat.lt_of_mul_lt_mul_right h2)
  ·have:U / V<4294967296:=(Nat.div_lt_iff_lt_mul hVp).2 (by rw[Nat.mul_comm]; exact hUV)
   omega
 ·have h3:q≤U3 / V2:=by omega
  have h4:q≤4294967295:=by omega
  have h5:q*V2≤U3:=(Nat.le_div_iff_mul_le hV2).1 h3
  cases q with
  | zero=>exact Nat.zero_le _
  | succ q =>
   have:q≤U / V:=by
    rw[Nat.le_div_iff_mul_le hVp,hV,hU]
    have e:=UT q V2 Y D
    have e2:=FE q V2
    have h6:(q*V2+V2)*D≤U3*D:=Nat.mul_le_mul_right D (by omega)
    have e3:=z6z (q*V2) V2 D
    have h7:q*Y≤4294967295*D:=Nat.mul_le_mul (by omega) (by omega)
    have h8:4294967295*D≤V2*D:=Nat.mul_le_mul_right D (by omega)
    rw[e]; omega
   omega
end Go.AM.PL
namespace Go.AM.PL
theorem B0(n:Nat)(h:n<18446744073709551616):IntKind.wrap .u64 (n:Int)=n:=qx (by omega) (by omega)
theorem nK(n:Nat)(h:n<4294967296):IntKind.wrap .u32 (n:Int)=n:=XR (by omega) (by omega)
theorem gx{n:Nat}(h:n<18446744073709551616):zw (n:Int)=n:=qx (by omega) (by omega)
theorem Z5{n:Nat}(h:n<4294967296):qD (n:Int)=n:=XR (by omega) (by omega)
theorem w8{a:List Int}(h:zu a)(i:Nat){n:Nat}(h1:n<4294967296):zu (a.set i (n:Int)):=cv h i (by omega) (by omega)
theorem UK{x y:Nat}(hx:x<4294967296)(hy:y<4294967296):lX .u32 (x:Int) (y:Int)=((x &&& y:Nat):Int):=by
 show IntKind.wrap .u32 (((BitVec.ofInt 32 (x:Int) &&& BitVec.ofInt 32 (y:Int)).toNat:Nat):Int)=_
 have e:(BitVec.ofInt 32 (x:Int) &&& BitVec.ofInt 32 (y:Int)).toNat=x &&& y:=by
  simp[BitVec.ofInt_natCast,Nat.mod_eq_of_lt hx,Nat.mod_eq_of_lt hy]
 rw[e]
 exact nK _ (Nat.lt_of_le_of_lt Nat.and_le_left hx)
theorem QJ{x y:Nat}(hx:x<4294967296)(hy:y<4294967296):gL .u32 (x:Int) (y:Int)=((x ||| y:Nat):Int):=by
 show IntKind.wrap .u32 (((BitVec.ofInt 32 (x:Int) ||| BitVec.ofInt 32 (y:Int)).toNat:Nat):Int)=_
 have e:(BitVec.ofInt 32 (x:Int) ||| BitVec.ofInt 32 (y:Int)).toNat=x ||| y:=by
  simp[BitVec.ofInt_natCast,Nat.mod_eq_of_lt hx,Nat.mod_eq_of_lt hy]
 rw[e]
 exact nK _ (Nat.or_lt_two_pow (n:=32) hx hy)
theorem JC{x y:Nat}(hx:x<4294967296)(hy:y<4294967296):EW .u32 (x:Int) (y:Int)=((x ^^^ y:Nat):Int):=by
 show IntKind.wrap .u32 (((BitVec.ofInt 32 (x:Int) ^^^ BitVec.ofInt 32 (y:Int)).toNat:Nat):Int)=_
 have e:(BitVec.ofInt 32 (x:Int) ^^^ BitVec.ofInt 32 (y:Int)).toNat=x ^^^ y:=by
  simp[BitVec.ofInt_natCast,Nat.mod_eq_of_lt hx,Nat.mod_eq_of_lt hy]
 rw[e]
 exact nK _ (Nat.xor_lt_two_pow (n:=32) hx hy)
theorem Lq{x y:Nat}(hx:x<18446744073709551616)(hy:y<18446744073709551616):gL .u64 (x:Int) (y:Int)=((x ||| y:Nat):Int):=by
 show IntKind.wrap .u64 (((BitVec.ofInt 64 (x:Int) ||| BitVec.ofInt 64 (y:Int)).toNat:Nat):Int)=_
 have e:(BitVec.ofInt 64 (x:Int) ||| BitVec.ofInt 64 (y:Int)).toNat=x ||| y:=by
  simp[BitVec.ofInt_natCast,Nat.mod_eq_of_lt hx,Nat.mod_eq_of_lt hy]
 rw[e]
 exact B0 _ (Nat.or_lt_two_pow (n:=64) hx hy)
theorem Jl(x y m:Nat)(hy:y<2 ^ m):x*2 ^ m ||| y=x*2 ^ m+y:=by
 have:=Nat.shiftLeft_add_eq_or_of_lt hy x
 rw[Nat.shiftLeft_eq]at this
 exact this.symm
theorem zaL{x:Int}(h0:0≤x)(h1:x<4294967296):xU .u64 x 32=x*4294967296:=by
 have e:xU .u64 x 32=zw (x*4294967296):=rfl
 rw[e,qx (by omega) (by omega)]
theorem zeh{x y:Int}(h0:0≤x)(h1:x<4294967296)(h2:0≤y)(h3:y<4294967296):gL .u64 (xU .u64 x 32) (zw y)=x*4294967296+y:=by
 rw[zaL h0 h1,qx h2 (by omega)]
 obtain⟨a,rfl⟩:=Int.eq_ofNat_of_zero_le h0
 obtain⟨b,rfl⟩:=Int.eq_ofNat_of_zero_le h2
 have e:=Lq (x:=a*4294967296) (y:=b) (by omega) (by omega)
 rw[Jl a b 32 (by simpa using by omega)]at e
 simpa using e
theorem Ca{x y:Int}(h0:0≤x)(h1:x<4294967296)(h2:0≤y)(h3:y<4294967296):gL .u64 (xU .u64 x 32) y=x*4294967296+y:=by
 have:=zeh h0 h1 h2 h3
 rwa [qx h2 (by omega)]at this
theorem RV{x:Int}(h0:0≤x):qV .u64 x 32=x / 4294967296:=by
 show Int.fdiv x 4294967296=_
 rw[Int.fdiv_eq_ediv_of_nonneg _ (by omega)]
theorem de{x y:Int}(h:0≤x):Int.tdiv x y=x / y:=Int.tdiv_eq_ediv_of_nonneg h
theorem cT{x y:Int}(h:0≤x):Int.tmod x y=x % y:=Int.tmod_eq_emod_of_nonneg h
theorem z9c{v:Nat}(h:v<4294967296):v / 2147483648=if v.testBit 31=true then 1 else 0:=by
 have e:v.testBit 31=decide (v / 2 ^ 31 % 2=1):=by rw[Nat.testBit_eq_decide_div_mod_eq]
 rw[e]
 by_cases h2:v<2147483648
 ·have:v / 2147483648=0:=by omega
  simp[this]
 ·have:v / 2147483648=1:=by omega
  simp[this]
theorem F6{v:Nat}(h:v<4294967296):v.testBit 31=decide (2147483648≤v):=by
 rw[Nat.testBit_eq_decide_div_mod_eq]
 by_cases h2:v<2147483648
 ·have:v / 2 ^ 31=0:=by omega
  simp[this]; omega
 ·have:v / 2 ^ 31=1:=by omega
  simp[this]; omega
theorem z8m{x y b:Nat}(hx:x<4294967296)(hy:y<4294967296)(hb:b≤1) :
  qD (qD ((x:Int)-y)-b)=(((x+4294967296*(if x<y+b then 1 else 0))-y-b:Nat):Int):=by
 rw[fQ,fQ]
 split<;>omega
theorem Pn{x y b d:Nat}(hx:x<4294967296)(hy:y<4294967296)(hb:b≤1)(hd:d=(x+4294967296*(if x<y+b then 1 else 0))-y-b) :
  qV .u32 (gL .u32 (lX .u32 (EW .u32 (4294967295:Int) x) y) (lX .u32 (EW .u32 (4294967295:Int) (EW .u32 x y)) (d:Int))) 31=if x<y+b then 1 else 0:=by
 have MV:d<4294967296:=by rw[hd]; split<;>omega
 have e1:=JC (x:=4294967295) (y:=x) (by omega) hx
 have h1:4294967295 ^^^ x<4294967296:=Nat.xor_lt_two_pow (n:=32) (by omega) hx
 have e2:=UK h1 hy
 have h2:(4294967295 ^^^ x) &&& y<4294967296:=Nat.lt_of_le_of_lt Nat.and_le_left h1
 have e3:=JC hx hy
 have h3:x ^^^ y<4294967296:=Nat.xor_lt_two_pow (n:=32) hx hy
 have e4:=JC (x:=4294967295) (y:=x ^^^ y) (by omega) h3
 have h4:4294967295 ^^^ (x ^^^ y)<4294967296:=Nat.xor_lt_two_pow (n:=32) (by omega) h3
 have e5:=UK h4 MV
 have h5:(4294967295 ^^^ (x ^^^ y)) &&& d<4294967296:=Nat.lt_of_le_of_lt Nat.and_le_left h4
 have e6:=QJ h2 h5
 have h6:=Nat.or_lt_two_pow (n:=32) h2 h5
 have ec:(4294967295:Int)=((4294967295:Nat):Int):=rfl
 rw[ec,e1,e2,e3,e4,e5,e6]
 show Int.fdiv _ 2147483648=_
 rw[Int.fdiv_eq_ediv_of_nonneg _ (by omega)]
 have e7:=z9c h6
 have e8:(((((4294967295 ^^^ x) &&& y) ||| ((4294967295 ^^^ (x ^^^ y)) &&& d):Nat):Int)) / 2147483648=(((((4294967295 ^^^ x) &&& y) ||| ((4294967295 ^^^ (x ^^^ y)) &&& d)) / 2147483648:Nat):Int):=by omega
 rw[e8,e7]
 have t1:(4294967295:Nat).testBit 31=true:=by decide
 simp only[Nat.testBit_or,Nat.testBit_and,Nat.testBit_xor,t1,F6 hx,F6 hy,F6 MV]
 by_cases c:x<y+b
 ·rw[if_pos c]at hd ⊢
  by_cases p:2147483648≤x<;>by_cases q:2147483648≤y<;>by_cases r:2147483648≤d<;>simp[p,q,r]<;>omega
 ·rw[if_neg c]at hd ⊢
  by_cases p:2147483648≤x<;>by_cases q:2147483648≤y<;>by_cases r:2147483648≤d<;>simp[p,q,r]<;>omega
end Go.AM.PL
namespace Go.AM.Lf
open PL
@[simp] theorem xE:zb (.int .u32)=(0:Int):=rfl
theorem Sb(l:List Int)(x:Int):nth (l++[x]) ((l++[x]).length-1:Int) 0=x:=by
 rw[GM _ (by simp)]; simp[nth]
theorem xY(a:List Int)(h:zu a)(hl:a.length≤4000000000):(xK a).run=some (zH (nv a)):=by
 have key:(rM a).run=some (zH (nv a)):=by
  unfold rM
  refine ud (fun a=>zu a∧a.length≤4000000000) (fun a=>a.length) (fun a=>zH (nv a)) ?_ ⟨h,hl⟩
  rintro s ⟨h1,h2⟩
  rcases List.eq_nil_or_concat s with rfl | ⟨l,x,rfl⟩
  ·right; simp[lE,iA,qA]
  ·rw[List.concat_eq_append]at *
   have hx:=Sb l x
   have hlen:(l++[x]).length=l.length+1:=by simp
   have hw:zt (((l++[x]).length:Int)-1)=((l++[x]).length:Int)-1:=zN (by omega) (by omega)
   have hIs:(iA (l++[x])).run=some (x != 0):=by
    unfold iA
    rw[zc]
    ·simp only[hw,xE,hx,z7]
     congr 1
     have:(((l++[x]).length:Int)==0)=false:=by simp; omega
     rw[this]; rfl
    ·intro _; rw[hw]; exact⟨by omega,by omega⟩
   unfold lE
   rw[z6 hIs]
   by_cases U6:x=0
   ·left
    subst U6
    refine⟨l,?_,⟨(nX.1 h1).1,by omega⟩,by omega,by rw[UZ]⟩
    have hc:uq (e:=.int .u32) 0 (((l++[(0:Int)]).length:Int)-1) (l++[0])=l:=by
     unfold uq; simp
    rw[hw,hc]
    simp only[bne_self_eq_false,Bool.not_false,zA]
    rw[nC _ (by omega) (by omega) (by omega),z7]
   ·right
    have hb:(x != 0)=true:=by simpa using U6
    rw[hb]
    simp only[Bool.not_true,zr,z7]
    rw[Q7 h1]
    intro y hy
    simp at hy; omega
 unfold xK
 rw[z6 key,z7]
theorem MK(a:List Int)(hl:a.length≤4000000000):(vj a).run=some a:=by
 unfold vj
 rw[zc]
 ·cases a with
  | nil=>simp
  | cons x a=>simp only[List.length_cons]at hl; simp(disch:=omega)
 ·rintro rfl r hr
  first
  | simpa[T.leads]using hr
  | (obtain⟨_,_,hr⟩:=hr; simpa[T.leads]using hr)
theorem mC(a:List Int)(h:zu a)(hl:a.length≤4000000000):(bH a).run=some (zH (nv a)):=by
 unfold bH
 rw[z6 (xY a h hl),z6 (MK _ (Nat.le_trans (zT h) hl)),z7]
theorem xV(a:List Int)(h:zu a)(hl:a.length≤4000000000):(xl a).run=some (zH (nv a)):=by
 have key:∀ n:Nat,n≤a.length→nv (a.take n)=nv a→(Qg a (n:Int)).run=some ((zH (nv a)).length:Int)∧(zH (nv a))=a.take (zH (nv a)).length:=by
  intro n
  induction n with
  | zero =>
   intro _ hn
   have h0:nv a=0:=by rw[← hn]; rfl
   rw[h0,qA]
   refine⟨qh ?_,rfl⟩
   simp[bK]
  | succ n ih =>
   intro hle hn
   have e1:zt (((n+1:Nat):Int)-1)=(n:Int):=by rw[zN (by omega) (by omega)]; omega
   by_cases hx:nth a (n:Int) 0=0
   ·have h2:nv (a.take n)=nv a:=by rw[← hn,Qi (by omega),hx]; simp
    obtain⟨g1,g2⟩:=ih (by omega) h2
    refine⟨?_,g2⟩
    rw[← g1]
    refine qI ?_
    unfold bK
    simp only[e1,xE,hx]
    rw[zc (fun _=>⟨by omega,by omega⟩)]
    simp
   ·have ht:WQ (a.take (n+1)):=by
     rw[lR _ _ (by omega)]
     intro y hy; simp at hy; rw[← hy]; exact hx
    have he:=Q7 (oK h (n+1)) ht
    rw[hn]at he
    have hlen:(zH (nv a)).length=n+1:=by rw[he]; simp; omega
    rw[hlen]
    refine⟨qh ?_,he⟩
    unfold bK
    simp only[e1,xE]
    rw[zc (fun _=>⟨by omega,by omega⟩)]
    simp[hx]
 obtain⟨g1,g2⟩:=key a.length (Nat.le_refl _) (by simp)
 have hle:=zT h
 unfold xl
 rw[z6 g1]
 have hc:uq (e:=.int .u32) 0 ((zH (nv a)).length:Int) a=zH (nv a):=by
  unfold uq; simp only[Int.toNat_natCast,Int.toNat_zero,List.drop_zero]; exact g2.symm
 simp only[hc]
 rw[nC _ (by omega) (by omega) (by omega)]
 cases hz:zH (nv a)with
 | nil=>simp
 | cons x l =>
  rw[hz]at hle
  simp only[List.length_cons]at hle
  simp(disch:=omega)
theorem jR(n:Nat)(h:n<18446744073709551616):(jW (n:Int)).run=some (zH n):=by
 have e2:qD (qV .u64 (n:Int) 32)=((n / 4294967296:Nat):Int):=by rw[RV (by omega),fQ]; omega
 have e1:qD (n:Int)=((n % 4294967296:Nat):Int):=by rw[fQ]; omega
 have h1:zu [((n % 4294967296:Nat):Int),((n / 4294967296:Nat):Int)]:=by
  intro x hx; simp only[List.mem_cons,List.not_mem_nil,or_false]at hx; rcases hx with rfl | rfl<;>omega
 have h2:=xY _ h1 (by simp)
 have h3:nv [((n % 4294967296:Nat):Int),((n / 4294967296:Nat):Int)]=n:=by simp only[eG,Gz]; omega
 unfold jW
 rw[j3 _ (by omega),e1,e2,z6 h2,h3,z7]
theorem lq(n:Nat)(h:n<18446744073709551616):(nT (n:Int)).run=some (zH n):=by
 have e2:qD (qV .u64 (n:Int) 32)=((n / 4294967296:Nat):Int):=by rw[RV (by omega),fQ]; omega
 have e1:qD (n:Int)=((n % 4294967296:Nat):Int):=by rw[fQ]; omega
 have h1:zu [((n % 4294967296:Nat):Int),((n / 4294967296:Nat):Int)]:=by
  intro x hx; simp only[List.mem_cons,List.not_mem_nil,or_false]at hx; rcases hx with rfl | rfl<;>omega
 have h2:=xV _ h1 (by simp)
 have h3:nv [((n % 4294967296:Nat):Int),((n / 4294967296:Nat):Int)]=n:=by simp only[eG,Gz]; omega
 unfold nT
 rw[j3 _ (by omega),e1,e2,z6 h2,h3,z7]
theorem lA(a b:List Int)(ha:zu a)(hb:zu b)(la:a.length≤1000000000)(lb:b.length≤1000000000):(lC a b).run=some (iC (nv a) (nv b)):=by
 unfold lC
 rw[z6 (xY a ha (by omega)),z6 (xY b hb (by omega))]
 have qa:=zT ha
 have qb:=zT hb
 generalize nv a=A at *
 generalize nv b=B at *
 by_cases hl:(zH A).length=(zH B).length
 ·rw[hl,bne_self_eq_false,zr]
  have key:=C8 (r:=fO (zH A) (zH B)) (zH A) (zH B) (zp A) (zp B) hl (fun i hi => ?_) ?_
  ·rw[← hl,zN (by omega) (by omega)]
   unfold K7
   rw[z6 key,zO,zO]
   unfold iC
   by_cases p:A<B
   ·simp[p]
   ·by_cases q:B<A<;>simp[p,q]
  ·have e:zt ((i:Int)-1)=(i:Int)-1:=zN (by omega) (by omega)
   unfold fO
   have KM:i<(zH B).length:=by omega
   have x1:=wB (zp A) i
   have x2:=wB (zp B) i
   rcases Nat.lt_trichotomy (lm (zH A) i) (lm (zH B) i)with c | c | c
   ·have c2:¬ (lm (zH A) i=lm (zH B) i):=by omega
    simp(disch:=omega) [e,x1,x2,c,c2,hi,KM]<;>omega
   ·simp(disch:=omega) [e,x1,x2,c,hi,KM]
   ·have c2:¬ (lm (zH A) i=lm (zH B) i):=by omega
    have c3:¬ (lm (zH A) i<lm (zH B) i):=by omega
    simp(disch:=omega) [e,x1,x2,c,c2,c3,hi,KM]<;>omega
  ·simp[fO]
 ·rw[za (by simp; omega)]
  unfold iC
  by_cases c:(zH A).length<(zH B).length
  ·have:=mQ c
   simp[c,this]
  ·have h2:=mQ (show(zH B).length<(zH A).length by omega)
   have h3:¬ A<B:=by omega
   simp[c,h2,h3]
theorem oe(a b:List Int)(ha:zu a)(hb:zu b)(la:a.length≤1000000000)(lb:b.length≤1000000000):(iF a b).run=some (iC (nv a) (nv b)):=by
 unfold iF
 rw[z6 (xV a ha (by omega)),z6 (xV b hb (by omega))]
 have qa:=zT ha
 have qb:=zT hb
 generalize nv a=A at *
 generalize nv b=B at *
 by_cases hl:(zH A).length=(zH B).length
 ·rw[hl,bne_self_eq_false,zr]
  have key:=C8 (r:=du (zH A) (zH B)) (zH A) (zH B) (zp A) (zp B) hl (fun i hi => ?_) ?_
  ·rw[← hl,zN (by omega) (by omega)]
   unfold Vw
   rw[z6 key,zO,zO]
   unfold iC
   by_cases p:A<B
   ·simp[p]
   ·by_cases q:B<A<;>simp[p,q]
  ·have e:zt ((i:Int)-1)=(i:Int)-1:=zN (by omega) (by omega)
   unfold du
   have KM:i<(zH B).length:=by omega
   have x1:=wB (zp A) i
   have x2:=wB (zp B) i
   rcases Nat.lt_trichotomy (lm (zH A) i) (lm (zH B) i)with c | c | c
   ·have c2:¬ (lm (zH A) i=lm (zH B) i):=by omega
    simp(disch:=omega) [e,x1,x2,c,c2,hi,KM]<;>omega
   ·simp(disch:=omega) [e,x1,x2,c,hi,KM]
   ·have c2:¬ (lm (zH A) i=lm (zH B) i):=by omega
    have c3:¬ (lm (zH A) i<lm (zH B) i):=by omega
    simp(disch:=omega) [e,x1,x2,c,c2,c3,hi,KM]<;>omega
  ·simp[du]
 ·rw[za (by simp; omega)]
  unfold iC
  by_cases c:(zH A).length<(zH B).length
  ·have:=mQ c
   simp[c,this]
  ·have h2:=mQ (show(zH B).length<(zH A).length by omega)
   have h3:¬ A<B:=by omega
   simp[c,h2,h3]
theorem gv(a:List Int)(ha:zu a)(i:Nat):(gY a (i:Int)).run=some (lm a i:Int):=by
 unfold gY
 have:=wi ha i
 by_cases h:i<a.length
 ·rw[za (by simpa using h),qF _ (by omega) (by omega),z7,xE,wB ha,qx (by omega) (by omega)]
 ·rw[z8 (by simpa using h),z7,BR (by omega)]; rfl
theorem z15(x l P v:Nat):(x*4294967296+l)*P+v=x*(P*4294967296)+(v+P*l):=by grind
theorem WV(a:List Int)(ha:zu a)(la:a.length≤1000000000):(Qe a).run=some (if nv a<18446744073709551616 then((nv a:Int),true)else(0,false)):=by
 unfold Qe
 rw[z6 (xV a ha (by omega))]
 generalize nv a=A
 have h2 := @qc A 2
 have hp:(4294967296:Nat) ^ 2=18446744073709551616:=by decide
 rw[hp]at h2
 by_cases c:A<18446744073709551616
 ·have hl:=h2.2 c
  rw[if_pos c,z8 (by simp; omega)]
  have h3:=y6 (n:=A)
  have key:∀ n:Nat,n≤(zH A).length→∀ x:Nat,x<4294967296 ^ (2-n)→(Jf (zH A) ((x:Int),(n:Int)-1)).run=some ((x*4294967296 ^ n+nv ((zH A).take n):Nat):Int):=by
   intro n
   induction n with
   | zero =>
    intro _ x hx
    refine qh ?_
    simp[iv]
   | succ n ih =>
    intro hn x hx
    have hx1:x<4294967296:=by
     have:(4294967296:Nat) ^ (2-(n+1))≤4294967296 ^ 1:=Nat.pow_le_pow_right (by omega) (by omega)
     omega
    have e1:((n+1:Nat):Int)-1=(n:Int):=by omega
    have e2:zt ((n:Int)-1)=(n:Int)-1:=zN (by omega) (by omega)
    have iM:=wi (zp A) n
    have e3:=Ca (x:=(x:Int)) (y:=(lm (zH A) n:Int)) (by omega) (by omega) (by omega) (by omega)
    have hs:(iv (zH A) ((x:Int),(n:Int))).run=some (.inl (((x*4294967296+lm (zH A) n:Nat):Int),(n:Int)-1)):=by
     unfold iv
     simp(disch:=omega) [wB (zp A),e2,e3]
    rw[e1]
    refine(qI hs).trans ?_
    have KO:n+1≤2:=by omega
    have qp:x*4294967296+lm (zH A) n<4294967296 ^ (2-n):=by
     have e4:(4294967296:Nat) ^ (2-n)=4294967296 ^ (2-(n+1))*4294967296:=by
      rw[← Nat.pow_succ]; congr 1; omega
     rw[e4]
     have:=Nat.mul_le_mul_right 4294967296 (show x+1≤4294967296 ^ (2-(n+1))from hx)
     omega
    refine(ih (by omega) _ qp).trans ?_
    rw[q9,Nat.pow_succ]
    have e5:=z15 x (lm (zH A) n) (4294967296 ^ n) (nv ((zH A).take n))
    rw[e5]
  have:=key (zH A).length (Nat.le_refl _) 0 (Nat.pow_pos (by omega))
  rw[List.take_length,zO]at this
  rw[zN (by omega) (by omega)]
  simp only[Nat.zero_mul,Nat.zero_add,Int.natCast_zero]at this
  rw[z6 (by simpa using this),z7]
 ·rw[if_neg c,za (by simp; omega),z7]
theorem Yk{c x y:Nat}(hc:c≤1)(hx:x<4294967296)(hy:y<4294967296):zw (zw ((c:Int)+x)+y)=((c+x+y:Nat):Int):=by
 rw[qx (x:=(c:Int)+x) (by omega) (by omega),qx (by omega) (by omega)]; omega
theorem JW(n:Nat):qD (n:Int)=((n % 4294967296:Nat):Int):=by rw[fQ]; omega
theorem Wt(n:Nat):qV .u64 (n:Int) 32=((n / 4294967296:Nat):Int):=by rw[RV (by omega)]; omega
theorem K0{P X c a b p q:Nat}(h:X+c*P=a+b):X+P*((c+p+q) % 4294967296)+(c+p+q) / 4294967296*(P*4294967296)=(a+P*p)+(b+P*q):=by
 have e:(c+p+q)=(c+p+q) % 4294967296+4294967296*((c+p+q) / 4294967296):=by omega
 generalize (c+p+q) % 4294967296=lo at *
 generalize (c+p+q) / 4294967296=hi at *
 have e2:P*(c+p+q)=P*(lo+4294967296*hi):=by rw[e]
 simp only[Nat.mul_add]at e2
 rw[Nat.mul_comm c P]at h
 have e3:hi*(P*4294967296)=P*(4294967296*hi):=by rw[Nat.mul_comm hi,Nat.mul_assoc]
 omega
theorem Ch(a b:List Int)(ha:zu a)(hb:zu b)(la:a.length≤1000000000)(lb:b.length≤1000000000):(Qk a b).run=some (zH (nv a+nv b)):=by
 have qa:=zT ha
 have qb:=zT hb
 unfold Qk
 rw[z6 (xY a ha (by omega)),z6 (xY b hb (by omega))]
 generalize nv a=A at *
 generalize nv b=B at *
 obtain⟨x,y,hxy,lx,ly,le,hsw,zgQ⟩:∃ x y:List Int,(nv x+nv y=A+B)∧zu x∧zu y∧(y.length≤x.length∧x.length≤1000000000) ∧
   (bif decide (((zH A).length:Int)<((zH B).length:Int))then zH B else zH A)=x∧(bif decide (((zH A).length:Int)<((zH B).length:Int))then zH A else zH B)=y:=by
  by_cases c:(zH A).length<(zH B).length
  ·exact⟨zH B,zH A,by simp; omega,zp _,zp _,⟨by omega,by omega⟩,by simp[c],by simp[c]⟩
  ·exact⟨zH A,zH B,by simp,zp _,zp _,⟨by omega,by omega⟩,by simp[c],by simp[c]⟩
 rw[hsw,zgQ]
 obtain⟨le1,le2⟩:=le
 have ew:zt ((x.length:Int)+1)=((x.length+1:Nat):Int):=by rw[zN (by omega) (by omega)]; omega
 rw[ew]
 simp only[Int.toNat_natCast,List.length_replicate]
 have loop:∃ r:Int×List Int,(Kq x y x (x.length:Int) (0,0,List.replicate (x.length+1) 0)).run=some r∧∃ c:Nat,r.1=(c:Int)∧c≤1∧zu r.2∧r.2.length=x.length+1∧nv (r.2.take x.length)+c*4294967296 ^ x.length=nv x+nv y:=by
  refine T.xg (fun s:Int×Int×List Int=>∃ (c i:Nat),s.1=(c:Int)∧s.2.1=(i:Int)∧c≤1∧i≤x.length∧zu s.2.2∧s.2.2.length=x.length+1∧nv (s.2.2.take i)+c*4294967296 ^ i=nv (x.take i)+nv (y.take i))
   (fun s=>x.length-s.2.1.toNat) _ ?_ ⟨0,0,rfl,rfl,by omega,by omega,xr _,by simp,by simp⟩
  rintro⟨_,_,xs⟩ ⟨c,i,rfl,rfl,hc,hi,hl,hn,hv⟩
  simp only at hl hn hv ⊢
  by_cases qp:i<x.length
  ·left
   have hx:=wi lx i
   have hy:=wi ly i
   have z5O:(bif decide ((i:Int)<(y.length:Int))then zw (zw ((c:Int)+zw (lm x i:Int))+zw (nth y (i:Int) 0))else zw ((c:Int)+zw (lm x i:Int)))=((c+lm x i+lm y i:Nat):Int):=by
    rw[wB ly,qx (x:=(lm x i:Int)) (by omega) (by omega),qx (x:=(lm y i:Int)) (by omega) (by omega)]
    by_cases q:i<y.length
    ·rw[show decide ((i:Int)<(y.length:Int))=true by simpa using q,cond_true,Yk hc hx hy]
    ·rw[show decide ((i:Int)<(y.length:Int))=false by simpa using q,cond_false,BR (a:=y) (by omega),qx (by omega) (by omega)]; omega
   have ei:zt ((i:Int)+1)=((i+1:Nat):Int):=by rw[zN (by omega) (by omega)]; omega
   refine⟨((((c+lm x i+lm y i) / 4294967296:Nat):Int),((i+1:Nat):Int),xs.set i (((c+lm x i+lm y i) % 4294967296:Nat):Int)),?_,⟨_,i+1,rfl,rfl,by omega,by omega,cv hl _ (by omega) (by omega),by simpa using hn,?_⟩,by simp; omega⟩
   ·unfold nN
    simp only[xE,wB lx,z5O,JW,Wt,ei]
    simp(disch:=omega) [qp,hn]
    rw[zc (fun hq=>⟨by omega,by omega⟩)]
    simp(disch:=omega) [qp,hn]
   ·simp only
    rw[u7 _ (by omega),q9,q9,Nat.pow_succ,Int.toNat_natCast]
    exact K0 hv
  ·right
   have Zw:i=x.length:=by omega
   subst Zw
   refine⟨((c:Int),xs),?_,c,rfl,hc,hl,hn,?_⟩
   ·unfold nN
    simp
   ·simpa[List.take_length,qN le1]using hv
 obtain⟨⟨_,xs⟩,hr,c,rfl,hc,hl,hn,hv⟩:=loop
 simp only at hl hn hv
 rw[T.run_mk _ (by omega) (by omega) (by omega) (by omega),ze _ rfl rfl rfl,zM,z6 hr]
 simp only[Int.toNat_natCast,Nat.zero_add,List.drop_zero,JW]
 rw[qF _ (by omega) (by omega),jD _ rfl (by omega),zM]
 have e1:(xs.set x.length ((c % 4294967296:Nat):Int)).take xs.length=xs.set x.length ((c % 4294967296:Nat):Int):=List.take_of_length_le (by simp)
 rw[e1]
 have h3:=xY (xs.set x.length ((c % 4294967296:Nat):Int)) (cv hl _ (by omega) (by omega)) (by simp; omega)
 rw[z6 h3,z7]
 have e2:=u7 (a:=xs) (i:=x.length) ((c % 4294967296:Nat):Int) (by omega)
 rw[qN (by simp; omega)]at e2
 rw[e2,Int.toNat_natCast,Nat.mod_eq_of_lt (by omega),Nat.mul_comm,hv,hxy]
theorem i1(i:Nat)(h:i≤4000000000):zt ((i:Int)+1)=((i+1:Nat):Int):=by rw[zN (by omega) (by omega)]; omega
theorem im1(i:Nat)(h:i≤4000000000):zt (((i+1:Nat):Int)-1)=(i:Int):=by rw[zN (by omega) (by omega)]; omega
theorem Q4{xs:List Int}(h:zu xs){x:Int}(h0:0≤x)(h1:x<4294967296):zu (xs++[x]):=nX.2 ⟨h,fun y hy=>by simp at hy; subst hy; exact⟨h0,h1⟩⟩
theorem Hv(xs:List Int)(x:Int):nv (xs++[x])=nv xs+4294967296 ^ xs.length*x.toNat:=by rw[gD]; simp
theorem Qh(a b:List Int)(ha:zu a)(hb:zu b)(la:a.length≤1000000000)(lb:b.length≤1000000000):(mw a b).run=some (zH (nv a+nv b)):=by
 have hm:∃ m:Nat,m=max a.length b.length:=⟨_,rfl⟩
 obtain⟨m,hm⟩:=hm
 have em:zt (w7 (a.length:Int) (b.length:Int)+1)=((m+1:Nat):Int):=by
  have:w7 (a.length:Int) (b.length:Int)=(m:Int):=by unfold w7; split<;>omega
  rw[this,i1 m (by omega)]
 have tot:nv a+nv b<4294967296 ^ (m+1):=by
  have h1:=ya ha
  have h2:=ya hb
  have h3:(4294967296:Nat) ^ a.length≤4294967296 ^ m:=Nat.pow_le_pow_right (by omega) (by omega)
  have h4:(4294967296:Nat) ^ b.length≤4294967296 ^ m:=Nat.pow_le_pow_right (by omega) (by omega)
  rw[Nat.pow_succ]; omega
 have loop:∃ r:List Int,(Vq a b (0,0,[])).run=some r∧zu r∧r.length=m+1∧nv r=nv a+nv b:=by
  refine T.xg (fun s:Int×Int×List Int=>∃ (c i:Nat),s.1=(c:Int)∧s.2.1=(i:Int)∧c≤1∧i≤m+1∧zu s.2.2∧s.2.2.length=i∧nv s.2.2+c*4294967296 ^ i=nv (a.take i)+nv (b.take i))
   (fun s=>m+1-s.2.1.toNat) _ ?_ ⟨0,0,rfl,rfl,by omega,by omega,kW,rfl,by simp⟩
  rintro⟨_,_,xs⟩ ⟨c,i,rfl,rfl,hc,hi,hl,hn,hv⟩
  simp only at hl hn hv ⊢
  by_cases qp:i<m+1
  ·left
   have hx:=wi ha i
   have hy:=wi hb i
   refine⟨((((c+lm a i+lm b i) / 4294967296:Nat):Int),((i+1:Nat):Int),xs++[(((c+lm a i+lm b i) % 4294967296:Nat):Int)]),?_,⟨_,i+1,rfl,rfl,by omega,by omega,Q4 hl (by omega) (by omega),by simp; omega,?_⟩,by simp; omega⟩
   ·unfold lM
    simp only[em,yk]
    rw[if_pos (by simp; omega),z6 (gv a ha i),z6 (gv b hb i)]
    simp only[Yk hc hx hy,JW,Wt,i1 i (by omega)]
    simp(disch:=omega) [hn]
   ·simp only
    rw[Hv,hn,q9,q9,Nat.pow_succ,Int.toNat_natCast]
    exact K0 hv
  ·right
   have Zw:i=m+1:=by omega
   subst Zw
   refine⟨xs,?_,hl,hn,?_⟩
   ·unfold lM
    simp[em]
   ·rw[qN (by omega),qN (by omega)]at hv
    have:c=0:=by
     rcases Nat.eq_zero_or_pos c with h | h
     ·exact h
     ·have:c=1:=by omega
      subst this; omega
    subst this; omega
 obtain⟨xs,hr,hl,hn,hv⟩:=loop
 unfold mw
 simp(disch:=omega) only[ze,zM,z6 hr]
 simp only[List.drop_zero,Nat.zero_add,List.take_length]
 rw[z6 (xV xs hl (by omega)),hv,z7]
theorem WX{P X Y c x y:Nat}{Z:Nat}(h:X+Y=Z+c*P)(hc:c≤1)(hx:x<4294967296)(hy:y<4294967296) :
  X+P*((x+4294967296*(if x<y+c then 1 else 0))-(y+c))+(Y+P*y)=Z+P*x+(if x<y+c then 1 else 0)*(P*4294967296):=by
 have key:∀ k:Nat,y+c≤x+4294967296*k→X+P*(x+4294967296*k-(y+c))+(Y+P*y)=Z+P*x+k*(P*4294967296):=by
  intro k hk
  obtain⟨d,hd⟩:∃ d,d=x+4294967296*k-(y+c):=⟨_,rfl⟩
  have hd2:d+(y+c)=x+4294967296*k:=by omega
  rw[← hd]
  have e2:P*(d+(y+c))=P*(x+4294967296*k):=by rw[hd2]
  simp only[Nat.mul_add]at e2
  have e3:k*(P*4294967296)=P*(4294967296*k):=by rw[Nat.mul_comm k,Nat.mul_assoc]
  rw[Nat.mul_comm c P]at h
  omega
 split
 ·exact key 1 (by omega)
 ·exact key 0 (by omega)
theorem XI(a b:List Int)(ha:zu a)(hb:zu b)(la:a.length≤1000000000)(lb:b.length≤1000000000):(fH a b).run=some (if nv a<nv b then([],false)else(zH (nv a-nv b),true)):=by
 unfold fH
 rw[z6 (oe a b ha hb la lb)]
 by_cases hlt0:nv a<nv b
 ·rw[if_pos hlt0]; simp[iC,hlt0]
 rw[if_neg hlt0,z8 (by unfold iC; rw[if_neg hlt0]; split<;>simp)]
 have loop:∃ r:List Int,(Vl a b (0,0,[])).run=some r∧zu r∧r.length=a.length∧nv r+nv b=nv a:=by
  refine T.xg (fun s:Int×Int×List Int=>∃ (c i:Nat),s.1=(c:Int)∧s.2.1=(i:Int)∧c≤1∧i≤a.length∧zu s.2.2∧s.2.2.length=i∧nv s.2.2+nv (b.take i)=nv (a.take i)+c*4294967296 ^ i)
   (fun s=>a.length-s.2.1.toNat) _ ?_ ⟨0,0,rfl,rfl,by omega,by omega,kW,rfl,by simp⟩
  rintro⟨_,_,xs⟩ ⟨c,i,rfl,rfl,hc,hi,hl,hn,hv⟩
  simp only at hl hn hv ⊢
  by_cases qp:i<a.length
  ·left
   have hx:=wi ha i
   have hy:=wi hb i
   refine⟨(((if lm a i<lm b i+c then 1 else 0:Nat):Int),((i+1:Nat):Int),xs++[(((lm a i+4294967296*(if lm a i<lm b i+c then 1 else 0))-(lm b i+c):Nat):Int)]),?_,⟨_,i+1,rfl,rfl,by split<;>omega,by omega,Q4 hl (by omega) (by split<;>omega),by simp; omega,?_⟩,by simp; omega⟩
   ·unfold iR
    have e0:zw ((lm b i:Int)+(c:Int))=((lm b i+c:Nat):Int):=by rw[qx (by omega) (by omega)]; omega
    simp only[yk]
    rw[if_pos (by simpa using qp),z6 (gv a ha i),z6 (gv b hb i)]
    simp only[e0,i1 i (by omega)]
    have e1:(bif decide ((lm a i:Int)<((lm b i+c:Nat):Int))then(1:Int)else 0)=((if lm a i<lm b i+c then 1 else 0:Nat):Int):=by
     by_cases q:lm a i<lm b i+c
     ·rw[if_pos q,show decide ((lm a i:Int)<((lm b i+c:Nat):Int))=true from decide_eq_true (by omega)]; rfl
     ·rw[if_neg q,show decide ((lm a i:Int)<((lm b i+c:Nat):Int))=false from decide_eq_false (by omega)]; rfl
    have e2:qD (zw ((bif decide ((lm a i:Int)<((lm b i+c:Nat):Int))then zw ((lm a i:Int)+4294967296)else(lm a i:Int))-((lm b i+c:Nat):Int)))=(((lm a i+4294967296*(if lm a i<lm b i+c then 1 else 0))-(lm b i+c):Nat):Int):=by
     by_cases q:lm a i<lm b i+c
     ·rw[if_pos q,show decide ((lm a i:Int)<((lm b i+c:Nat):Int))=true from decide_eq_true (by omega),cond_true,qx (x:=(lm a i:Int)+4294967296) (by omega) (by omega),qx (by omega) (by omega),XR (by omega) (by omega)]; omega
     ·rw[if_neg q,show decide ((lm a i:Int)<((lm b i+c:Nat):Int))=false from decide_eq_false (by omega),cond_false,qx (by omega) (by omega),XR (by omega) (by omega)]; omega
    simp only[e1,e2]
    simp(disch:=omega) [hn]
   ·simp only
    rw[Hv,hn,q9,q9,Nat.pow_succ,Int.toNat_natCast]
    exact WX hv hc hx hy
  ·right
   have Zw:i=a.length:=by omega
   subst Zw
   refine⟨xs,?_,hl,hn,?_⟩
   ·unfold iR
    simp
   ·rw[List.take_length]at hv
    have h1:=jX b (min a.length b.length) (by omega)
    have GX:=ya ha
    have H7:nv (b.take a.length)=nv b:=by
     by_cases q:b.length≤a.length
     ·exact qN q
     ·rw[show min a.length b.length=a.length by omega]at h1
      rcases Nat.eq_zero_or_pos (nv (b.drop a.length))with z | z
      ·rw[z]at h1; omega
      ·have:=Nat.mul_le_mul_left (4294967296 ^ a.length) z
       omega
    have Vp:=ya hl
    rw[hn]at Vp
    rw[H7]at hv
    have:c=0:=by
     rcases Nat.eq_zero_or_pos c with h | h
     ·exact h
     ·have:c=1:=by omega
      subst this; omega
    subst this; omega
 obtain⟨xs,hr,hl,hn,hv⟩:=loop
 simp(disch:=omega) only[ze,zM,z6 hr]
 simp only[List.drop_zero,Nat.zero_add,List.take_length]
 rw[z6 (xV xs hl (by omega)),z7,show nv xs=nv a-nv b by omega]
theorem mo{x y:Nat}(hx:x<4294967296)(hy:y<4294967296):x*y≤18446744065119617025:=Nat.mul_le_mul (show x≤4294967295 by omega) (show y≤4294967295 by omega)
theorem mac{c v w o:Nat}(hc:c<4294967296)(hv:v<4294967296)(hw:w<4294967296)(ho:o<4294967296) :
  zw ((c:Int)+zw (zw ((v:Int)*(w:Int))+(o:Int)))=((c+v*w+o:Nat):Int)∧c+v*w+o<18446744073709551616∧(c+v*w+o) / 4294967296<4294967296:=by
 have h:=mo hv hw
 have e:(v:Int)*(w:Int)=((v*w:Nat):Int):=by simp
 rw[e]
 generalize v*w=z at *
 rw[qx (x:=(z:Int)) (by omega) (by omega),qx (x:=(z:Int)+o) (by omega) (by omega),qx (by omega) (by omega)]
 omega
theorem zgx{c v w o:Nat}(hc:c<4294967296)(hv:v<4294967296)(hw:w<4294967296)(ho:o<4294967296) :
  zw (zw ((c:Int)+zw ((v:Int)*(w:Int)))+(o:Int))=((c+v*w+o:Nat):Int):=by
 have h:=mo hv hw
 have e:(v:Int)*(w:Int)=((v*w:Nat):Int):=by simp
 rw[e]
 generalize v*w=z at *
 rw[qx (x:=(z:Int)) (by omega) (by omega),qx (x:=(c:Int)+z) (by omega) (by omega),qx (by omega) (by omega)]
 omega
theorem Bm{P Q X Z c v w o W t:Nat}(h:X+c*P=Z+Q*(v*W))(hP:P=Q*t) :
  X+P*((c+v*w+o) % 4294967296)+(c+v*w+o) / 4294967296*(P*4294967296)=Z+P*o+Q*(v*(W+t*w)):=by
 have e:(c+v*w+o)=(c+v*w+o) % 4294967296+4294967296*((c+v*w+o) / 4294967296):=by omega
 generalize (c+v*w+o) % 4294967296=lo at *
 generalize (c+v*w+o) / 4294967296=hi at *
 have e2:P*(c+v*w+o)=P*(lo+4294967296*hi):=by rw[e]
 have e3:X+P*lo+hi*(P*4294967296)=X+P*(lo+4294967296*hi):=by grind
 rw[e3,← e2]
 have e4:X+P*(c+v*w+o)=(X+c*P)+P*(v*w)+P*o:=by grind
 rw[e4,h,hP]
 grind
theorem gi(xs:List Int)(i:Nat)(x:Int)(j:Nat)(h:i≠j):lm (xs.set i x) j=lm xs j:=by
 by_cases hi:i<xs.length
 ·rw[XY hi,if_neg h]
 ·rw[List.set_eq_of_length_le (by omega)]
theorem Y3(b:List Int)(hb:zu b)(lb:b.length≤1000000000)(P:List Int)(hP:zu P)(i:Nat)(hi:i≤1000000000)(hPl:i+b.length<P.length)(v:Nat)(hv:v<4294967296)(x3:List Int)(x4:Int) :
  ∃ r:Int×List Int,(JU b (i:Int) (v:Int) x3 x4 (i:Int) b (b.length:Int) (0,0,P)).run=some r∧∃ c:Nat,r.1=(c:Int)∧c<4294967296∧zu r.2∧r.2.length=P.length ∧
   nv (r.2.take (i+b.length))+c*4294967296 ^ (i+b.length)=nv (P.take (i+b.length))+4294967296 ^ i*(v*nv b):=by
 refine T.xg (fun s:Int×Int×List Int=>∃ (c k:Nat),s.1=(c:Int)∧s.2.1=(k:Int)∧c<4294967296∧k≤b.length∧zu s.2.2∧s.2.2.length=P.length∧(∀ j,i+k≤j→lm s.2.2 j=lm P j) ∧
   nv (s.2.2.take (i+k))+c*4294967296 ^ (i+k)=nv (P.take (i+k))+4294967296 ^ i*(v*nv (b.take k)))
  (fun s=>b.length-s.2.1.toNat) _ ?_ ⟨0,0,rfl,rfl,by omega,by omega,hP,rfl,fun _ _=>rfl,by simp⟩
 rintro⟨_,_,xs⟩ ⟨c,k,rfl,rfl,hc,hk,hl,hn,hj,Xi⟩
 simp only at hl hn hj Xi ⊢
 by_cases qp:k<b.length
 ·left
  have hw:=wi hb k
  have ho:=wi hl (i+k)
  obtain⟨m1,m2,m3⟩:=mac hc hv hw ho
  have eik:zt ((i:Int)+(k:Int))=((i+k:Nat):Int):=by rw[zN (by omega) (by omega)]; omega
  refine⟨((((c+v*lm b k+lm xs (i+k)) / 4294967296:Nat):Int),((k+1:Nat):Int),xs.set (i+k) (((c+v*lm b k+lm xs (i+k)) % 4294967296:Nat):Int)),?_,⟨_,k+1,rfl,rfl,m3,by omega,cv hl _ (by omega) (by omega),by simpa using hn,fun j h=>by simp only; rw[gi _ _ _ _ (by omega),hj j (by omega)],?_⟩,by simp; omega⟩
  ·unfold nt
   have ev:zw (v:Int)=v:=qx (by omega) (by omega)
   have ew:zw (lm b k:Int)=lm b k:=qx (by omega) (by omega)
   have eo:zw (lm xs (i+k):Int)=lm xs (i+k):=qx (by omega) (by omega)
   simp only[xE,eik,Int.toNat_natCast,Nat.zero_add,wB hb,jE hl,ev,ew,eo,m1,JW,Wt,i1 k (by omega)]
   simp(disch:=omega) [qp,hn]
  ·simp only
   rw[show i+(k+1)=(i+k)+1 by omega,u7 _ (by omega),q9,q9,Nat.pow_succ,Int.toNat_natCast,← hj (i+k) (by omega)]
   exact Bm Xi (Nat.pow_add _ _ _)
 ·right
  have:k=b.length:=by omega
  subst this
  refine⟨((c:Int),xs),?_,c,rfl,hc,hl,hn,?_⟩
  ·unfold nt
   simp
  ·simpa[List.take_length]using Xi
theorem row_step{T V c P A Bn Q a:Nat}(h:V+c*P=T+Q*(a*Bn))(hT:T=A*Bn):V+P*c=(A+Q*a)*Bn:=by
 have:V+P*c=V+c*P:=by rw[Nat.mul_comm]
 rw[this,h,hT]; grind
theorem rq(a b:List Int)(ha:zu a)(hb:zu b)(la:a.length≤1000000000)(lb:b.length≤1000000000):(bn a b).run=some (zH (nv a*nv b)):=by
 have qa:=zT ha
 have qb:=zT hb
 unfold bn
 rw[z6 (xY a ha (by omega)),z6 (xY b hb (by omega))]
 generalize nv a=A at *
 generalize nv b=B at *
 have hx:=zp A
 have hy:=zp B
 have hxn:=zO A
 have hyn:=zO B
 generalize zH A=x at *
 generalize zH B=y at *
 have ew:zt ((x.length:Int)+(y.length:Int))=((x.length+y.length:Nat):Int):=by rw[zN (by omega) (by omega)]; omega
 rw[ew]
 simp only[Int.toNat_natCast,List.length_replicate]
 have loop:∃ r:List Int,(Kd y x (x.length:Int) (0,List.replicate (x.length+y.length) 0)).run=some r∧zu r∧r.length=x.length+y.length∧nv r=A*B:=by
  refine T.xg (fun s:Int×List Int=>∃ i:Nat,s.1=(i:Int)∧i≤x.length∧zu s.2∧s.2.length=x.length+y.length∧nv (s.2.take (i+y.length))=nv (x.take i)*B)
   (fun s=>x.length-s.1.toNat) _ ?_ ⟨0,rfl,by omega,xr _,by simp,by simp[List.take_replicate]⟩
  rintro⟨_,xs⟩ ⟨i,rfl,hi,hl,hn,hv⟩
  simp only at hl hn hv ⊢
  by_cases qp:i<x.length
  ·left
   have IV:=wi hx i
   obtain⟨⟨_,ys⟩,hr,c,rfl,hc,iM,KO,Xi⟩:=Y3 y hy (by omega) xs hl i (by omega) (by omega) (lm x i) IV x (x.length:Int)
   simp only at iM KO Xi
   have eik:zt ((i:Int)+(y.length:Int))=((i+y.length:Nat):Int):=by rw[zN (by omega) (by omega)]; omega
   refine⟨(((i+1:Nat):Int),ys.set (i+y.length) (c:Int)),?_,⟨i+1,rfl,by omega,cv iM _ (by omega) (by omega),by simp; omega,?_⟩,by simp; omega⟩
   ·unfold nH
    have ec:qD (c:Int)=c:=XR (by omega) (by omega)
    simp only[yk,xE,wB hx,eik,Int.toNat_natCast,Nat.zero_add,ec,i1 i (by omega)]
    rw[if_pos (by simpa using qp),qF _ (by omega) (by omega),ze _ rfl rfl rfl,zM,z6 hr]
    simp(disch:=omega) [KO]
   ·simp only
    rw[show i+1+y.length=(i+y.length)+1 by omega,u7 _ (by omega),q9,Int.toNat_natCast]
    rw[hyn]at Xi
    exact row_step Xi hv
  ·right
   have:i=x.length:=by omega
   subst this
   refine⟨xs,?_,hl,hn,?_⟩
   ·unfold nH
    simp
   ·rw[qN (by omega),List.take_length,hxn]at hv; exact hv
 obtain⟨xs,hr,hl,hn,hv⟩:=loop
 rw[T.run_mk _ (by omega) (by omega) (by omega) (by omega),ze _ rfl rfl rfl,zM,z6 hr]
 simp only[Nat.zero_add,List.drop_zero,List.take_length]
 rw[zM,z6 (xY xs hl (by omega)),z7,hv]
theorem Ns{N P Q X' X Z c v w o W t:Nat}(hX:X'+P*o=X+P*((c+v*w+o) % 4294967296))(h:X+c*P=Z+Q*(v*W))(hP:P=Q*t) :
  X'+(c+v*w+o) / 4294967296*(P*4294967296)=Z+Q*(v*(W+t*w)):=by
 have:=Bm (P:=P) (Q:=Q) (X:=X) (Z:=Z) (c:=c) (v:=v) (w:=w) (o:=o) (W:=W) (t:=t) h hP
 omega
theorem KF(a b:List Int)(ha:zu a)(hb:zu b)(la:a.length≤1000000000)(lb:b.length≤1000000000)(P:List Int)(hP:zu P)(i:Nat)(hi:i<a.length)(hPl:P.length=a.length+b.length)
  (hbd:nv P+4294967296 ^ i*(lm a i*nv b)<4294967296 ^ (a.length+b.length)) :
  ∃ r:List Int,(WM a b (i:Int) (0,0,P)).run=some r∧zu r∧r.length=P.length∧nv r=nv P+4294967296 ^ i*(lm a i*nv b):=by
 have hv:=wi ha i
 refine T.xg (fun s:Int×Int×List Int=>∃ (c k:Nat),s.1=(c:Int)∧s.2.1=(k:Int)∧c<4294967296∧i+k≤a.length+b.length∧zu s.2.2∧s.2.2.length=P.length ∧
   nv s.2.2+c*4294967296 ^ (i+k)=nv P+4294967296 ^ i*(lm a i*nv (b.take k)))
  (fun s=>a.length+b.length-s.2.1.toNat) _ ?_ ⟨0,0,rfl,rfl,by omega,by omega,hP,rfl,by simp⟩
 rintro⟨_,_,xs⟩ ⟨c,k,rfl,rfl,hc,hk,hl,hn,Xi⟩
 simp only at hl hn Xi ⊢
 have eik:zt ((i:Int)+(k:Int))=((i+k:Nat):Int):=by rw[zN (by omega) (by omega)]; omega
 by_cases hgo:k<b.length∨0<c
 ·have eg:(decide ((k:Int)<(b.length:Int))||decide ((0:Int)<(c:Int)))=true:=by simpa using hgo
  by_cases hbr:a.length+b.length≤i+k
  ·right
   refine⟨xs,?_,hl,hn,?_⟩
   ·unfold dF
    simp only[eg,eik,zA,hn,hPl]
    rw[za (by simpa using(by omega))]
    simp(disch:=omega)
   ·rw[qN (by omega)]at Xi
    have Vp:=ya hl
    rw[hn,hPl]at Vp
    have e:i+k=a.length+b.length:=by omega
    rw[e]at Xi
    rcases Nat.eq_zero_or_pos c with z | z
    ·subst z; omega
    ·have:=Nat.mul_le_mul_right (4294967296 ^ (a.length+b.length)) z
     omega
  ·left
   have hw:=wi hb k
   have ho:=wi hl (i+k)
   obtain⟨m1,m2,m3⟩:=mac hc hv hw ho
   have m4:=zgx hc hv hw ho
   refine⟨((((c+lm a i*lm b k+lm xs (i+k)) / 4294967296:Nat):Int),((k+1:Nat):Int),xs.set (i+k) (((c+lm a i*lm b k+lm xs (i+k)) % 4294967296:Nat):Int)),?_,⟨_,k+1,rfl,rfl,m3,by omega,cv hl _ (by omega) (by omega),by simpa using hn,?_⟩,by simp; omega⟩
   ·unfold dF
    have ev:zw (lm a i:Int)=lm a i:=qx (by omega) (by omega)
    have eo:zw (lm xs (i+k):Int)=lm xs (i+k):=qx (by omega) (by omega)
    simp only[eg,zA,hn,eik]
    rw[z8 (by simpa using(by omega)),qF _ (by omega) (by omega),z6 (gv b hb k)]
    simp only[xE,wB ha,jE hl,Int.toNat_natCast,Nat.zero_add,ev,eo,m4,JW,Wt,i1 k (by omega)]
    simp(disch:=omega) [hn]
   ·simp only
    rw[show i+(k+1)=(i+k)+1 by omega,q9,Nat.pow_succ]
    have iO:=W2 (a:=xs) (i:=i+k) ((((c+lm a i*lm b k+lm xs (i+k)) % 4294967296:Nat):Int)) (by omega)
    rw[Int.toNat_natCast]at iO
    exact Ns (N:=0) iO Xi (Nat.pow_add _ _ _)
 ·right
  have yh:b.length≤k∧c=0:=by omega
  obtain⟨yh,rfl⟩:=yh
  refine⟨xs,?_,hl,hn,?_⟩
  ·unfold dF
   rw[z8 (by simpa using yh)]
   simp(disch:=omega)
  ·rw[qN yh]at Xi; simpa using Xi
theorem oz(a b:List Int)(ha:zu a)(hb:zu b)(la:a.length≤1000000000)(lb:b.length≤1000000000):(uC a b).run=some (zH (nv a*nv b)):=by
 have ew:zt ((a.length:Int)+(b.length:Int))=((a.length+b.length:Nat):Int):=by rw[zN (by omega) (by omega)]; omega
 unfold uC
 rw[ew]
 simp only[Int.toNat_natCast,List.length_replicate]
 have zfW:nv a*nv b<4294967296 ^ (a.length+b.length):=by
  rw[Nat.pow_add]
  exact Nat.mul_lt_mul'' (ya ha) (ya hb)
 have loop:∃ r:List Int,(V1 a b (0,List.replicate (a.length+b.length) 0)).run=some r∧zu r∧r.length=a.length+b.length∧nv r=nv a*nv b:=by
  refine T.xg (fun s:Int×List Int=>∃ i:Nat,s.1=(i:Int)∧i≤a.length∧zu s.2∧s.2.length=a.length+b.length∧nv s.2=nv (a.take i)*nv b)
   (fun s=>a.length-s.1.toNat) _ ?_ ⟨0,rfl,by omega,xr _,by simp,by simp⟩
  rintro⟨_,xs⟩ ⟨i,rfl,hi,hl,hn,hv⟩
  simp only at hl hn hv ⊢
  by_cases qp:i<a.length
  ·left
   have e1:nv xs+4294967296 ^ i*(lm a i*nv b)=nv (a.take (i+1))*nv b:=by rw[hv,q9]; grind
   have hle:nv (a.take (i+1))*nv b≤nv a*nv b:=Nat.mul_le_mul_right _ (DM a (i+1))
   obtain⟨ys,hr,iM,KO,Xi⟩:=KF a b ha hb la lb xs hl i qp hn (by rw[e1]; exact Nat.lt_of_le_of_lt hle zfW)
   refine⟨(((i+1:Nat):Int),ys),?_,⟨i+1,rfl,by omega,iM,KO.trans hn,Xi.trans e1⟩,by simp; omega⟩
   unfold iZ
   simp only[yk,i1 i (by omega)]
   rw[if_pos (by simpa using qp),ze _ rfl rfl rfl,zM,z6 hr]
   simp(disch:=omega)
  ·right
   have:i=a.length:=by omega
   subst this
   refine⟨xs,?_,hl,hn,?_⟩
   ·unfold iZ
    simp
   ·rw[List.take_length]at hv; exact hv
 obtain⟨xs,hr,hl,hn,hv⟩:=loop
 rw[T.run_mk _ (by omega) (by omega) (by omega) (by omega),ze _ rfl rfl rfl,zM,z6 hr]
 simp only[Nat.zero_add,List.drop_zero,List.take_length]
 rw[zM,z6 (xV xs hl (by omega)),z7,hv]
theorem tm{a:List Int}{i:Nat}(h:i<a.length):nv (a.drop i)=lm a i+4294967296*nv (a.drop (i+1)):=DD h
theorem set_drop{a:List Int}{i:Nat}(x:Int)(h:i<a.length):nv ((a.set i x).drop i)=x.toNat+4294967296*nv (a.drop (i+1)):=by
 rw[tm (by simpa using h),jo,XY h,if_pos rfl]
theorem NN{hi lo y:Nat}(h0:hi<y)(h1:lo<4294967296)(h2:y<4294967296) :
  (yZ (hi:Int) (lo:Int) (y:Int)).run=some ((((hi*4294967296+lo) / y:Nat):Int),(((hi*4294967296+lo) % y:Nat):Int)):=by
 have e1:=Ca (x:=(hi:Int)) (y:=(lo:Int)) (by omega) (by omega) (by omega) (by omega)
 have ey:zw (y:Int)=y:=qx (by omega) (by omega)
 have eh:zw (hi:Int)=hi:=qx (by omega) (by omega)
 have el:zw (lo:Int)=lo:=qx (by omega) (by omega)
 have hq:(hi*4294967296+lo) / y<4294967296:=by
  rw[Nat.div_lt_iff_lt_mul (by omega)]
  have:=Nat.mul_le_mul_left 4294967296 (show hi+1≤y from h0)
  omega
 have hr:(hi*4294967296+lo) % y<y:=Nat.mod_lt _ (by omega)
 have e2:(hi:Int)*4294967296+(lo:Int)=((hi*4294967296+lo:Nat):Int):=by omega
 have e3:Int.tdiv ((hi*4294967296+lo:Nat):Int) (y:Int)=(((hi*4294967296+lo) / y:Nat):Int):=by rw[de (by omega)]; rfl
 have e4:Int.tmod ((hi*4294967296+lo:Nat):Int) (y:Int)=(((hi*4294967296+lo) % y:Nat):Int):=by rw[cT (by omega)]; rfl
 unfold yZ
 rw[z8 (by simp; omega)]
 simp only[ey,eh,el,e1,e2,e3,e4]
 rw[j3 _ (by omega),vg _ (by omega),vg _ (by omega),z7,gx (by omega),Z5 hq,Z5 (by omega)]
theorem JY{A Q r y l q:Nat}(h:A=Q*y+r)(hq:q=(r*4294967296+l) / y):l+4294967296*A=(q+4294967296*Q)*y+(r*4294967296+l) % y:=by
 have:=Nat.div_add_mod (r*4294967296+l) y
 rw[← hq]at this
 generalize (r*4294967296+l) % y=m at *
 rw[h]
 have e:(q+4294967296*Q)*y+m=(y*q+m)+4294967296*(Q*y):=by grind
 rw[e,this]; omega
theorem tV(a:List Int)(ha:zu a)(la:a.length≤1000000000)(y:Nat)(h0:0<y)(h1:y<4294967296):(fj a (y:Int)).run=some (zH (nv a / y),((nv a % y:Nat):Int)):=by
 have loop:∃ r:Int×List Int,(QD a (y:Int) (0,(a.length:Int)-1,List.replicate a.length 0)).run=some r∧∃ m:Nat,r.1=(m:Int)∧m<y∧zu r.2∧r.2.length=a.length∧nv a=nv r.2*y+m:=by
  refine T.xg (fun s:Int×Int×List Int=>∃ (m i:Nat),s.1=(m:Int)∧s.2.1=(i:Int)-1∧m<y∧i≤a.length∧zu s.2.2∧s.2.2.length=a.length∧nv (a.drop i)=nv (s.2.2.drop i)*y+m)
   (fun s=>(s.2.1+1).toNat) _ ?_ ⟨0,a.length,rfl,rfl,h0,Nat.le_refl _,xr _,by simp,by simp⟩
  rintro⟨_,_,xs⟩ ⟨m,i,rfl,rfl,hm,hi,hl,hn,hv⟩
  simp only at hl hn hv ⊢
  cases i with
  | zero =>
   right
   refine⟨((m:Int),xs),?_,m,rfl,hm,hl,hn,by simpa using hv⟩
   unfold eX
   simp
  | succ i =>
   left
   have hx:=wi ha i
   have e1:((i+1:Nat):Int)-1=(i:Int):=by omega
   have hd:=NN hm hx h1
   have hq:(m*4294967296+lm a i) / y<4294967296:=by
    rw[Nat.div_lt_iff_lt_mul (by omega)]
    have:=Nat.mul_le_mul_left 4294967296 (show m+1≤y from hm)
    omega
   have ei:zt ((i:Int)-1)=(i:Int)-1:=zN (by omega) (by omega)
   refine⟨((((m*4294967296+lm a i) % y:Nat):Int),(i:Int)-1,xs.set i (((m*4294967296+lm a i) / y:Nat):Int)),?_,⟨_,i,rfl,rfl,Nat.mod_lt _ h0,by omega,w8 hl _ hq,by simpa using hn,?_⟩,by simp⟩
   ·unfold eX
    simp only[e1,xE,wB ha,yk,ei]
    rw[if_pos (by simp),qF _ (by omega) (by omega),z6 hd]
    simp(disch:=omega) [hn]
   ·simp only
    rw[tm (by omega),set_drop _ (by omega),Int.toNat_natCast]
    exact JY hv rfl
 obtain⟨⟨_,xs⟩,hr,m,rfl,hm,hl,hn,hv⟩:=loop
 simp only at hl hn hv
 unfold fj
 rw[zN (by omega) (by omega)]
 simp only[Int.toNat_natCast,List.length_replicate]
 rw[T.run_mk _ (by omega) (by omega) (by omega) (by omega),ze _ rfl rfl rfl,zM,z6 hr]
 simp only[Nat.zero_add,List.drop_zero,List.take_length]
 have e1:nv a / y=nv xs:=by rw[hv,Nat.mul_comm,Nat.mul_add_div h0,Nat.div_eq_of_lt hm,Nat.add_zero]
 have e2:nv a % y=m:=by rw[hv,Nat.mul_comm,Nat.mul_add_mod,Nat.mod_eq_of_lt hm]
 rw[zM,z6 (xY xs hl (by omega)),z7,e1,e2]
theorem pS(a:List Int)(ha:zu a)(la:a.length≤1000000000)(y:Nat)(h0:0<y)(h1:y<4294967296):(cy a (y:Int)).run=some (zH (nv a / y),((nv a % y:Nat):Int)):=by
 have loop:∃ r:Int×List Int,(tT a (y:Int) (0,(a.length:Int)-1,List.replicate a.length 0)).run=some r∧∃ m:Nat,r.1=(m:Int)∧m<y∧zu r.2∧r.2.length=a.length∧nv a=nv r.2*y+m:=by
  refine T.xg (fun s:Int×Int×List Int=>∃ (m i:Nat),s.1=(m:Int)∧s.2.1=(i:Int)-1∧m<y∧i≤a.length∧zu s.2.2∧s.2.2.length=a.length∧nv (a.drop i)=nv (s.2.2.drop i)*y+m)
   (fun s=>(s.2.1+1).toNat) _ ?_ ⟨0,a.length,rfl,rfl,h0,Nat.le_refl _,xr _,by simp,by simp⟩
  rintro⟨_,_,xs⟩ ⟨m,i,rfl,rfl,hm,hi,hl,hn,hv⟩
  simp only at hl hn hv ⊢
  cases i with
  | zero =>
   right
   refine⟨((m:Int),xs),?_,m,rfl,hm,hl,hn,by simpa using hv⟩
   unfold cQ
   simp
  | succ i =>
   left
   have hx:=wi ha i
   have e1:((i+1:Nat):Int)-1=(i:Int):=by omega
   have hq:(m*4294967296+lm a i) / y<4294967296:=by
    rw[Nat.div_lt_iff_lt_mul (by omega)]
    have:=Nat.mul_le_mul_left 4294967296 (show m+1≤y from hm)
    omega
   have ei:zt ((i:Int)-1)=(i:Int)-1:=zN (by omega) (by omega)
   have el:zw (lm a i:Int)=lm a i:=qx (by omega) (by omega)
   have e5:=Ca (x:=(m:Int)) (y:=(lm a i:Int)) (by omega) (by omega) (by omega) (by omega)
   have e2:(m:Int)*4294967296+(lm a i:Int)=((m*4294967296+lm a i:Nat):Int):=by omega
   have e3:Int.tdiv ((m*4294967296+lm a i:Nat):Int) (y:Int)=(((m*4294967296+lm a i) / y:Nat):Int):=by rw[de (by omega)]; rfl
   have e4:Int.tmod ((m*4294967296+lm a i:Nat):Int) (y:Int)=(((m*4294967296+lm a i) % y:Nat):Int):=by rw[cT (by omega)]; rfl
   have e6:qD (zw (((m*4294967296+lm a i) / y:Nat):Int))=(((m*4294967296+lm a i) / y:Nat):Int):=by rw[gx (by omega),Z5 hq]
   refine⟨((((m*4294967296+lm a i) % y:Nat):Int),(i:Int)-1,xs.set i (((m*4294967296+lm a i) / y:Nat):Int)),?_,⟨_,i,rfl,rfl,Nat.mod_lt _ h0,by omega,w8 hl _ hq,by simpa using hn,?_⟩,by simp⟩
   ·unfold cQ
    simp only[e1,xE,wB ha,yk,ei,el,e5,e2,e3,e4,e6]
    have hy:y≠0:=by omega
    rw[if_pos (by simp)]
    simp(disch:=omega) [hn,hy]
   ·simp only
    rw[tm (by omega),set_drop _ (by omega),Int.toNat_natCast]
    exact JY hv rfl
 obtain⟨⟨_,xs⟩,hr,m,rfl,hm,hl,hn,hv⟩:=loop
 simp only at hl hn hv
 unfold cy
 rw[zN (by omega) (by omega)]
 simp only[Int.toNat_natCast,List.length_replicate]
 rw[T.run_mk _ (by omega) (by omega) (by omega) (by omega),ze _ rfl rfl rfl,zM,z6 hr]
 simp only[Nat.zero_add,List.drop_zero,List.take_length]
 have e1:nv a / y=nv xs:=by rw[hv,Nat.mul_comm,Nat.mul_add_div h0,Nat.div_eq_of_lt hm,Nat.add_zero]
 have e2:nv a % y=m:=by rw[hv,Nat.mul_comm,Nat.mul_add_mod,Nat.mod_eq_of_lt hm]
 rw[zM,z6 (xV xs hl (by omega)),z7,e1,e2]
theorem GO{v s:Nat}(hv:v<4294967296)(hs:s≤32):xU .u64 (v:Int) (s:Int)=((v*2 ^ s:Nat):Int):=by
 have h1:2 ^ s≤2 ^ 32:=Nat.pow_le_pow_right (by omega) hs
 have h2:v*2 ^ s≤4294967295*4294967296:=Nat.mul_le_mul (by omega) h1
 have e:min (s:Int).toNat 64=s:=by simp; omega
 show zw ((v:Int)*2 ^ (min (s:Int).toNat 64))=_
 rw[e]
 have e2:(v:Int)*2 ^ s=((v*2 ^ s:Nat):Int):=by simp
 rw[e2,gx (by omega)]
theorem z54{v s:Nat}(hs:s≤64):qV .u64 (v:Int) (s:Int)=((v / 2 ^ s:Nat):Int):=by
 have e:min (s:Int).toNat 64=s:=by simp; omega
 show Int.fdiv (v:Int) (2 ^ (min (s:Int).toNat 64))=_
 rw[e]
 have e2:(2:Int) ^ s=((2 ^ s:Nat):Int):=by simp
 rw[e2,Int.fdiv_eq_ediv_of_nonneg _ (Int.natCast_nonneg _)]; rfl
theorem z6x{h m s:Nat}(hh:h<2 ^ s):h ||| m*2 ^ s=h+m*2 ^ s:=by rw[Nat.or_comm,Jl m h s hh,Nat.add_comm]
theorem Bt(v s:Nat)(hs:s≤32):v*2 ^ s % 4294967296=(v % 2 ^ (32-s))*2 ^ s:=by
 have e:(4294967296:Nat)=2 ^ (32-s)*2 ^ s:=by rw[← Nat.pow_add]; rw[show 32-s+s=32 by omega]
 rw[e,Nat.mul_mod_mul_right]
theorem YC{h v s:Nat}(hh:h<2 ^ s)(hv:v<4294967296)(hs:s<32) :
  gL .u32 (h:Int) (qD ((v*2 ^ s:Nat):Int))=((h+v*2 ^ s % 4294967296:Nat):Int)∧h+v*2 ^ s % 4294967296<4294967296∧v*2 ^ s / 4294967296<2 ^ s:=by
 have h1:2 ^ s≤2 ^ 31:=Nat.pow_le_pow_right (by omega) (by omega)
 have e1:=Bt v s (by omega)
 have e2:(v % 2 ^ (32-s))*2 ^ s+2 ^ s≤4294967296:=by
  have:v % 2 ^ (32-s)+1≤2 ^ (32-s):=Nat.mod_lt _ (Nat.pow_pos (by omega))
  have:=Nat.mul_le_mul_right (2 ^ s) this
  rw[← Nat.pow_add,show 32-s+s=32 by omega]at this
  rw[Nat.add_mul]at this
  omega
 refine⟨?_,by rw[e1]; omega,?_⟩
 ·rw[JW,QJ (by omega) (by omega),e1,z6x hh]
 ·rw[Nat.div_lt_iff_lt_mul (by omega),Nat.mul_comm]
  exact Nat.mul_lt_mul_of_pos_left hv (Nat.pow_pos (by omega))
theorem UN{X h P V v t A:Nat}(hv:X+h*P=V*t)(hA:A=v*t):X+P*(h+A % 4294967296)+A / 4294967296*(P*4294967296)=(V+P*v)*t:=by
 have e:A=A % 4294967296+4294967296*(A / 4294967296):=by omega
 generalize A % 4294967296=lo at *
 generalize A / 4294967296=hi at *
 have e2:X+P*(h+lo)+hi*(P*4294967296)=(X+h*P)+P*(lo+4294967296*hi):=by grind
 rw[e2,hv,← e,hA]; grind
theorem YR(a:List Int)(ha:zu a)(la:a.length≤1000000000)(s n:Nat)(hs:s<32)(DK:a.length≤n)(KO:n≤a.length+1)(Jy:nv a*2 ^ s<4294967296 ^ n) :
  ∃ r,(V0 (s:Int) (n:Int) a (a.length:Int) (0,List.replicate n 0)).run=some r∧zu r∧r.length=n∧nv r=nv a*2 ^ s:=by
 refine T.xg (fun z:Int×List Int=>∃ i h:Nat,z.1=(i:Int)∧i≤a.length∧zu z.2∧z.2.length=n∧h<2 ^ s∧(i<n→lm z.2 i=h)∧nv (z.2.take i)+h*4294967296 ^ i=nv (a.take i)*2 ^ s)
  (fun z=>a.length-z.1.toNat) _ ?_ ⟨0,0,rfl,by omega,xr _,by simp,Nat.pow_pos (by omega),fun _ => ?_,by simp⟩
 ·rintro⟨_,xs⟩ ⟨i,h,rfl,hi,hl,hn,hh,hli,hv⟩
  simp only at hl hn hli hv ⊢
  by_cases qp:i<a.length
  ·left
   have hx:=wi ha i
   obtain⟨s1,s2,s3⟩:=YC hh hx hs
   have hb:zw (lm a i:Int)=lm a i:=gx (by omega)
   have hlx:=hli (by omega)
   have hp:2 ^ s≤2 ^ 31:=Nat.pow_le_pow_right (by omega) (by omega)
   have e2:qD ((lm a i*2 ^ s / 4294967296:Nat):Int)=((lm a i*2 ^ s / 4294967296:Nat):Int):=Z5 (by omega)
   by_cases Xd:i+1<n
   all_goals have zby:((i:Int)+1<(n:Int))↔(i+1<n):=by omega
   ·refine⟨(((i+1:Nat):Int),(xs.set i ((h+lm a i*2 ^ s % 4294967296:Nat):Int)).set (i+1) ((lm a i*2 ^ s / 4294967296:Nat):Int)),?_,
     ⟨i+1,lm a i*2 ^ s / 4294967296,rfl,by omega,w8 (w8 hl _ s2) _ (by omega),by simpa using hn,s3,fun _ => ?_,?_⟩,by simp; omega⟩
    ·unfold dI
     simp only[xE,wB ha,Int.toNat_natCast,Nat.zero_add,jE hl,hb,GO hx (show s≤32 by omega),hlx,s1,i1 i (by omega),Wt,e2]
     simp(disch:=omega) [qp,hn,Xd,zby]
    ·simp only
     rw[XY (by simp; omega),if_pos rfl,Int.toNat_natCast]
    ·simp only
     rw[WH _ _ _ _ (Nat.le_refl _),u7 _ (by omega),q9,Int.toNat_natCast,Nat.pow_succ]
     exact UN hv rfl
   ·refine⟨(((i+1:Nat):Int),xs.set i ((h+lm a i*2 ^ s % 4294967296:Nat):Int)),?_,
     ⟨i+1,lm a i*2 ^ s / 4294967296,rfl,by omega,w8 hl _ s2,by simpa using hn,s3,fun _=>by omega,?_⟩,by simp; omega⟩
    ·unfold dI
     simp only[xE,wB ha,Int.toNat_natCast,Nat.zero_add,jE hl,hb,GO hx (show s≤32 by omega),hlx,s1,i1 i (by omega),Wt,e2]
     simp(disch:=omega) [qp,hn,Xd,zby]
    ·simp only
     rw[u7 _ (by omega),q9,Int.toNat_natCast,Nat.pow_succ]
     exact UN hv rfl
  ·right
   have:i=a.length:=by omega
   subst this
   refine⟨xs,?_,hl,hn,?_⟩
   ·unfold dI
    simp
   ·rw[List.take_length]at hv
    by_cases q:n=a.length
    ·rw[qN (by omega)]at hv
     rcases Nat.eq_zero_or_pos h with z | z
     ·subst z; omega
     ·have:=Nat.mul_le_mul_right (4294967296 ^ a.length) z
      rw[q]at Jy; omega
    ·have uj:n=a.length+1:=by omega
     have:=q9 xs a.length
     rw[qN (by omega),hli (by omega),Nat.mul_comm]at this
     omega
 ·show lm (List.replicate n 0) 0=0
  unfold lm nth
  cases n<;>simp[List.replicate_succ]
theorem Hq(a:List Int)(ha:zu a)(la:a.length≤1000000000)(s n:Nat)(hs:s<32)(DK:a.length≤n)(KO:n≤a.length+1)(Jy:nv a*2 ^ s<4294967296 ^ n) :
  ∃ r,(X9 a (s:Int) (n:Int)).run=some r∧zu r∧r.length=n∧nv r=nv a*2 ^ s:=by
 obtain⟨r,h1,h2,h3,h4⟩:=YR a ha la s n hs DK KO Jy
 refine⟨r,?_,h2,h3,h4⟩
 unfold X9
 simp only[Int.toNat_natCast,List.length_replicate]
 rw[T.run_mk _ (by omega) (by omega) (by omega) (by omega),ze _ rfl rfl rfl,zM,z6 h1]
 simp
theorem rW(a:List Int)(ha:zu a)(la:a.length≤1000000000)(s n:Nat)(hs:s<32)(DK:a.length≤n)(KO:n≤a.length+1)(Jy:nv a*2 ^ s<4294967296 ^ n) :
  ∃ r,(fx a (s:Int) (n:Int)).run=some r∧zu r∧r.length=n∧nv r=nv a*2 ^ s:=by
 obtain⟨r,h1,h2,h3,h4⟩:=YR a ha la s n hs DK KO Jy
 refine⟨r,?_,h2,h3,h4⟩
 have pJ:(tR (s:Int) (n:Int) a (a.length:Int) (0,List.replicate n 0)).run=some r:=h1
 unfold fx
 simp only[Int.toNat_natCast,List.length_replicate]
 rw[T.run_mk _ (by omega) (by omega) (by omega) (by omega),ze _ rfl rfl rfl,zM,z6 pJ]
 simp
theorem z8K{a b s:Nat}(hs:s≤32)(ha:a<2 ^ (32-s)):a ||| b*2 ^ (32-s)=a+b*2 ^ (32-s):=by rw[Nat.or_comm,Jl b a (32-s) ha,Nat.add_comm]
theorem kL(s:Nat)(h:s≤32):(4294967296:Nat)=2 ^ (32-s)*2 ^ s:=by rw[← Nat.pow_add,show 32-s+s=32 by omega]
theorem z8R{v s:Nat}(hs:s≤32):v*4294967296 / 2 ^ s=v*2 ^ (32-s):=by
 rw[kL s hs,← Nat.mul_assoc,Nat.mul_div_cancel _ (Nat.pow_pos (by omega))]
theorem z5m{v s:Nat}(hs:s≤32):v*2 ^ (32-s) / 4294967296=v / 2 ^ s:=by
 rw[kL s hs,Nat.mul_comm v,Nat.mul_div_mul_left _ _ (Nat.pow_pos (by omega))]
theorem z7d{v s:Nat}(hs:s≤32):v*2 ^ (32-s) % 4294967296=(v % 2 ^ s)*2 ^ (32-s):=by
 rw[kL s hs,Nat.mul_comm (2 ^ (32-s)),Nat.mul_mod_mul_right]
theorem z2s{V v P s C:Nat}(hs:s≤32)(hC:C=V / 2 ^ s):C+P*((v % 2 ^ s)*2 ^ (32-s))+P*4294967296*(v / 2 ^ s)=(V+P*4294967296*v) / 2 ^ s:=by
 have hp:0<2 ^ s:=Nat.pow_pos (by omega)
 have e1:V+P*4294967296*v=V+(P*2 ^ (32-s)*v)*2 ^ s:=by
  have:P*4294967296*v=P*(2 ^ (32-s)*2 ^ s)*v:=by rw[← kL s hs]
  rw[this]; grind
 rw[e1,Nat.add_mul_div_right _ _ hp,hC]
 have e2:v=v % 2 ^ s+2 ^ s*(v / 2 ^ s):=by have:=Nat.div_add_mod v (2 ^ s); omega
 have e3:P*4294967296*(v / 2 ^ s)=P*(2 ^ (32-s)*2 ^ s)*(v / 2 ^ s):=by rw[← kL s hs]
 rw[e3]
 have e4:P*2 ^ (32-s)*v=P*2 ^ (32-s)*(v % 2 ^ s+2 ^ s*(v / 2 ^ s)):=by rw[← e2]
 rw[e4]
 generalize v % 2 ^ s=lo
 generalize v / 2 ^ s=hi
 grind
theorem Tv(x:List Int)(hx:zu x)(lx:x.length≤4000000000)(s:Nat)(hs:s<32) :
  ∃ r,(Xz (s:Int) x (x.length:Int) (0,List.replicate x.length 0)).run=some r∧zu r∧r.length=x.length∧nv r=nv x / 2 ^ s:=by
 refine T.xg (fun z:Int×List Int=>∃ i:Nat,z.1=(i:Int)∧i≤x.length∧zu z.2∧z.2.length=x.length∧(∀ j,i≤j→lm z.2 j=0)∧(∀ j,i=j+1→lm z.2 j=lm x j / 2 ^ s)∧nv (z.2.take i)=nv (x.take i) / 2 ^ s)
  (fun z=>x.length-z.1.toNat) _ ?_ ⟨0,rfl,by omega,xr _,by simp,fun j _ => ?_,fun j h=>by omega,by simp⟩
 ·rintro⟨_,xs⟩ ⟨i,rfl,hi,hl,hn,hz,hp,hv⟩
  simp only at hl hn hz hp hv ⊢
  by_cases qp:i<x.length
  ·left
   have IV:=wi hx i
   have hb:zw (lm x i:Int)=lm x i:=gx (by omega)
   have h32:(32:Int)=((32:Nat):Int):=rfl
   have w1:qV .u64 (xU .u64 (lm x i:Int) 32) (s:Int)=((lm x i*2 ^ (32-s):Nat):Int):=by
    rw[h32,GO IV (by omega),z54 (by omega),← z8R (by omega)]
   have hq:lm x i / 2 ^ s<4294967296:=Nat.lt_of_le_of_lt (Nat.div_le_self _ _) IV
   have w2:qD (qV .u64 ((lm x i*2 ^ (32-s):Nat):Int) 32)=((lm x i / 2 ^ s:Nat):Int):=by rw[Wt,z5m (by omega),Z5 hq]
   have w3:gL .u32 (xj xs i 0) ((lm x i / 2 ^ s:Nat):Int)=((lm x i / 2 ^ s:Nat):Int):=by
    rw[jE hl,hz i (Nat.le_refl _),QJ (by omega) hq,Nat.zero_or]
   cases i with
   | zero =>
    refine⟨(1,xs.set 0 ((lm x 0 / 2 ^ s:Nat):Int)),?_,⟨1,rfl,by omega,w8 hl _ hq,by simpa using hn,fun j h => ?_,fun j h => ?_,?_⟩,by simp; omega⟩
    ·have w3':=w3
     simp only[Int.natCast_zero]at *
     have U6:nth x 0 0=(lm x 0:Int):=wB hx 0
     unfold bp
     simp only[xE,U6,Int.toNat_natCast,Nat.zero_add,hb,w1,w2,w3]
     have zdH:gL .u32 (xj xs (Int.toNat 0) 0) ((lm x 0 / 2 ^ s:Nat):Int)=((lm x 0 / 2 ^ s:Nat):Int):=w3
     generalize lm x 0 / 2 ^ s=q at *
     simp only[zdH]
     simp(disch:=omega) [qp,hn]
    ·rw[gi _ _ _ _ (by omega)]; exact hz j (by omega)
    ·have:j=0:=by omega
     subst this
     rw[XY (by omega),if_pos rfl,Int.toNat_natCast]
    ·simp only
     rw[u7 _ (by omega),q9]; simp only[Int.toNat_natCast,List.take_zero,Gz,Nat.pow_zero,Nat.one_mul,Nat.zero_add]
   | succ i =>
    have B8:=hp i rfl
    have zdZ:=wi hx i
    have hq2:lm xs i<2 ^ (32-s):=by
     rw[B8,Nat.div_lt_iff_lt_mul (Nat.pow_pos (by omega)),← kL s (by omega)]; exact zdZ
    have hq3:lm x (i+1)*2 ^ (32-s) % 4294967296=(lm x (i+1) % 2 ^ s)*2 ^ (32-s):=z7d (by omega)
    have hq4:lm xs i+(lm x (i+1) % 2 ^ s)*2 ^ (32-s)<4294967296:=by
     have h1:lm x (i+1) % 2 ^ s+1≤2 ^ s:=Nat.mod_lt _ (Nat.pow_pos (by omega))
     have h2:=Nat.mul_le_mul_right (2 ^ (32-s)) h1
     rw[Nat.mul_comm (2 ^ s),← kL s (by omega),Nat.add_mul]at h2
     omega
    have hxi:=wi hl i
    have w4:∀ ys:List Int,zu ys→lm ys i=lm xs i→gL .u32 (xj ys i 0) (qD ((lm x (i+1)*2 ^ (32-s):Nat):Int))=((lm xs i+(lm x (i+1) % 2 ^ s)*2 ^ (32-s):Nat):Int):=by
     intro ys hys he
     rw[jE hys,he,JW,QJ hxi (Nat.mod_lt _ (by omega)),hq3,z8K (by omega) hq2]
    have w5:=w4 _ (w8 hl (i+1) hq) (gi _ _ _ _ (by omega))
    refine⟨(((i+1+1:Nat):Int),(xs.set (i+1) ((lm x (i+1) / 2 ^ s:Nat):Int)).set i ((lm xs i+(lm x (i+1) % 2 ^ s)*2 ^ (32-s):Nat):Int)),?_,
     ⟨i+1+1,rfl,by omega,w8 (w8 hl _ hq) _ hq4,by simpa using hn,fun j h => ?_,fun j h => ?_,?_⟩,by simp; omega⟩
    ·unfold bp
     simp only[xE,wB hx,Int.toNat_natCast,Nat.zero_add,hb,w1,w2,w3,i1 (i+1) (by omega),im1 i (by omega),w5]
     rw[za (by simp; omega)]
     have Wa:decide ((0:Int)<((i+1:Nat):Int))=true:=by simp
     generalize hG:(xs.set (i+1) ((lm x (i+1) / 2 ^ s:Nat):Int)).set i ((lm xs i+(lm x (i+1) % 2 ^ s)*2 ^ (32-s):Nat):Int)=G
     have hGl:G.length=xs.length:=by rw[← hG]; simp
     rw[qF _ (by omega) (by omega),j3 _ (by omega),j3 _ (by omega),qF _ (by omega) (by omega),jD _ rfl (by omega),j3 _ (by omega),qF _ (by omega) (by omega),jD _ rfl (by omega),za Wa,
      qF _ (by omega) (by omega),jD _ (by simp) (by simp; omega),qF _ (by omega) (by omega),jD _ (by simp) (by simp; omega),ze _ (by omega) rfl (by omega),zx _ (by omega),z7]
    ·rw[gi _ _ _ _ (by omega),gi _ _ _ _ (by omega)]; exact hz j (by omega)
    ·have:j=i+1:=by omega
     subst this
     rw[gi _ _ _ _ (by omega),XY (by omega),if_pos rfl,Int.toNat_natCast]
    ·simp only
     rw[q9,gi _ _ _ _ (by omega),XY (by omega),if_pos rfl,Int.toNat_natCast,u7 _ (by simp; omega),WH _ _ _ _ (by omega),Int.toNat_natCast,q9,Nat.pow_succ]
     have Xi:=hv
     rw[q9]at Xi
     have e:nv (xs.take i)+4294967296 ^ i*(lm xs i+lm x (i+1) % 2 ^ s*2 ^ (32-s))=(nv (xs.take i)+4294967296 ^ i*lm xs i)+4294967296 ^ i*(lm x (i+1) % 2 ^ s*2 ^ (32-s)):=by rw[Nat.mul_add]; omega
     rw[e]
     exact z2s (by omega) Xi
  ·right
   have:i=x.length:=by omega
   subst this
   refine⟨xs,?_,hl,hn,?_⟩
   ·unfold bp
    simp
   ·rw[List.take_length,qN (by omega)]at hv; exact hv
 ·show lm (List.replicate x.length 0) j=0
  unfold lm nth
  simp[List.getD_eq_getElem?_getD,List.getElem?_replicate]
  split<;>simp
theorem z1Q{A k:Nat}(h:(zH A).length≤k):A<4294967296 ^ k:=qc.1 h
theorem YE(k:Nat):(4294967296:Nat) ^ (k / 32)*2 ^ (k % 32)=2 ^ k:=by
 have:(4294967296:Nat)=2 ^ 32:=by decide
 rw[this,← Nat.pow_mul,← Nat.pow_add]; congr 1; omega
theorem Y1(a:List Int)(ha:zu a)(la:a.length≤1000000000)(k:Nat)(hk:k≤4096)(h0:0<k):(bZ a (-(k:Int))).run=some (zH (nv a / 2 ^ k)):=by
 have qa:=zT ha
 unfold bZ
 rw[z6 (xY a ha (by omega))]
 generalize nv a=A at *
 have e1:wK (w7 (-(k:Int)) (-4096)) 4096 = -(k:Int):=by unfold wK w7; repeat' split<;>omega
 have e2:zt (0 - -(k:Int))=(k:Int):=by rw[zN (by omega) (by omega)]; omega
 have e3:zt (Int.tdiv (k:Int) 32)=((k / 32:Nat):Int):=by rw[de (by omega),zN (by omega) (by omega)]; omega
 have e4:zw (Int.tmod (k:Int) 32)=((k % 32:Nat):Int):=by rw[cT (by omega),qx (by omega) (by omega)]; omega
 simp only[e1,e2,e3,e4]
 rw[za (by simp; omega),vg _ (by omega)]
 have hx:=zp A
 by_cases c:(zH A).length≤k / 32
 ·rw[za (by simp; omega),z7]
  have h1:=z1Q c
  have h2:=YE k
  have h3:4294967296 ^ (k / 32)≤2 ^ k:=by rw[← h2]; exact Nat.le_mul_of_pos_right _ (Nat.pow_pos (by omega))
  rw[Nat.div_eq_of_lt (by omega),qA]
 ·rw[z8 (by simp; omega),vg _ (by omega)]
  have e5:zt (((zH A).length:Int)-((k / 32:Nat):Int))=(((zH A).length-k / 32:Nat):Int):=by rw[zN (by omega) (by omega)]; omega
  have e6:uq (e:=.int .u32) ((k / 32:Nat):Int) ((zH A).length:Int) (zH A)=(zH A).drop (k / 32):=by unfold uq; simp only[Int.toNat_natCast,List.take_length]
  obtain⟨r,g1,g2,g3,g4⟩:=Tv ((zH A).drop (k / 32)) (fJ hx _) (by simp; omega) (k % 32) (Nat.mod_lt _ (by omega))
  have hlen:((zH A).drop (k / 32)).length=(zH A).length-k / 32:=List.length_drop
  rw[hlen]at g1
  simp only[e5,e6,Int.toNat_natCast,List.length_replicate,hlen]
  rw[T.run_mk _ (by omega) (by omega) (by omega) (by omega),nC _ (by omega) (by omega) (by omega),ze _ rfl rfl rfl,zM,z6 g1]
  simp only[Nat.zero_add,List.drop_zero,List.take_length]
  rw[zM,z6 (xY r g2 (by omega)),z7,g4]
  have h1:=jX (zH A) (k / 32) (by omega)
  rw[zO]at h1
  have h2:=ur hx (k / 32)
  have h3:A / 4294967296 ^ (k / 32)=nv ((zH A).drop (k / 32)):=by
   refine(congrArg (· / 4294967296 ^ (k / 32)) h1).trans ?_
   rw[Nat.add_mul_div_left _ _ (XD _),Nat.div_eq_of_lt h2,Nat.zero_add]
  rw[← h3,Nat.div_div_eq_div_mul,YE]
theorem HV(k:Nat)(l:List Int):nv (List.replicate k 0++l)=4294967296 ^ k*nv l:=by rw[gD]; simp
theorem Y4(a:List Int)(ha:zu a)(la:a.length≤1000000000)(k:Nat)(hk:k≤4096):(bZ a (k:Int)).run=some (zH (nv a*2 ^ k)):=by
 have qa:=zT ha
 unfold bZ
 rw[z6 (xY a ha (by omega))]
 generalize nv a=A at *
 have e1:wK (w7 (k:Int) (-4096)) 4096=(k:Int):=by unfold wK w7; repeat' split<;>omega
 have e3:zt (Int.tdiv (k:Int) 32)=((k / 32:Nat):Int):=by rw[de (by omega),zN (by omega) (by omega)]; omega
 have e4:zw (Int.tmod (k:Int) 32)=((k % 32:Nat):Int):=by rw[cT (by omega),qx (by omega) (by omega)]; omega
 have hx:=zp A
 have e5:zt ((zH A).length+1:Int)=(((zH A).length+1:Nat):Int):=i1 _ (by omega)
 have e6:zt (zt (((k / 32:Nat):Int)+(zH A).length)+1)=((k / 32+(zH A).length+1:Nat):Int):=by rw[zN (x:=((k / 32:Nat):Int)+(zH A).length) (by omega) (by omega),zN (by omega) (by omega)]; omega
 have Jy:nv (zH A)*2 ^ (k % 32)<4294967296 ^ ((zH A).length+1):=by
  have h1:=ya hx
  have h2:2 ^ (k % 32)≤2 ^ 32:=Nat.pow_le_pow_right (by omega) (by omega)
  rw[Nat.pow_succ]
  exact Nat.mul_lt_mul_of_lt_of_le h1 h2 (by omega)
 obtain⟨r,g1,g2,g3,g4⟩:=Hq (zH A) hx (by omega) (k % 32) ((zH A).length+1) (Nat.mod_lt _ (by omega)) (by omega) (by omega) Jy
 simp only[e1,e3,e4,e5,e6]
 rw[z8 (by simp),vg _ (by omega),T.run_mk _ (by omega) (by omega) (by omega) (by omega),nC _ (by omega) (by simp; omega) (by simp),vg _ (by omega),z6 g1]
 simp only[Int.toNat_natCast,Nat.zero_add,List.length_replicate,List.drop_zero]
 rw[z11 _ rfl (by omega),zM]
 have ec:((yc (k / 32) (k / 32+(zH A).length+1-k / 32) (List.replicate (k / 32+(zH A).length+1) (0:Int)) r))=List.replicate (k / 32) 0++r:=by
  unfold yc
  rw[List.take_replicate,List.drop_replicate,List.take_of_length_le (by omega)]
  rw[show k / 32+(zH A).length+1-(k / 32+min (k / 32+(zH A).length+1-k / 32) r.length)=0 by omega]
  rw[show min (k / 32) (k / 32+(zH A).length+1)=k / 32 by omega]
  simp
 rw[ec,List.take_of_length_le (by simp; omega)]
 rw[z6 (xY _ (nX.2 ⟨xr _,g2⟩) (by simp; omega)),z7,HV,g4,zO]
 congr 2
 rw[← YE k]; grind
theorem VQ(a:List Int)(ha:zu a)(la:a.length≤1000000000):(od a 1).run=some (zH (nv a*2)):=by
 have qa:=zT ha
 unfold od
 rw[z6 (xV a ha (by omega))]
 generalize nv a=A at *
 have hx:=zp A
 have hxn:=zO A
 generalize zH A=x at *
 have e1:wK (w7 (1:Int) (-4096)) 4096=1:=by decide
 have e3:zt (Int.tdiv (1:Int) 32)=0:=by decide
 have e4:zw (Int.tmod (1:Int) 32)=1:=by decide
 have e5:zt ((x.length:Int)+1)=((x.length+1:Nat):Int):=i1 _ (by omega)
 simp only[e1,e3,e4]
 rw[z8 (by decide),vg _ (by omega),T.run_mk _ (by omega) (by omega) (by omega) (by omega),vg _ (by omega)]
 simp only[Int.toNat_zero,List.replicate_zero,List.length_nil]
 have loop:∃ r:List Int,(tY x 1 (0,0,[])).run=some r∧zu r∧r.length=x.length+1∧nv r=A*2:=by
  refine T.xg (fun s:Int×Int×List Int=>∃ (c i:Nat),s.1=(c:Int)∧s.2.1=(i:Int)∧c<2 ^ 1∧i≤x.length+1∧zu s.2.2∧s.2.2.length=i∧nv s.2.2+c*4294967296 ^ i=nv (x.take i)*2 ^ 1)
   (fun s=>x.length+1-s.2.1.toNat) _ ?_ ⟨0,0,rfl,rfl,by omega,by omega,kW,rfl,by simp⟩
  rintro⟨_,_,xs⟩ ⟨c,i,rfl,rfl,hc,hi,hl,hn,hv⟩
  simp only at hl hn hv ⊢
  by_cases qp:i<x.length+1
  ·left
   have IV:=wi hx i
   obtain⟨s1,s2,s3⟩:=YC hc IV (show 1<32 by omega)
   have w1:xU .u64 (lm x i:Int) 1=((lm x i*2 ^ 1:Nat):Int):=GO (s:=1) IV (by omega)
   have w2:qD (gL .u64 ((lm x i*2 ^ 1:Nat):Int) (c:Int))=((c+lm x i*2 ^ 1 % 4294967296:Nat):Int):=by
    rw[Lq (by omega) (by omega),Jl _ _ 1 hc,JW]; omega
   refine⟨(((lm x i*2 ^ 1 / 4294967296:Nat):Int),((i+1:Nat):Int),xs++[((c+lm x i*2 ^ 1 % 4294967296:Nat):Int)]),?_,⟨_,i+1,rfl,rfl,s3,by omega,Q4 hl (by omega) (by omega),by simp; omega,?_⟩,by simp; omega⟩
   ·unfold cN
    simp only[yk,e5]
    rw[if_pos (by simp; omega),z6 (gv x hx i)]
    simp only[w1,w2,Wt,i1 i (by omega)]
    simp(disch:=omega) [hn]
   ·simp only
    rw[Hv,hn,q9,Nat.pow_succ,Int.toNat_natCast]
    exact UN hv rfl
  ·right
   have Zw:i=x.length+1:=by omega
   subst Zw
   refine⟨xs,?_,hl,hn,?_⟩
   ·unfold cN
    simp[e5]
   ·rw[qN (by omega),hxn]at hv
    have h1:=ya hx
    rw[hxn]at h1
    rcases Nat.eq_zero_or_pos c with z | z
    ·subst z; omega
    ·have:=Nat.mul_le_mul_right (4294967296 ^ (x.length+1)) z
     rw[Nat.pow_succ]at this hv; omega
 obtain⟨xs,hr,hl,hn,hv⟩:=loop
 rw[ze _ rfl rfl rfl,zM,z6 hr]
 simp only[List.drop_zero,Nat.zero_add,List.take_length]
 rw[zM,z6 (xV xs hl (by omega)),hv,z7]
theorem O9{u2 u1 u0 v1 v2:Nat}(h2:u2<4294967296)(h1:u1<4294967296)(h0:u0<4294967296)(hv1:v1<4294967296)(Xi:v2<4294967296)(hn:2147483648≤v1)
  (ht:u2*18446744073709551616+u1*4294967296+u0<(v1*4294967296+v2+1)*4294967296) :
  (fm (u2:Int) (u1:Int) (u0:Int) (v1:Int) (v2:Int)).run=some ((min ((u2*18446744073709551616+u1*4294967296+u0) / (v1*4294967296+v2)) 4294967295:Nat):Int):=by
 obtain⟨t1,t2⟩:=ND hn Xi ht
 have ti:=FO (u2:=u2) (u1:=u1) (u0:=u0) (v1:=v1) (v2:=v2) (by omega) h0
 obtain⟨Q,hQ⟩:∃ Q,(u2*18446744073709551616+u1*4294967296+u0) / (v1*4294967296+v2)=Q:=⟨_,rfl⟩
 rw[hQ]at ti ⊢
 have hV:0<v1*4294967296+v2:=by omega
 have e1:=Ca (x:=(u2:Int)) (y:=(u1:Int)) (by omega) (by omega) (by omega) (by omega)
 have e2:(u2:Int)*4294967296+(u1:Int)=((u2*4294967296+u1:Nat):Int):=by omega
 have w1:zw (u1:Int)=u1:=gx (by omega)
 have w2:zw (u2:Int)=u2:=gx (by omega)
 have w0:zw (u0:Int)=u0:=gx (by omega)
 have x1:zw (v1:Int)=v1:=gx (by omega)
 have x2:zw (v2:Int)=v2:=gx (by omega)
 have e3:Int.tdiv ((u2*4294967296+u1:Nat):Int) (v1:Int)=(((u2*4294967296+u1) / v1:Nat):Int):=by rw[de (by omega)]; rfl
 have e4:Int.tmod ((u2*4294967296+u1:Nat):Int) (v1:Int)=(((u2*4294967296+u1) % v1:Nat):Int):=by rw[cT (by omega)]; rfl
 have hm:(u2*4294967296+u1) % v1<v1:=Nat.mod_lt _ (by omega)
 have SC:=Nat.div_add_mod (u2*4294967296+u1) v1
 rw[Nat.mul_comm]at SC
 have loop:∃ r:Int,(Qx (u0:Int) (v1:Int) (v2:Int) ((((u2*4294967296+u1) / v1:Nat):Int),(((u2*4294967296+u1) % v1:Nat):Int))).run=some r∧r=((min Q 4294967295:Nat):Int):=by
  refine T.xg (fun s:Int×Int=>∃ q r:Nat,s.1=(q:Int)∧s.2=(r:Int)∧q≤4294967297∧r<4294967296∧q*v1+r=u2*4294967296+u1∧min Q 4294967295≤q)
   (fun s=>s.1.toNat) _ ?_ ⟨_,_,rfl,rfl,t2,by omega,SC,by omega⟩
  rintro⟨_,_⟩ ⟨q,r,rfl,rfl,hq,hr,hqr,z1N⟩
  have e5:=Ca (x:=(r:Int)) (y:=(u0:Int)) (by omega) (by omega) (by omega) (by omega)
  have es:qV .u64 (q:Int) 32=((q / 4294967296:Nat):Int):=Wt q
  by_cases hbig:4294967296≤q∨r*4294967296+u0<q*v2
  ·-- too many
   have hgt:min Q 4294967295<q:=by
    rcases hbig with h | h
    ·omega
    ·have:=SB hV (TS (u2:=u2) (u1:=u1) (u0:=u0) (v1:=v1) (v2:=v2) hqr h)
     omega
   have ec:((qV .u64 (q:Int) 32 != 0)||decide (gL .u64 (xU .u64 (r:Int) 32) (u0:Int)<zw ((q:Int)*(v2:Int))))=true:=by
    rw[es,e5]
    by_cases h:4294967296≤q
    ·have:(((q / 4294967296:Nat):Int) != 0)=true:=by simp; omega
     rw[this]; rfl
    ·have hh:r*4294967296+u0<q*v2:=hbig.resolve_left h
     have NR:=mo (x:=q) (y:=v2) (Nat.lt_of_not_le h) Xi
     have e6:(q:Int)*(v2:Int)=((q*v2:Nat):Int):=by simp
     rw[e6,gx (Nat.lt_of_le_of_lt NR (by decide))]
     generalize q*v2=z at *
     rw[show decide ((r:Int)*4294967296+(u0:Int)<(z:Int))=true from decide_eq_true (by omega)]; simp
   have eq1:zw ((q:Int)-1)=((q-1:Nat):Int):=by rw[qx (by omega) (by omega)]; omega
   have er1:zw ((r:Int)+(v1:Int))=((r+v1:Nat):Int):=by rw[qx (by omega) (by omega)]; omega
   have hq1:(q-1)*v1+(r+v1)=u2*4294967296+u1:=by
    obtain⟨p,rfl⟩:∃ p,q=p+1:=⟨q-1,by omega⟩
    rw[Nat.add_mul]at hqr
    simp only[Nat.add_sub_cancel]; omega
   by_cases hover:4294967296≤r+v1
   ·right
    refine⟨((q-1:Nat):Int),?_,?_⟩
    ·unfold gZ
     simp only[w0,x1,x2,eq1,er1]
     rw[zc ⟨by omega,fun _=>by omega⟩,za ec,j3 _ (by omega),za (by rw[Wt]; simp; omega),z7]
    ·-- what is left cannot be more
     have hq2:q-1≤Q:=by
      rw[← hQ,Nat.le_div_iff_mul_le hV]
      refine BG (u0:=u0) hq1 ?_
      have h3:q-1≤4294967295:=by
       rcases Nat.lt_or_ge 4294967296 q with h | h
       ·have hq3:q=4294967297:=by omega
        subst hq3
        simp only[Nat.add_one_sub_one]at hq1
        omega
       ·omega
      have h4:(q-1)*v2≤4294967295*4294967295:=Nat.mul_le_mul h3 (by omega)
      generalize (q-1)*v2=z at *
      omega
     have h5:q-1≤4294967295:=by
      rcases Nat.lt_or_ge 4294967296 q with h | h
      ·have hq3:q=4294967297:=by omega
       subst hq3
       simp only[Nat.add_one_sub_one]at hq1
       omega
      ·omega
     omega
   ·left
    refine⟨(((q-1:Nat):Int),((r+v1:Nat):Int)),?_,⟨q-1,r+v1,rfl,rfl,by omega,by omega,hq1,by omega⟩,by simp; omega⟩
    unfold gZ
    simp only[w0,x1,x2,eq1,er1]
    rw[zc ⟨by omega,fun _=>by omega⟩,za ec,j3 _ (by omega),z8 (by rw[Wt]; simp; omega),z7]
  ·right
   have NR:=mo (x:=q) (y:=v2) (by omega) Xi
   have e6:(q:Int)*(v2:Int)=((q*v2:Nat):Int):=by simp
   have ec:((qV .u64 (q:Int) 32 != 0)||decide (gL .u64 (xU .u64 (r:Int) 32) (u0:Int)<zw ((q:Int)*(v2:Int))))=false:=by
    have hz:q / 4294967296=0:=by omega
    rw[es,e5,e6,gx (Nat.lt_of_le_of_lt NR (by decide)),hz]
    have hh:¬ (r*4294967296+u0<q*v2):=by omega
    generalize q*v2=z at *
    rw[show decide ((r:Int)*4294967296+(u0:Int)<(z:Int))=false from decide_eq_false (by omega)]; rfl
   refine⟨(q:Int),?_,?_⟩
   ·unfold gZ
    simp only[w0,x1,x2]
    rw[zc ⟨by omega,fun _=>by omega⟩,z8 ec,z7]
   ·have hq2:q≤Q:=by
     rw[← hQ,Nat.le_div_iff_mul_le hV]
     exact BG hqr (by omega)
    omega
 obtain⟨r,hr,rfl⟩:=loop
 unfold fm
 have e7:zw (((u2*4294967296+u1) / v1:Nat):Int)=(((u2*4294967296+u1) / v1:Nat):Int):=gx (by omega)
 simp only[w1,w2,x1,e1,e2,e3,e4,e7]
 rw[j3 _ (by omega),vg _ (by omega),vg _ (by omega),z6 hr,z7]
theorem Wp{x y b:Nat}(hx:x<4294967296)(hy:y<4294967296)(hb:b≤1) :
  (vW (x:Int) (y:Int) (b:Int)).run=some ((((x+4294967296*(if x<y+b then 1 else 0))-(y+b):Nat):Int),((if x<y+b then 1 else 0:Nat):Int)):=by
 have e1:=z8m hx hy hb
 have e2:=Pn hx hy hb rfl
 unfold vW
 rw[j3 _ (by omega),e1,e2,z7]
 have e3:(x+4294967296*(if x<y+b then 1 else 0))-y-b=(x+4294967296*(if x<y+b then 1 else 0))-(y+b):=by omega
 rw[e3]
 split<;>rfl
theorem NH{x y b:Nat}(hx:x<4294967296)(hy:y<4294967296)(hb:b≤1) :
  (yX (x:Int) (y:Int) (b:Int)).run=some ((((x+y+b) % 4294967296:Nat):Int),(((x+y+b) / 4294967296:Nat):Int)):=by
 have e:zw (zw ((x:Int)+(y:Int))+(b:Int))=((x+y+b:Nat):Int):=by rw[qx (x:=(x:Int)+y) (by omega) (by omega),qx (by omega) (by omega)]; omega
 unfold yX
 rw[j3 _ (by omega),gx (by omega),gx (by omega),gx (by omega),e,Wt,JW,Z5 (by omega),z7]
theorem gH(xs:List Int)(o i:Nat)(x:Int):(xs.set (o+i) x).drop o=(xs.drop o).set i x:=by
 rw[List.drop_set,if_neg (by omega)]; congr 1; omega
theorem fq(xs:List Int)(o i:Nat):lm (xs.drop o) i=lm xs (o+i):=by
 unfold lm nth
 rw[show(((o+i:Nat):Int)).toNat=o+i by omega,Int.toNat_natCast]
 simp[List.getD_eq_getElem?_getD,List.getElem?_drop]
theorem P7{X X' P N c bo q v w lo hi d Y k:Nat}(h:X+q*N=Y+(bo+c)*P)(hs:X'+P*w=X+P*d)(hc:c+q*v=lo+4294967296*hi)(hd:d+(lo+bo)=w+4294967296*k) :
  X'+q*(N+P*v)=Y+(k+hi)*(P*4294967296):=by
 have e1:P*(d+(lo+bo))=P*(w+4294967296*k):=by rw[hd]
 have e2:P*(c+q*v)=P*(lo+4294967296*hi):=by rw[hc]
 have e3:X'+P*w+q*N+P*(c+q*v)+P*(lo+bo)=X'+q*(N+P*v)+(P*w+P*c+P*(lo+bo)):=by grind
 have e4:X'+P*w+q*N+P*(c+q*v)+P*(lo+bo)=Y+(k+hi)*(P*4294967296)+(P*w+P*c+P*(lo+bo)):=by
  rw[hs,e2]
  have e5:X+P*d+q*N+P*(lo+4294967296*hi)+P*(lo+bo)=(X+q*N)+P*(d+(lo+bo))+P*(lo+4294967296*hi):=by grind
  rw[e5,e1,h]; grind
 omega
theorem z9Z{c q v:Nat}(hc:c<4294967296)(hq:q<4294967296)(hv:v<4294967296):zw ((c:Int)+zw ((q:Int)*(v:Int)))=((c+q*v:Nat):Int)∧(c+q*v) / 4294967296<4294967296:=by
 have h:=mo hq hv
 have e:(q:Int)*(v:Int)=((q*v:Nat):Int):=by simp
 rw[e]
 generalize q*v=z at *
 rw[qx (x:=(z:Int)) (by omega) (by omega),qx (by omega) (by omega)]
 omega
theorem z7j(b:List Int)(hb:zu b)(lb:b.length≤1000000000)(q:Nat)(hq:q<4294967296)(u:List Int)(hu:zu u)(o:Nat)(ho:o+b.length<u.length) :
  ∃ r:(Nat×Nat)×Int×Int×List Int,(sx b (q:Int) b (b.length:Int) ((o,b.length+1),0,0,0,u)).run=some r∧r.1=(o,b.length+1)∧∃ c bo:Nat,r.2.1=(c:Int)∧r.2.2.1=(bo:Int)∧c<4294967296∧bo≤1∧zu r.2.2.2 ∧
   r.2.2.2.length=u.length∧r.2.2.2.take o=u.take o∧(r.2.2.2.drop o).drop b.length=(u.drop o).drop b.length∧nv (r.2.2.2.drop o)+q*nv b=nv (u.drop o)+(bo+c)*4294967296 ^ b.length:=by
 refine T.xg (fun s:(Nat×Nat)×Int×Int×Int×List Int=>s.1=(o,b.length+1)∧∃ c bo i:Nat,s.2.1=(c:Int)∧s.2.2.1=(bo:Int)∧s.2.2.2.1=(i:Int)∧c<4294967296∧bo≤1∧i≤b.length∧zu s.2.2.2.2 ∧
   s.2.2.2.2.length=u.length∧s.2.2.2.2.take o=u.take o∧(s.2.2.2.2.drop o).drop i=(u.drop o).drop i∧nv (s.2.2.2.2.drop o)+q*nv (b.take i)=nv (u.drop o)+(bo+c)*4294967296 ^ i)
  (fun s=>b.length-s.2.2.2.1.toNat) _ ?_ ⟨rfl,0,0,0,rfl,rfl,rfl,by omega,by omega,by omega,hu,rfl,rfl,rfl,by simp⟩
 rintro⟨_,_,_,_,xs⟩ ⟨rfl,c,bo,i,rfl,rfl,rfl,hc,hbo,hi,hl,hn,ht,hd,hv⟩
 simp only at hl hn ht hd hv ⊢
 by_cases qp:i<b.length
 ·left
  have hw:=wi hb i
  have hx:=wi hl (o+i)
  obtain⟨m1,m2⟩:=z9Z hc hq hw
  have hs:=Wp hx (show(c+q*lm b i) % 4294967296<4294967296 by omega) hbo
  have MV:lm xs (o+i)+4294967296*(if lm xs (o+i)<(c+q*lm b i) % 4294967296+bo then 1 else 0)-((c+q*lm b i) % 4294967296+bo)<4294967296:=by split<;>omega
  have Ox:(if lm xs (o+i)<(c+q*lm b i) % 4294967296+bo then 1 else 0)≤1:=by split<;>omega
  have hde:lm xs (o+i)+4294967296*(if lm xs (o+i)<(c+q*lm b i) % 4294967296+bo then 1 else 0)-((c+q*lm b i) % 4294967296+bo)+((c+q*lm b i) % 4294967296+bo)=lm xs (o+i)+4294967296*(if lm xs (o+i)<(c+q*lm b i) % 4294967296+bo then 1 else 0):=by split<;>omega
  generalize hD:lm xs (o+i)+4294967296*(if lm xs (o+i)<(c+q*lm b i) % 4294967296+bo then 1 else 0)-((c+q*lm b i) % 4294967296+bo)=D at *
  generalize hB:(if lm xs (o+i)<(c+q*lm b i) % 4294967296+bo then 1 else 0)=B2 at *
  refine⟨((o,b.length+1),((((c+q*lm b i) / 4294967296:Nat)):Int),(B2:Int),((i+1:Nat):Int),xs.set (o+i) (D:Int)),?_,
   ⟨rfl,(c+q*lm b i) / 4294967296,B2,i+1,rfl,rfl,rfl,m2,Ox,by omega,w8 hl _ MV,by simpa using hn,?_,?_,?_⟩,by simp; omega⟩
  ·unfold bu
   have ew:zw (lm b i:Int)=lm b i:=gx (by omega)
   simp only[xE,wB hb,Int.toNat_natCast,jE hl,ew,m1,JW,Wt,i1 i (by omega)]
   rw[za (by simp; omega),qF _ (by omega) (by omega),qF _ (by omega) (by omega),jD _ rfl (by omega),z6 hs]
   simp only
   rw[qF _ (by omega) (by omega),jD _ rfl (by omega),j3 _ (by omega),zM,zx _ (by simp),z7]
  ·simp only
   rw[List.take_set_of_le (by omega),ht]
  ·simp only
   rw[gH,jo]
   have:=congrArg (List.drop 1) hd
   rw[List.drop_drop,List.drop_drop,]at this
   simpa[Nat.add_assoc,Nat.add_comm]using this
  ·simp only
   rw[gH,q9,Nat.pow_succ]
   have iO:=W2 (a:=xs.drop o) (i:=i) (D:Int) (by simp; omega)
   rw[Int.toNat_natCast,fq]at iO
   exact P7 (lo:=(c+q*lm b i) % 4294967296) hv iO (by generalize c+q*lm b i=z; omega) hde
 ·right
  have:i=b.length:=by omega
  subst this
  refine⟨((o,b.length+1),(c:Int),(bo:Int),xs),?_,rfl,c,bo,rfl,rfl,hc,hbo,hl,hn,ht,hd,by simpa[List.take_length]using hv⟩
  unfold bu
  simp
theorem Rg{X X' P N m v w d hi Y:Nat}(h:X+m*P=Y+N)(hs:X'+P*w=X+P*d)(hd:d+4294967296*hi=w+v+m):X'+hi*(P*4294967296)=Y+(N+P*v):=by
 have e1:P*(d+4294967296*hi)=P*(w+v+m):=by rw[hd]
 have e2:X'+hi*(P*4294967296)+(P*w+P*m)=Y+(N+P*v)+(P*w+P*m):=by
  have e3:X'+hi*(P*4294967296)+(P*w+P*m)=(X'+P*w)+P*(4294967296*hi)+P*m:=by grind
  rw[e3,hs]
  have e4:X+P*d+P*(4294967296*hi)+P*m=(X+m*P)+P*(d+4294967296*hi):=by grind
  rw[e4,e1,h]; grind
 omega
theorem z4D(b:List Int)(hb:zu b)(lb:b.length≤1000000000)(u:List Int)(hu:zu u)(o:Nat)(ho:o+b.length<u.length) :
  ∃ r:(Nat×Nat)×Int×List Int,(rG b b (b.length:Int) ((o,b.length+1),0,0,u)).run=some r∧r.1=(o,b.length+1)∧∃ m:Nat,r.2.1=(m:Int)∧m≤1∧zu r.2.2 ∧
   r.2.2.length=u.length∧r.2.2.take o=u.take o∧(r.2.2.drop o).drop b.length=(u.drop o).drop b.length∧nv (r.2.2.drop o)+m*4294967296 ^ b.length=nv (u.drop o)+nv b:=by
 refine T.xg (fun s:(Nat×Nat)×Int×Int×List Int=>s.1=(o,b.length+1)∧∃ m i:Nat,s.2.1=(m:Int)∧s.2.2.1=(i:Int)∧m≤1∧i≤b.length∧zu s.2.2.2 ∧
   s.2.2.2.length=u.length∧s.2.2.2.take o=u.take o∧(s.2.2.2.drop o).drop i=(u.drop o).drop i∧nv (s.2.2.2.drop o)+m*4294967296 ^ i=nv (u.drop o)+nv (b.take i))
  (fun s=>b.length-s.2.2.1.toNat) _ ?_ ⟨rfl,0,0,rfl,rfl,by omega,by omega,hu,rfl,rfl,rfl,by simp⟩
 rintro⟨_,_,_,xs⟩ ⟨rfl,m,i,rfl,rfl,hm,hi,hl,hn,ht,hd,hv⟩
 simp only at hl hn ht hd hv ⊢
 by_cases qp:i<b.length
 ·left
  have hw:=wi hb i
  have hx:=wi hl (o+i)
  have hs:=NH hx hw hm
  refine⟨((o,b.length+1),(((lm xs (o+i)+lm b i+m) / 4294967296:Nat):Int),((i+1:Nat):Int),xs.set (o+i) (((lm xs (o+i)+lm b i+m) % 4294967296:Nat):Int)),?_,
   ⟨rfl,_,i+1,rfl,rfl,by omega,by omega,w8 hl _ (by omega),by simpa using hn,?_,?_,?_⟩,by simp; omega⟩
  ·unfold bA
   simp only[xE,wB hb,Int.toNat_natCast,jE hl,i1 i (by omega)]
   rw[za (by simp; omega),qF _ (by omega) (by omega),qF _ (by omega) (by omega),jD _ rfl (by omega),z6 hs]
   simp only
   rw[qF _ (by omega) (by omega),jD _ rfl (by omega),zM,zx _ (by simp),z7]
  ·simp only
   rw[List.take_set_of_le (by omega),ht]
  ·simp only
   rw[gH,jo]
   have:=congrArg (List.drop 1) hd
   rw[List.drop_drop,List.drop_drop,]at this
   simpa[Nat.add_assoc,Nat.add_comm]using this
  ·simp only
   rw[gH,q9,Nat.pow_succ]
   have iO:=W2 (a:=xs.drop o) (i:=i) (((lm xs (o+i)+lm b i+m) % 4294967296:Nat):Int) (by simp; omega)
   rw[Int.toNat_natCast,fq]at iO
   exact Rg hv iO (by omega)
 ·right
  have:i=b.length:=by omega
  subst this
  refine⟨((o,b.length+1),(m:Int),xs),?_,rfl,m,rfl,hm,hl,hn,ht,hd,by simpa[List.take_length]using hv⟩
  unfold bA
  simp
theorem pQ{D:List Int}(hl:zu D)(k:Nat)(hk:k≤D.length)(h:nv D<4294967296 ^ k):nv (D.drop k)=0:=by
 have h1:=jX D k hk
 rcases Nat.eq_zero_or_pos (nv (D.drop k))with z | z
 ·exact z
 ·have:=Nat.mul_le_mul_left (4294967296 ^ k) z
  omega
theorem XJ{D:List Int}(hl:zu D)(k:Nat)(hk:k≤D.length)(h:nv (D.drop k)=0):nv D<4294967296 ^ k:=by
 have h1:=jX D k hk
 have h2:=ur hl k
 rw[h]at h1; omega
theorem z08{X X' P q N c bo w d Y k:Nat}(h:X+q*N=Y+(bo+c)*P)(hs:X'+P*w=X+P*d)(hd:d+(c+bo)=w+4294967296*k):X'+q*N=Y+k*(P*4294967296):=by
 have e1:P*(d+(c+bo))=P*(w+4294967296*k):=by rw[hd]
 have e2:X'+q*N+(P*w+P*(c+bo))=Y+k*(P*4294967296)+(P*w+P*(c+bo)):=by
  have e3:X'+q*N+(P*w+P*(c+bo))=(X'+P*w)+q*N+P*(c+bo):=by grind
  rw[e3,hs]
  have e4:X+P*d+q*N+P*(c+bo)=(X+q*N)+P*(d+(c+bo)):=by grind
  rw[e4,h,e1]; grind
 omega
theorem Sf{Z Y X U P L m p N:Nat}(h1:Z+P*L=Y+P*((L+m) % 4294967296))(h2:Y+m*P=X+N)(h3:X+(p+1)*N=U+1*(P*4294967296))(h4:Z<P*4294967296)(h5:(p+1)*N≤U+N)
  (hm:m≤1) (hL:L<4294967296):Z+(p+1-1)*N=U:=by
 rw[FE]at h3 h5
 rw[Nat.add_sub_cancel]
 rw[Nat.mul_comm m P]at h2
 by_cases hov:L+m<4294967296
 ·rw[Nat.mod_eq_of_lt hov,Nat.mul_add]at h1
  generalize P*L=a at *
  generalize P*m=b at *
  generalize p*N=c at *
  omega
 ·have zfx:(L+m) % 4294967296=0:=by omega
  have e5:P*(L+m)=P*4294967296:=by congr 1; omega
  rw[zfx,Nat.mul_zero]at h1
  rw[Nat.mul_add]at e5
  generalize P*L=a at *
  generalize P*m=b at *
  generalize p*N=c at *
  omega
theorem O1(b:List Int)(hb:zu b)(lb:b.length≤1000000000)(q:Nat)(hq:q<4294967296)(u:List Int)(hu:zu u)(lu:u.length≤4000000000)(o:Nat)(ho:o+b.length<u.length)
  (Jy:nv (u.drop o)<4294967296 ^ (b.length+1)) (zaB:q*nv b≤nv (u.drop o)+nv b) :
  ∃ xs:List Int,(lv (o,b.length+1) b (q:Int) u).run=some (decide (nv (u.drop o)<q*nv b),xs)∧zu xs∧xs.length=u.length∧xs.take o=u.take o ∧
   nv (xs.drop o)+(if nv (u.drop o)<q*nv b then q-1 else q)*nv b=nv (u.drop o):=by
 obtain⟨⟨_,_,_,xs⟩,hr,rfl,c,bo,rfl,rfl,hc,hbo,hl,hn,ht,hd,hv⟩:=z7j b hb lb q hq u hu o ho
 simp only at hl hn ht hd hv
 have hBl:=ya hb
 have hx:=wi hl (o+b.length)
 have hs:=Wp hx hc hbo
 have MV:lm xs (o+b.length)+4294967296*(if lm xs (o+b.length)<c+bo then 1 else 0)-(c+bo)<4294967296:=by split<;>omega
 have Ox:(if lm xs (o+b.length)<c+bo then 1 else 0)≤1:=by split<;>omega
 have hde:lm xs (o+b.length)+4294967296*(if lm xs (o+b.length)<c+bo then 1 else 0)-(c+bo)+(c+bo)=lm xs (o+b.length)+4294967296*(if lm xs (o+b.length)<c+bo then 1 else 0):=by split<;>omega
 generalize lm xs (o+b.length)+4294967296*(if lm xs (o+b.length)<c+bo then 1 else 0)-(c+bo)=D at *
 generalize (if lm xs (o+b.length)<c+bo then 1 else 0)=B2 at *
 have iO:=W2 (a:=xs.drop o) (i:=b.length) (D:Int) (by simp; omega)
 rw[Int.toNat_natCast,fq,← gH]at iO
 have z5h:=z08 hv iO hde
 have Sy:zu (xs.set (o+b.length) (D:Int)):=w8 hl _ MV
 have DK:(xs.set (o+b.length) (D:Int)).length=u.length:=by simpa using hn
 have ht1:(xs.set (o+b.length) (D:Int)).take o=u.take o:=by rw[List.take_set_of_le (by omega),ht]
 have Np:((xs.set (o+b.length) (D:Int)).drop o).drop (b.length+1)=(u.drop o).drop (b.length+1):=by
  rw[gH,jo]
  have:=congrArg (List.drop 1) hd
  rw[List.drop_drop,List.drop_drop]at this
  simpa[Nat.add_assoc,Nat.add_comm]using this
 have hz:=pQ (fJ hu o) (b.length+1) (by simp; omega) Jy
 have Ps:nv ((xs.set (o+b.length) (D:Int)).drop o)<4294967296 ^ (b.length+1):=XJ (fJ Sy o) _ (by simp; omega) (by rw[Np]; exact hz)
 have zfT:(4294967296:Nat) ^ (b.length+1)=4294967296 ^ b.length*4294967296:=Nat.pow_succ ..
 have ec:qD (c:Int)=c:=Z5 hc
 unfold lv
 rw[zx _ rfl,zx _ rfl,z6 hr]
 simp only[Int.toNat_natCast,xE,jE hl,ec]
 rw[qF _ (by omega) (by omega),jD _ rfl (by omega),z6 hs]
 simp only
 rw[qF _ (by omega) (by omega),jD _ rfl (by omega)]
 generalize hX:xs.set (o+b.length) (D:Int)=X at *
 rcases Nat.eq_zero_or_pos B2 with z | z
 ·subst z
  rw[za (by simp),zx _ (by omega),z7]
  have FP:¬ (nv (u.drop o)<q*nv b):=by omega
  refine⟨X,by rw[decide_eq_false FP],Sy,DK,ht1,?_⟩
  rw[if_neg FP]; omega
 ·have hB2:B2=1:=by omega
  subst hB2
  have qp:nv (u.drop o)<q*nv b:=by omega
  obtain⟨⟨_,_,ys⟩,hr2,rfl,m,rfl,hm,iM,KO,Nd,hd2,Xi⟩:=z4D b hb lb X Sy o (by omega)
  simp only at iM KO Nd hd2 Xi
  have hy:=wi iM (o+b.length)
  have eu:qD ((lm ys (o+b.length):Int)+(m:Int))=(((lm ys (o+b.length)+m) % 4294967296:Nat):Int):=by rw[← JW]; rfl
  rw[z8 (by simp),zM,zx _ (by omega),z6 hr2]
  simp only[Int.toNat_natCast,xE,jE iM,eu]
  rw[qF _ (by omega) (by omega),jD _ rfl (by omega),qF _ (by omega) (by omega),jD _ rfl (by omega),zx _ (by simp),z7]
  have z3E:=W2 (a:=ys.drop o) (i:=b.length) (((lm ys (o+b.length)+m) % 4294967296:Nat):Int) (by simp; omega)
  rw[Int.toNat_natCast,fq,← gH]at z3E
  have hl3:zu (ys.set (o+b.length) (((lm ys (o+b.length)+m) % 4294967296:Nat):Int)):=w8 iM _ (by omega)
  have hd3:((ys.set (o+b.length) (((lm ys (o+b.length)+m) % 4294967296:Nat):Int)).drop o).drop (b.length+1)=(u.drop o).drop (b.length+1):=by
   rw[gH,jo,← Np]
   have:=congrArg (List.drop 1) hd2
   rw[List.drop_drop,List.drop_drop]at this
   simpa[Nat.add_assoc,Nat.add_comm]using this
  have zaW:nv ((ys.set (o+b.length) (((lm ys (o+b.length)+m) % 4294967296:Nat):Int)).drop o)<4294967296 ^ (b.length+1):=XJ (fJ hl3 o) _ (by simp; omega) (by rw[hd3]; exact hz)
  refine⟨_,by rw[decide_eq_true qp],hl3,by simp; omega,?_,?_⟩
  ·rw[List.take_set_of_le (by omega),Nd,ht1]
  ·rw[if_pos qp]
   generalize nv ((ys.set (o+b.length) (((lm ys (o+b.length)+m) % 4294967296:Nat):Int)).drop o)=Z at *
   obtain⟨p,rfl⟩:∃ p,q=p+1:=⟨q-1,by
    rcases Nat.eq_zero_or_pos q with h | h
    ·subst h; omega
    ·omega⟩
   rw[zfT]at zaW
   exact Sf z3E Xi z5h zaW zaB hm hy
def oc:zf:=[0,1,2,2,3,3,3,3,4,4,4,4,4,4,4,4]++List.replicate 16 5++List.replicate 32 6++List.replicate 64 7++List.replicate 128 8
theorem MR:∀ y:Fin 256,y.val≠0→1≤(oc.getD y.val 0).toNat∧(oc.getD y.val 0).toNat≤8∧2 ^ ((oc.getD y.val 0).toNat-1)≤y.val∧y.val<2 ^ (oc.getD y.val 0).toNat:=by decide +kernel
set_option maxRecDepth 100000 in
theorem Ej:oc.length=256:=by decide +kernel
theorem len8{y:Nat}(h0:0<y)(h:y<256):∃ t:Nat,wA oc (y:Int)=(t:Int)∧1≤t∧t≤8∧2 ^ (t-1)≤y∧y<2 ^ t:=by
 have:=MR ⟨y,h⟩ (by simp; omega)
 refine⟨(oc.getD y 0).toNat,?_,this⟩
 unfold wA
 rw[Int.toNat_natCast]
theorem He{x s:Nat}(hs:s≤32):qV .u32 (x:Int) (s:Int)=((x / 2 ^ s:Nat):Int):=by
 have e:min (s:Int).toNat 32=s:=by simp; omega
 show Int.fdiv (x:Int) (2 ^ (min (s:Int).toNat 32))=_
 rw[e]
 have e2:(2:Int) ^ s=((2 ^ s:Nat):Int):=by simp
 rw[e2,Int.fdiv_eq_ediv_of_nonneg _ (Int.natCast_nonneg _)]; rfl
set_option maxRecDepth 100000 in
theorem NB{x:Nat}(h0:0<x)(h:x<4294967296):∃ t:Nat,(yR (x:Int)).run=some (t:Int)∧1≤t∧t≤32∧2 ^ (t-1)≤x∧x<2 ^ t:=by
 have zg8:yR (x:Int)=(.zd (((decide ((65536:Int)≤(x:Int)))=true)→((0:Int)≤(16:Int))) <|
  .zd (((decide ((256:Int)≤(bif (decide ((65536:Int)≤(x:Int)))then(qV .u32 (x:Int) (16:Int))else(x:Int))))=true)→((0:Int)≤(8:Int))) <|
  .zd (zi (Mv (bif (decide ((256:Int)≤(bif (decide ((65536:Int)≤(x:Int)))then(qV .u32 (x:Int) (16:Int))else(x:Int))))then(qV .u32 (bif (decide ((65536:Int)≤(x:Int)))then(qV .u32 (x:Int) (16:Int))else(x:Int)) (8:Int))else(bif (decide ((65536:Int)≤(x:Int)))then(qV .u32 (x:Int) (16:Int))else(x:Int)))) oc.length) <|
  .ret (zt ((bif (decide ((256:Int)≤(bif (decide ((65536:Int)≤(x:Int)))then(qV .u32 (x:Int) (16:Int))else(x:Int))))then(zt ((bif (decide ((65536:Int)≤(x:Int)))then(16:Int)else(0:Int))+(8:Int)))else(bif (decide ((65536:Int)≤(x:Int)))then(16:Int)else(0:Int)))+(zt (wA oc (Mv (bif (decide ((256:Int)≤(bif (decide ((65536:Int)≤(x:Int)))then(qV .u32 (x:Int) (16:Int))else(x:Int))))then(qV .u32 (bif (decide ((65536:Int)≤(x:Int)))then(qV .u32 (x:Int) (16:Int))else(x:Int)) (8:Int))else(bif (decide ((65536:Int)≤(x:Int)))then(qV .u32 (x:Int) (16:Int))else(x:Int)))))))):T Int):=by rfl
 rw[zg8,Ej]
 -- y: what is left; k: how many bits ahead of it
 obtain⟨y,k,e1,e2,hk,TY,hy,hlo,hhi⟩:∃ y k:Nat,(bif (decide ((256:Int)≤(bif (decide ((65536:Int)≤(x:Int)))then(qV .u32 (x:Int) (16:Int))else(x:Int))))then(qV .u32 (bif (decide ((65536:Int)≤(x:Int)))then(qV .u32 (x:Int) (16:Int))else(x:Int)) (8:Int))else(bif (decide ((65536:Int)≤(x:Int)))then(qV .u32 (x:Int) (16:Int))else(x:Int)))=(y:Int) ∧
   (bif (decide ((256:Int)≤(bif (decide ((65536:Int)≤(x:Int)))then(qV .u32 (x:Int) (16:Int))else(x:Int))))then(zt ((bif (decide ((65536:Int)≤(x:Int)))then(16:Int)else(0:Int))+(8:Int)))else(bif (decide ((65536:Int)≤(x:Int)))then(16:Int)else(0:Int)))=(k:Int) ∧
   k≤24∧0<y∧y<256∧y*2 ^ k≤x∧x<(y+1)*2 ^ k:=by
  have s16:qV .u32 (x:Int) 16=((x / 65536:Nat):Int):=He (s:=16) (by omega)
  have s8:∀ z:Nat,qV .u32 (z:Int) 8=((z / 256:Nat):Int):=fun z=>He (s:=8) (by omega)
  by_cases c1:65536≤x
  ·rw[show decide ((65536:Int)≤(x:Int))=true from decide_eq_true (by omega)]
   simp only[cond_true,s16]
   by_cases c2:256≤x / 65536
   ·rw[show decide ((256:Int)≤((x / 65536:Nat):Int))=true from decide_eq_true (by omega)]
    simp only[cond_true,s8]
    exact⟨x / 65536 / 256,24,rfl,by decide,by omega,by omega,by omega,by omega,by omega⟩
   ·rw[show decide ((256:Int)≤((x / 65536:Nat):Int))=false from decide_eq_false (by omega)]
    simp only[cond_false]
    exact⟨x / 65536,16,rfl,rfl,by omega,by omega,by omega,by omega,by omega⟩
  ·rw[show decide ((65536:Int)≤(x:Int))=false from decide_eq_false (by omega)]
   simp only[cond_false]
   by_cases c2:256≤x
   ·rw[show decide ((256:Int)≤(x:Int))=true from decide_eq_true (by omega)]
    simp only[cond_true,s8]
    exact⟨x / 256,8,rfl,by decide,by omega,by omega,by omega,by omega,by omega⟩
   ·rw[show decide ((256:Int)≤(x:Int))=false from decide_eq_false (by omega)]
    simp only[cond_false]
    exact⟨x,0,rfl,rfl,by omega,by omega,by omega,by omega,by omega⟩
 obtain⟨t,t1,t2,t3,t4,t5⟩:=len8 TY hy
 rw[e1,e2,Ri (by omega) (by omega),t1,zN (x:=(t:Int)) (by omega) (by omega),zN (by omega) (by omega)]
 refine⟨k+t,?_,by omega,by omega,?_,?_⟩
 ·rw[zc (fun _=>by omega),zc (fun _=>by omega),qF _ (by omega) (by omega),z7]; rfl
 ·rw[show k+t-1=(t-1)+k by omega,Nat.pow_add]
  exact Nat.le_trans (Nat.mul_le_mul_right _ t4) hlo
 ·rw[show k+t=t+k by omega,Nat.pow_add]
  exact Nat.lt_of_lt_of_le hhi (Nat.mul_le_mul_right _ t5)
theorem SG{x:Nat}(h0:0<x)(h:x<4294967296):∃ s:Nat,(wR (x:Int)).run=some (s:Int)∧s<32∧2147483648≤x*2 ^ s∧x*2 ^ s<4294967296:=by
 obtain⟨t,t1,t2,t3,t4,t5⟩:=NB h0 h
 refine⟨32-t,?_,by omega,?_,?_⟩
 ·unfold wR
  rw[z6 t1,z7,zN (by omega) (by omega)]
  congr 1; omega
 ·have:=Nat.mul_le_mul_right (2 ^ (32-t)) t4
  rw[← Nat.pow_add,show t-1+(32-t)=31 by omega]at this
  exact this
 ·have:=Nat.mul_lt_mul_of_pos_right t5 (show 0<2 ^ (32-t)from Nat.pow_pos (by omega))
  rw[← Nat.pow_add,show t+(32-t)=32 by omega]at this
  exact this
theorem horner(a b c:Nat):(a*4294967296+b)*4294967296+c=a*18446744073709551616+b*4294967296+c:=by
 rw[Nat.add_mul,Nat.mul_assoc]
theorem Eg{u2 u1 u0 v1 v2:Nat}(h2:u2<4294967296)(h1:u1<4294967296)(h0:u0<4294967296)(hv1:v1<4294967296)(Xi:v2<4294967296)(hn:2147483648≤v1)
  (ht:(u2*4294967296+u1)*4294967296+u0<(v1*4294967296+v2+1)*4294967296) :
  (fm (u2:Int) (u1:Int) (u0:Int) (v1:Int) (v2:Int)).run=some ((min (((u2*4294967296+u1)*4294967296+u0) / (v1*4294967296+v2)) 4294967295:Nat):Int):=by
 rw[horner]at ht ⊢
 exact O9 h2 h1 h0 hv1 Xi hn ht
theorem P0(a b P t:Nat):t+P*b+P*4294967296*a=(a*4294967296+b)*P+t:=by grind
theorem z9V(d:List Int)(n:Nat)(hn:d.length=n+2):nv d=(lm d (n+1)*4294967296+lm d n)*4294967296 ^ n+nv (d.take n):=by
 have h1:=q9 d n
 have h2:=q9 d (n+1)
 rw[qN (by omega)]at h2
 rw[h2,h1,Nat.pow_succ,P0]
theorem Tm{B a b c P t0 t1 t2 t3:Nat}(h1:t1=t0+P*c)(h2:t2=t1+P*B*b)(h3:t3=t2+P*B*B*a):t3=((a*B+b)*B+c)*P+t0:=by
 rw[h3,h2,h1]; grind
theorem zgN(w:List Int)(n:Nat)(h:nv (w.drop (n+1+1+1))=0):nv w=((lm w (n+1+1)*4294967296+lm w (n+1))*4294967296+lm w n)*4294967296 ^ n+nv (w.take n):=by
 have h0:nv w=nv (w.take (n+1+1+1)):=by
  by_cases c:n+1+1+1≤w.length
  ·have:=jX w (n+1+1+1) c
   rw[h,Nat.mul_zero,Nat.add_zero]at this; exact this
  ·rw[qN (by omega)]
 have h1:=q9 w n
 have h2:=q9 w (n+1)
 have h3:=q9 w (n+1+1)
 rw[Nat.pow_succ]at h2
 rw[Nat.pow_succ,Nat.pow_succ,← h0]at h3
 exact Tm h1 h2 h3
theorem DL{a b:List Int}{k i:Nat}(h:a.take k=b.take k)(hi:i<k):lm a i=lm b i:=by
 have e:=congrArg (fun l=>l[i]?) h
 simp only[List.getElem?_take,if_pos hi]at e
 unfold lm nth
 rw[List.getD_eq_getElem?_getD,List.getD_eq_getElem?_getD,Int.toNat_natCast,e]
theorem z6C{U3 V2 D X Y U V:Nat}(hU:U=U3*D+X)(hV:V=V2*D+Y)(hY:Y<D)(hUV:U<V*4294967296):U3<(V2+1)*4294967296:=by
 have h1:U3*D<(V2+1)*4294967296*D:=by
  have e:(V2+1)*4294967296*D=(V2*D+D)*4294967296:=by grind
  rw[e]
  have:V*4294967296≤(V2*D+D)*4294967296:=Nat.mul_le_mul_right _ (by omega)
  omega
 exact Nat.lt_of_mul_lt_mul_right h1
theorem NT(d:List Int)(hd:zu d)(n:Nat)(hn:d.length=n+2)(Cw:2147483648≤lm d (n+1))(w:List Int)(hw:zu w)(hwl:n+1+1+1≤w.length)(hW:nv w<nv d*4294967296) :
  ∃ x:Nat,(fm (lm w (n+1+1):Int) (lm w (n+1):Int) (lm w n:Int) (lm d (n+1):Int) (lm d n:Int)).run=some (x:Int)∧x<4294967296∧nv w / nv d≤x∧x≤nv w / nv d+1∧nv w<4294967296 ^ (d.length+1):=by
 have MV:=ya hd
 have hdt:=z9V d n hn
 have hdn:=ur hd n
 have hWp:nv w<4294967296 ^ (d.length+1):=by
  rw[Nat.pow_succ]
  exact Nat.lt_of_lt_of_le hW (Nat.mul_le_mul_right _ (Nat.le_of_lt MV))
 have hz:=pQ hw (d.length+1) (by omega) hWp
 rw[show d.length+1=n+1+1+1 by omega]at hz
 have ht3:=zgN w n hz
 have hwn:=ur hw n
 have hU3:=z6C ht3 hdt hdn hW
 refine⟨_,Eg (wi hw _) (wi hw _) (wi hw _) (wi hd _) (wi hd _) Cw hU3,?_,?_,?_,hWp⟩
 ·exact Nat.lt_of_le_of_lt (Nat.min_le_right _ _) (by decide)
 ·refine(Ik ht3 hwn hdt hdn ?_ hW rfl).1
  exact Nat.le_trans (Nat.mul_le_mul_right 4294967296 Cw) (Nat.le_add_right _ _)
 ·refine(Ik ht3 hwn hdt hdn ?_ hW rfl).2
  exact Nat.le_trans (Nat.mul_le_mul_right 4294967296 Cw) (Nat.le_add_right _ _)
theorem zf6{W V x:Nat}(g2:x≤W / V+1):x*V≤W+V:=by
 have h1:=Nat.mul_le_mul_right V g2
 have h2:=Nat.div_mul_le_self W V
 rw[Nat.add_mul,Nat.one_mul]at h1
 omega
theorem digit{W V x:Nat}(hV:0<V)(g1:W / V≤x)(g2:x≤W / V+1):(if W<x*V then x-1 else x)=W / V:=by
 have SC:=Nat.div_add_mod W V
 have hml:=Nat.mod_lt W hV
 have hz:0≤W / V:=Nat.zero_le _
 split
 ·rename_i c
  have:x≠W / V:=by
   intro h
   rw[h,Nat.mul_comm]at c; omega
  generalize W / V=z at *
  omega
 ·rename_i c
  have hle:x≤W / V:=(Nat.le_div_iff_mul_le hV).2 (by omega)
  exact Nat.le_antisymm hle g1
theorem z4E{l N V:Nat}(hl:l<4294967296)(hN:N<V):l+4294967296*N<V*4294967296:=by
 have:=Nat.mul_le_mul_left 4294967296 (show N+1≤V from hN)
 omega
theorem Of{l N Q V z r R:Nat}(h:r+z*V=l+4294967296*N)(hR:R=Q*V+N):l+4294967296*R=(z+4294967296*Q)*V+r:=by
 rw[hR]
 have e:(z+4294967296*Q)*V+r=(r+z*V)+4294967296*(Q*V):=by grind
 rw[e,h]; omega
theorem FZ(d:List Int)(hd:zu d)(n:Nat)(hn:d.length=n+2)(ln:n≤999999990)(Cw:2147483648≤lm d (n+1))(y:Int)(i:Nat)(li:i≤1000000000)(u q:List Int)(hl:zu u)(lu:u.length≤2000000000)(hiu:i+d.length<u.length)
  (hq:zu q) (hiq:i<q.length) (qp:nv (u.drop (i+1))<nv d) :
  ∃ (xs:List Int) (z:Nat),(dK y d ((n+2:Nat):Int) ((i:Int),u,q)).run=some (.inl ((i:Int)-1,xs,q.set i (z:Int)))∧z<4294967296∧zu xs∧xs.length=u.length∧xs.take i=u.take i∧nv (xs.drop i)<nv d ∧
   nv (xs.drop i)+z*nv d=lm u i+4294967296*nv (u.drop (i+1)):=by
 have hwd:=tm (a:=u) (i:=i) (by omega)
 have hW:=z4E (wi hl i) qp
 rw[← hwd]at hW
 obtain⟨x,hg,hx,g1,g2,hWp⟩:=NT d hd n hn Cw (u.drop i) (fJ hl i) (by rw[List.length_drop]; omega) hW
 have hdp:0<nv d:=Nat.lt_of_le_of_lt (Nat.zero_le _) qp
 obtain⟨xs,hr,IV,hxn,hxt,DX⟩:=O1 d hd (by omega) x hx u hl (by omega) i hiu hWp (zf6 g2)
 have z68:=digit hdp g1 g2
 rw[z68]at DX
 rw[fq,fq,fq]at hg
 have hdq:nv (u.drop i) / nv d<4294967296:=Nat.lt_of_le_of_lt g1 hx
 have z3n:nv (xs.drop i)<nv d:=by
  have h1:=Nat.div_add_mod (nv (u.drop i)) (nv d)
  have h2:=Nat.mod_lt (nv (u.drop i)) hdp
  rw[Nat.mul_comm]at h1
  omega
 refine⟨xs,nv (u.drop i) / nv d,?_,hdq,IV,hxn,hxt,z3n,by rw[DX,hwd]⟩
 have hx1:∀ c:Bool,c=decide (nv (u.drop i)<x*nv d)→(if c=true then zw ((x:Int)-1)else(x:Int))=((nv (u.drop i) / nv d:Nat):Int):=by
  intro c hc
  rw[← z68]
  by_cases cc:nv (u.drop i)<x*nv d
  ·have U6:x≠0:=by intro h; subst h; omega
   rw[hc,decide_eq_true cc,if_pos rfl,if_pos cc,qx (by omega) (by omega)]; omega
  ·rw[hc,decide_eq_false cc,if_neg (by simp),if_neg cc]
 generalize nv (u.drop i) / nv d=z at *
 clear g1 g2 DX z68 hW hWp qp z3n hwd
 have ei:zt ((i:Int)-1)=(i:Int)-1:=zN (by omega) (by omega)
 have a0:zt ((i:Int)+((n+2:Nat):Int))=((i+(n+1+1):Nat):Int):=by rw[zN (by omega) (by omega)]; omega
 have a1:zt (((i+(n+1+1):Nat):Int)-1)=((i+(n+1):Nat):Int):=by rw[zN (by omega) (by omega)]; omega
 have a2:zt (((i+(n+1+1):Nat):Int)-2)=((i+n:Nat):Int):=by rw[zN (by omega) (by omega)]; omega
 have a3:zt (((n+2:Nat):Int)-1)=((n+1:Nat):Int):=by rw[zN (by omega) (by omega)]; omega
 have a4:zt (((n+2:Nat):Int)-2)=((n:Nat):Int):=by rw[zN (by omega) (by omega)]; omega
 have a5:zt (((i+(n+1+1):Nat):Int)+1)=((i+(n+1+1)+1:Nat):Int):=i1 _ (by omega)
 have zgh:i+(n+1+1)+1-i=d.length+1:=by omega
 unfold dK
 simp only[ei,a0,a1,a2,a3,a4,a5]
 rw[za (by simp)]
 rw[qF _ (by omega) (by omega),jD _ rfl (by omega),qF _ (by omega) (by omega),jD _ rfl (by omega),qF _ (by omega) (by omega),jD _ rfl (by omega),qF _ (by omega) (by omega),qF _ (by omega) (by omega)]
 simp only[Int.toNat_natCast,Nat.zero_add,xE,jE hl,wB hd,zgh]
 rw[z6 hg]
 have hc:=hx1 _ rfl
 rw[z6 (a:=((z:Int),xs,q)) ?_]
 ·simp only[Z5 hdq]
  rw[qF _ (by omega) (by omega),jD _ rfl (by omega),ze _ (by simp) rfl (by simp),ze _ rfl rfl rfl,zM,zx _ (by simp),z7]
 ·rw[nC _ (by omega) (by omega) (by omega),zM,zM,z6 hr]
  simp only[yk]
  by_cases cc:nv (u.drop i)<x*nv d
  ·rw[if_pos (decide_eq_true cc)]at hc ⊢
   rw[ze _ rfl rfl rfl,ze _ (by omega) rfl (by omega),zM,zM,z7,hc]
  ·rw[if_neg (by simpa using cc)]at hc ⊢
   rw[ze _ rfl rfl rfl,ze _ (by omega) rfl (by omega),zM,zM,z7,hc]
theorem Nh(d:List Int)(hd:zu d)(m n:Nat)(hn:d.length=n+2)(hm:n+2≤m)(lm':m≤999999990)(Cw:2147483648≤lm d (n+1))(u0:List Int)(hu0:zu u0)(hlu:u0.length=m+1)
  (xN:nv (u0.drop (m-(n+2)+1))<nv d) (y:Int) :
  ∃ r:List Int×List Int,(WZ y d ((n+2:Nat):Int) (((m-(n+2):Nat):Int),u0,List.replicate (m-(n+2)+1) 0)).run=some r∧zu r.1∧r.1.length=m+1∧zu r.2∧r.2.length=m-(n+2)+1∧nv r.1<nv d∧nv u0=nv r.2*nv d+nv r.1:=by
 refine T.xg (fun s:Int×List Int×List Int=>∃ k:Nat,s.1=(k:Int)-1∧k≤m-(n+2)+1∧zu s.2.1∧s.2.1.length=m+1∧zu s.2.2∧s.2.2.length=m-(n+2)+1∧s.2.1.take k=u0.take k ∧
   nv (s.2.1.drop k)<nv d∧nv (u0.drop k)=nv (s.2.2.drop k)*nv d+nv (s.2.1.drop k))
  (fun s=>(s.1+1).toNat) _ ?_ ⟨m-(n+2)+1,by simp,Nat.le_refl _,hu0,hlu,xr _,by simp,rfl,xN,by simp⟩
 rintro⟨_,u,q⟩ ⟨k,rfl,hk,hl,hul,hq,hql,htk,qp,hv⟩
 simp only at hl hul hq hql htk qp hv ⊢
 cases k with
 | zero =>
  right
  refine⟨(u,q),?_,hl,hul,hq,hql,by simpa using qp,by simpa using hv⟩
  unfold dK
  simp
 | succ i =>
  left
  obtain⟨xs,z,hr,hz,IV,hxn,hxt,hxm,DX⟩:=FZ d hd n hn (by omega) Cw y i (by omega) u q hl (by omega) (by omega) hq (by omega) qp
  have e1:((i+1:Nat):Int)-1=(i:Int):=by omega
  refine⟨((i:Int)-1,xs,q.set i (z:Int)),by rw[e1]; exact hr,⟨i,rfl,by omega,IV,hxn.trans hul,w8 hq _ hz,by simpa using hql,?_,hxm,?_⟩,by simp⟩
  ·simp only
   rw[hxt]
   have:=congrArg (List.take i) htk
   rwa [List.take_take,List.take_take,show min i (i+1)=i by omega]at this
  ·simp only
   rw[set_drop _ (by omega),Int.toNat_natCast,tm (a:=u0) (by omega),← DL htk (show i<i+1 by omega)]
   exact Of DX hv
theorem S3{A B S Q R:Nat}(hS:0<S)(h:A*S=Q*(B*S)+R)(hR:R<B*S):Q=A / B∧R / S=A % B:=by
 have hB:0<B:=Nat.pos_of_ne_zero fun z=>by subst z; simp at hR
 have h1:=Nat.div_add_mod R S
 have h2:=Nat.mod_lt R hS
 -- R is a multiple of S
 have h3:A*S=S*(Q*B+R / S)+R % S:=by
  have e:Q*(B*S)=S*(Q*B):=by grind
  rw[h,e,Nat.mul_add]; omega
 have h4:R % S=0:=by
  have:=congrArg (· % S) h3
  simp only[Nat.mul_mod_left]at this
  rw[Nat.add_comm,Nat.add_mul_mod_self_left,Nat.mod_mod]at this
  exact this.symm
 rw[h4,Nat.add_zero,Nat.mul_comm A]at h3
 have h5:=Nat.eq_of_mul_eq_mul_left hS h3
 have h6:R / S<B:=(Nat.div_lt_iff_lt_mul hS).2 hR
 constructor
 ·rw[h5,Nat.mul_comm,Nat.mul_add_div hB,Nat.div_eq_of_lt h6,Nat.add_zero]
 ·rw[h5,Nat.mul_comm,Nat.mul_add_mod,Nat.mod_eq_of_lt h6]
theorem SJ{A S P D V X:Nat}(hA:A<D*P)(hS:S≤2147483648)(hV:2147483648*P≤V)(hX:X*D≤A*S)(hD:0<D)(hS0:0<S):X<V:=by
 have h1:A*S<D*V:=by
  have a1:A*S<D*P*S:=Nat.mul_lt_mul_of_pos_right hA hS0
  have a2:D*P*S≤D*V:=by
   have:P*S≤V:=by
    have:=Nat.mul_le_mul_left P hS
    rw[Nat.mul_comm P 2147483648]at this
    exact Nat.le_trans this hV
   rw[Nat.mul_assoc]
   exact Nat.mul_le_mul_left D this
  omega
 have h2:X*D<V*D:=by rw[Nat.mul_comm V]; exact Nat.lt_of_le_of_lt hX h1
 exact Nat.lt_of_mul_lt_mul_right h2
theorem GW(a b:List Int)(ha:zu a)(hb:zu b)(la:a.length≤100000000)(n:Nat)(hbn:b.length=n+2)(hba:b.length≤a.length)(Cw:lm b (n+1)≠0) :
  (QN a b).run=some (zH (nv a / nv b),zH (nv a % nv b)):=by
 have ht:=wi hb (n+1)
 obtain⟨s,hs,Ov,hs2,hs3⟩:=SG (x:=lm b (n+1)) (by omega) ht
 have z9a:2 ^ s≤2147483648:=by
  have:2 ^ s≤2 ^ 31:=Nat.pow_le_pow_right (by omega) (by omega)
  exact this
 have tq:0<2 ^ s:=Nat.pow_pos (by omega)
 have hBt:=z9V b n hbn
 -- the divisor
 have z3V:nv b*2 ^ s<4294967296 ^ b.length:=by
  have h1:=q9 b (n+1)
  rw[qN (by omega)]at h1
  have h2:=ur hb (n+1)
  have h3:nv b<4294967296 ^ (n+1)*(lm b (n+1)+1):=by rw[h1,Nat.mul_add]; omega
  rw[hbn]
  have h4:(lm b (n+1)+1)*2 ^ s≤4294967296:=by
   have hm:4294967296=2 ^ (32-s)*2 ^ s:=kL s (by omega)
   have h5:lm b (n+1)<2 ^ (32-s):=by
    rw[hm]at hs3
    exact Nat.lt_of_mul_lt_mul_right hs3
   have:=Nat.mul_le_mul_right (2 ^ s) (show lm b (n+1)+1≤2 ^ (32-s)from h5)
   rw[← hm]at this; exact this
  have h5:nv b*2 ^ s<4294967296 ^ (n+1)*(lm b (n+1)+1)*2 ^ s:=Nat.mul_lt_mul_of_pos_right h3 tq
  have h6:4294967296 ^ (n+1)*(lm b (n+1)+1)*2 ^ s≤4294967296 ^ (n+2):=by
   rw[Nat.mul_assoc,Nat.pow_succ 4294967296 (n+1)]
   exact Nat.mul_le_mul_left _ h4
  exact Nat.lt_of_lt_of_le h5 h6
 obtain⟨d,hd,MV,hdn,hdv⟩:=rW b hb (by omega) s b.length Ov (Nat.le_refl _) (by omega) z3V
 have zaf:nv a*2 ^ s<4294967296 ^ (a.length+1):=by
  have h1:=ya ha
  rw[Nat.pow_succ]
  exact Nat.mul_lt_mul_of_lt_of_le h1 (Nat.le_trans z9a (by omega)) (by omega)
 obtain⟨u,hu,hul,hun,huv⟩:=rW a ha (by omega) s (a.length+1) Ov (by omega) (by omega) zaf
 -- pK highest limb
 have z4k:2147483648≤lm d (n+1):=by
  have h1:=q9 d (n+1)
  rw[qN (by omega),hdv]at h1
  have h2:=ur MV (n+1)
  have h3:=q9 b (n+1)
  rw[qN (by omega)]at h3
  have h4:4294967296 ^ (n+1)*(lm b (n+1)*2 ^ s)≤nv b*2 ^ s:=by
   rw[← Nat.mul_assoc]
   exact Nat.mul_le_mul_right _ (by omega)
  have h5:4294967296 ^ (n+1)*2147483648≤nv b*2 ^ s:=Nat.le_trans (Nat.mul_le_mul_left _ hs2) h4
  have h6:4294967296 ^ (n+1)*2147483648<4294967296 ^ (n+1)*(lm d (n+1)+1):=by
   rw[Nat.mul_add]; omega
  have:=Nat.lt_of_mul_lt_mul_left h6
  omega
 have xN:nv (u.drop (a.length-(n+2)+1))<nv d:=by
  have h1:=jX u (a.length-(n+2)+1) (by omega)
  have h2:nv (u.drop (a.length-(n+2)+1))*4294967296 ^ (a.length-(n+2)+1)≤nv a*2 ^ s:=by
   rw[← huv,h1,Nat.mul_comm]; omega
  have h3:2147483648*4294967296 ^ (n+1)≤nv d:=by
   have h4:=q9 d (n+1)
   rw[qN (by omega)]at h4
   have h5:=Nat.mul_le_mul_left (4294967296 ^ (n+1)) z4k
   rw[Nat.mul_comm 2147483648]; omega
  have h4:nv a<4294967296 ^ (a.length-(n+2)+1)*4294967296 ^ (n+1):=by
   rw[← Nat.pow_add,show a.length-(n+2)+1+(n+1)=a.length by omega]
   exact ya ha
  exact SJ h4 z9a h3 h2 (XD _) tq
 obtain⟨⟨xu,xq⟩,hr,hxu,hxun,hxq,hxqn,hxlt,DX⟩:=Nh d MV a.length n (by omega) (by omega) (by omega) z4k u hul (by omega) xN (s:Int)
 simp only at hxu hxun hxq hxqn hxlt DX
 rw[huv,hdv]at DX
 rw[hdv]at hxlt
 obtain⟨f1,f2⟩:=S3 tq DX hxlt
 -- the text
 have e1:zt ((b.length:Int)-1)=((n+1:Nat):Int):=by rw[zN (by omega) (by omega)]; omega
 have es:zw (s:Int)=s:=gx (by omega)
 have e2:zt ((a.length:Int)+1)=((a.length+1:Nat):Int):=i1 _ (by omega)
 have e3:zt (zt ((a.length:Int)-((n+2:Nat):Int))+1)=((a.length-(n+2)+1:Nat):Int):=by rw[zN (x:=(a.length:Int)-((n+2:Nat):Int)) (by omega) (by omega),zN (by omega) (by omega)]; omega
 have e4:zt (((a.length-(n+2)+1:Nat):Int)-1)=((a.length-(n+2):Nat):Int):=im1 _ (by omega)
 have e5:zt (s:Int)=s:=zN (by omega) (by omega)
 have e6:zt (0-(s:Int)) = -(s:Int):=by rw[zN (by omega) (by omega)]; omega
 unfold QN
 simp only[e1,e2,xE,wB hb]
 rw[qF _ (by omega) (by omega),z6 hs]
 simp only[es]
 rw[z6 hu,z6 hd]
 simp only[e3,e4,e5,e6,Int.toNat_natCast,List.length_replicate,Nat.zero_add,List.drop_zero,List.take_length,hdn,hbn]
 rw[T.run_mk _ (by omega) (by omega) (by omega) (by omega),zM,ze _ rfl rfl rfl,ze _ rfl rfl rfl,zM,zM]
 have zgi:d.take (n+2)=d:=List.take_of_length_le (by omega)
 simp only[zgi]
 rw[z6 hr]
 simp only[List.take_length]
 rw[zM,zM,z6 (xY xq hxq (by omega)),nC _ (by omega) (by omega) (by omega)]
 have ec:uq (e:=.int .u32) 0 ((n+2:Nat):Int) xu=xu.take (n+2):=by unfold uq; simp only[Int.toNat_natCast,Int.toNat_zero,List.drop_zero]
 have hxt:nv (xu.take (n+2))=nv xu:=by
  have h1:=jX xu (n+2) (by omega)
  have h2:=pQ hxu (n+2) (by omega) (Nat.lt_trans hxlt (by rw[← hbn]; exact z3V))
  rw[h2]at h1; omega
 rw[ec]
 have hsh:(bZ (xu.take (n+2)) (-(s:Int))).run=some (zH (nv xu / 2 ^ s)):=by
  rcases Nat.eq_zero_or_pos s with z | z
  ·subst z
   have:=Y4 (xu.take (n+2)) (oK hxu _) (by simp; omega) 0 (by omega)
   rw[hxt]at this
   simpa using this
  ·have:=Y1 (xu.take (n+2)) (oK hxu _) (by simp; omega) s (by omega) z
   rw[hxt]at this
   exact this
 rw[z6 hsh,z7,f2,f1]
theorem z0w{A:Nat}(k:Nat)(h:(zH A).length=k+1):lm (zH A) k≠0:=by
 intro hz
 have h1:=q9 (zH A) k
 rw[qN (by omega),hz,Nat.mul_zero,Nat.add_zero,zO]at h1
 have h2:=ur (zp A) k
 have:=qc.2 (show A<4294967296 ^ k by omega)
 omega
theorem bD(a b:List Int)(ha:zu a)(hb:zu b)(la:a.length≤100000000)(lb:b.length≤100000000) :
  (gm a b).run=some (if nv b=0 then([],[],false)else(zH (nv a / nv b),zH (nv a % nv b),true)):=by
 have qa:=zT ha
 have qb:=zT hb
 unfold gm
 rw[z6 (xY a ha (by omega)),z6 (xY b hb (by omega))]
 generalize nv a=A at *
 generalize nv b=B at *
 by_cases hB:B=0
 ·subst hB
  rw[qA]; simp
 ·have uj:(zH B).length≠0:=by
   intro h
   exact hB (xI.1 (List.eq_nil_of_length_eq_zero h))
  rw[if_neg hB,z8 (by simpa using uj),z6 (lA _ _ (zp A) (zp B) (by omega) (by omega)),zO,zO]
  by_cases qp:A<B
  ·rw[za (by unfold iC; rw[if_pos qp]; rfl),z6 (mC _ (zp A) (by omega)),z7,zO,Nat.div_eq_of_lt qp,Nat.mod_eq_of_lt qp,qA]
  ·rw[z8 (by unfold iC; rw[if_neg qp]; split<;>simp)]
   by_cases h1:(zH B).length=1
   ·-- by one limb
    have Bc:zH B=[(B:Int)]:=by
     rw[y6 hB]at h1 ⊢
     have:B / 4294967296=0:=by
      have:(zH (B / 4294967296)).length=0:=by simpa using h1
      exact xI.1 (List.eq_nil_of_length_eq_zero this)
     rw[this,qA]
     congr 1; omega
    have hBl:B<4294967296:=by
     have:=qc.1 (Nat.le_of_eq h1)
     simpa using this
    have e0:nth (zH B) 0 0=(B:Int):=by rw[Bc]; rfl
    have hm:=Nat.mod_lt A (Nat.pos_of_ne_zero hB)
    have hs:=tV (zH A) (zp A) (by omega) B (by omega) hBl
    rw[zO]at hs
    rw[za (by rw[h1]; rfl),qF _ (by omega) (by omega)]
    simp only[xE,e0]
    rw[z6 hs]
    simp only[gx (show A % B<18446744073709551616 by omega)]
    rw[z6 (jR _ (by omega)),z7]
   ·obtain⟨n,hn⟩:∃ n,(zH B).length=n+2:=⟨(zH B).length-2,by omega⟩
    have hle:(zH B).length≤(zH A).length:=by
     rcases Nat.lt_or_ge (zH A).length (zH B).length with h | h
     ·exact absurd (mQ h) qp
     ·exact h
    have hl:=GW (zH A) (zH B) (zp A) (zp B) (by omega) n hn hle (z0w (n+1) (by omega))
    rw[zO,zO]at hl
    rw[z8 (by simp; omega),z6 hl,z7]
theorem V3(a b:List Int)(ha:zu a)(hb:zu b)(la:a.length≤100000000)(lb:b.length≤100000000):(XM a b).run=some (zH (Nat.gcd (nv a) (nv b))):=by
 have qa:=zT ha
 have qb:=zT hb
 unfold XM
 rw[z6 (mC a ha (by omega)),z6 (mC b hb (by omega))]
 generalize nv a=A at *
 generalize nv b=B at *
 have key:(UH (zH A,zH B)).run=some (zH (Nat.gcd A B)):=by
  have:=ud (r:=fZ) (fun s:List Int×List Int=>∃ A B:Nat,s=(zH A,zH B)∧(zH A).length≤100000000∧(zH B).length≤100000000)
   (fun s=>nv s.2) (fun s=>zH (Nat.gcd (nv s.1) (nv s.2))) ?_ (s:=(zH A,zH B)) ⟨A,B,rfl,by omega,by omega⟩
  ·rw[zO,zO]at this; exact this
  ·rintro _ ⟨A,B,rfl,hA,hB'⟩
   simp only[zO]
   by_cases hB:B=0
   ·right
    subst hB
    unfold fZ
    rw[qA]; simp
   ·left
    have hd:=bD (zH A) (zH B) (zp A) (zp B) hA hB'
    rw[zO,zO,if_neg hB]at hd
    have hm:=Nat.mod_lt A (Nat.pos_of_ne_zero hB)
    have uj:(zH B).length≠0:=fun h=>hB (xI.1 (List.eq_nil_of_length_eq_zero h))
    refine⟨(zH B,zH (A % B)),?_,⟨B,A % B,rfl,hB',?_⟩,by simpa using hm,?_⟩
    ·unfold fZ
     rw[za (by simp; omega),z6 hd,z7]
    ·have:(zH (A % B)).length≤(zH B).length:=qc.2 (Nat.lt_trans hm (qc.1 (Nat.le_refl _)))
     omega
    ·simp only[zO]
     rw[Nat.gcd_comm,← Nat.gcd_rec,Nat.gcd_comm]
 rw[z6 key,z7]
theorem z3J{a:List Int}(ha:zu a)(j:Nat):lm a j=nv a / 4294967296 ^ j % 4294967296:=by
 by_cases h:j<a.length
 ·have h1:=jX a j (by omega)
  have h2:=ur ha j
  have h3:=tm (a:=a) h
  have h4:=wi ha j
  have h5:nv a / 4294967296 ^ j=nv (a.drop j):=by
   refine(congrArg (· / 4294967296 ^ j) h1).trans ?_
   rw[Nat.add_mul_div_left _ _ (XD _),Nat.div_eq_of_lt h2,Nat.zero_add]
  rw[h5,h3]; omega
 ·rw[BR (by omega)]
  have h1:=ya ha
  have h2:4294967296 ^ a.length≤4294967296 ^ j:=Nat.pow_le_pow_right (by omega) (by omega)
  rw[Nat.div_eq_of_lt (by omega)]
theorem z6p{a:List Int}(ha:zu a)(i:Nat):lm a (i / 32) / 2 ^ (i % 32) % 2=nv a / 2 ^ i % 2:=by
 rw[z3J ha,← YE i]
 generalize hs:i % 32=s
 have hs2:s<32:=by omega
 rw[← Nat.div_div_eq_div_mul]
 generalize nv a / 4294967296 ^ (i / 32)=z
 have e:4294967296=2 ^ s*2 ^ (32-s):=by rw[Nat.mul_comm]; exact kL s (by omega)
 rw[e,Nat.mod_mul_right_div_self]
 have e2:2 ∣ 2 ^ (32-s):=⟨2 ^ (31-s),by rw[← Nat.pow_succ']; congr 1; omega⟩
 exact Nat.mod_mod_of_dvd _ e2
theorem z1u{D B t:Nat}(hB:0<B)(ht:t≤1) :
  (D*2+t) / B=D / B*2+(if B≤D % B*2+t then 1 else 0)∧(D*2+t) % B=(D % B*2+t)-(if B≤D % B*2+t then B else 0):=by
 have h1:=Nat.div_add_mod D B
 have h2:=Nat.mod_lt D hB
 generalize D / B=q at *
 generalize D % B=r at *
 subst h1
 have e:(B*q+r)*2+t=B*(q*2)+(r*2+t):=by grind
 rw[e,Nat.mul_add_div hB,Nat.mul_add_mod]
 split
 ·rename_i c
  have e2:r*2+t=B+(r*2+t-B):=by omega
  rw[e2,Nat.add_div_left _ hB,Nat.add_mod_left,Nat.div_eq_of_lt (by omega),Nat.mod_eq_of_lt (by omega)]
  omega
 ·rename_i c
  rw[Nat.div_eq_of_lt (by omega),Nat.mod_eq_of_lt (by omega)]; omega
theorem MH(A i:Nat):A / 2 ^ i=A / 2 ^ (i+1)*2+A / 2 ^ i % 2:=by
 rw[Nat.pow_succ,← Nat.div_div_eq_div_mul]
 have:=Nat.div_add_mod (A / 2 ^ i) 2
 omega
theorem z4B{x s:Nat}(hs:s<32)(hx:x<4294967296)(hd:2 ^ (s+1) ∣ x):gL .u32 (x:Int) (xU .u32 1 (s:Int))=((x+2 ^ s:Nat):Int)∧x+2 ^ s<4294967296:=by
 have hp:2 ^ s<4294967296:=Nat.pow_lt_pow_right (by omega) (show s<32 by omega)
 have e1:xU .u32 1 (s:Int)=((2 ^ s:Nat):Int):=by
  have e:min (s:Int).toNat 32=s:=by simp; omega
  show qD ((1:Int)*2 ^ (min (s:Int).toNat 32))=_
  rw[e,Int.one_mul]
  have e2:(2:Int) ^ s=((2 ^ s:Nat):Int):=by simp
  rw[e2,Z5 hp]
 obtain⟨m,rfl⟩:=hd
 rw[e1,QJ hx hp]
 have e3:2 ^ (s+1)*m ||| 2 ^ s=2 ^ (s+1)*m+2 ^ s:=by
  rw[Nat.mul_comm]
  exact Jl m (2 ^ s) (s+1) (Nat.pow_lt_pow_right (by omega) (by omega))
 rw[e3]
 refine⟨rfl,?_⟩
 have e4:(4294967296:Nat)=2 ^ (s+1)*2 ^ (31-s):=by rw[← Nat.pow_add,show s+1+(31-s)=32 by omega]
 rw[e4]at hx ⊢
 have h5:m<2 ^ (31-s):=Nat.lt_of_mul_lt_mul_left hx
 have h6:=Nat.mul_le_mul_left (2 ^ (s+1)) (show m+1≤2 ^ (31-s)from h5)
 rw[Nat.mul_add,Nat.mul_one]at h6
 have h7:2 ^ s<2 ^ (s+1):=Nat.pow_lt_pow_right (by omega) (by omega)
 exact Nat.lt_of_lt_of_le (Nat.add_lt_add_left h7 _) h6
theorem z6Z{xs:List Int}(h:zu xs)(i M:Nat)(hv:nv xs=M*2 ^ (i+1)):2 ^ (i % 32+1) ∣ lm xs (i / 32):=by
 rw[z3J h,hv]
 have e1:2 ^ (i+1)=4294967296 ^ (i / 32)*2 ^ (i % 32+1):=by
  rw[Nat.pow_succ,← YE i,Nat.pow_succ,Nat.mul_assoc]
 rw[e1]
 have e2:M*(4294967296 ^ (i / 32)*2 ^ (i % 32+1)) / 4294967296 ^ (i / 32)=M*2 ^ (i % 32+1):=by
  have:M*(4294967296 ^ (i / 32)*2 ^ (i % 32+1))=4294967296 ^ (i / 32)*(M*2 ^ (i % 32+1)):=by grind
  rw[this,Nat.mul_div_cancel_left _ (XD _)]
 rw[e2]
 have e3:(4294967296:Nat)=2 ^ (31-i % 32)*2 ^ (i % 32+1):=by rw[← Nat.pow_add,show 31-i % 32+(i % 32+1)=32 by omega]
 rw[e3,Nat.mul_mod_mul_right]
 exact⟨_,Nat.mul_comm _ _⟩
theorem z2G{X P l t M z:Nat}(h:X+P*l=M*(z*2)+P*(l+t))(h2:P*t=z):X=(M*2+1)*z:=by
 rw[Nat.mul_add,h2]at h
 have e:(M*2+1)*z=M*(z*2)+z:=by grind
 rw[e]; omega
theorem z1O{xs:List Int}(i M:Nat)(hi:i / 32<xs.length)(hv:nv xs=M*2 ^ (i+1)):nv (xs.set (i / 32) ((lm xs (i / 32)+2 ^ (i % 32):Nat):Int))=(M*2+1)*2 ^ i:=by
 have h:=W2 (a:=xs) (i:=i / 32) ((lm xs (i / 32)+2 ^ (i % 32):Nat):Int) hi
 rw[Int.toNat_natCast,hv]at h
 have h2:=YE i
 rw[Nat.pow_succ]at h
 exact z2G h h2
theorem Pw{D B t k:Nat}(hB:0<B)(hk:B<4294967296 ^ k):(zH (D % B)).length≤k∧(zH (D % B*2)).length≤k+1:=by
 have h1:D % B<4294967296 ^ k:=Nat.lt_trans (Nat.mod_lt _ hB) hk
 refine⟨qc.2 h1,qc.2 ?_⟩
 rw[Nat.pow_succ]
 have h2:D % B*2<4294967296 ^ k*2:=Nat.mul_lt_mul_of_pos_right h1 (by omega)
 exact Nat.lt_of_lt_of_le h2 (Nat.mul_le_mul_left _ (by omega))
theorem J7:zu [(1:Int)]:=by
 intro x hx; simp at hx; omega
theorem Fi(a b:List Int)(ha:zu a)(hb:zu b)(la:a.length≤100000000)(lb:b.length≤100000000)(hB:0<nv b)(i:Nat)(hi:i<32*a.length)(xs:List Int)(hl:zu xs)(hn:xs.length=a.length)
  (hv:nv xs=nv a / 2 ^ (i+1) / nv b*2 ^ (i+1)) :
  ∃ ys:List Int,(uL a b (zH (nv a / 2 ^ (i+1) % nv b),(i:Int),xs)).run=some (.inl (zH (nv a / 2 ^ i % nv b),(i:Int)-1,ys))∧zu ys∧ys.length=a.length∧nv ys=nv a / 2 ^ i / nv b*2 ^ i:=by
 have zeA:=z6p ha i
 have z4o:=MH (nv a) i
 have hx:=wi ha (i / 32)
 have IV:=wi hl (i / 32)
 obtain⟨q1,q2⟩:=Pw (D:=nv a / 2 ^ (i+1)) (t:=0) hB (ya hb)
 obtain⟨k1,k2⟩:=z1u (D:=nv a / 2 ^ (i+1)) hB (show nv a / 2 ^ i % 2≤1 by omega)
 rw[← z4o]at k1 k2
 obtain⟨o1,o2⟩:=z4B (s:=i % 32) (by omega) IV (z6Z hl i _ hv)
 have hsb:=z1O (xs:=xs) i _ (by omega) hv
 have hsh:=VQ (zH (nv a / 2 ^ (i+1) % nv b)) (zp _) (by omega)
 rw[zO]at hsh
 have hv0:nv a / 2 ^ (i+1) / nv b*2 ^ (i+1)=nv a / 2 ^ (i+1) / nv b*2*2 ^ i:=by rw[Nat.pow_succ,Nat.mul_comm (2 ^ i) 2,Nat.mul_assoc]
 rw[hv0]at hv
 clear z4o hv0
 generalize nv a / 2 ^ (i+1)=D at *
 generalize nv a / 2 ^ i=D0 at *
 have Jo:=Qh (zH (D % nv b*2)) [1] (zp _) J7 (by omega) (by simp)
 rw[zO,show nv [1]=1 from rfl]at Jo
 have ht1:D0 % 2≤1:=by omega
 generalize D0 % 2=t at *
 have q3:(zH (D % nv b*2+t)).length≤b.length+1:=by
  refine qc.2 ?_
  rw[Nat.pow_succ]
  have h1:=Nat.mod_lt D hB
  have h2:=ya hb
  have h3:D % nv b*2+t<4294967296 ^ b.length*2:=by omega
  exact Nat.lt_of_lt_of_le h3 (Nat.mul_le_mul_left _ (by omega))
 have z6R:=oe (zH (D % nv b*2+t)) b (zp _) hb (by omega) (by omega)
 have EF:=XI (zH (D % nv b*2+t)) b (zp _) hb (by omega) (by omega)
 rw[zO]at z6R EF
 have e1:zt (Int.tdiv (i:Int) 32)=((i / 32:Nat):Int):=by rw[de (by omega),zN (by omega) (by omega)]; omega
 have e2:zw (Int.tmod (i:Int) 32)=((i % 32:Nat):Int):=by rw[cT (by omega),qx (by omega) (by omega)]; omega
 have e3:zt ((i:Int)-1)=(i:Int)-1:=zN (by omega) (by omega)
 have e4:lX .u32 (qV .u32 (lm a (i / 32):Int) ((i % 32:Nat):Int)) 1=(t:Int):=by
  rw[He (by omega)]
  have:=UK (x:=lm a (i / 32) / 2 ^ (i % 32)) (y:=1) (Nat.lt_of_le_of_lt (Nat.div_le_self _ _) hx) (by omega)
  rw[Nat.and_one_is_mod,zeA]at this
  exact this
 have hbl:=w8 (a:=xs) hl (i / 32) o2
 by_cases c:nv b≤D % nv b*2+t
 ·rw[if_pos c]at k1 k2
  rw[if_neg (by omega)]at EF
  refine⟨xs.set (i / 32) ((lm xs (i / 32)+2 ^ (i % 32):Nat):Int),?_,hbl,by simpa using hn,?_⟩
  ·unfold uL
   simp only[e1,e2,e3,xE,wB ha,e4,Int.toNat_natCast,Nat.zero_add,jE hl,o1]
   rw[za (by simp),z6 hsh]
   rw[z6 (a:=(zH (D % nv b*2+t),xs)) ?_]
   rotate_left
   ·rw[vg _ (by omega),qF _ (by omega) (by omega),vg _ (by omega),j3 _ (by omega)]
    have:t=0∨t=1:=by omega
    rcases this with rfl | rfl
    ·rw[z8 (by decide),ze _ rfl rfl rfl,zM,z7]; rfl
    ·rw[za (by decide),z6 Jo,ze _ rfl rfl rfl,zM,z7]
   simp only
   rw[z6 z6R,za (by unfold iC; rw[if_neg (by omega)]; split<;>simp),z6 EF]
   simp only
   rw[vg _ (by omega),vg _ (by omega),qF _ (by omega) (by omega),jD _ rfl (by omega),vg _ (by omega),j3 _ (by omega),qF _ (by omega) (by omega),jD _ rfl (by omega),
    ze _ (by simp) rfl (by simp),zx _ (by simp),z7,k2,jE hl,o1]
  ·rw[hsb,k1]
 ·rw[if_neg c]at k1 k2
  refine⟨xs,?_,hl,hn,?_⟩
  ·unfold uL
   simp only[e1,e2,e3,xE,wB ha,e4,Int.toNat_natCast,Nat.zero_add,jE hl,o1]
   rw[za (by simp),z6 hsh]
   rw[z6 (a:=(zH (D % nv b*2+t),xs)) ?_]
   rotate_left
   ·rw[vg _ (by omega),qF _ (by omega) (by omega),vg _ (by omega),j3 _ (by omega)]
    have:t=0∨t=1:=by omega
    rcases this with rfl | rfl
    ·rw[z8 (by decide),ze _ rfl rfl rfl,zM,z7]; rfl
    ·rw[za (by decide),z6 Jo,ze _ rfl rfl rfl,zM,z7]
   simp only
   rw[z6 z6R,z8 (by unfold iC; rw[if_pos (by omega)]; rfl),ze _ rfl rfl rfl,zM,z7,k2,Nat.sub_zero]
  ·rw[hv,k1,Nat.add_zero]
theorem Nq(a b:List Int)(ha:zu a)(hb:zu b)(la:a.length≤100000000)(lb:b.length≤100000000)(hB:0<nv b) :
  ∃ xs:List Int,(ir a b ([],((32*a.length:Nat):Int)-1,List.replicate a.length 0)).run=some (zH (nv a % nv b),xs)∧zu xs∧xs.length=a.length∧nv xs=nv a / nv b:=by
 have h0:nv a / 2 ^ (32*a.length)=0:=by
  refine Nat.div_eq_of_lt ?_
  have h1:=ya ha
  have e:(4294967296:Nat)=2 ^ 32:=by decide
  rw[e,← Nat.pow_mul]at h1; exact h1
 obtain⟨⟨r,xs⟩,g1,g2,g3,g4,g5⟩:∃ r:List Int×List Int,(ir a b ([],((32*a.length:Nat):Int)-1,List.replicate a.length 0)).run=some r∧r.1=zH (nv a % nv b)∧zu r.2∧r.2.length=a.length∧nv r.2=nv a / nv b:=by
  refine T.xg (fun s:List Int×Int×List Int=>∃ k:Nat,s.2.1=(k:Int)-1∧k≤32*a.length∧s.1=zH (nv a / 2 ^ k % nv b)∧zu s.2.2∧s.2.2.length=a.length∧nv s.2.2=nv a / 2 ^ k / nv b*2 ^ k)
   (fun s=>(s.2.1+1).toNat) _ ?_ ⟨32*a.length,rfl,Nat.le_refl _,by rw[h0,Nat.zero_mod,qA],xr _,by simp,by rw[h0]; simp⟩
  rintro⟨_,_,xs⟩ ⟨k,rfl,hk,rfl,hl,hn,hv⟩
  simp only at hl hn hv ⊢
  cases k with
  | zero =>
   right
   refine⟨(_,xs),?_,rfl,hl,hn,by simpa using hv⟩
   unfold uL
   simp
  | succ i =>
   left
   obtain⟨ys,f1,f2,f3,f4⟩:=Fi a b ha hb la lb hB i (by omega) xs hl hn hv
   have e1:((i+1:Nat):Int)-1=(i:Int):=by omega
   exact⟨(zH (nv a / 2 ^ i % nv b),(i:Int)-1,ys),by rw[e1]; exact f1,⟨i,rfl,by omega,rfl,f2,f3,f4⟩,by simp⟩
 simp only at g2 g3 g4 g5
 subst g2
 exact⟨xs,g1,g3,g4,g5⟩
theorem yV(a b:List Int)(ha:zu a)(hb:zu b)(la:a.length≤100000000)(lb:b.length≤100000000) :
  (kE a b).run=some (if nv b=0 then([],[],false)else(zH (nv a / nv b),zH (nv a % nv b),true)):=by
 unfold kE
 rw[z6 (xV b hb (by omega))]
 by_cases hB:nv b=0
 ·rw[if_pos hB,hB,qA]; simp
 ·have hBp:0<nv b:=Nat.pos_of_ne_zero hB
  have uj:(zH (nv b)).length≠0:=fun h=>hB (xI.1 (List.eq_nil_of_length_eq_zero h))
  obtain⟨xs,g1,g2,g3,g4⟩:=Nq a b ha hb la lb hBp
  have e5:zt (zt (32*(a.length:Int))-1)=((32*a.length:Nat):Int)-1:=by rw[zN (x:=32*(a.length:Int)) (by omega) (by omega),zN (by omega) (by omega)]; omega
  have NR:(zH (nv a % nv b)).length≤100000000:=Nat.le_trans (qc.2 (Nat.lt_trans (Nat.mod_lt _ hBp) (ya hb))) lb
  have t1:=xV xs g2 (by omega)
  have t2:=xV (zH (nv a % nv b)) (zp _) (by omega)
  rw[g4]at t1
  rw[zO]at t2
  rw[if_neg hB,z8 (by simpa using uj),z6 (WV a ha (by omega)),z6 (WV b hb (by omega))]
  by_cases c2:nv b<18446744073709551616
  ·by_cases c1:nv a<18446744073709551616
   ·-- both are words
    have hq:nv a / nv b<18446744073709551616:=Nat.lt_of_le_of_lt (Nat.div_le_self _ _) c1
    have hm:nv a % nv b<18446744073709551616:=Nat.lt_of_le_of_lt (Nat.mod_le _ _) c1
    have e3:Int.tdiv ((nv a:Nat):Int) ((nv b:Nat):Int)=((nv a / nv b:Nat):Int):=by rw[de (by omega)]; exact(Int.natCast_ediv _ _).symm
    have e4:Int.tmod ((nv a:Nat):Int) ((nv b:Nat):Int)=((nv a % nv b:Nat):Int):=by rw[cT (by omega)]; exact(Int.natCast_emod _ _).symm
    simp only[if_pos c1,if_pos c2,Bool.and_self,zA,e3,e4]
    rw[vg _ (by omega),gx hq,z6 (lq _ hq),vg _ (by omega),z6 (lq _ hm),z7]
   ·rw[if_neg c1,if_pos c2]
    rw[z8 (by rfl)]
    by_cases c3:nv b<4294967296
    ·have hm:=Nat.mod_lt (nv a) hBp
     rw[za (show(true&&decide ((nv b:Int)<4294967296))=true by rw[Bool.true_and]; exact decide_eq_true (by omega)),z6 (pS a ha (by omega) (nv b) hBp c3)]
     simp only
     have hm3:nv a % nv b<18446744073709551616:=Nat.lt_trans hm c2
     rw[z6 (lq _ hm3),z7]
    ·rw[z8 (show(true&&decide ((nv b:Int)<4294967296))=false by rw[Bool.true_and]; exact decide_eq_false (by omega)),e5]
     simp only[Int.toNat_natCast,List.length_replicate]
     rw[T.run_mk _ (by omega) (by omega) (by omega) (by omega),ze _ rfl rfl rfl,zM,z6 g1]
     simp only[Nat.zero_add,List.drop_zero,List.take_length]
     rw[zM,z6 t1,z6 t2,z7]
  ·rw[if_neg c2]
   simp only[Bool.and_false,Bool.false_and,zr]
   rw[e5]
   simp only[Int.toNat_natCast,List.length_replicate]
   rw[T.run_mk _ (by omega) (by omega) (by omega) (by omega),ze _ rfl rfl rfl,zM,z6 g1]
   simp only[Nat.zero_add,List.drop_zero,List.take_length]
   rw[zM,z6 t1,z6 t2,z7]
end Go.AM.Lf
namespace Go.AM.PL
def NZ(n:Nat):UInt8:=UInt8.ofNat (48+n % 10)
def E7(n:Nat):zf:=if h:n=0 then[]else E7 (n / 10)++[NZ n]
termination_by n
decreasing_by omega
def pr(n:Nat):zf:=if n=0 then[48]else E7 n
theorem rH:E7 0=[]:=by rw[E7]; rfl
theorem tf{n:Nat}(h:n≠0):E7 n=E7 (n / 10)++[NZ n]:=by rw[E7,dif_neg h]
def rd(n:Nat):List Int:=if h:n=0 then[]else((48+n % 10:Nat):Int)::rd (n / 10)
termination_by n
decreasing_by omega
theorem tH:rd 0=[]:=by rw[rd]; rfl
theorem K4{n:Nat}(h:n≠0):rd n=((48+n % 10:Nat):Int)::rd (n / 10):=by rw[rd,dif_neg h]
def oB:Nat→Nat→List Int
 | 0,_=>[]
 | k+1,n=>((48+n % 10:Nat):Int)::oB k (n / 10)
theorem QI(k n:Nat):(oB k n).length=k:=by
 induction k generalizing n with
 | zero=>rfl
 | succ k ih=>simp[oB,ih]
theorem SW(k n:Nat):oB k (n % 10 ^ k)=oB k n:=by
 induction k generalizing n with
 | zero=>rfl
 | succ k ih =>
  simp only[oB]
  have e1:n % 10 ^ (k+1) % 10=n % 10:=Nat.mod_mod_of_dvd _ ⟨10 ^ k,by rw[Nat.pow_succ,Nat.mul_comm]⟩
  have e2:n % 10 ^ (k+1) / 10=n / 10 % 10 ^ k:=by rw[Nat.pow_succ,Nat.mul_comm,Nat.mod_mul_right_div_self]
  rw[e1,e2,ih]
theorem Tw(k n:Nat)(h:n / 10 ^ k≠0):rd n=oB k n++rd (n / 10 ^ k):=by
 induction k generalizing n with
 | zero=>simp[oB]
 | succ k ih =>
  have hn:n≠0:=by intro z; subst z; simp at h
  have e:n / 10 ^ (k+1)=n / 10 / 10 ^ k:=by rw[Nat.pow_succ,Nat.mul_comm,Nat.div_div_eq_div_mul]
  rw[e]at h ⊢
  rw[K4 hn,ih _ h]; rfl
theorem FG(k n:Nat)(h:n / 10 ^ k=0):∃ z,oB k n=rd n++List.replicate z 48:=by
 induction k generalizing n with
 | zero=>simp at h; subst h; exact⟨0,by rw[tH]; rfl⟩
 | succ k ih =>
  have e:n / 10 ^ (k+1)=n / 10 / 10 ^ k:=by rw[Nat.pow_succ,Nat.mul_comm,Nat.div_div_eq_div_mul]
  rw[e]at h
  obtain⟨z,hz⟩:=ih _ h
  simp only[oB]
  by_cases hn:n=0
  ·subst hn
   refine⟨z+1,?_⟩
   rw[hz]
   simp[tH,List.replicate_succ]
  ·exact⟨z,by rw[hz,K4 hn]; rfl⟩
def blk(n:Nat):List Int:=if h:n=0 then[]else oB 9 (n % 1000000000)++blk (n / 1000000000)
termination_by n
decreasing_by omega
theorem mL:blk 0=[]:=by rw[blk]; rfl
theorem Uw{n:Nat}(h:n≠0):blk n=oB 9 (n % 1000000000)++blk (n / 1000000000):=by rw[blk,dif_neg h]
theorem Et(n:Nat):∃ z,blk n=rd n++List.replicate z 48:=by
 induction n using Nat.strongRecOn with
 | _ n ih =>
  by_cases hn:n=0
  ·subst hn; exact⟨0,by rw[mL,tH]; rfl⟩
  ·rw[Uw hn]
   have e:oB 9 (n % 1000000000)=oB 9 n:=SW 9 n
   rw[e]
   by_cases h:n / 1000000000=0
   ·rw[h,mL,List.append_nil]
    exact FG 9 n h
   ·obtain⟨z,hz⟩:=ih (n / 1000000000) (by omega)
    refine⟨z,?_⟩
    rw[hz,← List.append_assoc]
    congr 1
    exact(Tw 9 n h).symm
theorem ER(n:Nat):E7 n=qO (rd n).reverse:=by
 induction n using Nat.strongRecOn with
 | _ n ih =>
  by_cases hn:n=0
  ·subst hn; rw[rH,tH]; rfl
  ·rw[tf hn,K4 hn,ih _ (by omega)]
   simp only[List.reverse_cons,qO,List.map_append,List.map_cons,List.map_nil]
   congr 1
theorem z3R{n:Nat}(h:n≠0):rd n≠[]:=by rw[K4 h]; simp
theorem z26(n:Nat):∀ x,(rd n).getLast? = some x→x≠48:=by
 induction n using Nat.strongRecOn with
 | _ n ih =>
  intro x hx
  by_cases hn:n=0
  ·subst hn; rw[tH]at hx; cases hx
  ·rw[K4 hn]at hx
   by_cases h2:n / 10=0
   ·rw[h2,tH]at hx
    simp at hx; omega
   ·refine ih (n / 10) (by omega) x ?_
    rw[← hx]
    cases hc:rd (n / 10)with
    | nil=>exact absurd hc (z3R h2)
    | cons y l=>rw[List.getLast?_cons_cons]
end Go.AM.PL
namespace Go.AM.Lf
open PL
@[simp] theorem HB:zb (.int .u8)=(0:Int):=rfl
theorem NM:([48,49,50,51,52,53,54,55,56,57]:zf).length=10:=rfl
theorem z3l(r:Nat):wA ([48,49,50,51,52,53,54,55,56,57]:zf) ((r % 10:Nat):Int)=((48+r % 10:Nat):Int):=by
 have key:∀ d:Fin 10,wA ([48,49,50,51,52,53,54,55,56,57]:zf) ((d.val:Nat):Int)=((48+d.val:Nat):Int):=by decide
 exact key ⟨r % 10,by omega⟩
theorem NS(q:List Int)(rest:Nat)(hr:rest<4294967296)(xs:List Int)(hx:xs.length≤1000000000):(ou q ((rest:Int),0,xs)).run=some (xs++oB 9 rest):=by
 have:=ud (r:=br q) (fun s:Int×Int×List Int=>∃ (r k:Nat),s.1=(r:Int)∧r<4294967296∧s.2.1=(k:Int)∧k≤9∧s.2.2.length≤1000000000+k)
  (fun s=>9-s.2.1.toNat) (fun s=>s.2.2++oB (9-s.2.1.toNat) s.1.toNat) ?_ (s:=((rest:Int),0,xs)) ⟨rest,0,rfl,hr,rfl,by omega,by omega⟩
 ·unfold ou
  simpa using this
 ·rintro⟨_,_,ys⟩ ⟨r,k,rfl,h1,rfl,h2,h3⟩
  simp only at h3 ⊢
  by_cases hk:k<9
  ·left
   have e1:Int.tmod (r:Int) 10=((r % 10:Nat):Int):=by rw[cT (by omega)]; rfl
   have e2:qD (Int.tdiv (r:Int) 10)=((r / 10:Nat):Int):=by rw[de (by omega)]; exact Z5 (n:=r / 10) (by omega)
   refine⟨(((r / 10:Nat):Int),((k+1:Nat):Int),ys++[((48+r % 10:Nat):Int)]),?_,⟨r / 10,k+1,rfl,by omega,rfl,by omega,by simp; omega⟩,by simp; omega,?_⟩
   ·unfold br
    simp only[e1,e2,z3l,i1 k (by omega),NM]
    rw[za (by simp; omega)]
    simp(disch:=omega)
   ·simp only[Int.toNat_natCast]
    rw[show 9-k=(9-(k+1))+1 by omega,oB]
    simp
  ·right
   have:k=9:=by omega
   subst this
   unfold br
   simp[oB]
theorem Us(n j:Nat)(h:n<4294967296 ^ j):(blk n).length≤18*j:=by
 induction j generalizing n with
 | zero =>
  have:n=0:=by simpa using h
  subst this; rw[mL]; simp
 | succ j ih =>
  by_cases hn:n=0
  ·subst hn; rw[mL]; simp
  ·rw[Uw hn]
   by_cases h2:n / 1000000000=0
   ·rw[h2,mL]; simp[QI]; omega
   ·rw[Uw h2]
    have h3:n / 1000000000 / 1000000000<4294967296 ^ j:=by
     rw[Nat.div_div_eq_div_mul,Nat.div_lt_iff_lt_mul (by omega)]
     rw[Nat.pow_succ]at h
     exact Nat.lt_of_lt_of_le h (Nat.mul_le_mul_left _ (by omega))
    have:=ih _ h3
    simp[QI]; omega
theorem Es(n:Nat)(hn:(zH n).length≤1000000):(om (zH n,[])).run=some (blk n):=by
 have hbl:=Us n (zH n).length (qc.1 (Nat.le_refl _))
 have:=ud (r:=bj) (fun s:List Int×List Int=>∃ m:Nat,s.1=zH m∧(zH m).length≤1000000∧s.2.length+(blk m).length≤18000000)
  (fun s=>nv s.1) (fun s=>s.2++blk (nv s.1)) ?_ (s:=(zH n,[])) ⟨n,rfl,hn,by simp; omega⟩
 ·unfold om
  simpa using this
 ·rintro⟨_,xs⟩ ⟨m,rfl,h1,h2⟩
  simp only[zO]at h2 ⊢
  by_cases hm:m=0
  ·right
   subst hm
   unfold bj
   rw[qA,mL]; simp
  ·left
   have uj:(zH m).length≠0:=fun h=>hm (xI.1 (List.eq_nil_of_length_eq_zero h))
   have hs:(fj (zH m) 1000000000).run=some (zH (nv (zH m) / 1000000000),((nv (zH m) % 1000000000:Nat):Int)):=tV (zH m) (zp m) (by omega) 1000000000 (by omega) (by omega)
   rw[zO]at hs
   have hbm:=Uw hm
   have hl:=congrArg List.length hbm
   rw[List.length_append,QI]at hl
   have hg:=NS (zH (m / 1000000000)) (m % 1000000000) (by omega) xs (by omega)
   have hlen:(zH (m / 1000000000)).length≤(zH m).length:=qc.2 (Nat.lt_of_le_of_lt (Nat.div_le_self _ _) (qc.1 (Nat.le_refl _)))
   refine⟨(zH (m / 1000000000),xs++oB 9 (m % 1000000000)),?_,⟨m / 1000000000,rfl,by omega,?_⟩,?_,?_⟩
   ·unfold bj
    rw[za (by simp; omega),z6 hs]
    simp only
    rw[ze _ rfl rfl rfl,zM,z6 hg,ze _ rfl rfl rfl,zM,z7]
   ·simp only[List.length_append,QI]; omega
   ·simp only[zO]; omega
   ·simp only[zO]
    rw[hbm,List.append_assoc]
theorem MI(l:List Int)(z:Nat)(hl:l≠[])(z96:∀ x,l.getLast? = some x→x≠48)(hn:l.length+z≤100000000) :
  (XL ((0,(l++List.replicate z 48).length),l++List.replicate z 48)).run=some ((0,l.length),l++List.replicate z 48):=by
 generalize hX:l++List.replicate z 48=X
 have hXl:X.length=l.length+z:=by rw[← hX]; simp
 have Wa:0<l.length:=List.length_pos_iff.2 hl
 have MZ:∀ p:Nat,xj X p 0=if p<l.length then xj l p 0 else if p<l.length+z then 48 else 0:=by
  intro p
  unfold xj
  rw[← hX,List.getD_eq_getElem?_getD,List.getD_eq_getElem?_getD]
  by_cases h:p<l.length
  ·rw[if_pos h,List.getElem?_append_left h]
  ·rw[if_neg h,List.getElem?_append_right (by omega),List.getElem?_replicate]
   by_cases h2:p<l.length+z
   ·rw[if_pos h2,if_pos (by omega)]; rfl
   ·rw[if_neg h2,if_neg (by omega)]; rfl
 have:=ud (r:=bN) (fun s:(Nat×Nat)×List Int=>∃ k:Nat,s.1=(0,l.length+k)∧k≤z∧s.2=X) (fun s=>s.1.2) (fun _=>((0,l.length),X)) ?_ (s:=((0,X.length),X)) ⟨z,by rw[hXl],Nat.le_refl _,rfl⟩
 ·exact this
 ·rintro⟨w,y⟩ ⟨k,h1,hk,h2⟩
  simp only at h1 h2
  rw[h1,h2]
  have e1:zt (((l.length+k:Nat):Int)-1)=((l.length+k-1:Nat):Int):=by rw[zN (by omega) (by omega)]; omega
  have hg:=MZ (l.length+k-1)
  cases k with
  | zero =>
   right
   have S9:xj l (l.length-1) 0≠48:=by
    refine z96 _ ?_
    rw[List.getLast?_eq_getElem?]
    unfold xj
    rw[List.getD_eq_getElem?_getD,List.getElem?_eq_getElem (by omega)]; rfl
   rw[Nat.add_zero]at hg
   rw[if_pos (by omega)]at hg
   unfold bN
   simp only[Nat.add_zero]at e1 ⊢
   simp only[e1,Int.toNat_natCast,Nat.zero_add,HB,hg]
   rw[zc (fun _=>⟨⟨by omega,by omega⟩,⟨rfl,by omega⟩⟩),z8 (by simp[S9]),zM,zM,z7]
  | succ k =>
   left
   rw[show l.length+(k+1)-1=l.length+k by omega]at e1 hg
   rw[if_neg (by omega),if_pos (by omega)]at hg
   refine⟨((0,l.length+k),X),?_,⟨k,rfl,by omega,rfl⟩,by simp,rfl⟩
   unfold bN
   simp only[e1,Int.toNat_natCast,Nat.zero_add,HB,hg]
   rw[zc (fun _=>⟨⟨by omega,by omega⟩,⟨rfl,by omega⟩⟩),za (by simp; omega),nC _ (by omega) (by omega) (by omega),zM,zM,z7]
   simp
theorem Dn(xs:List Int)(n:Nat)(hn:n≤xs.length)(hx:xs.length≤1000000000):∃ ys:List Int,(wH (0,n) xs).run=some ys∧ys.length=xs.length∧ys.take n=(xs.take n).reverse:=by
 have e0:zt ((n:Int)-1)=(n:Int)-1:=zN (by omega) (by omega)
 have loop:∃ ys:List Int,(jA ((0,n),0,(n:Int)-1,xs)).run=some ys∧ys.length=xs.length∧∀ p,p<n→ys[p]? = xs[n-1-p]? := by
  refine T.xg (fun s:(Nat×Nat)×Int×Int×List Int=>s.1=(0,n)∧∃ i:Nat,s.2.1=(i:Int)∧s.2.2.1=(n:Int)-1-(i:Int)∧i≤n∧s.2.2.2.length=xs.length∧2*i≤n+1∧∀ p,p<n→s.2.2.2[p]? = if p<i∨n<p+i+1 then xs[n-1-p]? else xs[p]?)
   (fun s=>n-s.2.1.toNat) _ ?_ ⟨rfl,0,rfl,by simp,by omega,rfl,by omega,fun p hp=>by rw[if_neg (by omega)]⟩
  rintro⟨_,_,_,zs⟩ ⟨rfl,i,rfl,rfl,hi,hl,h2i,hv⟩
  simp only at hl hv ⊢
  by_cases qp:(i:Int)<(n:Int)-1-(i:Int)
  ·left
   have hj:((n:Int)-1-(i:Int)).toNat=n-1-i:=by omega
   have ej:zt ((n:Int)-1-(i:Int)-1)=(n:Int)-1-((i+1:Nat):Int):=by rw[zN (by omega) (by omega)]; omega
   refine⟨((0,n),((i+1:Nat):Int),(n:Int)-1-((i+1:Nat):Int),(zs.set i (xj zs (n-1-i) 0)).set (n-1-i) (xj zs i 0)),?_,⟨rfl,i+1,rfl,rfl,by omega,by simpa using hl,by omega,?_⟩,by simp; omega⟩
   ·unfold we
    simp only[hj,Int.toNat_natCast,Nat.zero_add,HB,i1 i (by omega),ej]
    rw[za (decide_eq_true qp),qF _ (by omega) (by omega),jD _ rfl (by omega),qF _ (by omega) (by omega),jD _ rfl (by omega),qF _ (by omega) (by omega),jD _ rfl (by omega),qF _ (by omega) (by omega),jD _ (by simp) (by simp; omega),zM,zx _ (by simp),z7]
   ·intro p hp
    have g1:=hv i (by omega)
    have g2:=hv (n-1-i) (by omega)
    rw[if_neg (by omega)]at g1 g2
    simp only[List.getElem?_set,List.length_set]
    by_cases c1:n-1-i=p
    ·rw[if_pos c1,if_pos (by omega),if_pos (by omega)]
     unfold xj
     rw[List.getD_eq_getElem?_getD,g1,← c1,show n-1-(n-1-i)=i by omega,List.getElem?_eq_getElem (by omega)]; rfl
    ·rw[if_neg c1]
     by_cases c2:i=p
     ·rw[if_pos c2,if_pos (by omega),if_pos (by omega)]
      unfold xj
      rw[List.getD_eq_getElem?_getD,g2,← c2,List.getElem?_eq_getElem (by omega)]; rfl
     ·rw[if_neg c2,hv p hp]
      by_cases c3:p<i∨n<p+i+1
      ·rw[if_pos c3,if_pos (by omega)]
      ·rw[if_neg c3,if_neg (by omega)]
  ·right
   refine⟨zs,?_,hl,fun p hp => ?_⟩
   ·unfold we
    rw[z8 (decide_eq_false qp),zx _ rfl,z7]
   ·rw[hv p hp]
    split
    ·rfl
    ·rw[show n-1-p=p by omega]
 obtain⟨ys,hr,hl,hv⟩:=loop
 refine⟨ys,?_,hl,?_⟩
 ·unfold wH
  rw[zx _ rfl,zx _ rfl,e0,z6 hr,zx _ rfl,z7]
 ·apply List.ext_getElem?
  intro p
  by_cases hp:p<n
  ·have iM:(xs.take n).length=n:=by simp; omega
   rw[List.getElem?_take,if_pos hp,hv p hp,List.getElem?_reverse (by omega),iM,List.getElem?_take,if_pos (by omega)]
  ·rw[List.getElem?_eq_none (by simp; omega),List.getElem?_eq_none (by simp; omega)]
theorem lS(a:List Int)(ha:zu a)(la:a.length≤1000000):(fb a).run=some (pr (nv a)):=by
 have qa:=zT ha
 unfold fb
 rw[z6 (mC a ha (by omega))]
 generalize nv a=n at *
 by_cases hn:n=0
 ·subst hn; rw[qA]; simp[pr]
 ·have uj:(zH n).length≠0:=fun h=>hn (xI.1 (List.eq_nil_of_length_eq_zero h))
  rw[z8 (by simpa using uj),ze _ rfl rfl rfl,zx _ rfl,z6 (Es n (by omega))]
  have hbl:=Us n (zH n).length (qc.1 (Nat.le_refl _))
  obtain⟨z,hz⟩:=Et n
  have hzl:=congrArg List.length hz
  rw[List.length_append,List.length_replicate]at hzl
  have xN:=MI (rd n) z (z3R hn) (z26 n) (by omega)
  rw[← hz]at xN
  obtain⟨ys,hr,hl,hv⟩:=Dn (blk n) (rd n).length (by omega) (by omega)
  rw[zx _ rfl,zx _ rfl,z6 xN]
  simp only[zM]
  rw[z6 hr,zx _ hl.symm,z7]
  simp only[Nat.zero_add,List.drop_zero]
  rw[hv,hz,List.take_left,← ER]
  unfold pr
  rw[if_neg hn]
theorem Tk(r:Nat)(h:r<10):qO [Mv (zw (48+(r:Int)))]=[NZ r]:=by
 have e:zw (48+(r:Int))=((48+r:Nat):Int):=by rw[qx (by omega) (by omega)]; omega
 have e2:Mv ((48+r:Nat):Int)=((48+r:Nat):Int):=Ri (by omega) (by omega)
 rw[e,e2]
 simp only[qO,List.map_cons,List.map_nil,byteOf,NZ,Int.toNat_natCast,Nat.mod_eq_of_lt h]
theorem fu(a:List Int)(ha:zu a)(la:a.length≤1000000):(cf a).run=some (pr (nv a)):=by
 have qa:=zT ha
 unfold cf
 rw[z6 (xV a ha (by omega))]
 generalize nv a=n at *
 by_cases hn:n=0
 ·subst hn; rw[qA]; simp[pr]
 ·have uj:(zH n).length≠0:=fun h=>hn (xI.1 (List.eq_nil_of_length_eq_zero h))
  have hd:∀ m:Nat,(zH m).length≤1000000→(E7 m).length≤18000000:=by
   intro m hm
   obtain⟨z,hz⟩:=Et m
   have h1:=Us m (zH m).length (qc.1 (Nat.le_refl _))
   have h2:=congrArg List.length hz
   rw[List.length_append]at h2
   rw[ER]
   simp only[qO,List.length_map,List.length_reverse]
   omega
  have loop:(lU (zH n,[])).run=some (E7 n):=by
   have:=ud (r:=yK) (fun s:List Int×zf=>∃ m:Nat,s.1=zH m∧(zH m).length≤1000000∧s.2.length+(E7 m).length≤18000000) (fun s=>nv s.1) (fun s=>E7 (nv s.1)++s.2) ?_ (s:=(zH n,[])) ⟨n,rfl,by omega,by simpa using hd n (by omega)⟩
   ·unfold lU
    simpa using this
   ·rintro⟨_,s⟩ ⟨m,rfl,h1,h2⟩
    simp only[zO]at h2 ⊢
    by_cases hm:m=0
    ·right
     subst hm
     unfold yK
     rw[qA,rH]; simp
    ·left
     have uj:(zH m).length≠0:=fun h=>hm (xI.1 (List.eq_nil_of_length_eq_zero h))
     have hs:(cy (zH m) 10).run=some (zH (nv (zH m) / 10),((nv (zH m) % 10:Nat):Int)):=pS (zH m) (zp m) (by omega) 10 (by omega) (by omega)
     rw[zO]at hs
     have hdp:=tf hm
     have MV:=congrArg List.length hdp
     simp only[List.length_append,List.length_cons,List.length_nil]at MV
     have hlen:(zH (m / 10)).length≤(zH m).length:=qc.2 (Nat.lt_of_le_of_lt (Nat.div_le_self _ _) (qc.1 (Nat.le_refl _)))
     have eb:=Tk (m % 10) (by omega)
     have ed:NZ (m % 10)=NZ m:=by unfold NZ; rw[Nat.mod_mod]
     rw[ed]at eb
     refine⟨(zH (m / 10),NZ m::s),?_,⟨m / 10,rfl,by omega,?_⟩,?_,?_⟩
     ·unfold yK
      rw[za (by simp; omega),z6 hs]
      simp only[eb]
      rw[zD _ (by simp; omega),z7]; rfl
     ·simp only[List.length_cons]; omega
     ·simp only[zO]; omega
     ·simp only[zO]
      rw[hdp]; simp
  rw[z8 (by simpa using uj),z6 loop,z7]
  unfold pr
  rw[if_neg hn]
def kO(neg:Bool)(n d:Nat):Rat:=if n=0∨d=0 then(false,[],[1],())else(neg,zH (n / Nat.gcd n d),zH (d / Nat.gcd n d),())
def xd(k:Nat)(a:Rat):Prop:=zu a.2.1∧zu a.2.2.1∧a.2.1.length≤k∧a.2.2.1.length≤k
theorem lB:zH 1=[1]:=by rw[y6 (by omega),show 1 / 4294967296=0 from rfl,qA]; rfl
theorem j0{m n:Nat}(h:m≤n):(zH m).length≤(zH n).length:=qc.2 (Nat.lt_of_le_of_lt h (qc.1 (Nat.le_refl _)))
theorem z2F(neg:Bool)(n d k:Nat)(hk:1≤k)(hn:(zH n).length≤k)(hd:(zH d).length≤k):xd k (kO neg n d):=by
 unfold kO
 split
 ·exact⟨kW,J7,by simp,by simpa using hk⟩
 ·exact⟨zp _,zp _,Nat.le_trans (j0 (Nat.div_le_self _ _)) hn,Nat.le_trans (j0 (Nat.div_le_self _ _)) hd⟩
theorem UJ(neg:Bool)(n d:List Int)(hn:zu n)(hd:zu d)(ln:n.length≤100000000)(ld:d.length≤100000000):(oC neg n d).run=some (kO neg (nv n) (nv d)):=by
 have qn:=zT hn
 have qd:=zT hd
 unfold oC
 rw[z6 (mC n hn (by omega)),z6 (mC d hd (by omega))]
 generalize nv n=N at *
 generalize nv d=D at *
 unfold kO
 by_cases h:N=0∨D=0
 ·rw[if_pos h]
  have e:(((zH N).length:Int)==0||((zH D).length:Int)==0)=true:=by
   rcases h with rfl | rfl<;>simp[qA]
  have h1:(jW 1).run=some (zH 1):=jR 1 (by omega)
  rw[za e,z6 h1,z7,lB]
 ·rw[if_neg h]
  have hN:N≠0:=fun z=>h (.inl z)
  have hD:D≠0:=fun z=>h (.inr z)
  have n1:(zH N).length≠0:=fun h=>hN (xI.1 (List.eq_nil_of_length_eq_zero h))
  have n2:(zH D).length≠0:=fun h=>hD (xI.1 (List.eq_nil_of_length_eq_zero h))
  have e:(((zH N).length:Int)==0||((zH D).length:Int)==0)=false:=by rw[Bool.or_eq_false_iff]; exact⟨by simpa using n1,by simpa using n2⟩
  have hg:=V3 (zH N) (zH D) (zp N) (zp D) (by omega) (by omega)
  rw[zO,zO]at hg
  have hgp:Nat.gcd N D≠0:=fun z=>hN (Nat.gcd_eq_zero_iff.1 z).1
  have S9:(zH (Nat.gcd N D)).length≤100000000:=Nat.le_trans (j0 (Nat.gcd_le_left D (Nat.pos_of_ne_zero hN))) (by omega)
  have h1:=bD (zH N) (zH (Nat.gcd N D)) (zp N) (zp _) (by omega) S9
  have h2:=bD (zH D) (zH (Nat.gcd N D)) (zp D) (zp _) (by omega) S9
  rw[zO,zO,if_neg hgp]at h1 h2
  rw[z8 e,z6 hg,z6 h1]
  simp only
  rw[z6 h2,z7]
theorem HC(a:Rat)(h:xd 100000000 a):(xR a).run=some (kO a.1 (nv a.2.1) (nv a.2.2.1)):=by
 unfold xR
 rw[z6 (UJ _ _ _ h.1 h.2.1 h.2.2.1 h.2.2.2),z7]
theorem HO(a b:List Int)(ha:zu a)(hb:zu b)(la:a.length≤100000000)(lb:b.length≤100000000):(X0 a b).run=some (zH (Nat.gcd (nv a) (nv b))):=by
 have qa:=zT ha
 have qb:=zT hb
 unfold X0
 rw[z6 (xV a ha (by omega)),z6 (xV b hb (by omega))]
 generalize nv a=A at *
 generalize nv b=B at *
 have key:(Vy (zH A,zH B)).run=some (zH (Nat.gcd A B)):=by
  have:=ud (r:=dD) (fun s:List Int×List Int=>∃ A B:Nat,s=(zH A,zH B)∧(zH A).length≤100000000∧(zH B).length≤100000000)
   (fun s=>nv s.2) (fun s=>zH (Nat.gcd (nv s.1) (nv s.2))) ?_ (s:=(zH A,zH B)) ⟨A,B,rfl,by omega,by omega⟩
  ·rw[zO,zO]at this; exact this
  ·rintro _ ⟨A,B,rfl,hA,hB'⟩
   simp only[zO]
   by_cases hB:B=0
   ·right
    subst hB
    unfold dD
    rw[qA]; simp
   ·left
    have hd:=yV (zH A) (zH B) (zp A) (zp B) hA hB'
    rw[zO,zO,if_neg hB]at hd
    have hm:=Nat.mod_lt A (Nat.pos_of_ne_zero hB)
    have uj:(zH B).length≠0:=fun h=>hB (xI.1 (List.eq_nil_of_length_eq_zero h))
    refine⟨(zH B,zH (A % B)),?_,⟨B,A % B,rfl,hB',?_⟩,by simpa using hm,?_⟩
    ·unfold dD
     rw[za (by simp; omega),z6 hd,z7]
    ·have:=j0 (Nat.le_of_lt hm)
     omega
    ·simp only[zO]
     rw[Nat.gcd_comm,← Nat.gcd_rec,Nat.gcd_comm]
 rw[z6 key,z7]
theorem tU(a:Rat)(h:xd 100000000 a):(xc a).run=some (kO a.1 (nv a.2.1) (nv a.2.2.1)):=by
 obtain⟨neg,n,d,u⟩:=a
 obtain⟨hn,hd,ln,ld⟩:=h
 simp only at hn hd ln ld
 have qn:=zT hn
 have qd:=zT hd
 unfold xc
 simp only
 rw[z6 (xV n hn (by omega)),z6 (xV d hd (by omega))]
 generalize nv n=N at *
 generalize nv d=D at *
 unfold kO
 by_cases h:N=0∨D=0
 ·rw[if_pos h]
  have e:(((zH D).length:Int)==0||((zH N).length:Int)==0)=true:=by
   rcases h with rfl | rfl<;>simp[qA]
  rw[za e,z7]
 ·rw[if_neg h]
  have hN:N≠0:=fun z=>h (.inl z)
  have hD:D≠0:=fun z=>h (.inr z)
  have n1:(zH N).length≠0:=fun h=>hN (xI.1 (List.eq_nil_of_length_eq_zero h))
  have n2:(zH D).length≠0:=fun h=>hD (xI.1 (List.eq_nil_of_length_eq_zero h))
  have e:(((zH D).length:Int)==0||((zH N).length:Int)==0)=false:=by rw[Bool.or_eq_false_iff]; exact⟨by simpa using n2,by simpa using n1⟩
  have hg:=HO (zH N) (zH D) (zp N) (zp D) (by omega) (by omega)
  rw[zO,zO]at hg
  have hgp:Nat.gcd N D≠0:=fun z=>hN (Nat.gcd_eq_zero_iff.1 z).1
  have S9:(zH (Nat.gcd N D)).length≤100000000:=Nat.le_trans (j0 (Nat.gcd_le_left D (Nat.pos_of_ne_zero hN))) (by omega)
  have h1:=yV (zH N) (zH (Nat.gcd N D)) (zp N) (zp _) (by omega) S9
  have h2:=yV (zH D) (zH (Nat.gcd N D)) (zp D) (zp _) (by omega) S9
  rw[zO,zO,if_neg hgp]at h1 h2
  rw[z8 e,z6 hg,z6 h1]
  simp only
  rw[z6 h2,z7]
theorem Vg(neg:Bool)(n d:List Int)(hn:zu n)(hd:zu d)(ln:n.length≤100000000)(ld:d.length≤100000000):(cz neg n d).run=some (kO neg (nv n) (nv d)):=by
 unfold cz
 rw[z6 (tU (neg,n,d,()) ⟨hn,hd,ln,ld⟩),z7]
theorem Xn(k:Nat):(zH (10 ^ k)).length≤k+1:=by
 refine qc.2 ?_
 have h1:(10:Nat) ^ k≤4294967296 ^ k:=Nat.pow_le_pow_left (by omega) k
 have h2:(4294967296:Nat) ^ k<4294967296 ^ (k+1):=Nat.pow_lt_pow_right (by omega) (by omega)
 omega
theorem IG(m n:Nat):(zH (m*n)).length≤(zH m).length+(zH n).length:=by
 refine qc.2 ?_
 rw[Nat.pow_add]
 exact Nat.mul_lt_mul'' (qc.1 (Nat.le_refl _)) (qc.1 (Nat.le_refl _))
theorem Wz(k:Nat)(hk:k≤10000):(U7 (k:Int)).run=some (zH (10 ^ k)):=by
 have h1:(jW 1).run=some (zH 1):=jR 1 (by omega)
 have h10:(jW 10).run=some (zH 10):=jR 10 (by omega)
 have loop:=ud (r:=ft (k:Int)) (fun s:List Int×Int=>∃ i:Nat,s=(zH (10 ^ i),(i:Int))∧i≤k) (fun s=>k-s.2.toNat) (fun _=>zH (10 ^ k)) ?_ (s:=(zH 1,0)) ⟨0,rfl,by omega⟩
 ·have KE:(KI (k:Int) (zH 1,0)).run=some (zH (10 ^ k)):=loop
  unfold U7
  rw[z6 h1,z6 KE,z7]
 ·rintro _ ⟨i,rfl,hi⟩
  simp only
  by_cases qp:i<k
  ·left
   have hl:=Xn i
   have hm:=rq (zH (10 ^ i)) (zH 10) (zp _) (zp _) (by omega) (by have:=Xn 1; simp at this; omega)
   rw[zO,zO,← Nat.pow_succ]at hm
   refine⟨(zH (10 ^ (i+1)),((i+1:Nat):Int)),?_,⟨i+1,rfl,by omega⟩,by simp; omega,trivial⟩
   unfold ft
   rw[za (by simp; omega),z6 h10,z6 hm,z7,i1 i (by omega)]
  ·right
   have:i=k:=by omega
   subst this
   unfold ft
   simp
theorem PJ(n d:Nat)(h:Nat.gcd n d≠0):Nat.gcd (n / Nat.gcd n d) (d / Nat.gcd n d)=1:=by
 have:=Nat.gcd_mul_left (Nat.gcd n d) (n / Nat.gcd n d) (d / Nat.gcd n d)
 rw[Nat.mul_div_cancel' (Nat.gcd_dvd_left n d),Nat.mul_div_cancel' (Nat.gcd_dvd_right n d)]at this
 have h2:Nat.gcd n d*Nat.gcd (n / Nat.gcd n d) (d / Nat.gcd n d)=Nat.gcd n d*1:=by omega
 exact Nat.eq_of_mul_eq_mul_left (Nat.pos_of_ne_zero h) h2
theorem Nj(neg:Bool)(n d:Nat):kO (kO neg n d).1 (nv (kO neg n d).2.1) (nv (kO neg n d).2.2.1)=kO neg n d:=by
 by_cases h:n=0∨d=0
 ·have e:kO neg n d=(false,[],[1],()):=by unfold kO; rw[if_pos h]
  rw[e]; rfl
 ·have e:kO neg n d=(neg,zH (n / Nat.gcd n d),zH (d / Nat.gcd n d),()):=by unfold kO; rw[if_neg h]
  rw[e]
  have hn:n≠0:=fun z=>h (.inl z)
  have hd:d≠0:=fun z=>h (.inr z)
  have hg:Nat.gcd n d≠0:=fun z=>hn (Nat.gcd_eq_zero_iff.1 z).1
  have h1:n / Nat.gcd n d≠0:=Nat.div_ne_zero_iff.2 ⟨hg,Nat.gcd_le_left d (Nat.pos_of_ne_zero hn)⟩
  have h2:d / Nat.gcd n d≠0:=Nat.div_ne_zero_iff.2 ⟨hg,Nat.gcd_le_right n (Nat.pos_of_ne_zero hd)⟩
  simp only[zO]
  unfold kO
  rw[if_neg (by intro z; rcases z with z | z<;>contradiction),PJ n d hg,Nat.div_one,Nat.div_one]
theorem UP(neg:Bool)(n d:Nat):nv (kO neg n d).2.2.1≠0:=by
 unfold kO
 split
 ·show nv [1]≠0; decide
 ·rename_i h
  have hn:n≠0:=fun z=>h (.inl z)
  have hd:d≠0:=fun z=>h (.inr z)
  have hg:Nat.gcd n d≠0:=fun z=>hn (Nat.gcd_eq_zero_iff.1 z).1
  simp only[zO]
  exact Nat.div_ne_zero_iff.2 ⟨hg,Nat.gcd_le_right n (Nat.pos_of_ne_zero hd)⟩
theorem Ts(neg:Bool)(n d:Nat)(h:(kO neg n d).1=true):nv (kO neg n d).2.1≠0:=by
 unfold kO at h ⊢
 split at h
 ·cases h
 ·rename_i c
  have hn:n≠0:=fun z=>c (.inl z)
  have hg:Nat.gcd n d≠0:=fun z=>hn (Nat.gcd_eq_zero_iff.1 z).1
  rw[if_neg c]
  simp only[zO]
  exact Nat.div_ne_zero_iff.2 ⟨hg,Nat.gcd_le_left d (Nat.pos_of_ne_zero hn)⟩
theorem xT{j k:Nat}{a:Rat}(h:xd j a)(hk:j≤k):xd k a:=⟨h.1,h.2.1,Nat.le_trans h.2.2.1 hk,Nat.le_trans h.2.2.2 hk⟩
def norm(a:Rat):Rat:=kO a.1 (nv a.2.1) (nv a.2.2.1)
theorem nO{k:Nat}(hk:1≤k){a:Rat}(h:xd k a):xd k (norm a):=z2F _ _ _ k hk (Nat.le_trans (zT h.1) h.2.2.1) (Nat.le_trans (zT h.2.1) h.2.2.2)
theorem j8(a:Rat)(h:xd 100000000 a):(xR a).run=some (norm a):=HC a h
theorem xO(a:Rat)(h:xd 100000000 a):(xc a).run=some (norm a):=tU a h
end Go.AM.Lf
namespace Go.AM.PL
abbrev Q:=_root_.Rat
def qv(neg:Bool)(n d:Nat):Q:=mkRat (if neg=true then -(n:Int)else(n:Int)) d
def xn(q:Q):Bool×List Int×List Int×Unit:=(decide (q.num<0),zH q.num.natAbs,zH q.den,())
theorem oa(q:Q):(xn q).1=decide (q.num<0):=rfl
theorem jG(q:Q):(xn q).2.1=zH q.num.natAbs:=rfl
theorem eH(q:Q):(xn q).2.2.1=zH q.den:=rfl
theorem Vf:zH 1=[1]:=by rw[y6 (by omega),show 1 / 4294967296=0 from rfl,qA]; rfl
theorem Bo(b:Bool)(d:Nat):qv b 0 d=0:=by unfold qv; cases b<;>simp
theorem WN(b:Bool)(n:Nat):qv b n 0=0:=by unfold qv; simp
theorem Cy:xn 0=(false,[],[1],()):=by
 unfold xn
 rw[Rat.zero_num,Rat.zero_den,Vf]
 show(decide ((0:Int)<0),zH 0,[1],())=_
 rw[qA]; rfl
theorem nA(b:Bool)(n:Nat):(if b=true then -(n:Int)else(n:Int)).natAbs=n:=by cases b<;>simp
theorem TX(b:Bool)(n d:Nat)(hd:d≠0):(qv b n d).den=d / Nat.gcd n d:=by
 unfold qv
 rw[Rat.den_mkRat,if_neg hd,nA,Nat.gcd_comm]
theorem P9(b:Bool)(n d:Nat)(hd:d≠0):(qv b n d).num=if b=true then -((n / Nat.gcd n d:Nat):Int)else((n / Nat.gcd n d:Nat):Int):=by
 unfold qv
 rw[Rat.num_mkRat,if_neg hd,nA,Nat.gcd_comm]
 cases b with
 | false=>simp only[Bool.false_eq_true,if_false]; rw[Int.natCast_ediv]
 | true =>
  simp only[if_true]
  rw[Int.neg_ediv_of_dvd (Int.natCast_dvd_natCast.2 (Nat.gcd_dvd_left n d)),Int.natCast_ediv]
theorem z5j(b:Bool)(n d:Nat)(hn:n≠0)(hd:d≠0):xn (qv b n d)=(b,zH (n / Nat.gcd n d),zH (d / Nat.gcd n d),()):=by
 unfold xn
 rw[TX b n d hd,P9 b n d hd]
 have hg:0<Nat.gcd n d:=Nat.gcd_pos_of_pos_left d (Nat.pos_of_ne_zero hn)
 have hp:0<n / Nat.gcd n d:=Nat.div_pos (Nat.le_of_dvd (Nat.pos_of_ne_zero hn) (Nat.gcd_dvd_left n d)) hg
 rw[nA]
 cases b with
 | false=>simp only[Bool.false_eq_true,if_false]; congr 1
 | true=>simp only[if_true]; congr 1; simp only[decide_eq_true_eq]; omega
theorem z5P(q:Q):qv (xn q).1 (nv (xn q).2.1) (nv (xn q).2.2.1)=q:=by
 rw[oa,jG,eH,zO,zO]
 unfold qv
 have e:(if decide (q.num<0)=true then -((q.num.natAbs:Nat):Int)else((q.num.natAbs:Nat):Int))=q.num:=by
  by_cases h:q.num<0
  ·rw[if_pos (by simpa using h)]; omega
  ·rw[if_neg (by simpa using h)]; omega
 rw[e,Rat.mkRat_self]
def xz(q:Q):Nat:=max (zH q.num.natAbs).length (zH q.den).length
theorem hJ{m n:Nat}(h:m≤n):(zH m).length≤(zH n).length:=qc.2 (Nat.lt_of_le_of_lt h (qc.1 (Nat.le_refl _)))
theorem xe(m n:Nat):(zH (m*n)).length≤(zH m).length+(zH n).length:=by
 rw[qc,Nat.pow_add]
 have h1:=qc.1 (Nat.le_refl (zH m).length)
 have h2:=qc.1 (Nat.le_refl (zH n).length)
 exact Nat.mul_lt_mul'' h1 h2
theorem sA(m n k:Nat)(hm:(zH m).length≤k)(hn:(zH n).length≤k):(zH (m+n)).length≤k+1:=by
 rw[qc,Nat.pow_succ]
 have h1:=qc.1 hm
 have h2:=qc.1 hn
 omega
theorem EY(b:Bool)(n d k:Nat)(hk:1≤k)(hn:(zH n).length≤k)(hd:(zH d).length≤k):xz (qv b n d)≤k:=by
 unfold xz
 by_cases z:d=0
 ·subst z; rw[WN,Rat.zero_num,Rat.zero_den,Vf]
  show max (zH 0).length 1≤k
  rw[qA]; simp; exact hk
 ·rw[TX _ _ _ z,P9 _ _ _ z,nA]
  exact Nat.max_le.2 ⟨Nat.le_trans (hJ (Nat.div_le_self _ _)) hn,Nat.le_trans (hJ (Nat.div_le_self _ _)) hd⟩
theorem PD(q:Q):1≤xz q:=by
 unfold xz
 have:zH q.den≠[]:=fun h=>q.den_nz (xI.1 h)
 have:=List.length_pos_iff.2 this
 omega
theorem wV(q:Q):(zH q.num.natAbs).length≤xz q:=Nat.le_max_left _ _
theorem wj(q:Q):(zH q.den).length≤xz q:=Nat.le_max_right _ _
theorem tz:xz 0=1:=by
 unfold xz
 rw[Rat.zero_num,Rat.zero_den,Vf]
 show max (zH 0).length 1=1
 rw[qA]; rfl
def VB(b:Bool)(n:Nat):Int:=if b=true then -(n:Int)else(n:Int)
theorem dX(b:Bool)(n d:Nat):qv b n d=mkRat (VB b n) d:=rfl
theorem Uq(q:Q):VB (decide (q.num<0)) q.num.natAbs=q.num:=by
 unfold VB
 by_cases h:q.num<0
 ·rw[if_pos (by simpa using h)]; omega
 ·rw[if_neg (by simpa using h)]; omega
theorem z0C(b c:Bool)(m n:Nat):VB (b != c) (m*n)=VB b m*VB c n:=by
 unfold VB
 cases b<;>cases c<;>simp[Int.neg_mul,Int.mul_neg]
theorem Vc(b:Bool)(m n:Nat):VB b (m*n)=VB b m*(n:Int):=by
 unfold VB; cases b<;>simp[Int.neg_mul]
theorem Mu(b:Bool)(m n:Nat):VB b (m+n)=VB b m+VB b n:=by
 unfold VB; cases b<;>simp; omega
theorem Uc(b c:Bool)(m n:Nat)(hb:b≠c)(h:n≤m):VB b (m-n)=VB b m+VB c n:=by
 unfold VB; cases b<;>cases c<;>simp at hb ⊢ <;> omega
theorem TU(p q:Q):p+q=mkRat (VB (decide (p.num<0)) (p.num.natAbs*q.den)+VB (decide (q.num<0)) (q.num.natAbs*p.den)) (p.den*q.den):=by
 rw[Rat.add_def',Vc,Vc,Uq,Uq]
theorem IL(p q:Q):p*q=mkRat (VB (decide (p.num<0) != decide (q.num<0)) (p.num.natAbs*q.num.natAbs)) (p.den*q.den):=by
 rw[Rat.mul_def',z0C,Uq,Uq]
theorem QE(p q:Q):xz (p+q)≤xz p+xz q+1:=by
 rw[TU]
 have h1:=Nat.le_trans (xe p.num.natAbs q.den) (Nat.add_le_add (wV p) (wj q))
 have h2:=Nat.le_trans (xe q.num.natAbs p.den) (Nat.add_le_add (wV q) (wj p))
 have h3:=Nat.le_trans (xe p.den q.den) (Nat.add_le_add (wj p) (wj q))
 have h4:=sA _ _ _ h1 (Nat.le_trans h2 (by omega:_≤xz p+xz q))
 have e:∀ z:Int,mkRat z (p.den*q.den)=qv (decide (z<0)) z.natAbs (p.den*q.den):=by
  intro z
  rw[dX]; congr 1; unfold VB
  by_cases h:z<0
  ·rw[if_pos (by simpa using h)]; omega
  ·rw[if_neg (by simpa using h)]; omega
 rw[e]
 refine EY _ _ _ _ (by omega) (Nat.le_trans (hJ ?_) h4) (by omega)
 unfold VB
 split<;>split<;>omega
theorem Xr(p q:Q):xz (p*q)≤xz p+xz q:=by
 rw[IL,← dX]
 have h1:=Nat.le_trans (xe p.num.natAbs q.num.natAbs) (Nat.add_le_add (wV p) (wV q))
 have h3:=Nat.le_trans (xe p.den q.den) (Nat.add_le_add (wj p) (wj q))
 have:=PD p
 exact EY _ _ _ _ (by omega) h1 h3
theorem RM(q:Q):xz (-q)=xz q:=by unfold xz; rw[Rat.neg_num,Rat.neg_den,Int.natAbs_neg]
theorem Pp(q:Q):xz q⁻¹≤xz q:=by
 by_cases h:q=0
 ·subst h; rw[Rat.inv_zero]; exact Nat.le_refl _
 ·unfold xz
  rw[Rat.num_inv,Rat.den_inv,if_neg (fun z=>h (Rat.num_eq_zero.1 z)),Int.natAbs_mul]
  have h1:q.num.sign.natAbs=1:=Int.natAbs_sign_of_ne_zero (fun z=>h (Rat.num_eq_zero.1 z))
  rw[h1,Nat.one_mul,Int.natAbs_natCast,Nat.max_comm]
  exact Nat.le_refl _
end Go.AM.PL
