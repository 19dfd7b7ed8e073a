/-
  The abstract machine, part E: texts of our own, the same for each claim.
-/
import Derived.Test.YtgnfpdlhibjeeaaGreatDoorAmD
import Derived.Below
import Derived.Lib.Repeat
import Derived.Lib.ItoaNum
import Derived.Lib.IndexMore
import Derived.Lib.AsciiSet
import Derived.Lib.Strings
import Derived.Sort.Grow
import Derived.Deep.Draws
import Derived.Test.YtgnfpdlhibjeeaaGreatDoorAmA
import Derived.Lib.Builder
import Derived.Recover
import Derived.Lib.Split
import Derived.Lib.SplitLaws
import Derived.Lib.FieldsP
import Derived.Lib.IndexAny
import Derived.Laws.RangeAny
import Derived.Lib.RuneCount
import Derived.Laws.AppendOwn
import Derived.Shelf.Strings.IndexAnyAll
import Derived.Laws.Runes
import Derived.Shelf.Small.Utf8
import Derived.WalkMore
import Derived.Handy
import Derived.Shelf.RegionOpenPlain
import Derived.WalkSmall
import Derived.Lib.OthersKept
set_option linter.unusedVariables false
set_option linter.unusedSectionVars false
open List renaming getElem?_eq_getElem -> zA, eq_nil_of_length_eq_zero -> I, length -> zG, length_map -> zH, getElem?_map -> zJ, length_drop -> zP, length_take -> zQ, mem_of_getElem? -> zS, length_nil -> zT, getD_eq_getElem?_getD -> qA, append_eq_nil_iff -> qF, drop_of_length_le -> qG, contains_eq_mem -> qL, range_eq_range' -> qM
open Nat renaming le_refl -> Y, le_of_ble_eq_true -> R, add_zero -> zK, eq_of_beq_eq_true -> zM, beq -> zU, lt_of_lt_of_le -> qB, ble -> qC, add_comm -> qR
open Go.Lib renaming goFieldsP -> zE, closeSpans -> zF, index -> zI, countB -> zO, indexByte -> zR, contains_iff_indexByte -> zY, splitK -> zZ, cell_of_heap -> qD, indexAny -> qE, spansFromP -> qK, count -> qN, count_hit -> qP
open Array renaming getElem?_toList -> zL, replicate -> qI, toArray_toList -> qJ, length_toList -> qO
open Bool renaming and_eq_true -> zN
open Go.Value renaming string -> zV
open Go.World renaming freeze -> zW
open False renaming elim -> zX
open Go.RowKit renaming Below -> qH
open Go.Exit renaming inBlock -> qQ
open Go.Deferred renaming ofValue -> qS
namespace Go.AM
variable [gy]
open Go.RowKit
theorem oj{P:Program}{g:Nat}{fn:Func}{args:Array Value}(hf:P.funcs[g]? = some fn) (hn:(fn.name == "runtime.NumGoroutine")=false) (J:fn.body.isNone=false) (w:World) :
  (callFunc g args).run P w=.ok (.enter g args) w:=uW hf hn J w
def KS.grown(O:KS)(w':World):KS:={ O with w:=w',ok:=λk=>O.ok k\/(O.w.heap.size<=k/\k<w'.heap.size) }
theorem FG{O:KS}{w':World}(hI:Inv O)(ud:O.st=[])(hB:Below O.w.heap.size O.w w'):Inv (O.grown w')/\Ext O (O.grown w'):=by
 have HO:O.ph=[]:=I (by rw[hI.len,ud]; rfl)
 have U:Ext O (O.grown w'):=⟨hB.os,hB.tape,hB.output,hB.size,λk hk=>⟨.inl hk,hB.block k (hI.cp k hk)⟩,λk hk=>hk.elim .inl λh=>.inr (.inl h.1),λ_ _ _ h=>.inl h,λb d h=>wa,
   λb v0 e xs h=>wa,λb h=>wa,Y _,λk hk _=>hB.block k hk⟩
 refine⟨⟨hI.len,λk hk=>hk.elim (λh=>qB (hI.cp k h) hB.size) (·.2),λb blk n J => ?_,hI.inj,λb x J => ?_,hI.gl.mono U.same⟩,U⟩
 ·have:O.ph[b]? = some (some (blk,n)):=J
  grind
 ·have:O.st[b]? = some x:=J
  grind
theorem jM{P:Program}{g:Nat}{fn:Func}{d:ER}(hf:P.funcs[g]? = some fn) (hn:(fn.name == "runtime.NumGoroutine")=false) (J:fn.body.isNone=false)
  (H:∀ (O:KS) (x:eJ d.ps) (xa:List Value) (y:ED d.rs),(d.F x).leads y->Inv O->wP O (Ke d.ps x) xa ->
   Calls P g xa.toArray O.w λe w'=>Below O.w.heap.size O.w w'/\(Ext O (O.grown w')->jr (O.grown w') (.ret (J1 d.rs y)) e)):zw P g d:=by
 intro O x xa y ud hy hI ha
 refine .inl ⟨oj hf hn J O.w,(H O x xa y hy hI ha).mono ?_⟩
 rintro e w' ⟨hB,he⟩
 obtain⟨h1,U⟩:=FG hI ud hB
 exact⟨O.grown w',rfl,ud,h1,U,he U⟩
theorem Ob(u:Nat):Lib.decDigits u=HZ u:=by
 induction u using Nat.strongRecOn with
 | _ u ih =>
  rw[Lib.decDigits,HZ]
  grind
theorem z2H(n:Int):Lib.itoa n=KH n:=by
 unfold Lib.itoa KH
 rw[Ob,Ob]
theorem LM(w:World)(k:Nat)(os:Array Obj):qH w.heap.size w (Go.Sort.grow (w.drewN k) os):=by
 refine⟨rfl,rfl,rfl,?_,λb J => ?_⟩
 ·simp
 ·show(w.heap++os)[b]? = w.heap[b]?
  grind
theorem below_drewN(w:World)(k:Nat):qH w.heap.size w (w.drewN k):=⟨rfl,rfl,rfl,Y _,λ_ _=>rfl⟩
theorem ZS(w:World):qH w.heap.size w w:=⟨rfl,rfl,rfl,Y _,λ_ _=>rfl⟩
theorem Ku(w:World)(o:Obj):qH w.heap.size w (w.alloc o):=by
 refine⟨rfl,rfl,rfl,?_,λb J => ?_⟩
 ·simp
 ·show(w.heap.push o)[b]? = w.heap[b]?
  grind
theorem Oz(s sub:zn):zI s sub=V8 s sub:=by
 induction s with
 | nil=>rfl
 | cons b l ih=>simp only[zI,V8,ih]
theorem z8k(s:zn)(c:UInt8):zR s c=UR s c:=by
 induction s with
 | nil=>rfl
 | cons b l ih=>simp only[zR,UR,ih]
theorem z1s(s sep:zn):Lib.cut s sep=Uz s sep:=by
 unfold Lib.cut Uz
 rw[Oz]
theorem O2{w:World}{ok:Nat->Prop}(f:Nat->Bool):∀ (n k:Nat),Rc w ok (nC .bool n) (SX (e:=.bool) f n k) ((List.range' k n).map λj=>Value.bool (f j))
 | 0,_=>.nil
 | n+1,k=>by
  exact Rc.cons .bool (nC .bool n) (f k) (SX (e:=.bool) f n (k+1)) [Value.bool (f k)] _ (.bool _) (O2 f n (k+1))
theorem z13{O:KS}(s:zn):RD O (.qj (nC .bool 256) (mm s)) (.agg (Lib.setCells s)):=by
 have h:=RD.qj (O:=O) (nC .bool 256) (mm s) _ (O2 (λj=>s.contains (UInt8.ofNat j)) 256 0)
 have e:pk (nC .bool 256) ((List.range' 0 256).map λj=>Value.bool (s.contains (UInt8.ofNat j)))=.agg (Lib.setCells s):=by
  unfold pk
  rw[show(nC .bool 256).isAgg=true from rfl,Lib.setCells_eq]
  show Value.agg (List.toArray _)=_
  congr 1
  apply Array.ext'
  rw[Array.toList_map,Array.toList_range,qM]
 grind
theorem RD.zaU{O:KS}{a b:D}{u v:Value}(h:RD O a u)(k:RD O b v):RD O (.fj [a,b]) (.tuple #[u,v]):=by
 have:=wP.cons h (wP.cons k wP.nil)
 exact .fj [a,b] [u,v] this.1 this.2
theorem RD.zs9{O:KS}{a b c:D}{u v z:Value}(h:RD O a u)(k:RD O b v)(l:RD O c z):RD O (.fj [a,b,c]) (.tuple #[u,v,z]):=by
 have:=wP.cons h (wP.cons k (wP.cons l wP.nil))
 exact .fj [a,b,c] [u,v,z] this.1 this.2
theorem S7(l:List UInt8):∀ c,Lib.repeatL l c=Bp l c
 | 0=>rfl
 | c+1=>by simp[Lib.repeatL,Bp,S7 l c]
theorem IS{w:World}{blk:Nat}{cs:Array Value}{t:TypeId}{fz:Nat×Nat}{v:Value}(h:w.heap[blk]? = some (.cells cs t fz)):w.setCell ⟨blk,0,none⟩ v=w.setRow blk (cs.setIfInBounds 0 v):=by
 unfold World.setCell World.setRow
 congr 1
 grind
def LV(t:Nat):List It:=[.v (.st [.op 0 t,.row 1 (.int .u8)]),.a (.int .u8)]
def z1a(t:Nat):List Bk:=[.var (.st [.op 0 t,.row 1 (.int .u8)]),.arr (.int .u8)]
def ccD(t:Nat):bA:=⟨[.ptr],⟨LV t,[(0,.ptr 0 0)],z1a t⟩,[],⟨LV t,[],z1a t⟩,0,λx=>.ret x⟩
theorem Dd{P:Program}{g t:Nat}(Gn:∀ args w,(callFunc g args).run P w=.ok (.enter g args) w)
  (ziQ:∀ (b:Nat) (w:World),w.cell? ⟨b,0,none⟩=some (.pointer (some ⟨b,0,none⟩))->Calls P g #[.pointer (some ⟨b,0,none⟩)] w λe w'=>e=.returned (.tuple #[])/\w'=w)
  (zdB:∀ (b:Nat) (w:World),w.cell? ⟨b,0,none⟩=some (.pointer none)->w.shape? b=some (t,2)->w.frozen? ⟨b,0,none⟩=false ->
   Calls P g #[.pointer (some ⟨b,0,none⟩)] w λe w'=>e=.returned (.tuple #[])/\w'=w.setCell ⟨b,0,none⟩ (.pointer (some ⟨b,0,none⟩))):xw P g (ccD t):=by
 intro O x xa y ud hy hI hlen hR
 cases hy
 have h0:O.st[0]? = some (.var (.agg [.eS 0 t,.ms 1 (zG x.2) (.int .u8) 0 (zG x.2)])):=by rw[ud]; rfl
 obtain⟨blk,n,cs,t',p1,p2,p3,p4,p5⟩:=hI.blk 0 _ h0
 obtain rfl:t'=t:=p5.2 t rfl
 obtain⟨v0,hv0,hd0⟩:=hR.get 0 (.ptr 0 0) rfl
 have hv:v0=.pointer (some ⟨blk,0,none⟩):=by
  cases hd0 with
  | ptr _ _ rF n' d V hp=>grind
 have fV:xa.toArray = #[.pointer (some ⟨blk,0,none⟩)]:=by
  match xa,hlen with
  | [a],_ =>
   grind
 obtain⟨pv,us,Xc,g1,g2⟩:=wP.cons_inv p4
 obtain⟨bv,us',hus,g3,g4⟩:=wP.cons_inv g2
 have:=g4.wg
 subst this
 subst hus
 have B3:cs = #[pv,bv]:=by rw[<- qJ (xs:=cs),Xc]
 subst B3
 have z2o:∀ E:KS,jr E (.ret []) (.returned (.tuple #[])):=λE=>⟨.tuple #[],rfl,.fj [] [] rfl (λi h=>absurd h (Nat.not_lt_zero i))⟩
 refine .inl ⟨Gn _ _,?_⟩
 rw[fV]
 have used:pv=.pointer (some ⟨blk,0,none⟩)->Calls P g #[.pointer (some ⟨blk,0,none⟩)] O.w λe w'=>∃ (E:KS) (ds:List D),E.w=w'/\E.st=(ccD t').out.st x/\Inv E/\Ext O E/\pM 0 ((ccD t').out.fr x)=some ds/\jr E (.ret ds) e:=by
  intro hpv
  refine(ziQ blk O.w (by rw[qD p2,hpv]; rfl)).mono ?_
  rintro e w' ⟨rfl,rfl⟩
  exact⟨O,[],rfl,ud,hI,Ext.refl O,rfl,z2o O⟩
 cases g1 with
 | nW _ _ rF n' d V hp=>rw[p1]at hp; cases hp; exact used rfl
 | nV _ _ d V =>
  refine(zdB blk O.w (by rw[qD p2]; rfl) (by simp[World.shape?,p2]) (by simp[World.frozen?,p2])).mono ?_
  rintro e w' ⟨rfl,rfl⟩
  rw[IS p2]
  have hex:=JA (cs := #[.pointer (some ⟨blk,0,none⟩),bv]) (x:=.var (.agg [.eS 0 t',.ms 1 (zG x.2) (.int .u8) 0 (zG x.2)])) hI p1 h0 trivial
  refine⟨O.upd 0 blk #[.pointer (some ⟨blk,0,none⟩),bv] (.var (.agg [.eS 0 t',.ms 1 (zG x.2) (.int .u8) 0 (zG x.2)])),[],rfl,?_,JB hI p1 h0 trivial ?_,hex,rfl,z2o _⟩
  ·show O.st.set 0 _=_
   rw[Hp h0]; exact ud
  ·refine⟨blk,n,_,t',p1,setRow_heap _ _ _ _ _ _ p2,p3,?_,p5⟩
   refine .cons (.nW 0 t' blk n _ (by show(O.st.set 0 _)[0]? = _; rw[Hp h0]; exact h0) p1) (.cons (g3.mono hex) .nil)
def z57(t:Nat):bA:=⟨[.ptr],⟨LV t,[(0,.ptr 0 0)],z1a t⟩,[],⟨[.s 0 (.qj .str),.v (.st [.op 0 t,.un])],[],[.var (.st [.op 0 t,.un]),.dead]⟩,1,
 λx=>z5a x.2⟩
theorem z5b{O:KS}{w':World}{t:Nat}{xs:List Int}(ud:O.st=[.var (.agg [.eS 0 t,.ms 1 xs.length (.int .u8) 0 xs.length]),.arr xs.length (.int .u8) xs])(hI:Inv O)
  (h1:w'.os=O.w.os) (X:w'.tape=O.w.tape) (h3:w'.output=O.w.output) (h4:O.w.heap.size<=w'.heap.size)
  (h5:∀ k,k<O.w.heap.size->(∀ n:Nat,O.ph[1]? ≠ some (some (k,n)))->w'.heap[k]? = O.w.heap[k]?) :
  ∃ E:KS,E.w=w'/\E.st=[.var (.agg [.eS 0 t,.Vq]),.dead]/\Inv E/\Ext O E:=by
 have b0:O.st[0]? = some (.var (.agg [.eS 0 t,.ms 1 xs.length (.int .u8) 0 xs.length])):=by rw[ud]; rfl
 have b1:O.st[1]? = some (.arr xs.length (.int .u8) xs):=by rw[ud]; rfl
 have hlen:O.st.length=2:=by rw[ud]; rfl
 let E:KS:={ O with w:=w',st:=[.var (.agg [.eS 0 t,.Vq]),.dead] }
 have hk:∀ k,O.ok k->w'.heap[k]? = O.w.heap[k]? := λk hk=>h5 k (hI.cp k hk) λn h=>(hI.apart 1 k n h).2 hk
 have UP:LC O.w w' O.ok O.ok:=λk h=>⟨h,hk k h⟩
 have U:Ext O E:=by
  refine⟨h1,X,h3,h4,UP,λk h=>.inl h,λ_ _ _ h=>.inl h,λb d h=>⟨?_,rfl⟩,λb v0 e Uf h=>.inl ?_,λb h => ?_,by show O.st.length<=2; omega,λk hk hn=>h5 k hk (hn 1)⟩
  ·grind
  ·grind
  ·grind
 refine⟨E,rfl,rfl,⟨by show O.ph.length=2; rw[hI.len,hlen],λk h=>qB (hI.cp k h) h4,λb blk n h=>⟨qB (hI.apart b blk n h).1 h4,(hI.apart b blk n h).2⟩,hI.inj,λb y J => ?_,hI.gl.mono UP⟩,U⟩
 match b,J with
 | 0,J =>
  cases J
  obtain⟨blk,n,cs,t',p1,p2,p3,p4,p5⟩:=hI.blk 0 _ b0
  have ku:∀ m:Nat,O.ph[1]? ≠ some (some (blk,m)):=λm h=>by
   have:=hI.inj 0 1 blk n m p1 h
   omega
  refine⟨blk,n,cs,t',p1,(h5 blk (hI.apart 0 blk n p1).1 ku).trans p2,p3,?_,?_,λT hT=>p5.2 T hT⟩
  ·obtain⟨pv,us,Xc,g1,g2⟩:=wP.cons_inv p4
   obtain⟨bv,us',hus,g3,g4⟩:=wP.cons_inv g2
   have:=g4.wg
   subst this
   subst hus
   rw[Xc]
   refine .cons (g1.mono U) (.cons (.Vq bv (g3.YH rfl)) .nil)
  ·intro x HQ
   simp only[xz,List.mem_cons,List.not_mem_nil,or_false]at HQ
   rcases HQ with rfl | rfl<;>rfl
 | 1,J=>cases J; trivial
 | b+2,J=>simp[E]at J
theorem T0{n:Int}(h0:0<=n)(h1:n<256):(((byteOf n).toNat:Nat):Int)=n:=by
 unfold byteOf
 have:(UInt8.ofNat n.toNat).toNat=n.toNat:=by
  rw[UInt8.toNat_ofNat']
  omega
 grind
theorem Nu{P:Program}{g t:Nat}(Gn:∀ args w,(callFunc g args).run P w=.ok (.enter g args) w)
  (Gp:∀ (b:Nat) (p:Value) (w:World),w.heap[b]? = some (.cells #[p,.slice none 0 0] t (0,0))->Calls P g #[.pointer (some ⟨b,0,none⟩)] w λe w'=>e=.returned (.string ⟨#[]⟩)/\w'=w.drew)
  (X1:∀ (b g' o cap:Nat) (p:Value) (w:World),cap≠0->w.heap[b]? = some (.cells #[p,.slice (some ⟨g',o,none⟩) 0 cap] t (0,0))->Calls P g #[.pointer (some ⟨b,0,none⟩)] w λe w'=>e=.returned (.string ⟨#[]⟩)/\w'=w.drew)
  (z2r:∀ (b g' cap:Nat) (p:Value) (cur:Array Value) (l:List UInt8) (w:World),l≠[]->l.length<=cap->l.length<=140737488355328->w.heap[b]? = some (.cells #[p,.slice (some ⟨g',0,none⟩) l.length cap] t (0,0)) ->
   w.heap[g']? = some (.cells cur V0.u8 (0,0))->l.length<=cur.size->(∀ j x,l[j]? = some x->w.cell? ⟨g',j,none⟩=some (.int .u8 x.toNat)) ->
   Calls P g #[.pointer (some ⟨b,0,none⟩)] w λe w'=>e=.returned (.string ⟨l.toArray⟩)/\w'=w.drew.freeze ⟨g',0,none⟩ l.length)
  (DA:∀ (b g' o:Nat) (p:Value) (cur:Array Value) (w:World),w.heap[b]? = some (.cells #[p,.slice (some ⟨g',o,none⟩) 0 0] t (0,0))->w.heap[g']? = some (.cells cur V0.u8 (0,0)) ->
   Calls P g #[.pointer (some ⟨b,0,none⟩)] w λe w'=>e=.returned (.string ⟨#[]⟩)/\w'=w.drew.alloc (.view ⟨g',o,none⟩ V0.u8)) 
  {O:KS} {xa:List Value} {xs:List Int} (z8d:O.st=[.var (.agg [.eS 0 t,.ms 1 xs.length (.int .u8) 0 xs.length]),.arr xs.length (.int .u8) xs])
  (Du:∀ n∈xs,(0:Int)<=n/\n<256) (hmax:xs.length<=140737488355328) (hI:Inv O) (hlen:xa.length=1) (V:∃ v,xa.toArray[0]? = some v/\RD O (.ptr 0 0) v) :
  gM P g xa.toArray O.w λe w'=>∃ (E:KS) (ds:List D),E.w=w'/\E.st=(z57 t).out.st (jd xs,())/\Inv E/\Ext O E/\pM 1 ((z57 t).out.fr (jd xs,()))=some ds/\jr E (.ret ds) e:=by
 have h0:O.st[0]? = some (.var (.agg [.eS 0 t,.ms 1 (xs.length) (.int .u8) 0 (xs.length)])):=by rw[z8d]; rfl
 have h1:O.st[1]? = some (.arr (xs.length) (.int .u8) xs):=by rw[z8d]; rfl
 obtain⟨blk,n,cs,t',p1,p2,p3,p4,p5⟩:=hI.blk 0 _ h0
 obtain rfl:t'=t:=p5.2 t rfl
 obtain⟨v0,hv0,hd0⟩:=V
 have hv:v0=.pointer (some ⟨blk,0,none⟩):=by
  cases hd0 with
  | ptr _ _ rF n' d V hp=>grind
 have fV:xa.toArray = #[.pointer (some ⟨blk,0,none⟩)]:=by
  grind
 obtain⟨pv,us,Xc,g1,g2⟩:=wP.cons_inv p4
 obtain⟨bv,us',hus,g3,g4⟩:=wP.cons_inv g2
 have:=g4.wg
 subst this
 subst hus
 have B3:cs = #[pv,bv]:=by rw[<- qJ (xs:=cs),Xc]
 subst B3
 refine .inl ⟨Gn _ _,?_⟩
 rw[fV]
 have fin:∀ (w':World) (s:zn),s=jd xs->w'.os=O.w.os->w'.tape=O.w.tape->w'.output=O.w.output->O.w.heap.size<=w'.heap.size ->
   (∀ k,k<O.w.heap.size->(∀ n:Nat,O.ph[1]? ≠ some (some (k,n)))->w'.heap[k]? = O.w.heap[k]?) ->
   ∃ (E:KS) (ds:List D),E.w=w'/\E.st=(z57 t').out.st (jd xs,())/\Inv E/\Ext O E/\pM 1 ((z57 t').out.fr (jd xs,()))=some ds/\jr E (.ret ds) (.returned (.string ⟨s.toArray⟩)):=by
  intro w' s hs q1 q2 q3 q4 q5
  subst hs
  obtain⟨E,k1,k2,k3,k4⟩:=z5b z8d hI q1 q2 q3 q4 q5
  exact⟨E,[.qj .str (jd xs)],k1,k2,k3,k4,rfl,_,rfl,RD.str⟩
 have hnn:(jd xs).length=xs.length:=zH _
 cases g3 with
 | ms _ _ _ _ _ cap a J ju ha V7 hm =>
  obtain⟨hle,hm⟩:=hm xs h1
  rcases hm with⟨hz,_,hv',hp⟩ | ⟨z7f,n1,o,Ut,hp,hv',zi1,cm,ho⟩
  ·rw[hv']at p2
   have YC:xs=[]:=I hz
   refine(Gp blk pv O.w p2).mono ?_
   rintro e w' ⟨rfl,rfl⟩
   exact fin _ [] (by rw[YC]; rfl) rfl rfl rfl (Y _) (λ_ _ _=>rfl)
  ·cases hv'
   obtain⟨_,⟨hnl,hpn⟩ | ⟨zoC,n2,cs2,T2,r1,r2,r3,r4,r5,f,r6⟩⟩:=hI.blk 1 _ h1
   ·grind
   ·rw[hp]at r1
    cases r1
    have hT:=r5 rfl
    subst hT
    by_cases hc0:cap=0
    ·subst hc0
     have hz:xs.length=0:=Z
     have YC:xs=[]:=I hz
     rw[hz]at p2
     refine(DA blk z7f o pv cs2 O.w p2 r2).mono ?_
     rintro e w' ⟨rfl,rfl⟩
     refine fin _ [] (by rw[YC]; rfl) rfl rfl rfl (qw) (λk hk _ => ?_)
     exact Lib.alloc_old O.w.drew _ k hk
    ·by_cases hz:xs.length=0
     ·have YC:xs=[]:=I hz
      rw[hz]at p2
      refine(X1 blk z7f o cap pv O.w hc0 p2).mono ?_
      rintro e w' ⟨rfl,rfl⟩
      exact fin _ [] (by rw[YC]; rfl) rfl rfl rfl (Y _) (λ_ _ _=>rfl)
     ·have ho':o=0:=by
       rcases ho with ho | ho
       ·exact absurd ho hc0
       ·simpa using ho
      subst ho'
      have ku:jd xs≠[]:=λe=>hz (by rw[<- hnn,e]; rfl)
      have zin:xs.length<=cs2.size:=by
       have:=r4
       simp only[Ty.size,Nat.mul_one]at this
       omega
      refine(z2r blk z7f cap pv cs2 (jd xs) O.w ku (by rw[hnn]; exact ju) (by rw[hnn]; exact hmax) (by rw[hnn]; exact p2) r2 (by rw[hnn]; exact zin) ?_).mono ?_
      ·intro j c hj
       have Oq:j<xs.length:=by rw[<- hnn]; exact(List.getElem?_eq_some_iff.1 hj).1
       obtain⟨q1,q2⟩:=r6 j Oq
       have:=q2 0 (.int .u8 xs[j]) (by rw[q1.eB]; rfl)
       simp only[Ty.size,Nat.mul_one,zK]at this
       have hc:c=byteOf xs[j]:=by
        unfold jd at hj
        rw[zJ,zA Oq]at hj
        exact(Option.some.inj hj).symm
       obtain⟨b0,b1⟩:=Du xs[j] (List.getElem_mem Oq)
       rw[qD r2,hc,T0 b0 b1]
       exact this
      ·rintro e w' ⟨rfl,rfl⟩
       refine fin _ _ rfl ?_ ?_ ?_ ?_ ?_
       ·unfold zW; split<;>rfl
       ·unfold zW; split<;>rfl
       ·unfold zW; split<;>rfl
       ·unfold zW
        split
        ·exact Y _
        ·show O.w.heap.size<=(Array.modify _ _ _).size
         rw[Array.size_modify]; exact Y _
       ·intro k hk hn
        have zq0:k≠z7f:=λe=>hn n1 (e▸hp)
        unfold zW
        split
        ·rfl
        ·show(Array.modify _ _ _)[k]? = _
         rw[Array.getElem?_modify,if_neg (λe=>zq0 e.symm)]
         rfl
theorem z0q{P:Program}{g t:Nat}(Gn:∀ args w,(callFunc g args).run P w=.ok (.enter g args) w)
  (Gp:∀ (b:Nat) (p:Value) (w:World),w.heap[b]? = some (.cells #[p,.slice none 0 0] t (0,0))->Calls P g #[.pointer (some ⟨b,0,none⟩)] w λe w'=>e=.returned (.string ⟨#[]⟩)/\w'=w.drew)
  (X1:∀ (b g' o cap:Nat) (p:Value) (w:World),cap≠0->w.heap[b]? = some (.cells #[p,.slice (some ⟨g',o,none⟩) 0 cap] t (0,0))->Calls P g #[.pointer (some ⟨b,0,none⟩)] w λe w'=>e=.returned (.string ⟨#[]⟩)/\w'=w.drew)
  (z2r:∀ (b g' cap:Nat) (p:Value) (cur:Array Value) (l:List UInt8) (w:World),l≠[]->l.length<=cap->l.length<=140737488355328->w.heap[b]? = some (.cells #[p,.slice (some ⟨g',0,none⟩) l.length cap] t (0,0)) ->
   w.heap[g']? = some (.cells cur V0.u8 (0,0))->l.length<=cur.size->(∀ j x,l[j]? = some x->w.cell? ⟨g',j,none⟩=some (.int .u8 x.toNat)) ->
   Calls P g #[.pointer (some ⟨b,0,none⟩)] w λe w'=>e=.returned (.string ⟨l.toArray⟩)/\w'=w.drew.freeze ⟨g',0,none⟩ l.length)
  (DA:∀ (b g' o:Nat) (p:Value) (cur:Array Value) (w:World),w.heap[b]? = some (.cells #[p,.slice (some ⟨g',o,none⟩) 0 0] t (0,0))->w.heap[g']? = some (.cells cur V0.u8 (0,0)) ->
   Calls P g #[.pointer (some ⟨b,0,none⟩)] w λe w'=>e=.returned (.string ⟨#[]⟩)/\w'=w.drew.alloc (.view ⟨g',o,none⟩ V0.u8)):xw P g (z57 t):=by
 intro O x xa y ud hy hI hlen hR
 obtain⟨⟨Du,hmax⟩,hy⟩:=(show(z5a x.2).leads y from hy)
 have hy':(jd x.2,())=y:=hy
 subst hy'
 exact Nu Gn Gp X1 z2r DA (xs:=x.2) ud Du hmax hI hlen (hR.get 0 (.ptr 0 0) rfl)
def NV(P:Program):z0R:=λg args w zD=>(callFunc g args).run P w=.ok (.enter g args) w/\CallsD P g args .returning w λe u' w'=>settle u'=.returning/\zD e w'
def SN(P:Program)(t:Nat):z0R:=λg args w zD=>∀ (zs:List Value) (v:Value),args=(zs++[v]).toArray->(callFunc g zs.toArray).run P w=.ok (.enter g zs.toArray) w /\
 CallsD P g zs.toArray (.panicking [{ v:=.iface t v,recovered:=false }]) w λe u' w'=>settle u'=.returning/\zD e w'
theorem NV.mono{P:Program}{g:Nat}{a:Array Value}{w:World}{zD R':Ending->World->Prop}(h:NV P g a w zD)(hr:∀ e w',zD e w'->R' e w'):NV P g a w R' :=
 ⟨h.1,h.2.mono λe u' w' hh=>⟨hh.1,hr e w' hh.2⟩⟩
theorem SN.mono{P:Program}{t g:Nat}{a:Array Value}{w:World}{zD R':Ending->World->Prop}(h:SN P t g a w zD)(hr:∀ e w',zD e w'->R' e w'):SN P t g a w R' :=
 λzs v e=>⟨(h zs v e).1,(h zs v e).2.mono λe u' w' hh=>⟨hh.1,hr e w' hh.2⟩⟩
def Hd(ops:Array Oper):Option (Nat×Nat):=match ops.toList with
 | [o1,o2]=>match o1.dst,o1.op,o1.guard with
  | some t1,.call ⟨.builtin .recover,_,_⟩,none=>match o2.dst,o2.op,o2.guard with
   | some t2,.assign (.tmp t),none=>bif zU t t1 then some (t1,t2)else none
   | _,_,_=>none
  | _,_,_=>none
 | _=>none
def zj6(t:Option Nat)(n:Nat):Nat:=match t with | none=>n | some _=>n+1
def zfe(t:Option Nat)(n:Nat)(fr:Fr):Option D:=match t with
 | none=>some .vb
 | some t=>match fr.get n with | some p=>some (.iface t p) | none=>none
section
variable (c:Ctx) (tab:mj)
def Yf(fn:Func)(m:Nat)(out:ug)(nr:Nat)(fr:Fr)(st:St):T out.den :=
 (nX c fr st fn.results.toList).bind λds=>Vp out m nr ds st
def evH(H:Hints)(fn:Func)(ops:Array Oper)(b:Code)(d:bA)(n:Nat)(t:Option Nat)(x:d.sh.den):T d.out.den :=
 bif qC n fn.ntmps&&qC d.sh.bs.length d.out.bs.length&&zU d.ks.length (zj6 t n)then match Hd ops,zfe t n (d.sh.fr x)with
  | some (t1,t2),some rc=>bif Nat.blt t1 fn.ntmps&&Nat.blt t2 fn.ntmps then
    Uj c tab fn.ntmps H b ((t2,some rc)::(t1,some rc)::(n,none)::d.sh.fr x) [] (d.sh.st x) λo=>match o.ex with
     | .normal=>Yf c fn (d.sh.st x).length d.out d.nr o.fr o.st
     | .ret=>Yf c fn (d.sh.st x).length d.out d.nr o.fr o.st
     | _=>.fail
   else .fail
  | _,_=>.fail
 else .fail
def JR:List Oper->Option (List Oper×Operand×List Operand)
 | []=>none
 | [o]=>match o.op,o.guard,o.dst with
  | .defer ⟨.value f,args,_⟩,none,none=>some ([],f,args.toList)
  | _,_,_=>none
 | o::r=>match JR r with | some (l,z)=>some (o::l,z) | none=>none
structure Dfd where
 g:Nat
 d0:bA
 pt:Nat
 d1:bA
def evD(n:Nat)(H:Hints)(h:Dfd)(fn:Func)(m:Nat)(out:ug)(nr:Nat):Code->Fr->Kn->St->T out.den
 | .seq a b,fr,kn,st=>match opsOf a with
  | some ops=>match JR ops.toList with
   | some (pre,f,args)=>YM c tab n ops pre ⟨fr,kn,st,[],[]⟩ (λs=>match bM s.fr f,gO (args.map (bM s.fr))with
     | some (.wi g caps),some l=>bif zU (eP g) h.g then
       Uj c tab n H b s.fr s.kn s.st λo=>match o.ex with
        | .normal=>h.d0.K (cj g l caps) o.st λ_ qm=>Yf c fn m out nr (o.fr++(p9 (wG b)++s.fr)) qm
        | .ret=>h.d0.K (cj g l caps) o.st λ_ qm=>Yf c fn m out nr (o.fr++(p9 (wG b)++s.fr)) qm
        | .bC (.iface t p)=>bif zU t h.pt then h.d1.K (cj g l caps++[p]) o.st λ_ qm=>Yf c fn m out nr (o.fr++(p9 (wG b)++s.fr)) qm else .fail
        | _=>.fail
      else .fail
     | _,_=>.fail) (λ_ _=>.fail)
   | none=>Uj c tab n H a fr kn st λr=>match r.ex with
    | .normal=>evD n H h fn m out nr b r.fr r.kn r.st
    | .ret=>Yf c fn m out nr r.fr r.st
    | _=>.fail
  | none=>Uj c tab n H a fr kn st λr=>match r.ex with
   | .normal=>evD n H h fn m out nr b r.fr r.kn r.st
   | .ret=>Yf c fn m out nr r.fr r.st
   | _=>.fail
 | _,_,_,_=>.fail
def z1B(H:Hints)(h:Dfd)(fn:Func)(code:Code)(d:bA)(x:d.sh.den):T d.out.den :=
 bif qC d.ks.length fn.ntmps&&qC d.sh.bs.length d.out.bs.length then evD c tab fn.ntmps H h fn (d.sh.st x).length d.out d.nr code (d.sh.fr x) [] (d.sh.st x)else .fail
end
section
variable {P:Program} {xid:Nat} {tab:mj} {ro:Nat->Bool} {n:Nat} {H:Hints}
theorem Nd{ops:Array Oper}{t1 t2:Nat}(hr:Hd ops=some (t1,t2)){Q:Exit->Act->List Frame->World->Prop}{a:Act}{cs:List Frame}{w:World}{id:Nat}(h1:t1<a.tmps.size)
  (h:Q .normal ((a.put (some t1) ((recoverD cs).elim .nilIface (·.1))).put (some t2) ((recoverD cs).elim .nilIface (·.1))) ((recoverD cs).elim cs (·.2)) w):(Code.region id ops false).wpS P Q a cs w:=by
 unfold Hd at hr
 split at hr
 ·rename_i o1 o2 hops
  split at hr
  ·rename_i t1' args te hd1 ho1 hg1
   split at hr
   ·rename_i t2' t hd2 ho2 hg2
    cases J:zU t t1' with
    | false=>grind
    | true =>
     rw[J,cond_true]at hr
     cases hr
     have:=zM J
     subst this
     obtain⟨d1,op1,ty1,zfa,zcR,g1⟩:=o1
     obtain⟨d2,op2,CK,zaz,zcS,g2⟩:=o2
     subst hd1 ho1 hg1 hd2 ho2 hg2
     have cm:ops.size=2:=by rw[<- qO,hops]; rfl
     have e0:ops[0]? = some ⟨some t,.call ⟨.builtin .recover,args,te⟩,ty1,zfa,zcR,none⟩:=by rw[<- zL,hops]; rfl
     have e1:ops[1]? = some ⟨some t2,.assign (.tmp t),CK,zaz,zcS,none⟩:=by rw[<- zL,hops]; rfl
     have zdO:List.range 2=[0,1]:=rfl
     have ev1:∀ v,((a.put (some t) v).eval (.tmp t))=v:=λv=>by simp[Act.eval,Act.put,h1]
     refine wpS_region ?_
     rw[cm,zdO]
     simp only[wpOpsS,e0,e1]
     cases hrec:recoverD cs with
     | none =>
      rw[hrec]at h
      simp only[execOp,ev1]
      exact h
     | some z =>
      rw[hrec]at h
      simp only[execOp,ev1]
      exact h
   ·cases hr
  ·cases hr
 ·cases hr
theorem z2n(hm:(bf P xid tab ro).P.follows .mixedOrders=true)(hT:eU P tab){f:Nat}{fn:Func}{id:Nat}{ops:Array Oper}{b:Code}(hf:P.funcs[f]? = some fn)(J:fn.body=some (.seq (.region id ops false) b))
  (hL:gN P fn.ntmps H b) {d:bA} {k:Nat} {t:Option Nat} {x:d.sh.den} {y:d.out.den} (hy:(evH (bf P xid tab ro) tab H fn ops b d k t x).leads y) {O:KS} (ud:O.st=d.sh.st x) (hI:Inv O)
  {zs:List Value} (hk:zs.length=k) {u:FrameMode} {rv:Value} (hrv:∀ rc,zfe t k (d.sh.fr x)=some rc->RD O rc rv)
  (hu:∀ (c₀:Frame) (cs:List Frame),c₀.mode=u->(recoverD (c₀::cs)).elim .nilIface (·.1)=rv/\∃ u',(recoverD (c₀::cs)).elim (c₀::cs) (·.2)={ c₀ with mode:=u' }::cs/\settle u'=.returning)
  (hR:∀ s dd,(d.sh.fr x).get s=some dd->s≠k->∃ v,zs[s]? = some v/\RD O dd v) :
  CallsD P f zs.toArray u O.w λe u' w'=>settle u'=.returning/\∃ (E:KS) (ds:List D),E.w=w'/\E.st=d.out.st y/\Inv E/\Ext O E/\pM d.nr (d.out.fr y)=some ds/\jr E (.ret ds) e:=by
 unfold evH at hy
 cases hc:qC k fn.ntmps&&qC d.sh.bs.length d.out.bs.length&&zU d.ks.length (zj6 t k)with
 | false=>rw[hc]at hy; exact zX hy
 | true =>
 rw[hc,cond_true]at hy
 simp only[zN]at hc
 have To:=R hc.1.1
 have hc2:=R hc.1.2
 split at hy
 ·rename_i t1 t2 rc hrs EI
  cases hcc:Nat.blt t1 fn.ntmps&&Nat.blt t2 fn.ntmps with
  | false=>rw[hcc]at hy; exact zX hy
  | true =>
  rw[hcc,cond_true]at hy
  simp only[zN]at hcc
  have ziJ:=hrv rc EI
  refine callsD_of_wpS hf J λc₀ cs hc₀ => ?_
  obtain⟨hv,u',Xc,oH⟩:=hu c₀ cs hc₀
  have h1:t1<fn.ntmps:=R hcc.1
  have X:t2<fn.ntmps:=R hcc.2
  have z2D:zs.length+(fn.ntmps-zs.length)=fn.ntmps:=Z
  let a0:Act:={ tmps:=zs.toArray++qI (fn.ntmps-zs.toArray.size) undef,defers:=[] }
  have hR0:Rel O fn.ntmps (Fr.get ((k,none)::d.sh.fr x)) a0:=by
   refine⟨by simp[a0]; omega,rfl,λs dd hs => ?_⟩
   simp only[Fr.get]at hs
   cases hks:zU k s with
   | true=>grind
   | false =>
    rw[hks,cond_false]at hs
    obtain⟨v,g1,g2⟩:=hR s dd hs (λe=>by subst e; simp at hks)
    grind
  have BU:Rel O fn.ntmps (Fr.get ((t2,some rc)::(t1,some rc)::(k,none)::d.sh.fr x)) ((a0.put (some t1) rv).put (some t2) rv):=by
   have g1:=hR0.put (dst:=some t1) (d:=some rc) (v:=rv) hcc.1 (λd' eR=>by cases eR; exact ziJ)
   have g2:=g1.put (dst:=some t2) (d:=some rc) (v:=rv) hcc.2 (λd' eR=>by cases eR; exact ziJ)
   have e1:=Qa ((k,none)::d.sh.fr x) (some t1) (some rc)
   have e2:=Qa ((t1,some rc)::(k,none)::d.sh.fr x) (some t2) (some rc)
   rw[<- e1]at g2
   have g3:Rel O fn.ntmps (eG (Fr.get ((t1,some rc)::(k,none)::d.sh.fr x)) (some t2) (some rc)) ((a0.put (some t1) rv).put (some t2) rv):=g2
   rw[<- e2]at g3
   exact g3
  refine wpS_seq (Nd hrs (by simp; omega) ?_)
  rw[hv,Xc]
  show b.wpS P _ _ _ _
  refine wpS_of_wp ?_
  rw[<- ud]at hy
  refine XA hm hT b hL (O:=O) hy hI BU (nP _) _ λo tB a' κe e0 e1 e2 e3 e4 _ _ _ e6 => ?_
  have fin:(tB=.normal\/tB=.ret)->(Yf (bf P xid tab ro) fn O.st.length d.out d.nr o.fr o.st).leads y ->
    bodyPostS P fn c₀ cs (λe u' w'=>settle u'=.returning/\∃ (E:KS) (ds:List D),E.w=w'/\E.st=d.out.st y/\Inv E/\Ext O E/\pM d.nr (d.out.fr y)=some ds/\jr E (.ret ds) e) tB a' ({ c₀ with mode:=u' }::cs) κe.w:=by
   intro hex z2q
   obtain⟨v,k1,E,ds,q1,q2,q3,q4,q5,q6⟩:=H5 hI e1 e2 e3 e4 (by rw[ud]; exact Nat.le_trans (ug.Wa _ _) hc2) z2q
   have KG:a'.defers=[]/\∃ u'',({ c₀ with mode:=u' }::cs:List Frame)={ c₀ with mode:=u'' }::cs/\∃ v,(results fn a'.tmps).run P κe.w=.ok v κe.w/\settle u''=.returning /\
     ∃ (E:KS) (ds:List D),E.w=κe.w/\E.st=d.out.st y/\Inv E/\Ext O E/\pM d.nr (d.out.fr y)=some ds/\jr E (.ret ds) (.returned v) :=
    ⟨e4.defers,u',rfl,v,k1,oH,E,ds,q1,q2,q3,q4,q5,q6⟩
   rcases hex with rfl | rfl
   ·exact KG
   ·exact KG
  cases HM:o.ex<;>rw[HM]at e0 e6<;>simp only at e0
  ·exact fin (.inl e6) e0
  ·exact zX e0
  ·exact fin (.inr e6) e0
  ·exact zX e0
 ·exact zX hy
theorem z7T(hm:(bf P xid tab ro).P.follows .mixedOrders=true)(hT:eU P tab){f:Nat}{fn:Func}{id:Nat}{ops:Array Oper}{b:Code}(hf:P.funcs[f]? = some fn)(J:fn.body=some (.seq (.region id ops false) b))
  (hn:(fn.name == "runtime.NumGoroutine")=false) (hL:gN P fn.ntmps H b) {d:bA} (h:∀ x,evH (bf P xid tab ro) tab H fn ops b d d.ks.length none x=d.F x):cX (NV P) f d:=by
 intro O x xa y ud hy hI hlen hR
 rw[<- h]at hy
 refine⟨uW hf hn (wa) O.w,z2n hm hT hf J hL hy ud hI hlen (u:=.returning) (rv:=.nilIface) (λrc EI=>by cases EI; exact .vb) (λc₀ cs hc => ?_) λs dd hs _ => ?_⟩
 ·have:recoverD (c₀::cs)=none:=by simp only[recoverD,hc]
  rw[this]
  exact⟨rfl,.returning,by rw[<- hc]; rfl,rfl⟩
 ·obtain⟨v,h1,X⟩:=hR.get s dd hs
  grind
theorem z7S(hm:(bf P xid tab ro).P.follows .mixedOrders=true)(hT:eU P tab){f:Nat}{fn:Func}{id:Nat}{ops:Array Oper}{b:Code}(hf:P.funcs[f]? = some fn)(J:fn.body=some (.seq (.region id ops false) b))
  (hn:(fn.name == "runtime.NumGoroutine")=false) (hL:gN P fn.ntmps H b) {d:bA} {k t:Nat} (hk:d.ks.length=k+1) (h:∀ x,evH (bf P xid tab ro) tab H fn ops b d k (some t) x=d.F x):cX (SN P t) f d:=by
 intro O x xa y ud hy hI hlen hR zs v hc
 have hc:xa=zs++[v]:=by simpa using hc
 subst hc
 rw[<- h]at hy
 have YB:zs.length=k:=by simp at hlen; omega
 refine⟨uW hf hn (wa) O.w,z2n hm hT hf J hL hy ud hI YB (rv:=.iface t v) (λrc EI => ?_) (λc₀ cs hc => ?_) λs dd hs hsk => ?_⟩
 ·simp only[zfe]at EI
  split at EI
  ·rename_i p hp
   cases EI
   obtain⟨u,h1,X⟩:=hR.get k p hp
   have:u=v:=by
    grind
   subst this
   exact .iface t p u X
  ·cases EI
 ·have:recoverD (c₀::cs)=some (.iface t v,{ c₀ with mode:=.panicking [{ v:=.iface t v,recovered:=true }] }::cs):=by simp only[recoverD,hc]
  rw[this]
  exact⟨rfl,_,rfl,rfl⟩
 ·obtain⟨u,h1,X⟩:=hR.get s dd hs
  grind
theorem Iv{p:Value}{g:Nat}{us vs:List Value}{w:World}(FX:p=X8 g us):∃ (fv:Fn) (cap zs:Array Value),(qS p vs.toArray).run P w=.ok ⟨.fn fv cap,zs⟩ w /\
  (invoke (.fn fv cap) zs).run P w=(callFunc (eP g) (cj g vs us).toArray).run P w/\∀ w',(invoke (.fn fv cap) zs).run P w'=(callFunc (eP g) (cj g vs us).toArray).run P w':=by
 subst FX
 unfold X8 eP cj
 cases J:qC 1000000 g with
 | true =>
  have key:∀ w',(invoke (.fn (.func (g % 1000000)) #[]) (us.toArray++vs.toArray)).run P w'=(callFunc (g % 1000000) (us++vs).toArray).run P w':=λw'=>by simp[invoke]
  exact⟨.func (g % 1000000),#[],us.toArray++vs.toArray,by rfl,key w,key⟩
 | false =>
  have key:∀ w',(invoke (.fn (.func g) us.toArray) vs.toArray).run P w'=(callFunc g (vs++us).toArray).run P w':=λw'=>by simp[invoke]
  exact⟨.func g,us.toArray,vs.toArray,by simp[qS],key w,key⟩
theorem Xq:∀ {l:List Oper} {pre:List Oper} {f:Operand} {args:List Operand},JR l=some (pre,f,args)->∃ o zs te,l=pre++[o]/\o.op=.defer ⟨.value f,zs,te⟩/\zs.toList=args/\o.guard=none/\o.dst=none
 | [],pre,f,args,h=>by cases h
 | [o],pre,f,args,h=>by
  simp only[JR]at h
  grind
 | o::p::r,pre,f,args,h=>by
  simp only[JR]at h
  split at h
  ·rename_i l z hz
   obtain⟨o',zs,te,e,g1,g2,g3,g4⟩:=Xq hz
   grind
  ·cases h
theorem Fm{c:Ctx}{O:KS}{a:Act}{id:Nat}{ops:Array Oper}{pre:List Oper}{f:Operand}{args:List Operand}{fr:Fr}{kn:Kn}{s1:pn}{g:Nat}{caps l:List D}(hC:∀ g,EC c.P g (c.fn g))(hI:Inv O)(hR:Rel O n fr.get a)(hk:yQ kn fr.get)
  (V:JR ops.toList=some (pre,f,args)) (jT:(Z4 c n ops pre ⟨fr,kn,O.st,[],[]⟩).leads s1) (hf:bM s1.fr f=some (.wi g caps)) (B:gO (args.map (bM s1.fr))=some l) {Q:Exit->Act->World->Prop}
  (hQ:∀ (a':Act) (E:KS) (fv:Fn) (cap zs:Array Value) (xa:List Value),E.st=s1.st->Inv E->Ext O E->Rel E n s1.fr.get a'->yQ s1.kn s1.fr.get->rD ops a a'->wP E (cj g l caps) xa ->
   (∀ w',(invoke (.fn fv cap) zs).run c.P w'=(callFunc (eP g) xa.toArray).run c.P w')->Q .normal { a' with defers:=⟨.fn fv cap,zs⟩::a'.defers } E.w):(Code.region id ops false).wp c.P Q a O.w:=by
 obtain⟨o,oas,te,e,ho,fV,hg,z7V⟩:=Xq V
 have Tq:∀ j:Nat,ops[j]? = (pre++[o])[j]? := λj=>by rw[<- e]; simp
 obtain⟨ks,g1,g2,_⟩:=sG pre 0 ⟨fr,kn,O.st,[],[]⟩ s1 (λj=>by
  by_cases hj:j<pre.length
  ·grind
  ·right; omega) hk jT
 have cm:List.range ops.size=List.range' 0 pre.length++[pre.length]:=by
  have:ops.size=pre.length+1:=by rw[<- qO,e]; simp
  rw[this,qM,<- List.range'_append_1,Nat.zero_add]; rfl
 refine wp_region ?_
 rw[cm]
 refine Kj hC _ _ hI hR rfl g1 λa' E e1 e2 e3 e4 e5 => ?_
 rw[wpOps_cons]
 unfold wpOp
 have hoi:ops[pre.length]? = some o:=by rw[Tq]; simp
 rw[hoi]
 obtain⟨dst,op,ty,pos,after,guard⟩:=o
 simp only at ho hg z7V
 subst ho hg z7V
 simp only[Region.wanted,if_true]
 have mb:∀ (x:Operand) (z:D),bM s1.fr x=some z->RD E z (a'.eval x):=λx z hz=>e4.eval (by rw[<- iR]; exact hz)
 have hpv:=mb f _ hf
 have hr:=ij (O:=E) (vs:=oas.toList.map a'.eval) B (by simp[<- fV]) (λi d v V hv=>by
      rw[<- fV]at V
      simp only[zJ]at V hv
      cases hi:oas.toList[i]? with
      | none=>grind
      | some x=>rw[hi]at V hv; simp at V hv; subst hv; exact mb x d V)
 generalize FX:a'.eval f=pv at hpv
 cases hpv with
 | wi _ _ us Qd hh2 =>
  obtain⟨fv,cap,zs,k1,k2,k3⟩:=Iv (P:=c.P) (vs:=oas.toList.map a'.eval) (w:=E.w) (rfl:X8 g us=X8 g us)
  refine .inl ?_
  unfold Oper.wp
  have U:(execOp a'.eval ⟨none,.defer ⟨.value f,oas,te⟩,ty,pos,after,none⟩).run c.P E.w=.ok (.defer ⟨.fn fv cap,zs⟩) E.w:=by
   have e9:oas.map a'.eval=(oas.toList.map a'.eval).toArray:=by apply Array.ext'; simp
   simp only[execOp,resolve,FX,e9,Sem.run_bind,k1,Result.andThen_ok,Sem.run_pure]
  rw[U]
  exact hQ a' E fv cap zs _ e1 e2 e3 e4 g2 e5 (G9 g hr (⟨Qd,hh2⟩:wP E caps us)) k3
def O0(κ0:KS)(out:ug)(nr:Nat)(y:out.den):Ending->World->Prop:=λe w'=>∃ (E:KS) (ds:List D),E.w=w'/\E.st=out.st y/\Inv E/\Ext κ0 E/\pM nr (out.fr y)=some ds/\jr E (.ret ds) e
theorem VG{κ0 κ2:KS}{fn:Func}{out:ug}{nr:Nat}{y:out.den}{fr:Fr}{qm:St}{tm:Array Value}(hO:Inv κ0)(e1:κ2.st=qm)(e2:Inv κ2)(e3:Ext κ0 κ2)(e4:Rel κ2 fn.ntmps fr.get { tmps:=tm,defers:=[] })(hlen:κ0.st.length<=out.bs.length)
  (h:(Yf (bf P xid tab ro) fn κ0.st.length out nr fr qm).leads y):Leaves P fn tm (O0 κ0 out nr y) [] .returning κ2.w:=by
 obtain⟨v,k1,E,ds,q1,q2,q3,q4,q5,q6⟩:=H5 (o:=⟨.ret,fr,[],qm,false⟩) hO e1 e2 e3 e4 hlen h
 exact⟨v,k1,E,ds,q1,q2,q3,q4,q5,q6⟩
theorem YG{code:Code}(h:uh code=[])[BB]:gN P n H code:=λp hp=>by rw[h]at hp; cases hp
theorem z4M{O:KS}{f:F}{a:Act}(D:BB)(h : @Rel D O n f a) : @Rel Gf O n f { tmps:=a.tmps,defers:=[] } := @Rel.mk Gf O n f _ (@Rel.size D O n f a h) rfl (@Rel.get D O n f a h)
theorem Ct{O E:KS}{f:F}{a:Act}(x:Ext O E)(h : @Rel Gf O n f a) : @Rel Gf E n f a:=h.mono x
theorem zff{O:KS}{f:F}{a:Act}(h : @Rel Gf O n f a)(l:List Deferred) : @Rel ⟨l⟩ O n f { a with defers:=l } := @Rel.mk ⟨l⟩ O n f _ h.size rfl h.get
theorem zd6(hm:(bf P xid tab ro).P.follows .mixedOrders=true)(hT:eU P tab){h:Dfd}(h0:cX (NV P) h.g h.d0)(h1:cX (SN P h.pt) h.g h.d1){fn:Func}{out:ug}{nr:Nat}{y:out.den}{κ0:KS}(hO:Inv κ0)(hlen:κ0.st.length<=out.bs.length) :
  ∀ (code:Code),uh code=[]->∀ {fr:Fr} {kn:Kn} {O:KS} {a:Act},(evD (bf P xid tab ro) tab fn.ntmps H h fn κ0.st.length out nr code fr kn O.st).leads y->Inv O->Ext κ0 O->Rel O fn.ntmps fr.get a->yQ kn fr.get ->
   code.wp P (bodyPostD P fn (O0 κ0 out nr y)) a O.w:=by
 intro code
 induction code with
 | seq x b ix ib =>
  intro B fr kn O a hy hI U hR hk
  have hlx:uh x=[]:=by simp only[uh,qF]at B; exact B.1
  have hlb:uh b=[]:=by simp only[uh,qF]at B; exact B.2
  have plain:(Uj (bf P xid tab ro) tab fn.ntmps H x fr kn O.st λr=>match r.ex with
    | .normal=>evD (bf P xid tab ro) tab fn.ntmps H h fn κ0.st.length out nr b r.fr r.kn r.st
    | .ret=>Yf (bf P xid tab ro) fn κ0.st.length out nr r.fr r.st
    | _=>.fail).leads y->(Code.seq x b).wp P (bodyPostD P fn (O0 κ0 out nr y)) a O.w:=by
   intro hy
   refine wp_seq (XA hm hT x (YG hlx) (O:=O) hy hI hR hk _ λo tB a' E e0 e1 e2 e3 e4 e4' _ _ e6 => ?_)
   cases hex:o.ex<;>rw[hex]at e0 e6<;>simp only at e0
   ·cases e6
    exact ib hlb (O:=E) (e1▸e0) e2 (U.trans e3) e4 e4'
   ·exact e0.elim
   ·cases e6
    show Leaves P fn a'.tmps _ a'.defers .returning E.w
    rw[show a'.defers=[]from e4.defers]
    exact VG hO e1 e2 (U.trans e3) (z4M Gf e4) hlen e0
   ·exact e0.elim
  simp only[evD]at hy
  split at hy
  ·rename_i ops hops
   obtain⟨id,rfl⟩:∃ id,x=.region id ops false:=by
    cases x with
    | region id ops' draw =>
     cases draw with
     | true=>cases hops
     | false=>cases hops; exact⟨id,rfl⟩
    | _=>cases hops
   split at hy
   ·rename_i pre f args V
    have B9:∀ o∈pre,∃ i:Nat,ops[i]? = some o:=λo ho=>by
     obtain⟨o',oas,te,e,_⟩:=Xq V
     have:o∈ops.toList:=by rw[e]; exact List.mem_append_left _ ho
     obtain⟨i,hi,he⟩:=List.getElem_of_mem this
     exact⟨i,by rw[<- he]; simp at hi; simp[hi]⟩
    rcases U7 pre hk B9 hy with⟨s1,jT,hy⟩ | ⟨_,_,_,hy⟩
    rotate_left
    ·exact hy.elim
    split at hy
    ·rename_i g caps l hf B
     cases hg:zU (eP g) h.g with
     | false=>rw[hg]at hy; exact hy.elim
     | true =>
     rw[hg,cond_true]at hy
     have hgg:=zM hg
     refine wp_seq (Fm (c:=bf P xid tab ro) (DP hT) hI hR hk V jT hf B λa' κ1 fv cap zs xa e1 e2 e3 e4 e4' e5 e6 e7 => ?_)
     show b.wp P _ _ κ1.w
     have hdf:a'.defers=[]:=e4.defers
     rw[hdf]
     let D:BB:=⟨[⟨.fn fv cap,zs⟩]⟩
     have hRD : @Rel D κ1 fn.ntmps s1.fr.get { a' with defers:=[⟨.fn fv cap,zs⟩] }:=zff e4 _
     rw[<- e1]at hy
     refine @XA _ D P xid tab ro fn.ntmps H hm hT b (@YG _ P fn.ntmps H b hlb D) s1.fr s1.kn κ1 _ _ _ y hy e2 hRD e4' _ λo tB a2 κe f0 f1 f2 f3 f4 BQ f5 _ f6 => ?_
     have zi6:a2.defers=[⟨.fn fv cap,zs⟩] := @Rel.defers D κe fn.ntmps _ a2 f4
     have hRa : @Rel Gf κe fn.ntmps (Fr.get (o.fr++(p9 (wG b)++s1.fr))) { tmps:=a2.tmps,defers:=[] }:=z4M D (@WO _ D fn.ntmps κ1 κe s1.fr o.fr _ a2 (wG b) hRD f3 f4 f5)
     have z2c:wP κe (cj g l caps) xa:=wP.mono f3 e6
     have zia:∀ (cs:Array Value) (w':World),cs=xa.toArray->(callFunc h.g cs).run P w'=.ok (.enter h.g cs) w'->(invoke (.fn fv cap) zs).run P w'=.ok (.enter h.g cs) w':=λcs w' Xc hc=>by
      refine(e7 w').trans ?_
      rw[hgg,<- Xc]; exact hc
     have zgB:(h.d0.K (cj g l caps) o.st λ_ qm=>Yf (bf P xid tab ro) fn κ0.st.length out nr (o.fr++(p9 (wG b)++s1.fr)) qm).leads y->Leaves P fn a2.tmps (O0 κ0 out nr y) a2.defers .returning κe.w:=by
      intro hK
      obtain⟨ds,qm,k1,k2⟩:=bA.z0T hK
      rw[<- f1]at k1
      obtain⟨d1,d2⟩:=bA.zfn (Dr:=NV P) NV.mono h0 κe _ xa _ _ k1 f2 z2c
      rw[zi6]
      refine leaves_cons (by nofun) (zia _ _ rfl d1) (d2.mono ?_)
      rintro e u' w' ⟨oH,κ2,rfl,g2,g3,g4,v,rfl,_⟩
      show Leaves P fn a2.tmps _ [] (settle u') κ2.w
      rw[oH]
      exact VG hO g2 g3 ((U.trans (e3.trans f3)).trans g4) (Ct g4 hRa) hlen k2
     cases HM:o.ex<;>rw[HM]at f0 f6
     ·cases f6; exact zgB f0
     ·exact f0.elim
     ·cases f6; exact zgB f0
     ·rename_i pd
      obtain⟨v,rfl,hv⟩:=f6
      cases pd<;>first | exact zX f0 | skip
      rename_i t p
      have f00:(bif zU t h.pt then h.d1.K (cj g l caps++[p]) o.st λ_ qm=>Yf (bf P xid tab ro) fn κ0.st.length out nr (o.fr++(p9 (wG b)++s1.fr)) qm else .fail).leads y:=f0
      clear f0
      cases ht:zU t h.pt with
      | false=>rw[ht]at f00; exact f00.elim
      | true =>
      rw[ht,cond_true]at f00
      have:=zM ht
      subst this
      cases hv with
      | iface _ _ u hu =>
       obtain⟨ds,qm,k1,k2⟩:=bA.z0T f00
       rw[<- f1]at k1
       obtain⟨d1,d2⟩:=bA.zfn (Dr:=SN P h.pt) SN.mono h1 κe _ (xa++[u]) _ _ k1 f2 (z2c.append (wP.cons hu wP.nil)) xa u rfl
       show Leaves P fn a2.tmps _ a2.defers _ κe.w
       rw[zi6]
       refine leaves_cons (by nofun) (zia _ _ rfl d1) (d2.mono ?_)
       rintro e u' w' ⟨oH,κ2,rfl,g2,g3,g4,v,rfl,_⟩
       show Leaves P fn a2.tmps _ [] (settle u') κ2.w
       rw[oH]
       exact VG hO g2 g3 ((U.trans (e3.trans f3)).trans g4) (Ct g4 hRa) hlen k2
    ·exact hy.elim
   ·exact plain hy
  ·exact plain hy
 | _=>intro _ fr kn O a hy; exact hy.elim
theorem zd9(hm:(bf P xid tab ro).P.follows .mixedOrders=true)(hT:eU P tab){h:Dfd}(h0:cX (NV P) h.g h.d0)(h1:cX (SN P h.pt) h.g h.d1){f:Nat}{fn:Func}{code:Code}(hf:P.funcs[f]? = some fn)(J:fn.body=some code)
  (hn:(fn.name == "runtime.NumGoroutine")=false) (hL:uh code=[]) {d:bA} (he:∀ x,z1B (bf P xid tab ro) tab H h fn code d x=d.F x):xw P f d:=by
 intro O x xa y ud hy hI hlen hR0
 rw[<- he]at hy
 unfold z1B at hy
 cases hle:qC d.ks.length fn.ntmps&&qC d.sh.bs.length d.out.bs.length with
 | false=>rw[hle]at hy; exact hy.elim
 | true =>
  rw[hle,cond_true]at hy
  simp only[zN]at hle
  have zil:=R hle.1
  have z2v:=R hle.2
  refine .inl ⟨uW hf hn (wa) O.w,calls_of_wp_defers hf J ?_⟩
  have hR:Rel O fn.ntmps (d.sh.fr x).get { tmps:=xa.toArray++qI (fn.ntmps-xa.toArray.size) undef,defers:=[] }:=by
   refine⟨wa,rfl,λs e hs => ?_⟩
   obtain⟨v,h1,X⟩:=hR0.get s e hs
   grind
  rw[<- ud]at hy
  exact zd6 hm hT h0 h1 (κ0:=O) hI (by rw[ud]; exact Nat.le_trans (ug.Wa _ _) z2v) code hL (O:=O) hy hI (Ext.refl O) hR (nP _)
end
end Go.AM
namespace Go.AM
theorem K5(c b:UInt8)(l:List UInt8):zI (b::l) [c]=if b=c then 0 else if zI l [c] == -1 then -1 else zI l [c]+1:=by
 show(if[c].isPrefixOf (b::l)then _ else _)=_
 by_cases h:b=c
 ·rw[if_pos h,if_pos (by subst h; simp[List.isPrefixOf])]
 ·rw[if_neg h,if_neg (by simp[List.isPrefixOf]; exact λe=>h e.symm)]
theorem IT(c:UInt8):∀ l:List UInt8,zZ [c] 0 (qN l [c]) l=eT c l
 | []=>rfl
 | b::l=>by
  have ih:=IT c l
  by_cases h:b=c
  ·have hi:zI (b::l) [c]=((0:Nat):Int):=by rw[K5,if_pos h]; rfl
   have hc:=qP (s:=b::l) (sub:=[c]) (qw) hi
   rw[hc,show 1+qN ((b::l).drop (0+[c].length)) [c]=qN l [c]+1 from qR 1 _]
   unfold zZ
   rw[if_neg (by rw[hi]; decide),hi]
   show[]::zZ [c] 0 (qN l [c]) l=(if b=c then[]::eT c l else _)
   rw[if_pos h,ih]
  ·by_cases hm:zI l [c] = -1
   ·have hi:zI (b::l) [c] = -1:=by rw[K5,if_neg h,hm]; rfl
    rw[Lib.count_miss hi]
    rw[Lib.count_miss hm]at ih
    show[b::l]=(if b=c then _ else z4H b (eT c l))
    rw[if_neg h,<- ih]
    rfl
   ·have hge:=Lib.index_ge l [c]
    obtain⟨i,hi⟩:∃ i:Nat,zI l [c]=(i:Int):=⟨(zI l [c]).toNat,Z⟩
    have JI:zI (b::l) [c]=((i+1:Nat):Int):=by
     rw[K5,if_neg h,hi,if_neg (by rw[beq_iff_eq]; omega)]; omega
    have c1:=qP (s:=l) (sub:=[c]) (qw) hi
    have c2:=qP (s:=b::l) (sub:=[c]) (qw) JI
    have e:(b::l).drop (i+1+[c].length)=l.drop (i+[c].length):=rfl
    rw[e]at c2
    rw[c1,qR]at ih
    rw[c2,qR]
    unfold zZ at ih ⊢
    rw[if_neg (by rw[hi,beq_iff_eq]; omega),hi]at ih
    rw[if_neg (by rw[JI,beq_iff_eq]; omega),JI]
    show(b::l.take i)::zZ [c] 0 _ (l.drop (i+1))=(if b=c then _ else z4H b (eT c l))
    rw[if_neg h,<- ih]
    rfl
theorem BM(s:ByteArray)(pos:Nat)(h:pos<s.size):pos+(Utf8.decode s pos).2<=s.size/\∀ j,1<=j->j<(Utf8.decode s pos).2->128<=(s.get! (pos+j)).toNat:=by
 unfold Utf8.decode
 simp only
 repeat' split
 all_goals simp only[zN,decide_eq_true_eq,beq_iff_eq]at *
 all_goals refine⟨Z,λj h1 X => ?_⟩
 all_goals (rcases(by omega:j=1\/j=2\/j=3)with rfl | rfl | rfl<;>omega)
theorem UO(s:ByteArray)(i:Nat)(h:i<s.size):s.data.toList[i]? = some (s.get! i):=by
 have h':i<s.data.toList.length:=h
 rw[zA h']
 have:=get_at s i h
 rw[zK]at this
 rw[this]
 rfl
theorem Sn(c:UInt8):∀ (l cur r:zn),(∀ b∈l,b≠c)->cd c cur (l++r)=cd c (cur++l) r
 | [],cur,r,_=>by rw[List.append_nil]; rfl
 | b::l,cur,r,h=>by
  show(if b=c then _ else cd c (cur++[b]) (l++r))=_
  rw[if_neg (h b List.mem_cons_self),Sn c l _ r (λx U=>h x (List.mem_cons_of_mem _ U)),List.append_assoc]
  rfl
def bR(l:zn)(a b:Nat):zn:=(l.drop a).take (b-a)
theorem z0f(l:zn){a b:Nat}(n:Nat)(h:a<=b)(B:b+n<=l.length):bR l a (b+n)=bR l a b++(l.drop b).take n:=by
 unfold bR
 rw[show b+n-a=(b-a)+n by omega,List.take_add,List.drop_drop,show a+(b-a)=b by omega]
def Y3(l:zn)(st:Option Nat)(pos:Nat):zn:=match st with | some a=>bR l a pos | none=>[]
theorem Fy(s:ByteArray):∀ (f pos:Nat) (st:Option Nat) (acc:List (Nat×Nat)),pos<=s.size->s.size<=pos+f->(∀ a,st=some a->a<pos) ->
  (zF s (qK (λn=>n==32) s f pos st acc)).map (λx=>bR s.data.toList x.1 x.2)=acc.map (λx=>bR s.data.toList x.1 x.2)++cd 32 (Y3 s.data.toList st pos) (s.data.toList.drop pos):=by
 have hlen:s.data.toList.length=s.size:=rfl
 intro f
 induction f with
 | zero =>
  intro pos st acc h1 X h3
  have:pos=s.size:=Z
  subst this
  rw[qG (Z)]
  show(zF s (acc,st)).map _=_
  cases st with
  | none=>unfold zF Y3 cd; simp
  | some a =>
   have ha:=h3 a rfl
   have ku:bR s.data.toList a s.size≠[]:=λe=>by
    have:=congrArg zG e
    unfold bR at this
    simp only[zQ,zP,zT]at this
    omega
   unfold zF Y3 cd
   simp[ku]
 | succ f ih =>
  intro pos st acc h1 X h3
  by_cases hp:pos<s.size
  ·have U:=UO s pos hp
   have wO:pos<s.data.toList.length:=hp
   obtain⟨db1,db2⟩:=BM s pos hp
   have hw:1<=(Utf8.decode s pos).2:=Lib.decode_width_pos s pos hp
   have V:s.data.toList.drop pos=s.get! pos::s.data.toList.drop (pos+1):=by
    rw[List.drop_eq_getElem_cons wO]
    rw[zA wO]at U
    injection U with U
    rw[U]
   unfold qK
   rw[if_pos hp]
   by_cases h32:s.get! pos=32
   ·have z7R:Utf8.decode s pos=(32,1):=by
     have h0:(s[pos]'hp).toNat=32:=by rw[<- get_at s pos hp,zK,h32]; rfl
     rw[decode_ascii s pos hp (Z),h0]
    rw[z7R]
    simp only[beq_self_eq_true,if_true]
    rw[V,h32]
    cases st with
    | none =>
     simp only
     rw[ih (pos+1) none acc (Z) (Z) (λa h=>by cases h)]
     show _=acc.map _++(if(32:UInt8)=32 then(if([]:zn)=[]then cd 32 [] _ else _)else _)
     rw[if_pos rfl,if_pos rfl]
     rfl
    | some a =>
     have ha:=h3 a rfl
     have ku:bR s.data.toList a pos≠[]:=λe=>by
      have:=congrArg zG e
      unfold bR at this
      simp only[zQ,zP,zT]at this
      omega
     simp only
     rw[ih (pos+1) none _ (Z) (Z) (λa h=>by cases h)]
     show _=acc.map _++(if(32:UInt8)=32 then(if bR s.data.toList a pos=[]then _ else bR s.data.toList a pos::cd 32 [] _)else _)
     rw[if_pos rfl,if_neg ku,List.map_append,List.append_assoc]
     rfl
   ·have zqd:((Utf8.decode s pos).1==32)=false:=by
     rw[beq_eq_false_iff_ne]
     by_cases h128:(s[pos]'hp).toNat<128
     ·rw[decode_ascii s pos hp h128]
      intro e
      apply h32
      have h0:(s.get! pos).toNat=(s[pos]'hp).toNat:=by rw[<- get_at s pos hp,zK]
      exact UInt8.toNat_inj.1 (by rw[h0]; exact e)
     ·have:=(decode_high s pos hp (Z)).1
      omega
    rw[zqd]
    simp only[Bool.false_eq_true,if_false]
    generalize (Utf8.decode s pos).2=n at *
    have hch:s.data.toList.drop pos=(s.data.toList.drop pos).take n++s.data.toList.drop (pos+n):=by
     rw[<- List.drop_drop,List.take_append_drop]
    have hno:∀ b∈(s.data.toList.drop pos).take n,b≠32:=λb J=>by
     obtain⟨j,hj,ej⟩:=List.getElem_of_mem J
     simp only[zQ,zP]at hj
     rw[List.getElem_take,List.getElem_drop]at ej
     have hg:=UO s (pos+j) (Z)
     rw[zA (Z)]at hg
     injection hg with hg
     rw[hg]at ej
     rw[<- ej]
     by_cases j0:j=0
     ·subst j0; exact h32
     ·have:=db2 j (Z) (Z)
      intro e
      rw[e]at this
      exact absurd this (qh)
    have fin:∀ a,a<=pos->bR s.data.toList a pos=Y3 s.data.toList st pos->(zF s (qK (λn=>n==32) s f (pos+n) (some a) acc)).map (λx=>bR s.data.toList x.1 x.2)=acc.map (λx=>bR s.data.toList x.1 x.2)++cd 32 (Y3 s.data.toList st pos) (s.data.toList.drop pos):=by
     intro a ha e
     rw[ih (pos+n) (some a) acc (Z) (Z) (λx U=>by cases U; omega),hch,Sn 32 _ _ _ hno]
     show _++cd 32 (bR s.data.toList a (pos+n)) _=_
     rw[z0f _ n ha (Z),e]
    cases st with
    | none=>exact fin pos (Y _) (by unfold bR Y3; rw[Nat.sub_self,List.take_zero])
    | some a=>exact fin a (Nat.le_of_lt (h3 a rfl)) rfl
  ·have:pos=s.size:=Z
   subst this
   rw[Lib.spansFromP_end _ _ _ _ _ _ (Z),qG (Z)]
   cases st with
   | none=>unfold zF Y3 cd; simp
   | some a =>
    have ha:=h3 a rfl
    have ku:bR s.data.toList a s.size≠[]:=λe=>by
     have:=congrArg zG e
     unfold bR at this
     simp only[zQ,zP,zT]at this
     omega
    unfold zF Y3 cd
    simp[ku]
theorem Te(s:ByteArray):(zE (λn=>n==32) s).map (·.data.toList)=cd 32 [] s.data.toList:=by
 have h:=Fy s s.size 0 none [] (Nat.zero_le _) (Z) (λa h=>by cases h)
 unfold zE Lib.spansOfP
 rw[List.map_map]
 refine Eq.trans (List.map_congr_left λx _ => ?_) (h.trans (by rw[List.drop_zero]; rfl))
 show(s.extract x.1 x.2).data.toList=bR s.data.toList x.1 x.2
 rw[Lib.extract_data]
 rfl
theorem BX(chars:zn):∀ l:zn,qE l chars=si l chars
 | []=>rfl
 | b::l=>by simp only[qE,si,BX chars l]
variable [gy]
theorem contains_eq(s sub:zn):Lib.contains s sub=decide ((0:Int)<=V8 s sub):=by
 unfold Lib.contains
 rw[Oz]
theorem RD.z1j{O:KS}{f:Nat}{v:Value}(h:RD O (.wi f []) v)(hf:Nat.blt f 1000000=true):v=.func (.func f) #[] #[]:=by
 cases h with
 | wi _ _ vs B _ =>
  have:vs=[]:=I B.symm
  subst this
  exact D9 hf []
theorem Se{O:KS}{w':World}{A cap:Nat}{t:TypeId}{cur:Array Value}{fz:Nat×Nat}{xs:List zn}(h0:O.w.heap.size<=A)(h1:A<w'.heap.size)(hh:w'.heap[A]? = some (.cells cur t fz))(ju:xs.length<=cap)
  (hc:∀ i (hi:i<xs.length),cur[i]? = some (.string ⟨xs[i].toArray⟩)):RD (O.grown w') (.qj (.sl .str) xs) (.slice (some ⟨A,0,none⟩) xs.length cap):=by
 refine RD.qj (.sl .str) xs [.slice (some ⟨A,0,none⟩) xs.length cap] ?_
 have hf:∀ i,i<xs.length->∃ s,xs.getD i []=s/\cur[i]? = some (.string ⟨s.toArray⟩):=λi hi=>⟨_,rfl,by
  rw[qA,zA hi]; exact hc i hi⟩
 refine Rc.sl .str xs A 0 cap (λi=>[.string ⟨(xs.getD i []).toArray⟩]) (.inr ⟨h0,h1⟩) ju (λi hi => ?_) (λi hi j v hv => ?_)
 ·show Rc _ _ .str xs[i] [.string ⟨(xs.getD i []).toArray⟩]
  rw[qA,zA hi]
  exact Rc.str _
 ·obtain⟨s,e1,e2⟩:=hf i hi
  cases j with
  | succ j=>cases hv
  | zero =>
   have hv:some (zV ⟨(xs.getD i []).toArray⟩)=some v:=hv
   injection hv with hv
   rw[e1]at hv
   subst hv
   show w'.cell? ⟨A,0+i*Ty.size .str+0,none⟩=_
   rw[show 0+i*Ty.size .str+0=i from by show 0+i*1+0=i; omega]
   simp[World.cell?,hh,e2]
theorem z50{O:KS}(s sep:zn)(h1:sep.length=1)(t:TypeId) :
  RD (O.grown (O.w.alloc (.cells ((Lib.splitB ⟨sep.toArray⟩ 0 (zO ⟨s.toArray⟩ ⟨sep.toArray⟩) ⟨s.toArray⟩).map zV).toArray t))) (.qj (.sl .str) (eT (sep.headD 0) s))
   (.slice (some ⟨O.w.heap.size,0,none⟩) (zO ⟨s.toArray⟩ ⟨sep.toArray⟩+1) (zO ⟨s.toArray⟩ ⟨sep.toArray⟩+1)):=by
 obtain⟨c,rfl⟩:∃ c,sep=[c]:=by
  match sep,h1 with
  | [c],_=>exact⟨c,rfl⟩
 have V:=Lib.splitB_data ⟨[c].toArray⟩ 0 (zO ⟨s.toArray⟩ ⟨[c].toArray⟩) ⟨s.toArray⟩
 have he:zZ [c] 0 (qN s [c]) s=eT c s:=IT c s
 have V:(Lib.splitB ⟨[c].toArray⟩ 0 (zO ⟨s.toArray⟩ ⟨[c].toArray⟩) ⟨s.toArray⟩).map (·.data.toList)=eT c s:=V.trans he
 have hlen:=Lib.splitB_all ⟨[c].toArray⟩ (Y 1) 0 (zO ⟨s.toArray⟩ ⟨[c].toArray⟩) ⟨s.toArray⟩ rfl
 generalize Lib.splitB ⟨[c].toArray⟩ 0 (zO ⟨s.toArray⟩ ⟨[c].toArray⟩) ⟨s.toArray⟩=bs at *
 rw[<- hlen]
 show RD _ (.qj (.sl .str) (eT c s)) _
 rw[<- V,show bs.length=(bs.map (·.data.toList)).length from(zH ..).symm]
 refine Se (cur:=(bs.map zV).toArray) (t:=t) (fz:=(0,0)) (Y _) (by show O.w.heap.size<(O.w.heap.push _).size; rw[Array.size_push]; omega) (by show(O.w.heap.push _)[O.w.heap.size]? = _; rw[Array.getElem?_push,if_pos rfl]) (Y _) (λi hi => ?_)
 rw[zH]at hi
 rw[List.getElem?_toArray,zJ,zA hi,List.getElem_map]
 rfl
theorem Tf{O:KS}{w':World}{A:Nat}{t:TypeId}(s:zn)(ho:w'.ownsRow O.w.heap.size t 1 (.slice (some ⟨A,0,none⟩) (zE (λn=>n==32) ⟨s.toArray⟩).length (zE (λn=>n==32) ⟨s.toArray⟩).length) (zE (λn=>n==32) ⟨s.toArray⟩).length ((zE (λn=>n==32) ⟨s.toArray⟩).map zV)) :
  RD (O.grown w') (.qj (.sl .str) (cd 32 [] s)) (.slice (some ⟨A,0,none⟩) (zE (λn=>n==32) ⟨s.toArray⟩).length (zE (λn=>n==32) ⟨s.toArray⟩).length):=by
 have he:(zE (λn=>n==32) ⟨s.toArray⟩).map (·.data.toList)=cd 32 [] s:=Te ⟨s.toArray⟩
 generalize zE (λn=>n==32) ⟨s.toArray⟩=bs at *
 rw[<- he]
 obtain⟨-,⟨h,-⟩ | ⟨g,cap,cur,hv,hg,hh,hn,ju,cm,BW⟩⟩:=ho
 ·cases h
 ·have e1:A=g:=by injection hv with a b c; injection a with a; injection a with a
  have e2:bs.length=cap:=by injection hv
  subst e1
  have wO:A<w'.heap.size:=(Array.getElem?_eq_some_iff.1 hh).1
  have:=Se (O:=O) (xs:=bs.map (·.data.toList)) (cap:=bs.length) hg wO hh (by rw[zH]; exact Y _) (λi hi=>by
   rw[zH]at hi
   have X:(cur.toList.take (bs.length*1))[i]? = (bs.map zV)[i]? := congrArg (λl=>l[i]?) BW
   rw[List.getElem?_take,if_pos (Z),zJ,zA hi]at X
   rw[<- zL,X,List.getElem_map]
   rfl)
  rwa [zH]at this
end Go.AM
namespace Go.Proofs
open Go.Shelf Go.RowKit Go.Lib
variable {P:Program} {ρ:Ren}
set_option maxHeartbeats 8000000 in
set_option maxRecDepth 1000000 in
theorem Any.QC(L:Lays.n152 P ρ)(s:ByteArray)(r:Int)(w:World)(hs:∀ b∈s.data.toList,b.toNat<128)(h1:128<=r)(X:r<=2147483647)(h63:s.size<4294967281) :
  Calls P (ρ.f 152) #[.string s,.int .i32 r] w λe w'=>e=.returned (.int .i64 (-1))/\Below w.heap.size w w':=by
 have mixed:=L.mixed
 have t3:=L.t3; have a3:=L.a3; have z3:=L.z3; have v3:=L.v3
 have t4:=L.t4; have a4:=L.a4; have z4:=L.z4; have v4:=L.v4
 have t5:=L.t5; have a5:=L.a5; have z5:=L.z5; have v5:=L.v5
 have t9:=L.t9; have a9:=L.a9; have z9:=L.z9; have v9:=L.v9
 have t21:=L.t21; have a21:=L.a21; have z21:=L.z21; have v21:=L.v21
 have ztV:∀ args w,(callFunc (ρ.f 137) args).run P w=.ok (.enter (ρ.f 137) args) w:=enters_of L.f137 (by kernel_rfl) rfl
 have ztU:∀ args w,(callFunc (ρ.f 119) args).run P w=.ok (.enter (ρ.f 119) args) w:=enters_of L.f119 (by kernel_rfl) rfl
 have HS:Aside (∀ b∈s.data.toList,b.toNat<128):=hs
 clear hs
 by_cases hE:r=65533
 ·subst hE
  go_enter L.f152,Body.n152_ntmps ρ
  go_wp2
  go_loopg [5,6] s.size (λg _ _ wx=>∃ i:Nat,i+g=s.size/\wx=w.iter s i)
  case atStart=>exact⟨0,Z,rfl⟩
  case round =>
   obtain⟨i,hig,rfl⟩:=hrel
   cases gk with
   | zero =>
    obtain rfl:i=s.size:=Z
    have EG:=run_next_end (P:=P) w s s.size
    go_wp2
    go_ret
    exact⟨rfl,(Below.refl _ _).alloc (Y _) _⟩
   | succ g =>
    have hi:i<s.size:=Z
    obtain⟨x,U⟩:∃ x:UInt8,s[i]'hi=x:=⟨_,rfl⟩
    have Lt:s.data.toList[i]? = some x:=by rw[<- U]; exact Lib.data_getElem? s i hi
    have zbN:x.toNat<128:=HS.out x (zS Lt)
    have EG:=λty=>run_next_ascii (P:=P) w s i ty hi (by rw[U]; exact zbN)
    rw[U]at EG
    have ku:((x.toNat:Int)==65533)=false:=beq_eq_false_iff_ne.2 (Z)
    clear Lt U
    go_wp2
    go_roundg g
    case measure=>omega
    case rel=>exact⟨i+1,Z,rfl⟩
 ·have ku:(r==65533)=false:=beq_eq_false_iff_ne.2 hE
  have c0:decide ((0:Int)<=r)=true:=decide_eq_true (Z)
  have c1:decide (r<128)=false:=decide_eq_false (Z)
  cases hv:Lib.validRune r
  ·go_enter L.f152,Body.n152_ntmps ρ
   go_wp2_with (go_at_fn (ρ.f 119); refine(Any.utf8_ValidRune { L with } _ _).mono ?_; rintro e w' ⟨rfl,hw⟩; rw[hw,hv])
   go_ret
   exact⟨rfl,Below.refl _ _⟩
  ·obtain⟨g1,g2,g3⟩:=encode_facts r (by rw[validRune_eq]; exact hv) h1
   have hu:(P.underlying (ρ.t 21)).isSome=true:=by rw[t21]; rfl
   have u21:=run_underlying L.t21; have u9:=run_underlying L.t9; have u3:=run_underlying L.t3
   go_enter L.f152,Body.n152_ntmps ρ
   go_wp2_with (go_at_fn (ρ.f 119); refine(Any.utf8_ValidRune { L with } _ _).mono ?_; rintro e w' ⟨rfl,hw⟩; rw[hw,hv])
   clear hw
   go_step3
   go_wp2
   obtain⟨m,hm⟩:∃ m:Nat,(Utf8.encode r).size=m+1:=⟨(Utf8.encode r).size-1,Z⟩
   have cm:((Utf8.encode r).size:Int)-1=(m:Int):=Z
   simp only[cm]
   by_cases wO:m<s.size
   ·have B:decide ((m:Int)<(s.size:Int))=true:=decide_eq_true (Z)
    obtain⟨x,U⟩:∃ x:UInt8,s[m]'wO=x:=⟨_,rfl⟩
    obtain⟨y,hy⟩:∃ y:UInt8,(Utf8.encode r)[m]'(Z)=y:=⟨_,rfl⟩
    have zbN:x.toNat<128:=HS.out x (by rw[<- U]; exact zS (Lib.data_getElem? s m wO))
    have ztA:128<=y.toNat:=by rw[<- hy]; have:=g3 (Z); simpa[hm]using this
    have hb0:(0:Int)<=(m:Int)+1:=Z
    have Ls:(m:Int)+1<=(s.size:Int):=Z
    have hn0:¬ ((m:Int)+1<0):=Z
    have Yk:¬ ((s.size:Int)<(m:Int)+1):=Z
    have hxy:((x.toNat:Int)==(y.toNat:Int))=false:=beq_eq_false_iff_ne.2 (Z)
    have hwr:IntKind.i64.wrap ((m:Int)+1)=(m:Int)+1:=wrap_small _ (Z) (Z)
    have On:((y.toNat:Int)).toNat.toUInt8=y:=qw
    have z84:zR (List.take (s.size-(m+1)) (List.drop (m+1) s.data.toList)) y<0:=by
     have Dv:=zY (List.take (s.size-(m+1)) (List.drop (m+1) s.data.toList)) y
     have hc:(List.take (s.size-(m+1)) (List.drop (m+1) s.data.toList)).contains y=false:=by
      rw[qL,decide_eq_false_iff_not]
      intro hm
      have:=HS.out y (List.mem_of_mem_drop (List.mem_of_mem_take hm))
      omega
     rw[hc]at Dv
     have:=ga Dv.symm
     omega
    have hsl:∀ oE:World,(Instr.slice (ρ.t 9) (.string s) (some (.int .i64 ((m:Int)+1))) none none).run P oE=.ok (.string (s.extract (m+1) s.size)) oE:=λoE=>by rw[run_slice_string_from_if oE _ _ _ _ t9,if_pos ⟨hb0,Ls⟩]; rfl
    go_rounds 1
    go_step3
    go_wp2
    go_region_o
    all_goals go_wp2
    all_goals go_region_with_o ((go_at_fn (ρ.f 137); refine(Any.strings_IndexByte { L with } _ _ _).mono ?_; rintro e w' ⟨rfl,hw⟩; rw[hw,On]))
    all_goals go_wp2
    change qQ 2 _ Exit.ret _ _
    go_wp2
    change qQ 0 _ Exit.ret _ _
    go_ret
    exact⟨rfl,⟨rfl,rfl,rfl,Y _,λ_ _=>rfl⟩⟩
   ·have B:decide ((m:Int)<(s.size:Int))=false:=decide_eq_false (Z)
    go_rounds 1
    change qQ 0 _ Exit.ret _ _
    go_ret
    exact⟨rfl,Below.refl _ _⟩
set_option maxHeartbeats 8000000 in
set_option maxRecDepth 1000000 in
theorem Any.ZG(L:Lays.n153 P ρ)(s chars:ByteArray)(w:World)(X:2<=chars.size)(h8:s.size<=8)(Xc:chars.size<4294967281)(hac:∀ b∈chars.data.toList,b.toNat<128) :
  Calls P (ρ.f 153) #[.string s,.string chars] w λe w'=>e=.returned (.int .i64 (qE s.data.toList chars.data.toList))/\Below w.heap.size w w':=by
 have HC:Aside (∀ b∈chars.data.toList,b.toNat<128):=hac
 clear hac
 have zuZ:chars.toList.isEmpty=false:=by
  rw[Lib.toList_data]
  cases h:chars.data.toList with
  | nil=>have:=Lib.size_eq chars; rw[h,zT]at this; omega
  | cons _ _=>rfl
 have Yk:((chars.size:Int)==1)=false:=beq_eq_false_iff_ne.2 (Z)
 have h8z:decide ((8:Int)<(s.size:Int))=false:=decide_eq_false (Z)
 have t3:=L.t3; have a3:=L.a3; have z3:=L.z3; have v3:=L.v3
 have t4:=L.t4; have a4:=L.a4; have z4:=L.z4; have v4:=L.v4
 have t5:=L.t5; have a5:=L.a5; have z5:=L.z5; have v5:=L.v5
 have t9:=L.t9; have a9:=L.a9; have z9:=L.z9; have v9:=L.v9
 have t21:=L.t21; have a21:=L.a21; have z21:=L.z21; have v21:=L.v21
 have ztW:∀ args w,(callFunc (ρ.f 152) args).run P w=.ok (.enter (ρ.f 152) args) w:=enters_of L.f152 (by kernel_rfl) rfl
 have ztY:∀ args w,(callFunc (ρ.f 226) args).run P w=.ok (.enter (ρ.f 226) args) w:=enters_of L.f226 (by kernel_rfl) rfl
 go_enter L.f153,Body.n153_ntmps ρ
 go_wp2_with (go_at_fn (ρ.f 226); refine(Any.strings_shouldUseASCIISet { L with } _ _).mono ?_; rintro e w' ⟨rfl,hw⟩; rw[hw,h8z])
 go_loopw [9,10] (λ_ _ wr=>∃ pos:Nat,wr.heap[w.heap.size]? = some (.stringIter s pos)/\Below w.heap.size w wr/\pos<=s.size/\Lib.NoAny s.data.toList chars.data.toList pos) (λ_ _ wr=>s.size-wr.iterPos w.heap.size)
 case atStart=>exact⟨0,World.iter_heap w s 0,(Below.refl _ w).alloc (Y _) _,Nat.zero_le _,Lib.NoAny.zero _ _⟩
 case round =>
  obtain⟨pos,hit,hbw,hps,hno⟩:=hrel
  have HN:Aside (Lib.NoAny s.data.toList chars.data.toList pos):=hno
  clear hno
  have zbI:=iterPos_of hit
  by_cases hp:pos<s.size
  ·have EG:∀ ty,(Instr.next (.pointer (some ⟨w.heap.size,0,none⟩)) true ty).run P wr=_:=λty=>Lib.run_next_any_at wr w.heap.size s pos ty hit hp
   have Mz:=Lib.iterAt_heap wr w.heap.size s pos (pos+(Utf8.decode s pos).2) hit
   have z2k:=Lib.below_iterAt hbw (k:=w.heap.size) (Y _) s (pos+(Utf8.decode s pos).2)
   obtain⟨W1,hW1⟩:∃ W1,W1=wr.iterAt w.heap.size s (pos+(Utf8.decode s pos).2):=⟨_,rfl⟩
   rw[<- hW1]at EG Mz z2k
   have zhQ:=lt_of_block Mz
   have hwd:=Lib.decode_width_pos s pos hp
   obtain⟨db1,db2⟩:=Go.AM.BM s pos hp
   have Lt:=Go.AM.UO s pos hp
   clear hW1 hit hbw
   by_cases h128:(s[pos]'hp).toNat<128
   ·have z7R:=decode_ascii s pos hp h128
    rw[z7R]at EG Mz hwd
    have YC:s.get! pos=s[pos]'hp:=by rw[<- get_at s pos hp,zK]
    rw[YC]at Lt
    generalize s[pos]'hp=x at *
    have Dv:=zY chars.data.toList x
    have On:((x.toNat:Int)).toNat.toUInt8=x:=qw
    have Hx:Aside (s.data.toList[pos]? = some x):=Lt
    clear Lt z7R db2 YC
    cases K3:chars.data.toList.contains x
    ·rw[K3]at Dv
     have wO:¬ ((0:Int)<=zR chars.data.toList x):=ga Dv.symm
     clear Dv
     go_wp2_with (go_at_fn (ρ.f 152); refine(Any.strings_IndexRune_ascii { L with } _ _ _ (Z) (Z)).mono ?_; rintro e w' ⟨rfl,hw⟩; rw[hw,On])
     go_roundw
     case rel=>exact⟨pos+1,Mz,z2k,Z,HN.out.succ Hx.out K3⟩
     case measure=>rw[iterPos_of Mz,zbI]; omega
    ·rw[K3]at Dv
     have hge:(0:Int)<=zR chars.data.toList x:=uC Dv.symm
     clear Dv
     go_wp2_with (go_at_fn (ρ.f 152); refine(Any.strings_IndexRune_ascii { L with } _ _ _ (Z) (Z)).mono ?_; rintro e w' ⟨rfl,hw⟩; rw[hw,On])
     go_ret
     exact⟨by rw[Lib.indexAny_hit HN.out Hx.out K3]; rfl,z2k⟩
   ·have hr1:(128:Int)<=((Utf8.decode s pos).1:Int):=by have:=(decode_high s pos hp (Z)).1; omega
    have hr2:((Utf8.decode s pos).1:Int)<=2147483647:=by have:=decode_le s pos; omega
    have HN2:Aside (Lib.NoAny s.data.toList chars.data.toList (pos+(Utf8.decode s pos).2)):=λj b hj J=>by
     by_cases h:j<pos
     ·exact HN.out j b h J
     ·have hg:=Go.AM.UO s j (Z)
      rw[hg]at J
      injection J with J
      have zt4:128<=b.toNat:=by
       rw[<- J]
       by_cases h0:j=pos
       ·subst h0
        have YC:s.get! j=s[j]'hp:=by rw[<- get_at s j hp,zK]
        rw[YC]; omega
       ·have:=db2 (j-pos) (Z) (Z)
        rwa [show pos+(j-pos)=j by omega]at this
      rw[qL,decide_eq_false_iff_not]
      intro hm
      have:=HC.out b hm
      omega
    clear Lt db2 HN
    generalize (Utf8.decode s pos).1=r at *
    generalize (Utf8.decode s pos).2=n at *
    go_wp2_with (go_at_fn (ρ.f 152); refine(Any.QC { L with } _ _ _ HC.out hr1 hr2 Xc).mono ?_; rintro e w' ⟨rfl,hB⟩)
    go_roundw
    case rel=>exact⟨pos+n,by rw[hB.block _ zhQ]; exact Mz,z2k.trans (hB.mono z2k.size),Z,HN2.out⟩
    case measure=>rw[iterPos_of ((hB.block _ zhQ).trans Mz),zbI]; omega
  ·obtain rfl:pos=s.size:=Z
   have EG:∀ ty,(Instr.next (.pointer (some ⟨w.heap.size,0,none⟩)) true ty).run P wr=_:=λty=>Lib.run_next_end_at wr w.heap.size s s.size ty hit (Z)
   go_wp2
   go_ret
   exact⟨by rw[Lib.indexAny_none (by rw[<- Lib.size_eq]; exact HN.out)]; rfl,hbw⟩
theorem Any.Wb(L:Lays.n153 P ρ)(hv116:∀ w,(zeroValue (ρ.t 116)).run P w=.ok (.agg (qI 256 (.bool false))) w)(zif:(P.info? (ρ.t 116)).map (·.size)=some 256)(s chars:ByteArray)(w:World)(X:2<=chars.size)(hs:s.size<4294967281)(Xc:chars.size<4294967281)
  (hac:∀ b∈chars.data.toList,b.toNat<128) :
  Calls P (ρ.f 153) #[.string s,.string chars] w λe w'=>e=.returned (.int .i64 (qE s.data.toList chars.data.toList))/\Below w.heap.size w w':=by
 by_cases h8:s.size<=8
 ·exact Any.ZG L s chars w X h8 Xc hac
 ·refine(Any.strings_IndexAny_long L hv116 zif s chars w (Z) (Z) hs Xc λj b h=>hac b (zS h)).mono λe w' ⟨h1,X⟩=>⟨h1,?_⟩
  rw[X]
  exact((Below.refl _ _).alloc (Y _) _).alloc (qw) _
end Go.Proofs