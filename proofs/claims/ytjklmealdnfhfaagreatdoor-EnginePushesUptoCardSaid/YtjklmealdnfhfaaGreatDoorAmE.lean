/-
  The abstract machine, part E: texts of our own, the same for each claim.
-/
import Derived.Test.YtjklmealdnfhfaaGreatDoorAmD
import Derived.Below
import Derived.Lib.Repeat
import Derived.Lib.ItoaNum
import Derived.Lib.IndexMore
import Derived.Lib.AsciiSet
import Derived.Lib.Strings
import Derived.Sort.Grow
import Derived.Deep.Draws
import Derived.Test.YtjklmealdnfhfaaGreatDoorAmA
import Derived.Lib.Builder
import Derived.Recover
import Derived.Lib.Split
import Derived.Lib.SplitLaws
import Derived.Lib.FieldsP
import Derived.Lib.IndexAny
import Derived.Laws.RangeAny
import Derived.Lib.RuneCount
import Derived.Laws.AppendOwn
import Derived.Shelf.Strings.IndexAnyAll
import Derived.Laws.Runes
import Derived.Shelf.Small.Utf8
import Derived.WalkMore
import Derived.Handy
import Derived.Shelf.RegionOpenPlain
import Derived.WalkSmall
import Derived.Lib.OthersKept
set_option linter.unusedVariables false
open List renaming getElem?_eq_getElem -> zA, eq_nil_of_length_eq_zero -> X, length -> zG, length_map -> zH, getElem?_map -> zJ, length_drop -> zP, length_take -> zQ, mem_of_getElem? -> zS, length_nil -> zT, getD_eq_getElem?_getD -> qA, append_eq_nil_iff -> qF, drop_of_length_le -> qG, contains_eq_mem -> qL, range_eq_range' -> qM
open Nat renaming le_refl -> Y, le_of_ble_eq_true -> V, add_zero -> zK, eq_of_beq_eq_true -> zM, beq -> zU, lt_of_lt_of_le -> qB, ble -> qC, add_comm -> qR
open Go.Lib renaming goFieldsP -> zE, closeSpans -> zF, index -> zI, countB -> zO, indexByte -> zR, contains_iff_indexByte -> zY, splitK -> zZ, cell_of_heap -> qD, indexAny -> qE, spansFromP -> qK, count -> qN, count_hit -> qP
open Array renaming getElem?_toList -> zL, replicate -> qI, toArray_toList -> qJ, length_toList -> qO
open Bool renaming and_eq_true -> zN
open Go.Value renaming string -> zV
open Go.World renaming freeze -> zW
open False renaming elim -> zX
open Go.RowKit renaming Below -> qH
open Go.Exit renaming inBlock -> qQ
open Go.Deferred renaming ofValue -> qS
namespace Go.AM
set_option linter.unusedSectionVars false
variable [yY]
open Go.RowKit
theorem nH{P:Program}{g:Nat}{fn:Func}{args:Array Value}(hf:P.funcs[g]? = some fn) (hn:(fn.name == "runtime.NumGoroutine")=false) (I:fn.body.isNone=false) (w:World) :
  (callFunc g args).run P w=.ok (.enter g args) w:=uS hf hn I w
def KS.grown(O:KS)(w':World):KS:={ O with w:=w',ok:=λk=>O.ok k\/(O.w.heap.size<=k/\k<w'.heap.size) }
theorem Ek{O:KS}{w':World}(B:Inv O)(vX:O.st=[])(hB:Below O.w.heap.size O.w w'):Inv (O.grown w')/\Ext O (O.grown w'):=by
 have GG:O.ph=[]:=X (by rw[B.len,vX]; rfl)
 have N:Ext O (O.grown w'):=⟨hB.os,hB.tape,hB.output,hB.size,λk hk=>⟨.inl hk,hB.block k (B.bJ k hk)⟩,λk hk=>hk.elim .inl λh=>.inr (.inl h.1),λ_ _ _ h=>.inl h,λb d h=>xy,
   λb v0 e xs h=>xy,λb h=>xy,Y _,λk hk _=>hB.block k hk⟩
 refine⟨⟨B.len,λk hk=>hk.elim (λh=>qB (B.bJ k h) hB.size) (·.2),λb blk n I => ?_,B.inj,λb x I => ?_,B.gl.mono N.same⟩,N⟩
 ·have:O.ph[b]? = some (some (blk,n)):=I
  grind
 ·have:O.st[b]? = some x:=I
  grind
theorem jC{P:Program}{g:Nat}{fn:Func}{d:Dy}(hf:P.funcs[g]? = some fn) (hn:(fn.name == "runtime.NumGoroutine")=false) (I:fn.body.isNone=false)
  (H:∀ (O:KS) (x:dT d.ps) (xb:List Value) (y:Dj d.rs),(d.F x).leads y->Inv O->wN O (Jf d.ps x) xb ->
   Calls P g xb.toArray O.w λe w'=>Below O.w.heap.size O.w w'/\(Ext O (O.grown w')->jd (O.grown w') (.ret (U8 d.rs y)) e)):q8 P g d:=by
 intro O x xb y vX hy B ha
 refine .inl ⟨nH hf hn I O.w,(H O x xb y hy B ha).mono ?_⟩
 rintro e w' ⟨hB,he⟩
 obtain⟨h1,N⟩:=Ek B vX hB
 exact⟨O.grown w',rfl,vX,h1,N,he N⟩
theorem My(u:Nat):Lib.decDigits u=DZ u:=by
 induction u using Nat.strongRecOn with
 | _ u ih =>
  rw[Lib.decDigits,DZ]
  grind
theorem z13(n:Int):Lib.itoa n=Yp n:=by
 unfold Lib.itoa Yp
 rw[My,My]
theorem Ic(w:World)(k:Nat)(os:Array Obj):qH w.heap.size w (Go.Sort.grow (w.drewN k) os):=by
 refine⟨rfl,rfl,rfl,?_,λb I => ?_⟩
 ·simp
 ·show(w.heap++os)[b]? = w.heap[b]?
  grind
theorem below_drewN(w:World)(k:Nat):qH w.heap.size w (w.drewN k):=⟨rfl,rfl,rfl,Y _,λ_ _=>rfl⟩
theorem Zn(w:World):qH w.heap.size w w:=⟨rfl,rfl,rfl,Y _,λ_ _=>rfl⟩
theorem Js(w:World)(o:Obj):qH w.heap.size w (w.alloc o):=by
 refine⟨rfl,rfl,rfl,?_,λb I => ?_⟩
 ·simp
 ·show(w.heap.push o)[b]? = w.heap[b]?
  grind
theorem MP(s sub:zx):zI s sub=Yk s sub:=by
 induction s with
 | nil=>rfl
 | cons b l ih=>simp only[zI,Yk,ih]
theorem z6a(s:zx)(c:UInt8):zR s c=VZ s c:=by
 induction s with
 | nil=>rfl
 | cons b l ih=>simp only[zR,VZ,ih]
theorem TO(s sep:zx):Lib.cut s sep=DY s sep:=by
 unfold Lib.cut DY
 rw[MP]
theorem Mn{w:World}{ok:Nat->Prop}(f:Nat->Bool):∀ (n k:Nat),Rc w ok (mO .bool n) (Rb (e:=.bool) f n k) ((List.range' k n).map λj=>Value.bool (f j))
 | 0,_=>.nil
 | n+1,k=>by
  exact Rc.cons .bool (mO .bool n) (f k) (Rb (e:=.bool) f n (k+1)) [Value.bool (f k)] _ (.bool _) (Mn f n (k+1))
theorem Tn{O:KS}(s:zx):RD O (.qj (mO .bool 256) (lH s)) (.agg (Lib.setCells s)):=by
 have h:=RD.qj (O:=O) (mO .bool 256) (lH s) _ (Mn (λj=>s.contains (UInt8.ofNat j)) 256 0)
 have e:pk (mO .bool 256) ((List.range' 0 256).map λj=>Value.bool (s.contains (UInt8.ofNat j)))=.agg (Lib.setCells s):=by
  unfold pk
  rw[show(mO .bool 256).isAgg=true from rfl,Lib.setCells_eq]
  show Value.agg (List.toArray _)=_
  congr 1
  apply Array.ext'
  rw[Array.toList_map,Array.toList_range,qM]
 grind
theorem RD.z8Q{O:KS}{a b:D}{u v:Value}(h:RD O a u)(k:RD O b v):RD O (.eD [a,b]) (.tuple #[u,v]):=by
 have:=wN.cons h (wN.cons k wN.nil)
 exact .eD [a,b] [u,v] this.1 this.2
theorem RD.zp6{O:KS}{a b c:D}{u v z:Value}(h:RD O a u)(k:RD O b v)(l:RD O c z):RD O (.eD [a,b,c]) (.tuple #[u,v,z]):=by
 have:=wN.cons h (wN.cons k (wN.cons l wN.nil))
 exact .eD [a,b,c] [u,v,z] this.1 this.2
theorem Pf(l:List UInt8):∀ c,Lib.repeatL l c=CX l c
 | 0=>rfl
 | c+1=>by simp[Lib.repeatL,CX,Pf l c]
end Go.AM
namespace Go.AM
set_option linter.unusedSectionVars false
variable [yY]
open Go.RowKit
theorem Fo{w:World}{blk:Nat}{cs:Array Value}{t:TypeId}{fz:Nat×Nat}{v:Value}(h:w.heap[blk]? = some (.cells cs t fz)):w.setCell ⟨blk,0,none⟩ v=w.setRow blk (cs.setIfInBounds 0 v):=by
 unfold World.setCell World.setRow
 congr 1
 grind
def Il(t:Nat):List It:=[.v (.st [.op 0 t,.row 1 (.int .u8)]),.a (.int .u8)]
def Tu(t:Nat):List Bk:=[.var (.st [.op 0 t,.row 1 (.int .u8)]),.arr (.int .u8)]
def ccD(t:Nat):gZ:=⟨[.ptr],⟨Il t,[(0,.ptr 0 0)],Tu t⟩,[],⟨Il t,[],Tu t⟩,0,λx=>.ret x⟩
theorem C5{P:Program}{g t:Nat}(Yf:∀ args w,(callFunc g args).run P w=.ok (.enter g args) w)
  (zgp:∀ (b:Nat) (w:World),w.cell? ⟨b,0,none⟩=some (.pointer (some ⟨b,0,none⟩))->Calls P g #[.pointer (some ⟨b,0,none⟩)] w λe w'=>e=.returned (.tuple #[])/\w'=w)
  (zbw:∀ (b:Nat) (w:World),w.cell? ⟨b,0,none⟩=some (.pointer none)->w.shape? b=some (t,2)->w.frozen? ⟨b,0,none⟩=false ->
   Calls P g #[.pointer (some ⟨b,0,none⟩)] w λe w'=>e=.returned (.tuple #[])/\w'=w.setCell ⟨b,0,none⟩ (.pointer (some ⟨b,0,none⟩))):xr P g (ccD t):=by
 intro O x xb y vX hy B hlen hR
 cases hy
 have h0:O.st[0]? = some (.var (.agg [.ed 0 t,.ms 1 (zG x.2) (.int .u8) 0 (zG x.2)])):=by rw[vX]; rfl
 obtain⟨blk,n,cs,t',p1,p2,p3,p4,p5⟩:=B.blk 0 _ h0
 obtain rfl:t'=t:=p5.2 t rfl
 obtain⟨v0,hv0,hd0⟩:=hR.get 0 (.ptr 0 0) rfl
 have hv:v0=.pointer (some ⟨blk,0,none⟩):=by
  cases hd0 with
  | ptr _ _ pG n' d J hp=>grind
 have fk:xb.toArray = #[.pointer (some ⟨blk,0,none⟩)]:=by
  match xb,hlen with
  | [a],_ =>
   grind
 obtain⟨pv,us,QB,g1,g2⟩:=wN.cons_inv p4
 obtain⟨bv,us',hus,g3,g4⟩:=wN.cons_inv g2
 have:=g4.wb
 subst this
 subst hus
 have GR:cs = #[pv,bv]:=by rw[<- qJ (xs:=cs),QB]
 subst GR
 have z0I:∀ E:KS,jd E (.ret []) (.returned (.tuple #[])):=λE=>⟨.tuple #[],rfl,.eD [] [] rfl (λi h=>absurd h (Nat.not_lt_zero i))⟩
 refine .inl ⟨Yf _ _,?_⟩
 rw[fk]
 have used:pv=.pointer (some ⟨blk,0,none⟩)->Calls P g #[.pointer (some ⟨blk,0,none⟩)] O.w λe w'=>∃ (E:KS) (ds:List D),E.w=w'/\E.st=(ccD t').out.st x/\Inv E/\Ext O E/\oO 0 ((ccD t').out.fr x)=some ds/\jd E (.ret ds) e:=by
  intro hpv
  refine(zgp blk O.w (by rw[qD p2,hpv]; rfl)).mono ?_
  rintro e w' ⟨rfl,rfl⟩
  exact⟨O,[],rfl,vX,B,Ext.refl O,rfl,z0I O⟩
 cases g1 with
 | np _ _ pG n' d J hp=>rw[p1]at hp; cases hp; exact used rfl
 | nn _ _ d J =>
  refine(zbw blk O.w (by rw[qD p2]; rfl) (by simp[World.shape?,p2]) (by simp[World.frozen?,p2])).mono ?_
  rintro e w' ⟨rfl,rfl⟩
  rw[Fo p2]
  have hex:=UH (cs := #[.pointer (some ⟨blk,0,none⟩),bv]) (x:=.var (.agg [.ed 0 t',.ms 1 (zG x.2) (.int .u8) 0 (zG x.2)])) B p1 h0 trivial
  refine⟨O.upd 0 blk #[.pointer (some ⟨blk,0,none⟩),bv] (.var (.agg [.ed 0 t',.ms 1 (zG x.2) (.int .u8) 0 (zG x.2)])),[],rfl,?_,UI B p1 h0 trivial ?_,hex,rfl,z0I _⟩
  ·show O.st.set 0 _=_
   rw[Gg h0]; exact vX
  ·refine⟨blk,n,_,t',p1,setRow_heap _ _ _ _ _ _ p2,p3,?_,p5⟩
   refine .cons (.np 0 t' blk n _ (by show(O.st.set 0 _)[0]? = _; rw[Gg h0]; exact h0) p1) (.cons (g3.mono hex) .nil)
def z39(t:Nat):gZ:=⟨[.ptr],⟨Il t,[(0,.ptr 0 0)],Tu t⟩,[],⟨[.s 0 (.qj .str),.v (.st [.op 0 t,.un])],[],[.var (.st [.op 0 t,.un]),.dead]⟩,1,
 λx=>z3a x.2⟩
theorem z3b{O:KS}{w':World}{t:Nat}{xs:List Int}(vX:O.st=[.var (.agg [.ed 0 t,.ms 1 xs.length (.int .u8) 0 xs.length]),.arr xs.length (.int .u8) xs])(B:Inv O)
  (h1:w'.os=O.w.os) (M:w'.tape=O.w.tape) (h3:w'.output=O.w.output) (h4:O.w.heap.size<=w'.heap.size)
  (h5:∀ k,k<O.w.heap.size->(∀ n:Nat,O.ph[1]? ≠ some (some (k,n)))->w'.heap[k]? = O.w.heap[k]?) :
  ∃ E:KS,E.w=w'/\E.st=[.var (.agg [.ed 0 t,.WH]),.dead]/\Inv E/\Ext O E:=by
 have b0:O.st[0]? = some (.var (.agg [.ed 0 t,.ms 1 xs.length (.int .u8) 0 xs.length])):=by rw[vX]; rfl
 have b1:O.st[1]? = some (.arr xs.length (.int .u8) xs):=by rw[vX]; rfl
 have hlen:O.st.length=2:=by rw[vX]; rfl
 let E:KS:={ O with w:=w',st:=[.var (.agg [.ed 0 t,.WH]),.dead] }
 have hk:∀ k,O.ok k->w'.heap[k]? = O.w.heap[k]? := λk hk=>h5 k (B.bJ k hk) λn h=>(B.apart 1 k n h).2 hk
 have VY:I3 O.w w' O.ok O.ok:=λk h=>⟨h,hk k h⟩
 have N:Ext O E:=by
  refine⟨h1,M,h3,h4,VY,λk h=>.inl h,λ_ _ _ h=>.inl h,λb d h=>⟨?_,rfl⟩,λb v0 e Vq h=>.inl ?_,λb h => ?_,by show O.st.length<=2; omega,λk hk hn=>h5 k hk (hn 1)⟩
  ·grind
  ·grind
  ·grind
 refine⟨E,rfl,rfl,⟨by show O.ph.length=2; rw[B.len,hlen],λk h=>qB (B.bJ k h) h4,λb blk n h=>⟨qB (B.apart b blk n h).1 h4,(B.apart b blk n h).2⟩,B.inj,λb y I => ?_,B.gl.mono VY⟩,N⟩
 match b,I with
 | 0,I =>
  cases I
  obtain⟨blk,n,cs,t',p1,p2,p3,p4,p5⟩:=B.blk 0 _ b0
  have kf:∀ m:Nat,O.ph[1]? ≠ some (some (blk,m)):=λm h=>by
   have:=B.inj 0 1 blk n m p1 h
   omega
  refine⟨blk,n,cs,t',p1,(h5 blk (B.apart 0 blk n p1).1 kf).trans p2,p3,?_,?_,λT hT=>p5.2 T hT⟩
  ·obtain⟨pv,us,QB,g1,g2⟩:=wN.cons_inv p4
   obtain⟨bv,us',hus,g3,g4⟩:=wN.cons_inv g2
   have:=g4.wb
   subst this
   subst hus
   rw[QB]
   refine .cons (g1.mono N) (.cons (.WH bv (g3.KB rfl)) .nil)
  ·intro x GH
   simp only[xx,List.mem_cons,List.not_mem_nil,or_false]at GH
   rcases GH with rfl | rfl<;>rfl
 | 1,I=>cases I; trivial
 | b+2,I=>simp[E]at I
theorem Rg{n:Int}(h0:0<=n)(h1:n<256):(((byteOf n).toNat:Nat):Int)=n:=by
 unfold byteOf
 have:(UInt8.ofNat n.toNat).toNat=n.toNat:=by
  rw[UInt8.toNat_ofNat']
  omega
 grind
theorem LN{P:Program}{g t:Nat}(Yf:∀ args w,(callFunc g args).run P w=.ok (.enter g args) w)
  (Yh:∀ (b:Nat) (p:Value) (w:World),w.heap[b]? = some (.cells #[p,.slice none 0 0] t (0,0))->Calls P g #[.pointer (some ⟨b,0,none⟩)] w λe w'=>e=.returned (.string ⟨#[]⟩)/\w'=w.drew)
  (Qr:∀ (b g' o cap:Nat) (p:Value) (w:World),cap≠0->w.heap[b]? = some (.cells #[p,.slice (some ⟨g',o,none⟩) 0 cap] t (0,0))->Calls P g #[.pointer (some ⟨b,0,none⟩)] w λe w'=>e=.returned (.string ⟨#[]⟩)/\w'=w.drew)
  (z0L:∀ (b g' cap:Nat) (p:Value) (cur:Array Value) (l:List UInt8) (w:World),l≠[]->l.length<=cap->l.length<=140737488355328->w.heap[b]? = some (.cells #[p,.slice (some ⟨g',0,none⟩) l.length cap] t (0,0)) ->
   w.heap[g']? = some (.cells cur Wm.u8 (0,0))->l.length<=cur.size->(∀ j x,l[j]? = some x->w.cell? ⟨g',j,none⟩=some (.int .u8 x.toNat)) ->
   Calls P g #[.pointer (some ⟨b,0,none⟩)] w λe w'=>e=.returned (.string ⟨l.toArray⟩)/\w'=w.drew.freeze ⟨g',0,none⟩ l.length)
  (Cp:∀ (b g' o:Nat) (p:Value) (cur:Array Value) (w:World),w.heap[b]? = some (.cells #[p,.slice (some ⟨g',o,none⟩) 0 0] t (0,0))->w.heap[g']? = some (.cells cur Wm.u8 (0,0)) ->
   Calls P g #[.pointer (some ⟨b,0,none⟩)] w λe w'=>e=.returned (.string ⟨#[]⟩)/\w'=w.drew.alloc (.view ⟨g',o,none⟩ Wm.u8)) 
  {O:KS} {xb:List Value} {xs:List Int} (z5Z:O.st=[.var (.agg [.ed 0 t,.ms 1 xs.length (.int .u8) 0 xs.length]),.arr xs.length (.int .u8) xs])
  (Cl:∀ n∈xs,(0:Int)<=n/\n<256) (hmax:xs.length<=140737488355328) (B:Inv O) (hlen:xb.length=1) (J:∃ v,xb.toArray[0]? = some v/\RD O (.ptr 0 0) v) :
  gy P g xb.toArray O.w λe w'=>∃ (E:KS) (ds:List D),E.w=w'/\E.st=(z39 t).out.st (kA xs,())/\Inv E/\Ext O E/\oO 1 ((z39 t).out.fr (kA xs,()))=some ds/\jd E (.ret ds) e:=by
 have h0:O.st[0]? = some (.var (.agg [.ed 0 t,.ms 1 (xs.length) (.int .u8) 0 (xs.length)])):=by rw[z5Z]; rfl
 have h1:O.st[1]? = some (.arr (xs.length) (.int .u8) xs):=by rw[z5Z]; rfl
 obtain⟨blk,n,cs,t',p1,p2,p3,p4,p5⟩:=B.blk 0 _ h0
 obtain rfl:t'=t:=p5.2 t rfl
 obtain⟨v0,hv0,hd0⟩:=J
 have hv:v0=.pointer (some ⟨blk,0,none⟩):=by
  cases hd0 with
  | ptr _ _ pG n' d J hp=>grind
 have fk:xb.toArray = #[.pointer (some ⟨blk,0,none⟩)]:=by
  grind
 obtain⟨pv,us,QB,g1,g2⟩:=wN.cons_inv p4
 obtain⟨bv,us',hus,g3,g4⟩:=wN.cons_inv g2
 have:=g4.wb
 subst this
 subst hus
 have GR:cs = #[pv,bv]:=by rw[<- qJ (xs:=cs),QB]
 subst GR
 refine .inl ⟨Yf _ _,?_⟩
 rw[fk]
 have fin:∀ (w':World) (s:zx),s=kA xs->w'.os=O.w.os->w'.tape=O.w.tape->w'.output=O.w.output->O.w.heap.size<=w'.heap.size ->
   (∀ k,k<O.w.heap.size->(∀ n:Nat,O.ph[1]? ≠ some (some (k,n)))->w'.heap[k]? = O.w.heap[k]?) ->
   ∃ (E:KS) (ds:List D),E.w=w'/\E.st=(z39 t').out.st (kA xs,())/\Inv E/\Ext O E/\oO 1 ((z39 t').out.fr (kA xs,()))=some ds/\jd E (.ret ds) (.returned (.string ⟨s.toArray⟩)):=by
  intro w' s hs q1 q2 q3 q4 q5
  subst hs
  obtain⟨E,k1,k2,k3,k4⟩:=z3b z5Z B q1 q2 q3 q4 q5
  exact⟨E,[.qj .str (kA xs)],k1,k2,k3,k4,rfl,_,rfl,RD.str⟩
 have hnn:(kA xs).length=xs.length:=zH _
 cases g3 with
 | ms _ _ _ _ _ cap a I jg ha Ws hm =>
  obtain⟨hle,hm⟩:=hm xs h1
  rcases hm with⟨hz,_,hv',hp⟩ | ⟨z52,n1,o,VD,hp,hv',zfB,bI,ho⟩
  ·rw[hv']at p2
   have Kv:xs=[]:=X hz
   refine(Yh blk pv O.w p2).mono ?_
   rintro e w' ⟨rfl,rfl⟩
   exact fin _ [] (by rw[Kv]; rfl) rfl rfl rfl (Y _) (λ_ _ _=>rfl)
  ·cases hv'
   obtain⟨_,⟨hnl,hpn⟩ | ⟨zlO,n2,cs2,T2,r1,r2,r3,r4,r5,f,r6⟩⟩:=B.blk 1 _ h1
   ·grind
   ·rw[hp]at r1
    cases r1
    have hT:=r5 rfl
    subst hT
    by_cases hc0:cap=0
    ·subst hc0
     have hz:xs.length=0:=Z
     have Kv:xs=[]:=X hz
     rw[hz]at p2
     refine(Cp blk z52 o pv cs2 O.w p2 r2).mono ?_
     rintro e w' ⟨rfl,rfl⟩
     refine fin _ [] (by rw[Kv]; rfl) rfl rfl rfl (qz) (λk hk _ => ?_)
     exact Lib.alloc_old O.w.drew _ k hk
    ·by_cases hz:xs.length=0
     ·have Kv:xs=[]:=X hz
      rw[hz]at p2
      refine(Qr blk z52 o cap pv O.w hc0 p2).mono ?_
      rintro e w' ⟨rfl,rfl⟩
      exact fin _ [] (by rw[Kv]; rfl) rfl rfl rfl (Y _) (λ_ _ _=>rfl)
     ·have ho':o=0:=by
       rcases ho with ho | ho
       ·exact absurd ho hc0
       ·simpa using ho
      subst ho'
      have kf:kA xs≠[]:=λe=>hz (by rw[<- hnn,e]; rfl)
      have zfX:xs.length<=cs2.size:=by
       have:=r4
       simp only[Ty.size,Nat.mul_one]at this
       omega
      refine(z0L blk z52 cap pv cs2 (kA xs) O.w kf (by rw[hnn]; exact jg) (by rw[hnn]; exact hmax) (by rw[hnn]; exact p2) r2 (by rw[hnn]; exact zfX) ?_).mono ?_
      ·intro j c hj
       have MJ:j<xs.length:=by rw[<- hnn]; exact(List.getElem?_eq_some_iff.1 hj).1
       obtain⟨q1,q2⟩:=r6 j MJ
       have:=q2 0 (.int .u8 xs[j]) (by rw[q1.dM]; rfl)
       simp only[Ty.size,Nat.mul_one,zK]at this
       have hc:c=byteOf xs[j]:=by
        unfold kA at hj
        rw[zJ,zA MJ]at hj
        exact(Option.some.inj hj).symm
       obtain⟨b0,b1⟩:=Cl xs[j] (List.getElem_mem MJ)
       rw[qD r2,hc,Rg b0 b1]
       exact this
      ·rintro e w' ⟨rfl,rfl⟩
       refine fin _ _ rfl ?_ ?_ ?_ ?_ ?_
       ·unfold zW; split<;>rfl
       ·unfold zW; split<;>rfl
       ·unfold zW; split<;>rfl
       ·unfold zW
        split
        ·exact Y _
        ·show O.w.heap.size<=(Array.modify _ _ _).size
         rw[Array.size_modify]; exact Y _
       ·intro k hk hn
        have znb:k≠z52:=λe=>hn n1 (e▸hp)
        unfold zW
        split
        ·rfl
        ·show(Array.modify _ _ _)[k]? = _
         rw[Array.getElem?_modify,if_neg (λe=>znb e.symm)]
         rfl
theorem SM{P:Program}{g t:Nat}(Yf:∀ args w,(callFunc g args).run P w=.ok (.enter g args) w)
  (Yh:∀ (b:Nat) (p:Value) (w:World),w.heap[b]? = some (.cells #[p,.slice none 0 0] t (0,0))->Calls P g #[.pointer (some ⟨b,0,none⟩)] w λe w'=>e=.returned (.string ⟨#[]⟩)/\w'=w.drew)
  (Qr:∀ (b g' o cap:Nat) (p:Value) (w:World),cap≠0->w.heap[b]? = some (.cells #[p,.slice (some ⟨g',o,none⟩) 0 cap] t (0,0))->Calls P g #[.pointer (some ⟨b,0,none⟩)] w λe w'=>e=.returned (.string ⟨#[]⟩)/\w'=w.drew)
  (z0L:∀ (b g' cap:Nat) (p:Value) (cur:Array Value) (l:List UInt8) (w:World),l≠[]->l.length<=cap->l.length<=140737488355328->w.heap[b]? = some (.cells #[p,.slice (some ⟨g',0,none⟩) l.length cap] t (0,0)) ->
   w.heap[g']? = some (.cells cur Wm.u8 (0,0))->l.length<=cur.size->(∀ j x,l[j]? = some x->w.cell? ⟨g',j,none⟩=some (.int .u8 x.toNat)) ->
   Calls P g #[.pointer (some ⟨b,0,none⟩)] w λe w'=>e=.returned (.string ⟨l.toArray⟩)/\w'=w.drew.freeze ⟨g',0,none⟩ l.length)
  (Cp:∀ (b g' o:Nat) (p:Value) (cur:Array Value) (w:World),w.heap[b]? = some (.cells #[p,.slice (some ⟨g',o,none⟩) 0 0] t (0,0))->w.heap[g']? = some (.cells cur Wm.u8 (0,0)) ->
   Calls P g #[.pointer (some ⟨b,0,none⟩)] w λe w'=>e=.returned (.string ⟨#[]⟩)/\w'=w.drew.alloc (.view ⟨g',o,none⟩ Wm.u8)):xr P g (z39 t):=by
 intro O x xb y vX hy B hlen hR
 obtain⟨⟨Cl,hmax⟩,hy⟩:=(show(z3a x.2).leads y from hy)
 have hy':(kA x.2,())=y:=hy
 subst hy'
 exact LN Yf Yh Qr z0L Cp (xs:=x.2) vX Cl hmax B hlen (hR.get 0 (.ptr 0 0) rfl)
end Go.AM
namespace Go.AM
set_option linter.unusedSectionVars false
variable [yY]
open Go.RowKit
def Me(P:Program):Td:=λg args w hl=>(callFunc g args).run P w=.ok (.enter g args) w/\CallsD P g args .returning w λe u' w'=>settle u'=.returning/\hl e w'
def R1(P:Program)(t:Nat):Td:=λg args w hl=>∀ (zs:List Value) (v:Value),args=(zs++[v]).toArray->(callFunc g zs.toArray).run P w=.ok (.enter g zs.toArray) w /\
 CallsD P g zs.toArray (.panicking [{ v:=.iface t v,recovered:=false }]) w λe u' w'=>settle u'=.returning/\hl e w'
theorem Me.mono{P:Program}{g:Nat}{a:Array Value}{w:World}{hl R':Ending->World->Prop}(h:Me P g a w hl)(hr:∀ e w',hl e w'->R' e w'):Me P g a w R' :=
 ⟨h.1,h.2.mono λe u' w' hh=>⟨hh.1,hr e w' hh.2⟩⟩
theorem R1.mono{P:Program}{t g:Nat}{a:Array Value}{w:World}{hl R':Ending->World->Prop}(h:R1 P t g a w hl)(hr:∀ e w',hl e w'->R' e w'):R1 P t g a w R' :=
 λzs v e=>⟨(h zs v e).1,(h zs v e).2.mono λe u' w' hh=>⟨hh.1,hr e w' hh.2⟩⟩
def G9(ops:Array Oper):Option (Nat×Nat):=match ops.toList with
 | [o1,o2]=>match o1.dst,o1.op,o1.guard with
  | some t1,.call ⟨.builtin .recover,_,_⟩,none=>match o2.dst,o2.op,o2.guard with
   | some t2,.assign (.tmp t),none=>bif zU t t1 then some (t1,t2)else none
   | _,_,_=>none
  | _,_,_=>none
 | _=>none
def zgD(t:Option Nat)(n:Nat):Nat:=match t with | none=>n | some _=>n+1
def zcU(t:Option Nat)(n:Nat)(fr:Fr):Option D:=match t with
 | none=>some .v8
 | some t=>match fr.get n with | some p=>some (.iface t p) | none=>none
section
variable (c:Ctx) (tab:lF)
def K7(fn:Func)(m:Nat)(out:ur)(nr:Nat)(fr:Fr)(st:St):T out.den :=
 (nq c fr st fn.results.toList).bind λds=>WG out m nr ds st
def evH(H:Hints)(fn:Func)(ops:Array Oper)(b:Code)(d:gZ)(n:Nat)(t:Option Nat)(x:d.sh.den):T d.out.den :=
 bif qC n fn.ntmps&&qC d.sh.bs.length d.out.bs.length&&zU d.ks.length (zgD t n)then match G9 ops,zcU t n (d.sh.fr x)with
  | some (t1,t2),some rc=>bif Nat.blt t1 fn.ntmps&&Nat.blt t2 fn.ntmps then
    Vu c tab fn.ntmps H b ((t2,some rc)::(t1,some rc)::(n,none)::d.sh.fr x) [] (d.sh.st x) λo=>match o.ex with
     | .normal=>K7 c fn (d.sh.st x).length d.out d.nr o.fr o.st
     | .ret=>K7 c fn (d.sh.st x).length d.out d.nr o.fr o.st
     | _=>.fail
   else .fail
  | _,_=>.fail
 else .fail
def UU:List Oper->Option (List Oper×Operand×List Operand)
 | []=>none
 | [o]=>match o.op,o.guard,o.dst with
  | .defer ⟨.value f,args,_⟩,none,none=>some ([],f,args.toList)
  | _,_,_=>none
 | o::r=>match UU r with | some (l,z)=>some (o::l,z) | none=>none
structure Dfd where
 g:Nat
 d0:gZ
 pt:Nat
 d1:gZ
def evD(n:Nat)(H:Hints)(h:Dfd)(fn:Func)(m:Nat)(out:ur)(nr:Nat):Code->Fr->Kn->St->T out.den
 | .seq a b,fr,kn,st=>match opsOf a with
  | some ops=>match UU ops.toList with
   | some (pre,f,args)=>KF c tab n ops pre ⟨fr,kn,st,[],[]⟩ (λs=>match bq s.fr f,gA (args.map (bq s.fr))with
     | some (.wh g caps),some l=>bif zU (ea g) h.g then
       Vu c tab n H b s.fr s.kn s.st λo=>match o.ex with
        | .normal=>h.d0.K (bH g l caps) o.st λ_ qm=>K7 c fn m out nr (o.fr++(oi (wG b)++s.fr)) qm
        | .ret=>h.d0.K (bH g l caps) o.st λ_ qm=>K7 c fn m out nr (o.fr++(oi (wG b)++s.fr)) qm
        | .hZ (.iface t p)=>bif zU t h.pt then h.d1.K (bH g l caps++[p]) o.st λ_ qm=>K7 c fn m out nr (o.fr++(oi (wG b)++s.fr)) qm else .fail
        | _=>.fail
      else .fail
     | _,_=>.fail) (λ_ _=>.fail)
   | none=>Vu c tab n H a fr kn st λr=>match r.ex with
    | .normal=>evD n H h fn m out nr b r.fr r.kn r.st
    | .ret=>K7 c fn m out nr r.fr r.st
    | _=>.fail
  | none=>Vu c tab n H a fr kn st λr=>match r.ex with
   | .normal=>evD n H h fn m out nr b r.fr r.kn r.st
   | .ret=>K7 c fn m out nr r.fr r.st
   | _=>.fail
 | _,_,_,_=>.fail
def TY(H:Hints)(h:Dfd)(fn:Func)(code:Code)(d:gZ)(x:d.sh.den):T d.out.den :=
 bif qC d.ks.length fn.ntmps&&qC d.sh.bs.length d.out.bs.length then evD c tab fn.ntmps H h fn (d.sh.st x).length d.out d.nr code (d.sh.fr x) [] (d.sh.st x)else .fail
end
section
variable {P:Program} {xid:Nat} {tab:lF} {ro:Nat->Bool} {n:Nat} {H:Hints}
theorem Lx{ops:Array Oper}{t1 t2:Nat}(hr:G9 ops=some (t1,t2)){Q:Exit->Act->List Frame->World->Prop}{a:Act}{cs:List Frame}{w:World}{id:Nat}(h1:t1<a.tmps.size)
  (h:Q .normal ((a.put (some t1) ((recoverD cs).elim .nilIface (·.1))).put (some t2) ((recoverD cs).elim .nilIface (·.1))) ((recoverD cs).elim cs (·.2)) w):(Code.region id ops false).wpS P Q a cs w:=by
 unfold G9 at hr
 split at hr
 ·rename_i o1 o2 hops
  split at hr
  ·rename_i t1' args sw hd1 ho1 T0
   split at hr
   ·rename_i t2' t hd2 ho2 hg2
    cases I:zU t t1' with
    | false=>grind
    | true =>
     rw[I,cond_true]at hr
     cases hr
     have:=zM I
     subst this
     obtain⟨d1,op1,ty1,zcQ,zaO,g1⟩:=o1
     obtain⟨d2,op2,BE,z8w,zaP,g2⟩:=o2
     subst hd1 ho1 T0 hd2 ho2 hg2
     have bI:ops.size=2:=by rw[<- qO,hops]; rfl
     have e0:ops[0]? = some ⟨some t,.call ⟨.builtin .recover,args,sw⟩,ty1,zcQ,zaO,none⟩:=by rw[<- zL,hops]; rfl
     have e1:ops[1]? = some ⟨some t2,.assign (.tmp t),BE,z8w,zaP,none⟩:=by rw[<- zL,hops]; rfl
     have zbK:List.range 2=[0,1]:=rfl
     have ev1:∀ v,((a.put (some t) v).eval (.tmp t))=v:=λv=>by simp[Act.eval,Act.put,h1]
     refine wpS_region ?_
     rw[bI,zbK]
     simp only[wpOpsS,e0,e1]
     cases hrec:recoverD cs with
     | none =>
      rw[hrec]at h
      simp only[execOp,ev1]
      exact h
     | some z =>
      rw[hrec]at h
      simp only[execOp,ev1]
      exact h
   ·cases hr
  ·cases hr
 ·cases hr
theorem z0H(hm:(gO P xid tab ro).P.follows .mixedOrders=true)(hT:ek P tab){f:Nat}{fn:Func}{id:Nat}{ops:Array Oper}{b:Code}(hf:P.funcs[f]? = some fn)(I:fn.body=some (.seq (.region id ops false) b))
  (hL:gz P fn.ntmps H b) {d:gZ} {k:Nat} {t:Option Nat} {x:d.sh.den} {y:d.out.den} (hy:(evH (gO P xid tab ro) tab H fn ops b d k t x).leads y) {O:KS} (vX:O.st=d.sh.st x) (B:Inv O)
  {zs:List Value} (hk:zs.length=k) {u:FrameMode} {rv:Value} (hrv:∀ rc,zcU t k (d.sh.fr x)=some rc->RD O rc rv)
  (hu:∀ (c₀:Frame) (cs:List Frame),c₀.mode=u->(recoverD (c₀::cs)).elim .nilIface (·.1)=rv/\∃ u',(recoverD (c₀::cs)).elim (c₀::cs) (·.2)={ c₀ with mode:=u' }::cs/\settle u'=.returning)
  (hR:∀ s dd,(d.sh.fr x).get s=some dd->s≠k->∃ v,zs[s]? = some v/\RD O dd v) :
  CallsD P f zs.toArray u O.w λe u' w'=>settle u'=.returning/\∃ (E:KS) (ds:List D),E.w=w'/\E.st=d.out.st y/\Inv E/\Ext O E/\oO d.nr (d.out.fr y)=some ds/\jd E (.ret ds) e:=by
 unfold evH at hy
 cases hc:qC k fn.ntmps&&qC d.sh.bs.length d.out.bs.length&&zU d.ks.length (zgD t k)with
 | false=>rw[hc]at hy; exact zX hy
 | true =>
 rw[hc,cond_true]at hy
 simp only[zN]at hc
 have RE:=V hc.1.1
 have hc2:=V hc.1.2
 split at hy
 ·rename_i t1 t2 rc hrs Ds
  cases hcc:Nat.blt t1 fn.ntmps&&Nat.blt t2 fn.ntmps with
  | false=>rw[hcc]at hy; exact zX hy
  | true =>
  rw[hcc,cond_true]at hy
  simp only[zN]at hcc
  have zgi:=hrv rc Ds
  refine callsD_of_wpS hf I λc₀ cs hc₀ => ?_
  obtain⟨hv,u',QB,nU⟩:=hu c₀ cs hc₀
  have h1:t1<fn.ntmps:=V hcc.1
  have M:t2<fn.ntmps:=V hcc.2
  have z0Y:zs.length+(fn.ntmps-zs.length)=fn.ntmps:=Z
  let a0:Act:={ tmps:=zs.toArray++qI (fn.ntmps-zs.toArray.size) undef,defers:=[] }
  have hR0:Rel O fn.ntmps (Fr.get ((k,none)::d.sh.fr x)) a0:=by
   refine⟨by simp[a0]; omega,rfl,λs dd hs => ?_⟩
   simp only[Fr.get]at hs
   cases hks:zU k s with
   | true=>grind
   | false =>
    rw[hks,cond_false]at hs
    obtain⟨v,g1,g2⟩:=hR s dd hs (λe=>by subst e; simp at hks)
    grind
  have HI:Rel O fn.ntmps (Fr.get ((t2,some rc)::(t1,some rc)::(k,none)::d.sh.fr x)) ((a0.put (some t1) rv).put (some t2) rv):=by
   have g1:=hR0.put (dst:=some t1) (d:=some rc) (v:=rv) hcc.1 (λd' eb=>by cases eb; exact zgi)
   have g2:=g1.put (dst:=some t2) (d:=some rc) (v:=rv) hcc.2 (λd' eb=>by cases eb; exact zgi)
   have e1:=ZI ((k,none)::d.sh.fr x) (some t1) (some rc)
   have e2:=ZI ((t1,some rc)::(k,none)::d.sh.fr x) (some t2) (some rc)
   rw[<- e1]at g2
   have g3:Rel O fn.ntmps (dQ (Fr.get ((t1,some rc)::(k,none)::d.sh.fr x)) (some t2) (some rc)) ((a0.put (some t1) rv).put (some t2) rv):=g2
   rw[<- e2]at g3
   exact g3
  refine wpS_seq (Lx hrs (by simp; omega) ?_)
  rw[hv,QB]
  show b.wpS P _ _ _ _
  refine wpS_of_wp ?_
  rw[<- vX]at hy
  refine QY hm hT b hL (O:=O) hy B HI (nd _) _ λo sI a' κe e0 e1 e2 e3 e4 _ _ _ e6 => ?_
  have fin:(sI=.normal\/sI=.ret)->(K7 (gO P xid tab ro) fn O.st.length d.out d.nr o.fr o.st).leads y ->
    bodyPostS P fn c₀ cs (λe u' w'=>settle u'=.returning/\∃ (E:KS) (ds:List D),E.w=w'/\E.st=d.out.st y/\Inv E/\Ext O E/\oO d.nr (d.out.fr y)=some ds/\jd E (.ret ds) e) sI a' ({ c₀ with mode:=u' }::cs) κe.w:=by
   intro hex z0K
   obtain⟨v,k1,E,ds,q1,q2,q3,q4,q5,q6⟩:=G1 B e1 e2 e3 e4 (by rw[vX]; exact Nat.le_trans (ur.Xv _ _) hc2) z0K
   have JF:a'.defers=[]/\∃ u'',({ c₀ with mode:=u' }::cs:List Frame)={ c₀ with mode:=u'' }::cs/\∃ v,(results fn a'.tmps).run P κe.w=.ok v κe.w/\settle u''=.returning /\
     ∃ (E:KS) (ds:List D),E.w=κe.w/\E.st=d.out.st y/\Inv E/\Ext O E/\oO d.nr (d.out.fr y)=some ds/\jd E (.ret ds) (.returned v) :=
    ⟨e4.defers,u',rfl,v,k1,nU,E,ds,q1,q2,q3,q4,q5,q6⟩
   rcases hex with rfl | rfl
   ·exact JF
   ·exact JF
  cases GF:o.ex<;>rw[GF]at e0 e6<;>simp only at e0
  ·exact fin (.inl e6) e0
  ·exact zX e0
  ·exact fin (.inr e6) e0
  ·exact zX e0
 ·exact zX hy
theorem z5J(hm:(gO P xid tab ro).P.follows .mixedOrders=true)(hT:ek P tab){f:Nat}{fn:Func}{id:Nat}{ops:Array Oper}{b:Code}(hf:P.funcs[f]? = some fn)(I:fn.body=some (.seq (.region id ops false) b))
  (hn:(fn.name == "runtime.NumGoroutine")=false) (hL:gz P fn.ntmps H b) {d:gZ} (h:∀ x,evH (gO P xid tab ro) tab H fn ops b d d.ks.length none x=d.F x):cB (Me P) f d:=by
 intro O x xb y vX hy B hlen hR
 rw[<- h]at hy
 refine⟨uS hf hn (xy) O.w,z0H hm hT hf I hL hy vX B hlen (u:=.returning) (rv:=.nilIface) (λrc Ds=>by cases Ds; exact .v8) (λc₀ cs hc => ?_) λs dd hs _ => ?_⟩
 ·have:recoverD (c₀::cs)=none:=by simp only[recoverD,hc]
  rw[this]
  exact⟨rfl,.returning,by rw[<- hc]; rfl,rfl⟩
 ·obtain⟨v,h1,M⟩:=hR.get s dd hs
  grind
theorem z5I(hm:(gO P xid tab ro).P.follows .mixedOrders=true)(hT:ek P tab){f:Nat}{fn:Func}{id:Nat}{ops:Array Oper}{b:Code}(hf:P.funcs[f]? = some fn)(I:fn.body=some (.seq (.region id ops false) b))
  (hn:(fn.name == "runtime.NumGoroutine")=false) (hL:gz P fn.ntmps H b) {d:gZ} {k t:Nat} (hk:d.ks.length=k+1) (h:∀ x,evH (gO P xid tab ro) tab H fn ops b d k (some t) x=d.F x):cB (R1 P t) f d:=by
 intro O x xb y vX hy B hlen hR zs v hc
 have hc:xb=zs++[v]:=by simpa using hc
 subst hc
 rw[<- h]at hy
 have Ku:zs.length=k:=by simp at hlen; omega
 refine⟨uS hf hn (xy) O.w,z0H hm hT hf I hL hy vX B Ku (rv:=.iface t v) (λrc Ds => ?_) (λc₀ cs hc => ?_) λs dd hs hsk => ?_⟩
 ·simp only[zcU]at Ds
  split at Ds
  ·rename_i p hp
   cases Ds
   obtain⟨u,h1,M⟩:=hR.get k p hp
   have:u=v:=by
    grind
   subst this
   exact .iface t p u M
  ·cases Ds
 ·have:recoverD (c₀::cs)=some (.iface t v,{ c₀ with mode:=.panicking [{ v:=.iface t v,recovered:=true }] }::cs):=by simp only[recoverD,hc]
  rw[this]
  exact⟨rfl,_,rfl,rfl⟩
 ·obtain⟨u,h1,M⟩:=hR.get s dd hs
  grind
theorem F7{p:Value}{g:Nat}{us vs:List Value}{w:World}(EA:p=Qx g us):∃ (fv:Fn) (cap zs:Array Value),(qS p vs.toArray).run P w=.ok ⟨.fn fv cap,zs⟩ w /\
  (invoke (.fn fv cap) zs).run P w=(callFunc (ea g) (bH g vs us).toArray).run P w/\∀ w',(invoke (.fn fv cap) zs).run P w'=(callFunc (ea g) (bH g vs us).toArray).run P w':=by
 subst EA
 unfold Qx ea bH
 cases I:qC 1000000 g with
 | true =>
  have key:∀ w',(invoke (.fn (.func (g % 1000000)) #[]) (us.toArray++vs.toArray)).run P w'=(callFunc (g % 1000000) (us++vs).toArray).run P w':=λw'=>by simp[invoke]
  exact⟨.func (g % 1000000),#[],us.toArray++vs.toArray,by rfl,key w,key⟩
 | false =>
  have key:∀ w',(invoke (.fn (.func g) us.toArray) vs.toArray).run P w'=(callFunc g (vs++us).toArray).run P w':=λw'=>by simp[invoke]
  exact⟨.func g,us.toArray,vs.toArray,by simp[qS],key w,key⟩
theorem QP:∀ {l:List Oper} {pre:List Oper} {f:Operand} {args:List Operand},UU l=some (pre,f,args)->∃ o zs sw,l=pre++[o]/\o.op=.defer ⟨.value f,zs,sw⟩/\zs.toList=args/\o.guard=none/\o.dst=none
 | [],pre,f,args,h=>by cases h
 | [o],pre,f,args,h=>by
  simp only[UU]at h
  grind
 | o::p::r,pre,f,args,h=>by
  simp only[UU]at h
  split at h
  ·rename_i l z hz
   obtain⟨o',zs,sw,e,g1,g2,g3,g4⟩:=QP hz
   grind
  ·cases h
theorem E0{c:Ctx}{O:KS}{a:Act}{id:Nat}{ops:Array Oper}{pre:List Oper}{f:Operand}{args:List Operand}{fr:Fr}{kn:Kn}{s1:oq}{g:Nat}{caps l:List D}(hC:∀ g,Di c.P g (c.fn g))(B:Inv O)(hR:Rel O n fr.get a)(hk:yC kn fr.get)
  (J:UU ops.toList=some (pre,f,args)) (jM:(tA c n ops pre ⟨fr,kn,O.st,[],[]⟩).leads s1) (hf:bq s1.fr f=some (.wh g caps)) (R:gA (args.map (bq s1.fr))=some l) {Q:Exit->Act->World->Prop}
  (hQ:∀ (a':Act) (E:KS) (fv:Fn) (cap zs:Array Value) (xb:List Value),E.st=s1.st->Inv E->Ext O E->Rel E n s1.fr.get a'->yC s1.kn s1.fr.get->pE ops a a'->wN E (bH g l caps) xb ->
   (∀ w',(invoke (.fn fv cap) zs).run c.P w'=(callFunc (ea g) xb.toArray).run c.P w')->Q .normal { a' with defers:=⟨.fn fv cap,zs⟩::a'.defers } E.w):(Code.region id ops false).wp c.P Q a O.w:=by
 obtain⟨o,oas,sw,e,ho,fk,hg,z5L⟩:=QP J
 have RG:∀ j:Nat,ops[j]? = (pre++[o])[j]? := λj=>by rw[<- e]; simp
 obtain⟨ks,g1,g2,_⟩:=rT pre 0 ⟨fr,kn,O.st,[],[]⟩ s1 (λj=>by
  by_cases hj:j<pre.length
  ·grind
  ·right; omega) hk jM
 have bI:List.range ops.size=List.range' 0 pre.length++[pre.length]:=by
  have:ops.size=pre.length+1:=by rw[<- qO,e]; simp
  rw[this,qM,<- List.range'_append_1,Nat.zero_add]; rfl
 refine wp_region ?_
 rw[bI]
 refine Jj hC _ _ B hR rfl g1 λa' E e1 e2 e3 e4 e5 => ?_
 rw[wpOps_cons]
 unfold wpOp
 have hoi:ops[pre.length]? = some o:=by rw[RG]; simp
 rw[hoi]
 obtain⟨dst,op,ty,pos,after,guard⟩:=o
 simp only at ho hg z5L
 subst ho hg z5L
 simp only[Region.wanted,if_true]
 have lv:∀ (x:Operand) (z:D),bq s1.fr x=some z->RD E z (a'.eval x):=λx z hz=>e4.eval (by rw[<- ig]; exact hz)
 have hpv:=lv f _ hf
 have hr:=fA (O:=E) (vs:=oas.toList.map a'.eval) R (by simp[<- fk]) (λi d v J hv=>by
      rw[<- fk]at J
      simp only[zJ]at J hv
      cases hi:oas.toList[i]? with
      | none=>grind
      | some x=>rw[hi]at J hv; simp at J hv; subst hv; exact lv x d J)
 generalize EA:a'.eval f=pv at hpv
 cases hpv with
 | wh _ _ us ZL hh2 =>
  obtain⟨fv,cap,zs,k1,k2,k3⟩:=F7 (P:=c.P) (vs:=oas.toList.map a'.eval) (w:=E.w) (rfl:Qx g us=Qx g us)
  refine .inl ?_
  unfold Oper.wp
  have N:(execOp a'.eval ⟨none,.defer ⟨.value f,oas,sw⟩,ty,pos,after,none⟩).run c.P E.w=.ok (.defer ⟨.fn fv cap,zs⟩) E.w:=by
   have e9:oas.map a'.eval=(oas.toList.map a'.eval).toArray:=by apply Array.ext'; simp
   simp only[execOp,resolve,EA,e9,Sem.run_bind,k1,Result.andThen_ok,Sem.run_pure]
  rw[N]
  exact hQ a' E fv cap zs _ e1 e2 e3 e4 g2 e5 (Y1 g hr (⟨ZL,hh2⟩:wN E caps us)) k3
def Mk(κ0:KS)(out:ur)(nr:Nat)(y:out.den):Ending->World->Prop:=λe w'=>∃ (E:KS) (ds:List D),E.w=w'/\E.st=out.st y/\Inv E/\Ext κ0 E/\oO nr (out.fr y)=some ds/\jd E (.ret ds) e
theorem WV{κ0 κ2:KS}{fn:Func}{out:ur}{nr:Nat}{y:out.den}{fr:Fr}{qm:St}{tm:Array Value}(hO:Inv κ0)(e1:κ2.st=qm)(e2:Inv κ2)(e3:Ext κ0 κ2)(e4:Rel κ2 fn.ntmps fr.get { tmps:=tm,defers:=[] })(hlen:κ0.st.length<=out.bs.length)
  (h:(K7 (gO P xid tab ro) fn κ0.st.length out nr fr qm).leads y):Leaves P fn tm (Mk κ0 out nr y) [] .returning κ2.w:=by
 obtain⟨v,k1,E,ds,q1,q2,q3,q4,q5,q6⟩:=G1 (o:=⟨.ret,fr,[],qm,false⟩) hO e1 e2 e3 e4 hlen h
 exact⟨v,k1,E,ds,q1,q2,q3,q4,q5,q6⟩
theorem KA{code:Code}(h:ua code=[])[Hk]:gz P n H code:=λp hp=>by rw[h]at hp; cases hp
theorem z2M{O:KS}{f:F}{a:Act}(D:Hk)(h : @Rel D O n f a) : @Rel Y7 O n f { tmps:=a.tmps,defers:=[] } := @Rel.mk Y7 O n f _ (@Rel.size D O n f a h) rfl (@Rel.get D O n f a h)
theorem Bo{O E:KS}{f:F}{a:Act}(x:Ext O E)(h : @Rel Y7 O n f a) : @Rel Y7 E n f a:=h.mono x
theorem zcV{O:KS}{f:F}{a:Act}(h : @Rel Y7 O n f a)(l:List Deferred) : @Rel ⟨l⟩ O n f { a with defers:=l } := @Rel.mk ⟨l⟩ O n f _ h.size rfl h.get
theorem zb1(hm:(gO P xid tab ro).P.follows .mixedOrders=true)(hT:ek P tab){h:Dfd}(h0:cB (Me P) h.g h.d0)(h1:cB (R1 P h.pt) h.g h.d1){fn:Func}{out:ur}{nr:Nat}{y:out.den}{κ0:KS}(hO:Inv κ0)(hlen:κ0.st.length<=out.bs.length) :
  ∀ (code:Code),ua code=[]->∀ {fr:Fr} {kn:Kn} {O:KS} {a:Act},(evD (gO P xid tab ro) tab fn.ntmps H h fn κ0.st.length out nr code fr kn O.st).leads y->Inv O->Ext κ0 O->Rel O fn.ntmps fr.get a->yC kn fr.get ->
   code.wp P (bodyPostD P fn (Mk κ0 out nr y)) a O.w:=by
 intro code
 induction code with
 | seq x b ix ib =>
  intro R fr kn O a hy B N hR hk
  have hlx:ua x=[]:=by simp only[ua,qF]at R; exact R.1
  have hlb:ua b=[]:=by simp only[ua,qF]at R; exact R.2
  have plain:(Vu (gO P xid tab ro) tab fn.ntmps H x fr kn O.st λr=>match r.ex with
    | .normal=>evD (gO P xid tab ro) tab fn.ntmps H h fn κ0.st.length out nr b r.fr r.kn r.st
    | .ret=>K7 (gO P xid tab ro) fn κ0.st.length out nr r.fr r.st
    | _=>.fail).leads y->(Code.seq x b).wp P (bodyPostD P fn (Mk κ0 out nr y)) a O.w:=by
   intro hy
   refine wp_seq (QY hm hT x (KA hlx) (O:=O) hy B hR hk _ λo sI a' E e0 e1 e2 e3 e4 SX _ _ e6 => ?_)
   cases hex:o.ex<;>rw[hex]at e0 e6<;>simp only at e0
   ·cases e6
    exact ib hlb (O:=E) (e1▸e0) e2 (N.trans e3) e4 SX
   ·exact e0.elim
   ·cases e6
    show Leaves P fn a'.tmps _ a'.defers .returning E.w
    rw[show a'.defers=[]from e4.defers]
    exact WV hO e1 e2 (N.trans e3) (z2M Y7 e4) hlen e0
   ·exact e0.elim
  simp only[evD]at hy
  split at hy
  ·rename_i ops hops
   obtain⟨id,rfl⟩:∃ id,x=.region id ops false:=by
    cases x with
    | region id ops' draw =>
     cases draw with
     | true=>cases hops
     | false=>cases hops; exact⟨id,rfl⟩
    | _=>cases hops
   split at hy
   ·rename_i pre f args J
    have GY:∀ o∈pre,∃ i:Nat,ops[i]? = some o:=λo ho=>by
     obtain⟨o',oas,sw,e,_⟩:=QP J
     have:o∈ops.toList:=by rw[e]; exact List.mem_append_left _ ho
     obtain⟨i,hi,he⟩:=List.getElem_of_mem this
     exact⟨i,by rw[<- he]; simp at hi; simp[hi]⟩
    rcases Vk pre hk GY hy with⟨s1,jM,hy⟩ | ⟨_,_,_,hy⟩
    rotate_left
    ·exact hy.elim
    split at hy
    ·rename_i g caps l hf R
     cases hg:zU (ea g) h.g with
     | false=>rw[hg]at hy; exact hy.elim
     | true =>
     rw[hg,cond_true]at hy
     have hgg:=zM hg
     refine wp_seq (E0 (c:=gO P xid tab ro) (CE hT) B hR hk J jM hf R λa' κ1 fv cap zs xb e1 e2 e3 e4 SX e5 e6 e7 => ?_)
     show b.wp P _ _ κ1.w
     have hdf:a'.defers=[]:=e4.defers
     rw[hdf]
     let D:Hk:=⟨[⟨.fn fv cap,zs⟩]⟩
     have hRD : @Rel D κ1 fn.ntmps s1.fr.get { a' with defers:=[⟨.fn fv cap,zs⟩] }:=zcV e4 _
     rw[<- e1]at hy
     refine @QY _ D P xid tab ro fn.ntmps H hm hT b (@KA _ P fn.ntmps H b hlb D) s1.fr s1.kn κ1 _ _ _ y hy e2 hRD SX _ λo sI a2 κe f0 f1 f2 f3 f4 HE f5 _ f6 => ?_
     have zfG:a2.defers=[⟨.fn fv cap,zs⟩] := @Rel.defers D κe fn.ntmps _ a2 f4
     have hRa : @Rel Y7 κe fn.ntmps (Fr.get (o.fr++(oi (wG b)++s1.fr))) { tmps:=a2.tmps,defers:=[] }:=z2M D (@Wa _ D fn.ntmps κ1 κe s1.fr o.fr _ a2 (wG b) hRD f3 f4 f5)
     have z0w:wN κe (bH g l caps) xb:=wN.mono f3 e6
     have zfK:∀ (cs:Array Value) (w':World),cs=xb.toArray->(callFunc h.g cs).run P w'=.ok (.enter h.g cs) w'->(invoke (.fn fv cap) zs).run P w'=.ok (.enter h.g cs) w':=λcs w' QB hc=>by
      refine(e7 w').trans ?_
      rw[hgg,<- QB]; exact hc
     have zed:(h.d0.K (bH g l caps) o.st λ_ qm=>K7 (gO P xid tab ro) fn κ0.st.length out nr (o.fr++(oi (wG b)++s1.fr)) qm).leads y->Leaves P fn a2.tmps (Mk κ0 out nr y) a2.defers .returning κe.w:=by
      intro hK
      obtain⟨ds,qm,k1,k2⟩:=gZ.Te hK
      rw[<- f1]at k1
      obtain⟨d1,d2⟩:=gZ.zd3 (Dr:=Me P) Me.mono h0 κe _ xb _ _ k1 f2 z0w
      rw[zfG]
      refine leaves_cons (by nofun) (zfK _ _ rfl d1) (d2.mono ?_)
      rintro e u' w' ⟨nU,κ2,rfl,g2,g3,g4,v,rfl,_⟩
      show Leaves P fn a2.tmps _ [] (settle u') κ2.w
      rw[nU]
      exact WV hO g2 g3 ((N.trans (e3.trans f3)).trans g4) (Bo g4 hRa) hlen k2
     cases GF:o.ex<;>rw[GF]at f0 f6
     ·cases f6; exact zed f0
     ·exact f0.elim
     ·cases f6; exact zed f0
     ·rename_i pd
      obtain⟨v,rfl,hv⟩:=f6
      cases pd<;>first | exact zX f0 | skip
      rename_i t p
      have f00:(bif zU t h.pt then h.d1.K (bH g l caps++[p]) o.st λ_ qm=>K7 (gO P xid tab ro) fn κ0.st.length out nr (o.fr++(oi (wG b)++s1.fr)) qm else .fail).leads y:=f0
      clear f0
      cases ht:zU t h.pt with
      | false=>rw[ht]at f00; exact f00.elim
      | true =>
      rw[ht,cond_true]at f00
      have:=zM ht
      subst this
      cases hv with
      | iface _ _ u hu =>
       obtain⟨ds,qm,k1,k2⟩:=gZ.Te f00
       rw[<- f1]at k1
       obtain⟨d1,d2⟩:=gZ.zd3 (Dr:=R1 P h.pt) R1.mono h1 κe _ (xb++[u]) _ _ k1 f2 (z0w.append (wN.cons hu wN.nil)) xb u rfl
       show Leaves P fn a2.tmps _ a2.defers _ κe.w
       rw[zfG]
       refine leaves_cons (by nofun) (zfK _ _ rfl d1) (d2.mono ?_)
       rintro e u' w' ⟨nU,κ2,rfl,g2,g3,g4,v,rfl,_⟩
       show Leaves P fn a2.tmps _ [] (settle u') κ2.w
       rw[nU]
       exact WV hO g2 g3 ((N.trans (e3.trans f3)).trans g4) (Bo g4 hRa) hlen k2
    ·exact hy.elim
   ·exact plain hy
  ·exact plain hy
 | _=>intro _ fr kn O a hy; exact hy.elim
theorem zb4(hm:(gO P xid tab ro).P.follows .mixedOrders=true)(hT:ek P tab){h:Dfd}(h0:cB (Me P) h.g h.d0)(h1:cB (R1 P h.pt) h.g h.d1){f:Nat}{fn:Func}{code:Code}(hf:P.funcs[f]? = some fn)(I:fn.body=some code)
  (hn:(fn.name == "runtime.NumGoroutine")=false) (hL:ua code=[]) {d:gZ} (he:∀ x,TY (gO P xid tab ro) tab H h fn code d x=d.F x):xr P f d:=by
 intro O x xb y vX hy B hlen hR0
 rw[<- he]at hy
 unfold TY at hy
 cases hle:qC d.ks.length fn.ntmps&&qC d.sh.bs.length d.out.bs.length with
 | false=>rw[hle]at hy; exact hy.elim
 | true =>
  rw[hle,cond_true]at hy
  simp only[zN]at hle
  have zfV:=V hle.1
  have z0Q:=V hle.2
  refine .inl ⟨uS hf hn (xy) O.w,calls_of_wp_defers hf I ?_⟩
  have hR:Rel O fn.ntmps (d.sh.fr x).get { tmps:=xb.toArray++qI (fn.ntmps-xb.toArray.size) undef,defers:=[] }:=by
   refine⟨xy,rfl,λs e hs => ?_⟩
   obtain⟨v,h1,M⟩:=hR0.get s e hs
   grind
  rw[<- vX]at hy
  exact zb1 hm hT h0 h1 (κ0:=O) B (by rw[vX]; exact Nat.le_trans (ur.Xv _ _) z0Q) code hL (O:=O) hy B (Ext.refl O) hR (nd _)
end
end Go.AM
namespace Go.AM
theorem J6(c b:UInt8)(l:List UInt8):zI (b::l) [c]=if b=c then 0 else if zI l [c] == -1 then -1 else zI l [c]+1:=by
 show(if[c].isPrefixOf (b::l)then _ else _)=_
 by_cases h:b=c
 ·rw[if_pos h,if_pos (by subst h; simp[List.isPrefixOf])]
 ·rw[if_neg h,if_neg (by simp[List.isPrefixOf]; exact λe=>h e.symm)]
theorem Fp(c:UInt8):∀ l:List UInt8,zZ [c] 0 (qN l [c]) l=lj c l
 | []=>rfl
 | b::l=>by
  have ih:=Fp c l
  by_cases h:b=c
  ·have hi:zI (b::l) [c]=((0:Nat):Int):=by rw[J6,if_pos h]; rfl
   have hc:=qP (s:=b::l) (sub:=[c]) (qz) hi
   rw[hc,show 1+qN ((b::l).drop (0+[c].length)) [c]=qN l [c]+1 from qR 1 _]
   unfold zZ
   rw[if_neg (by rw[hi]; decide),hi]
   show[]::zZ [c] 0 (qN l [c]) l=(if b=c then[]::lj c l else _)
   rw[if_pos h,ih]
  ·by_cases hm:zI l [c] = -1
   ·have hi:zI (b::l) [c] = -1:=by rw[J6,if_neg h,hm]; rfl
    rw[Lib.count_miss hi]
    rw[Lib.count_miss hm]at ih
    show[b::l]=(if b=c then _ else z8x b (lj c l))
    rw[if_neg h,<- ih]
    rfl
   ·have hge:=Lib.index_ge l [c]
    obtain⟨i,hi⟩:∃ i:Nat,zI l [c]=(i:Int):=⟨(zI l [c]).toNat,Z⟩
    have UN:zI (b::l) [c]=((i+1:Nat):Int):=by
     rw[J6,if_neg h,hi,if_neg (by rw[beq_iff_eq]; omega)]; omega
    have c1:=qP (s:=l) (sub:=[c]) (qz) hi
    have c2:=qP (s:=b::l) (sub:=[c]) (qz) UN
    have e:(b::l).drop (i+1+[c].length)=l.drop (i+[c].length):=rfl
    rw[e]at c2
    rw[c1,qR]at ih
    rw[c2,qR]
    unfold zZ at ih ⊢
    rw[if_neg (by rw[hi,beq_iff_eq]; omega),hi]at ih
    rw[if_neg (by rw[UN,beq_iff_eq]; omega),UN]
    show(b::l.take i)::zZ [c] 0 _ (l.drop (i+1))=(if b=c then _ else z8x b (lj c l))
    rw[if_neg h,<- ih]
    rfl
theorem Hv(s:ByteArray)(pos:Nat)(h:pos<s.size):pos+(Utf8.decode s pos).2<=s.size/\∀ j,1<=j->j<(Utf8.decode s pos).2->128<=(s.get! (pos+j)).toNat:=by
 unfold Utf8.decode
 simp only
 repeat' split
 all_goals simp only[zN,decide_eq_true_eq,beq_iff_eq]at *
 all_goals refine⟨Z,λj h1 M => ?_⟩
 all_goals (rcases(by omega:j=1\/j=2\/j=3)with rfl | rfl | rfl<;>omega)
theorem VX(s:ByteArray)(i:Nat)(h:i<s.size):s.data.toList[i]? = some (s.get! i):=by
 have h':i<s.data.toList.length:=h
 rw[zA h']
 have:=get_at s i h
 rw[zK]at this
 rw[this]
 rfl
theorem Pw(c:UInt8):∀ (l cur r:zx),(∀ b∈l,b≠c)->sn c cur (l++r)=sn c (cur++l) r
 | [],cur,r,_=>by rw[List.append_nil]; rfl
 | b::l,cur,r,h=>by
  show(if b=c then _ else sn c (cur++[b]) (l++r))=_
  rw[if_neg (h b List.mem_cons_self),Pw c l _ r (λx N=>h x (List.mem_cons_of_mem _ N)),List.append_assoc]
  rfl
def bA(l:zx)(a b:Nat):zx:=(l.drop a).take (b-a)
theorem SB(l:zx){a b:Nat}(n:Nat)(h:a<=b)(R:b+n<=l.length):bA l a (b+n)=bA l a b++(l.drop b).take n:=by
 unfold bA
 rw[show b+n-a=(b-a)+n by omega,List.take_add,List.drop_drop,show a+(b-a)=b by omega]
def JV(l:zx)(st:Option Nat)(pos:Nat):zx:=match st with | some a=>bA l a pos | none=>[]
theorem Eb(s:ByteArray):∀ (f pos:Nat) (st:Option Nat) (acc:List (Nat×Nat)),pos<=s.size->s.size<=pos+f->(∀ a,st=some a->a<pos) ->
  (zF s (qK (λn=>n==32) s f pos st acc)).map (λx=>bA s.data.toList x.1 x.2)=acc.map (λx=>bA s.data.toList x.1 x.2)++sn 32 (JV s.data.toList st pos) (s.data.toList.drop pos):=by
 have hlen:s.data.toList.length=s.size:=rfl
 intro f
 induction f with
 | zero =>
  intro pos st acc h1 M h3
  have:pos=s.size:=Z
  subst this
  rw[qG (Z)]
  show(zF s (acc,st)).map _=_
  cases st with
  | none=>unfold zF JV sn; simp
  | some a =>
   have ha:=h3 a rfl
   have kf:bA s.data.toList a s.size≠[]:=λe=>by
    have:=congrArg zG e
    unfold bA at this
    simp only[zQ,zP,zT]at this
    omega
   unfold zF JV sn
   simp[kf]
 | succ f ih =>
  intro pos st acc h1 M h3
  by_cases hp:pos<s.size
  ·have N:=VX s pos hp
   have wM:pos<s.data.toList.length:=hp
   obtain⟨db1,db2⟩:=Hv s pos hp
   have hw:1<=(Utf8.decode s pos).2:=Lib.decode_width_pos s pos hp
   have J:s.data.toList.drop pos=s.get! pos::s.data.toList.drop (pos+1):=by
    rw[List.drop_eq_getElem_cons wM]
    rw[zA wM]at N
    injection N with N
    rw[N]
   unfold qK
   rw[if_pos hp]
   by_cases h32:s.get! pos=32
   ·have z5H:Utf8.decode s pos=(32,1):=by
     have h0:(s[pos]'hp).toNat=32:=by rw[<- get_at s pos hp,zK,h32]; rfl
     rw[decode_ascii s pos hp (Z),h0]
    rw[z5H]
    simp only[beq_self_eq_true,if_true]
    rw[J,h32]
    cases st with
    | none =>
     simp only
     rw[ih (pos+1) none acc (Z) (Z) (λa h=>by cases h)]
     show _=acc.map _++(if(32:UInt8)=32 then(if([]:zx)=[]then sn 32 [] _ else _)else _)
     rw[if_pos rfl,if_pos rfl]
     rfl
    | some a =>
     have ha:=h3 a rfl
     have kf:bA s.data.toList a pos≠[]:=λe=>by
      have:=congrArg zG e
      unfold bA at this
      simp only[zQ,zP,zT]at this
      omega
     simp only
     rw[ih (pos+1) none _ (Z) (Z) (λa h=>by cases h)]
     show _=acc.map _++(if(32:UInt8)=32 then(if bA s.data.toList a pos=[]then _ else bA s.data.toList a pos::sn 32 [] _)else _)
     rw[if_pos rfl,if_neg kf,List.map_append,List.append_assoc]
     rfl
   ·have zno:((Utf8.decode s pos).1==32)=false:=by
     rw[beq_eq_false_iff_ne]
     by_cases RA:(s[pos]'hp).toNat<128
     ·rw[decode_ascii s pos hp RA]
      intro e
      apply h32
      have h0:(s.get! pos).toNat=(s[pos]'hp).toNat:=by rw[<- get_at s pos hp,zK]
      exact UInt8.toNat_inj.1 (by rw[h0]; exact e)
     ·have:=(decode_high s pos hp (Z)).1
      omega
    rw[zno]
    simp only[Bool.false_eq_true,if_false]
    generalize (Utf8.decode s pos).2=n at *
    have hch:s.data.toList.drop pos=(s.data.toList.drop pos).take n++s.data.toList.drop (pos+n):=by
     rw[<- List.drop_drop,List.take_append_drop]
    have T6:∀ b∈(s.data.toList.drop pos).take n,b≠32:=λb I=>by
     obtain⟨j,hj,ej⟩:=List.getElem_of_mem I
     simp only[zQ,zP]at hj
     rw[List.getElem_take,List.getElem_drop]at ej
     have hg:=VX s (pos+j) (Z)
     rw[zA (Z)]at hg
     injection hg with hg
     rw[hg]at ej
     rw[<- ej]
     by_cases j0:j=0
     ·subst j0; exact h32
     ·have:=db2 j (Z) (Z)
      intro e
      rw[e]at this
      exact absurd this (xn)
    have fin:∀ a,a<=pos->bA s.data.toList a pos=JV s.data.toList st pos->(zF s (qK (λn=>n==32) s f (pos+n) (some a) acc)).map (λx=>bA s.data.toList x.1 x.2)=acc.map (λx=>bA s.data.toList x.1 x.2)++sn 32 (JV s.data.toList st pos) (s.data.toList.drop pos):=by
     intro a ha e
     rw[ih (pos+n) (some a) acc (Z) (Z) (λx N=>by cases N; omega),hch,Pw 32 _ _ _ T6]
     show _++sn 32 (bA s.data.toList a (pos+n)) _=_
     rw[SB _ n ha (Z),e]
    cases st with
    | none=>exact fin pos (Y _) (by unfold bA JV; rw[Nat.sub_self,List.take_zero])
    | some a=>exact fin a (Nat.le_of_lt (h3 a rfl)) rfl
  ·have:pos=s.size:=Z
   subst this
   rw[Lib.spansFromP_end _ _ _ _ _ _ (Z),qG (Z)]
   cases st with
   | none=>unfold zF JV sn; simp
   | some a =>
    have ha:=h3 a rfl
    have kf:bA s.data.toList a s.size≠[]:=λe=>by
     have:=congrArg zG e
     unfold bA at this
     simp only[zQ,zP,zT]at this
     omega
    unfold zF JV sn
    simp[kf]
theorem Rs(s:ByteArray):(zE (λn=>n==32) s).map (·.data.toList)=sn 32 [] s.data.toList:=by
 have h:=Eb s s.size 0 none [] (Nat.zero_le _) (Z) (λa h=>by cases h)
 unfold zE Lib.spansOfP
 rw[List.map_map]
 refine Eq.trans (List.map_congr_left λx _ => ?_) (h.trans (by rw[List.drop_zero]; rfl))
 show(s.extract x.1 x.2).data.toList=bA s.data.toList x.1 x.2
 rw[Lib.extract_data]
 rfl
theorem HL(chars:zx):∀ l:zx,qE l chars=rm l chars
 | []=>rfl
 | b::l=>by simp only[qE,rm,HL chars l]
end Go.AM
namespace Go.AM
set_option linter.unusedSectionVars false
variable [yY]
theorem contains_eq(s sub:zx):Lib.contains s sub=decide ((0:Int)<=Yk s sub):=by
 unfold Lib.contains
 rw[MP]
theorem RD.TE{O:KS}{f:Nat}{v:Value}(h:RD O (.wh f []) v)(hf:Nat.blt f 1000000=true):v=.func (.func f) #[] #[]:=by
 cases h with
 | wh _ _ vs R _ =>
  have:vs=[]:=X R.symm
  subst this
  exact C1 hf []
theorem Pl{O:KS}{w':World}{A cap:Nat}{t:TypeId}{cur:Array Value}{fz:Nat×Nat}{xs:List zx}(h0:O.w.heap.size<=A)(h1:A<w'.heap.size)(hh:w'.heap[A]? = some (.cells cur t fz))(jg:xs.length<=cap)
  (hc:∀ i (hi:i<xs.length),cur[i]? = some (.string ⟨xs[i].toArray⟩)):RD (O.grown w') (.qj (.sl .str) xs) (.slice (some ⟨A,0,none⟩) xs.length cap):=by
 refine RD.qj (.sl .str) xs [.slice (some ⟨A,0,none⟩) xs.length cap] ?_
 have hf:∀ i,i<xs.length->∃ s,xs.getD i []=s/\cur[i]? = some (.string ⟨s.toArray⟩):=λi hi=>⟨_,rfl,by
  rw[qA,zA hi]; exact hc i hi⟩
 refine Rc.sl .str xs A 0 cap (λi=>[.string ⟨(xs.getD i []).toArray⟩]) (.inr ⟨h0,h1⟩) jg (λi hi => ?_) (λi hi j v hv => ?_)
 ·show Rc _ _ .str xs[i] [.string ⟨(xs.getD i []).toArray⟩]
  rw[qA,zA hi]
  exact Rc.str _
 ·obtain⟨s,e1,e2⟩:=hf i hi
  cases j with
  | succ j=>cases hv
  | zero =>
   have hv:some (zV ⟨(xs.getD i []).toArray⟩)=some v:=hv
   injection hv with hv
   rw[e1]at hv
   subst hv
   show w'.cell? ⟨A,0+i*Ty.size .str+0,none⟩=_
   rw[show 0+i*Ty.size .str+0=i from by show 0+i*1+0=i; omega]
   simp[World.cell?,hh,e2]
theorem z30{O:KS}(s sep:zx)(h1:sep.length=1)(t:TypeId) :
  RD (O.grown (O.w.alloc (.cells ((Lib.splitB ⟨sep.toArray⟩ 0 (zO ⟨s.toArray⟩ ⟨sep.toArray⟩) ⟨s.toArray⟩).map zV).toArray t))) (.qj (.sl .str) (lj (sep.headD 0) s))
   (.slice (some ⟨O.w.heap.size,0,none⟩) (zO ⟨s.toArray⟩ ⟨sep.toArray⟩+1) (zO ⟨s.toArray⟩ ⟨sep.toArray⟩+1)):=by
 obtain⟨c,rfl⟩:∃ c,sep=[c]:=by
  match sep,h1 with
  | [c],_=>exact⟨c,rfl⟩
 have J:=Lib.splitB_data ⟨[c].toArray⟩ 0 (zO ⟨s.toArray⟩ ⟨[c].toArray⟩) ⟨s.toArray⟩
 have he:zZ [c] 0 (qN s [c]) s=lj c s:=Fp c s
 have J:(Lib.splitB ⟨[c].toArray⟩ 0 (zO ⟨s.toArray⟩ ⟨[c].toArray⟩) ⟨s.toArray⟩).map (·.data.toList)=lj c s:=J.trans he
 have hlen:=Lib.splitB_all ⟨[c].toArray⟩ (Y 1) 0 (zO ⟨s.toArray⟩ ⟨[c].toArray⟩) ⟨s.toArray⟩ rfl
 generalize Lib.splitB ⟨[c].toArray⟩ 0 (zO ⟨s.toArray⟩ ⟨[c].toArray⟩) ⟨s.toArray⟩=bs at *
 rw[<- hlen]
 show RD _ (.qj (.sl .str) (lj c s)) _
 rw[<- J,show bs.length=(bs.map (·.data.toList)).length from(zH ..).symm]
 refine Pl (cur:=(bs.map zV).toArray) (t:=t) (fz:=(0,0)) (Y _) (by show O.w.heap.size<(O.w.heap.push _).size; rw[Array.size_push]; omega) (by show(O.w.heap.push _)[O.w.heap.size]? = _; rw[Array.getElem?_push,if_pos rfl]) (Y _) (λi hi => ?_)
 rw[zH]at hi
 rw[List.getElem?_toArray,zJ,zA hi,List.getElem_map]
 rfl
theorem Rt{O:KS}{w':World}{A:Nat}{t:TypeId}(s:zx)(ho:w'.ownsRow O.w.heap.size t 1 (.slice (some ⟨A,0,none⟩) (zE (λn=>n==32) ⟨s.toArray⟩).length (zE (λn=>n==32) ⟨s.toArray⟩).length) (zE (λn=>n==32) ⟨s.toArray⟩).length ((zE (λn=>n==32) ⟨s.toArray⟩).map zV)) :
  RD (O.grown w') (.qj (.sl .str) (sn 32 [] s)) (.slice (some ⟨A,0,none⟩) (zE (λn=>n==32) ⟨s.toArray⟩).length (zE (λn=>n==32) ⟨s.toArray⟩).length):=by
 have he:(zE (λn=>n==32) ⟨s.toArray⟩).map (·.data.toList)=sn 32 [] s:=Rs ⟨s.toArray⟩
 generalize zE (λn=>n==32) ⟨s.toArray⟩=bs at *
 rw[<- he]
 obtain⟨-,⟨h,-⟩ | ⟨g,cap,cur,hv,hg,hh,hn,jg,bI,HK⟩⟩:=ho
 ·cases h
 ·have e1:A=g:=by injection hv with a b c; injection a with a; injection a with a
  have e2:bs.length=cap:=by injection hv
  subst e1
  have wM:A<w'.heap.size:=(Array.getElem?_eq_some_iff.1 hh).1
  have:=Pl (O:=O) (xs:=bs.map (·.data.toList)) (cap:=bs.length) hg wM hh (by rw[zH]; exact Y _) (λi hi=>by
   rw[zH]at hi
   have M:(cur.toList.take (bs.length*1))[i]? = (bs.map zV)[i]? := congrArg (λl=>l[i]?) HK
   rw[List.getElem?_take,if_pos (Z),zJ,zA hi]at M
   rw[<- zL,M,List.getElem_map]
   rfl)
  rwa [zH]at this
end Go.AM
namespace Go.Proofs
open Go.Shelf Go.RowKit Go.Lib
variable {P:Program} {ρ:Ren}
set_option maxHeartbeats 8000000 in
set_option maxRecDepth 1000000 in
theorem Any.Qc(L:Lays.n152 P ρ)(s:ByteArray)(r:Int)(w:World)(hs:∀ b∈s.data.toList,b.toNat<128)(h1:128<=r)(M:r<=2147483647)(h63:s.size<4294967281) :
  Calls P (ρ.f 152) #[.string s,.int .i32 r] w λe w'=>e=.returned (.int .i64 (-1))/\Below w.heap.size w w':=by
 have mixed:=L.mixed
 have t3:=L.t3; have a3:=L.a3; have z3:=L.z3; have v3:=L.v3
 have t4:=L.t4; have a4:=L.a4; have z4:=L.z4; have v4:=L.v4
 have t5:=L.t5; have a5:=L.a5; have z5:=L.z5; have v5:=L.v5
 have t9:=L.t9; have a9:=L.a9; have z9:=L.z9; have v9:=L.v9
 have t21:=L.t21; have a21:=L.a21; have z21:=L.z21; have v21:=L.v21
 have zqI:∀ args w,(callFunc (ρ.f 137) args).run P w=.ok (.enter (ρ.f 137) args) w:=enters_of L.f137 (by kernel_rfl) rfl
 have zqH:∀ args w,(callFunc (ρ.f 119) args).run P w=.ok (.enter (ρ.f 119) args) w:=enters_of L.f119 (by kernel_rfl) rfl
 have HS:Aside (∀ b∈s.data.toList,b.toNat<128):=hs
 clear hs
 by_cases hE:r=65533
 ·subst hE
  go_enter L.f152,Body.n152_ntmps ρ
  go_wp2
  go_loopg [5,6] s.size (λg _ _ wx=>∃ i:Nat,i+g=s.size/\wx=w.iter s i)
  case atStart=>exact⟨0,Z,rfl⟩
  case round =>
   obtain⟨i,hig,rfl⟩:=hrel
   cases gk with
   | zero =>
    obtain rfl:i=s.size:=Z
    have Dn:=run_next_end (P:=P) w s s.size
    go_wp2
    go_ret
    exact⟨rfl,(Below.refl _ _).alloc (Y _) _⟩
   | succ g =>
    have hi:i<s.size:=Z
    obtain⟨x,N⟩:∃ x:UInt8,s[i]'hi=x:=⟨_,rfl⟩
    have FT:s.data.toList[i]? = some x:=by rw[<- N]; exact Lib.data_getElem? s i hi
    have z9N:x.toNat<128:=HS.out x (zS FT)
    have Dn:=λty=>run_next_ascii (P:=P) w s i ty hi (by rw[N]; exact z9N)
    rw[N]at Dn
    have kf:((x.toNat:Int)==65533)=false:=beq_eq_false_iff_ne.2 (Z)
    clear FT N
    go_wp2
    go_roundg g
    case measure=>omega
    case rel=>exact⟨i+1,Z,rfl⟩
 ·have kf:(r==65533)=false:=beq_eq_false_iff_ne.2 hE
  have c0:decide ((0:Int)<=r)=true:=decide_eq_true (Z)
  have c1:decide (r<128)=false:=decide_eq_false (Z)
  cases hv:Lib.validRune r
  ·go_enter L.f152,Body.n152_ntmps ρ
   go_wp2_with (go_at_fn (ρ.f 119); refine(Any.utf8_ValidRune { L with } _ _).mono ?_; rintro e w' ⟨rfl,hw⟩; rw[hw,hv])
   go_ret
   exact⟨rfl,Below.refl _ _⟩
  ·obtain⟨g1,g2,g3⟩:=encode_facts r (by rw[validRune_eq]; exact hv) h1
   have hu:(P.underlying (ρ.t 21)).isSome=true:=by rw[t21]; rfl
   have u21:=run_underlying L.t21; have u9:=run_underlying L.t9; have u3:=run_underlying L.t3
   go_enter L.f152,Body.n152_ntmps ρ
   go_wp2_with (go_at_fn (ρ.f 119); refine(Any.utf8_ValidRune { L with } _ _).mono ?_; rintro e w' ⟨rfl,hw⟩; rw[hw,hv])
   clear hw
   go_step3
   go_wp2
   obtain⟨m,hm⟩:∃ m:Nat,(Utf8.encode r).size=m+1:=⟨(Utf8.encode r).size-1,Z⟩
   have bI:((Utf8.encode r).size:Int)-1=(m:Int):=Z
   simp only[bI]
   by_cases wM:m<s.size
   ·have R:decide ((m:Int)<(s.size:Int))=true:=decide_eq_true (Z)
    obtain⟨x,N⟩:∃ x:UInt8,s[m]'wM=x:=⟨_,rfl⟩
    obtain⟨y,hy⟩:∃ y:UInt8,(Utf8.encode r)[m]'(Z)=y:=⟨_,rfl⟩
    have z9N:x.toNat<128:=HS.out x (by rw[<- N]; exact zS (Lib.data_getElem? s m wM))
    have zqn:128<=y.toNat:=by rw[<- hy]; have:=g3 (Z); simpa[hm]using this
    have SY:(0:Int)<=(m:Int)+1:=Z
    have FR:(m:Int)+1<=(s.size:Int):=Z
    have T5:¬ ((m:Int)+1<0):=Z
    have Yg:¬ ((s.size:Int)<(m:Int)+1):=Z
    have hxy:((x.toNat:Int)==(y.toNat:Int))=false:=beq_eq_false_iff_ne.2 (Z)
    have hwr:IntKind.i64.wrap ((m:Int)+1)=(m:Int)+1:=wrap_small _ (Z) (Z)
    have MH:((y.toNat:Int)).toNat.toUInt8=y:=qz
    have z5S:zR (List.take (s.size-(m+1)) (List.drop (m+1) s.data.toList)) y<0:=by
     have Cm:=zY (List.take (s.size-(m+1)) (List.drop (m+1) s.data.toList)) y
     have hc:(List.take (s.size-(m+1)) (List.drop (m+1) s.data.toList)).contains y=false:=by
      rw[qL,decide_eq_false_iff_not]
      intro hm
      have:=HS.out y (List.mem_of_mem_drop (List.mem_of_mem_take hm))
      omega
     rw[hc]at Cm
     have:=hJ Cm.symm
     omega
    have hsl:∀ zk:World,(Instr.slice (ρ.t 9) (.string s) (some (.int .i64 ((m:Int)+1))) none none).run P zk=.ok (.string (s.extract (m+1) s.size)) zk:=λzk=>by rw[run_slice_string_from_if zk _ _ _ _ t9,if_pos ⟨SY,FR⟩]; rfl
    go_rounds 1
    go_step3
    go_wp2
    go_region_o
    all_goals go_wp2
    all_goals go_region_with_o ((go_at_fn (ρ.f 137); refine(Any.strings_IndexByte { L with } _ _ _).mono ?_; rintro e w' ⟨rfl,hw⟩; rw[hw,MH]))
    all_goals go_wp2
    change qQ 2 _ Exit.ret _ _
    go_wp2
    change qQ 0 _ Exit.ret _ _
    go_ret
    exact⟨rfl,⟨rfl,rfl,rfl,Y _,λ_ _=>rfl⟩⟩
   ·have R:decide ((m:Int)<(s.size:Int))=false:=decide_eq_false (Z)
    go_rounds 1
    change qQ 0 _ Exit.ret _ _
    go_ret
    exact⟨rfl,Below.refl _ _⟩
set_option maxHeartbeats 8000000 in
set_option maxRecDepth 1000000 in
theorem Any.Zc(L:Lays.n153 P ρ)(s chars:ByteArray)(w:World)(M:2<=chars.size)(h8:s.size<=8)(QB:chars.size<4294967281)(hac:∀ b∈chars.data.toList,b.toNat<128) :
  Calls P (ρ.f 153) #[.string s,.string chars] w λe w'=>e=.returned (.int .i64 (qE s.data.toList chars.data.toList))/\Below w.heap.size w w':=by
 have HC:Aside (∀ b∈chars.data.toList,b.toNat<128):=hac
 clear hac
 have zrM:chars.toList.isEmpty=false:=by
  rw[Lib.toList_data]
  cases h:chars.data.toList with
  | nil=>have:=Lib.size_eq chars; rw[h,zT]at this; omega
  | cons _ _=>rfl
 have Yg:((chars.size:Int)==1)=false:=beq_eq_false_iff_ne.2 (Z)
 have h8z:decide ((8:Int)<(s.size:Int))=false:=decide_eq_false (Z)
 have t3:=L.t3; have a3:=L.a3; have z3:=L.z3; have v3:=L.v3
 have t4:=L.t4; have a4:=L.a4; have z4:=L.z4; have v4:=L.v4
 have t5:=L.t5; have a5:=L.a5; have z5:=L.z5; have v5:=L.v5
 have t9:=L.t9; have a9:=L.a9; have z9:=L.z9; have v9:=L.v9
 have t21:=L.t21; have a21:=L.a21; have z21:=L.z21; have v21:=L.v21
 have zqJ:∀ args w,(callFunc (ρ.f 152) args).run P w=.ok (.enter (ρ.f 152) args) w:=enters_of L.f152 (by kernel_rfl) rfl
 have zqL:∀ args w,(callFunc (ρ.f 226) args).run P w=.ok (.enter (ρ.f 226) args) w:=enters_of L.f226 (by kernel_rfl) rfl
 go_enter L.f153,Body.n153_ntmps ρ
 go_wp2_with (go_at_fn (ρ.f 226); refine(Any.strings_shouldUseASCIISet { L with } _ _).mono ?_; rintro e w' ⟨rfl,hw⟩; rw[hw,h8z])
 go_loopw [9,10] (λ_ _ wr=>∃ pos:Nat,wr.heap[w.heap.size]? = some (.stringIter s pos)/\Below w.heap.size w wr/\pos<=s.size/\Lib.NoAny s.data.toList chars.data.toList pos) (λ_ _ wr=>s.size-wr.iterPos w.heap.size)
 case atStart=>exact⟨0,World.iter_heap w s 0,(Below.refl _ w).alloc (Y _) _,Nat.zero_le _,Lib.NoAny.zero _ _⟩
 case round =>
  obtain⟨pos,hit,SZ,hps,T6⟩:=hrel
  have HN:Aside (Lib.NoAny s.data.toList chars.data.toList pos):=T6
  clear T6
  have z9I:=iterPos_of hit
  by_cases hp:pos<s.size
  ·have Dn:∀ ty,(Instr.next (.pointer (some ⟨w.heap.size,0,none⟩)) true ty).run P wr=_:=λty=>Lib.run_next_any_at wr w.heap.size s pos ty hit hp
   have IT:=Lib.iterAt_heap wr w.heap.size s pos (pos+(Utf8.decode s pos).2) hit
   have z0E:=Lib.below_iterAt SZ (k:=w.heap.size) (Y _) s (pos+(Utf8.decode s pos).2)
   obtain⟨W1,hW1⟩:∃ W1,W1=wr.iterAt w.heap.size s (pos+(Utf8.decode s pos).2):=⟨_,rfl⟩
   rw[<- hW1]at Dn IT z0E
   have zfq:=lt_of_block IT
   have hwd:=Lib.decode_width_pos s pos hp
   obtain⟨db1,db2⟩:=Go.AM.Hv s pos hp
   have FT:=Go.AM.VX s pos hp
   clear hW1 hit SZ
   by_cases RA:(s[pos]'hp).toNat<128
   ·have z5H:=decode_ascii s pos hp RA
    rw[z5H]at Dn IT hwd
    have Kv:s.get! pos=s[pos]'hp:=by rw[<- get_at s pos hp,zK]
    rw[Kv]at FT
    generalize s[pos]'hp=x at *
    have Cm:=zY chars.data.toList x
    have MH:((x.toNat:Int)).toNat.toUInt8=x:=qz
    have Hx:Aside (s.data.toList[pos]? = some x):=FT
    clear FT z5H db2 Kv
    cases J4:chars.data.toList.contains x
    ·rw[J4]at Cm
     have wM:¬ ((0:Int)<=zR chars.data.toList x):=hJ Cm.symm
     clear Cm
     go_wp2_with (go_at_fn (ρ.f 152); refine(Any.strings_IndexRune_ascii { L with } _ _ _ (Z) (Z)).mono ?_; rintro e w' ⟨rfl,hw⟩; rw[hw,MH])
     go_roundw
     case rel=>exact⟨pos+1,IT,z0E,Z,HN.out.succ Hx.out J4⟩
     case measure=>rw[iterPos_of IT,z9I]; omega
    ·rw[J4]at Cm
     have hge:(0:Int)<=zR chars.data.toList x:=uB Cm.symm
     clear Cm
     go_wp2_with (go_at_fn (ρ.f 152); refine(Any.strings_IndexRune_ascii { L with } _ _ _ (Z) (Z)).mono ?_; rintro e w' ⟨rfl,hw⟩; rw[hw,MH])
     go_ret
     exact⟨by rw[Lib.indexAny_hit HN.out Hx.out J4]; rfl,z0E⟩
   ·have hr1:(128:Int)<=((Utf8.decode s pos).1:Int):=by have:=(decode_high s pos hp (Z)).1; omega
    have hr2:((Utf8.decode s pos).1:Int)<=2147483647:=by have:=decode_le s pos; omega
    have HN2:Aside (Lib.NoAny s.data.toList chars.data.toList (pos+(Utf8.decode s pos).2)):=λj b hj I=>by
     by_cases h:j<pos
     ·exact HN.out j b h I
     ·have hg:=Go.AM.VX s j (Z)
      rw[hg]at I
      injection I with I
      have zpR:128<=b.toNat:=by
       rw[<- I]
       by_cases h0:j=pos
       ·subst h0
        have Kv:s.get! j=s[j]'hp:=by rw[<- get_at s j hp,zK]
        rw[Kv]; omega
       ·have:=db2 (j-pos) (Z) (Z)
        rwa [show pos+(j-pos)=j by omega]at this
      rw[qL,decide_eq_false_iff_not]
      intro hm
      have:=HC.out b hm
      omega
    clear FT db2 HN
    generalize (Utf8.decode s pos).1=r at *
    generalize (Utf8.decode s pos).2=n at *
    go_wp2_with (go_at_fn (ρ.f 152); refine(Any.Qc { L with } _ _ _ HC.out hr1 hr2 QB).mono ?_; rintro e w' ⟨rfl,hB⟩)
    go_roundw
    case rel=>exact⟨pos+n,by rw[hB.block _ zfq]; exact IT,z0E.trans (hB.mono z0E.size),Z,HN2.out⟩
    case measure=>rw[iterPos_of ((hB.block _ zfq).trans IT),z9I]; omega
  ·obtain rfl:pos=s.size:=Z
   have Dn:∀ ty,(Instr.next (.pointer (some ⟨w.heap.size,0,none⟩)) true ty).run P wr=_:=λty=>Lib.run_next_end_at wr w.heap.size s s.size ty hit (Z)
   go_wp2
   go_ret
   exact⟨by rw[Lib.indexAny_none (by rw[<- Lib.size_eq]; exact HN.out)]; rfl,SZ⟩
theorem Any.Xw(L:Lays.n153 P ρ)(hv116:∀ w,(zeroValue (ρ.t 116)).run P w=.ok (.agg (qI 256 (.bool false))) w)(zfP:(P.info? (ρ.t 116)).map (·.size)=some 256)(s chars:ByteArray)(w:World)(M:2<=chars.size)(hs:s.size<4294967281)(QB:chars.size<4294967281)
  (hac:∀ b∈chars.data.toList,b.toNat<128) :
  Calls P (ρ.f 153) #[.string s,.string chars] w λe w'=>e=.returned (.int .i64 (qE s.data.toList chars.data.toList))/\Below w.heap.size w w':=by
 by_cases h8:s.size<=8
 ·exact Any.Zc L s chars w M h8 QB hac
 ·refine(Any.strings_IndexAny_long L hv116 zfP s chars w (Z) (Z) hs QB λj b h=>hac b (zS h)).mono λe w' ⟨h1,M⟩=>⟨h1,?_⟩
  rw[M]
  exact((Below.refl _ _).alloc (Y _) _).alloc (qz) _
end Go.Proofs