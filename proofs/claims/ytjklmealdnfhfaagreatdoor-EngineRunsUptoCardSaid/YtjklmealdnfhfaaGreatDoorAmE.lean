/-
  The abstract machine, part E: texts of our own, the same for each claim.
-/
import Derived.Test.YtjklmealdnfhfaaGreatDoorAmD
import Derived.Below
import Derived.Lib.Repeat
import Derived.Lib.ItoaNum
import Derived.Lib.IndexMore
import Derived.Lib.AsciiSet
import Derived.Lib.Strings
import Derived.Sort.Grow
import Derived.Deep.Draws
import Derived.Test.YtjklmealdnfhfaaGreatDoorAmA
import Derived.Lib.Builder
import Derived.Recover
import Derived.Lib.Split
import Derived.Lib.SplitLaws
import Derived.Lib.FieldsP
import Derived.Lib.IndexAny
import Derived.Laws.RangeAny
import Derived.Lib.RuneCount
import Derived.Laws.AppendOwn
import Derived.Shelf.Strings.IndexAnyAll
import Derived.Laws.Runes
import Derived.Shelf.Small.Utf8
import Derived.WalkMore
import Derived.Handy
import Derived.Shelf.RegionOpenPlain
import Derived.WalkSmall
import Derived.Lib.OthersKept
set_option linter.unusedVariables false
open List renaming getElem?_eq_getElem -> B, eq_nil_of_length_eq_zero -> X, length -> zG, length_map -> zH, getElem?_map -> zJ, length_drop -> zP, length_take -> zQ, mem_of_getElem? -> zS, length_nil -> zT, getD_eq_getElem?_getD -> qA, append_eq_nil_iff -> qF, drop_of_length_le -> qG, contains_eq_mem -> qL, range_eq_range' -> qM
open Nat renaming le_refl -> E, le_of_ble_eq_true -> V, add_zero -> zK, eq_of_beq_eq_true -> zM, beq -> zU, lt_of_lt_of_le -> qB, ble -> qC, add_comm -> qR
open Go.Lib renaming goFieldsP -> zE, closeSpans -> zF, index -> zI, countB -> zO, indexByte -> zR, contains_iff_indexByte -> zY, splitK -> zZ, cell_of_heap -> qD, indexAny -> qE, spansFromP -> qK, count -> qN, count_hit -> qP
open Array renaming getElem?_toList -> zL, replicate -> qI, toArray_toList -> qJ, length_toList -> qO
open Bool renaming and_eq_true -> zN
open Go.Value renaming string -> zV
open Go.World renaming freeze -> zW
open False renaming elim -> zX
open Go.RowKit renaming Below -> qH
open Go.Exit renaming inBlock -> qQ
open Go.Deferred renaming ofValue -> qS
namespace Go.AM
set_option linter.unusedSectionVars false
variable [yY]
open Go.RowKit
theorem nG{P:Program}{g:Nat}{fn:Func}{args:Array Value}(hf:P.funcs[g]? = some fn) (hn:(fn.name == "runtime.NumGoroutine")=false) (I:fn.body.isNone=false) (w:World) :
  (callFunc g args).run P w=.ok (.enter g args) w:=uS hf hn I w
def KS.grown(Z:KS)(w':World):KS:={ Z with w:=w',ok:=λk=>Z.ok k\/(Z.w.heap.size<=k/\k<w'.heap.size) }
theorem Es{Z:KS}{w':World}(hI:Inv Z)(vX:Z.st=[])(hB:Below Z.w.heap.size Z.w w'):Inv (Z.grown w')/\Ext Z (Z.grown w'):=by
 have GL:Z.ph=[]:=X (by rw[hI.len,vX]; rfl)
 have N:Ext Z (Z.grown w'):=⟨hB.os,hB.tape,hB.output,hB.size,λk hk=>⟨.inl hk,hB.block k (hI.bN k hk)⟩,λk hk=>hk.elim .inl λh=>.inr (.inl h.1),λ_ _ _ h=>.inl h,λb d h=>xz,
   λb v0 e xs h=>xz,λb h=>xz,E _,λk hk _=>hB.block k hk⟩
 refine⟨⟨hI.len,λk hk=>hk.elim (λh=>qB (hI.bN k h) hB.size) (·.2),λb blk n I => ?_,hI.inj,λb x I => ?_,hI.gl.mono N.same⟩,N⟩
 ·have:Z.ph[b]? = some (some (blk,n)):=I
  grind
 ·have:Z.st[b]? = some x:=I
  grind
theorem jC{P:Program}{g:Nat}{fn:Func}{d:DD}(hf:P.funcs[g]? = some fn) (hn:(fn.name == "runtime.NumGoroutine")=false) (I:fn.body.isNone=false)
  (H:∀ (Z:KS) (x:dV d.ps) (xb:List Value) (y:Dq d.rs),(d.F x).leads y->Inv Z->wN Z (Jk d.ps x) xb ->
   Calls P g xb.toArray Z.w λe w'=>Below Z.w.heap.size Z.w w'/\(Ext Z (Z.grown w')->jd (Z.grown w') (.ret (Ud d.rs y)) e)):q8 P g d:=by
 intro Z x xb y vX hy hI ha
 refine .inl ⟨nG hf hn I Z.w,(H Z x xb y hy hI ha).mono ?_⟩
 rintro e w' ⟨hB,he⟩
 obtain⟨h1,N⟩:=Es hI vX hB
 exact⟨Z.grown w',rfl,vX,h1,N,he N⟩
theorem MG(u:Nat):Lib.decDigits u=E4 u:=by
 induction u using Nat.strongRecOn with
 | _ u ih =>
  rw[Lib.decDigits,E4]
  grind
theorem z1b(n:Int):Lib.itoa n=Yu n:=by
 unfold Lib.itoa Yu
 rw[MG,MG]
theorem Ik(w:World)(k:Nat)(os:Array Obj):qH w.heap.size w (Go.Sort.grow (w.drewN k) os):=by
 refine⟨rfl,rfl,rfl,?_,λb I => ?_⟩
 ·simp
 ·show(w.heap++os)[b]? = w.heap[b]?
  grind
theorem below_drewN(w:World)(k:Nat):qH w.heap.size w (w.drewN k):=⟨rfl,rfl,rfl,E _,λ_ _=>rfl⟩
theorem Zn(w:World):qH w.heap.size w w:=⟨rfl,rfl,rfl,E _,λ_ _=>rfl⟩
theorem Jy(w:World)(o:Obj):qH w.heap.size w (w.alloc o):=by
 refine⟨rfl,rfl,rfl,?_,λb I => ?_⟩
 ·simp
 ·show(w.heap.push o)[b]? = w.heap[b]?
  grind
theorem MX(s sub:zx):zI s sub=Yp s sub:=by
 induction s with
 | nil=>rfl
 | cons b l ih=>simp only[zI,Yp,ih]
theorem z6i(s:zx)(c:UInt8):zR s c=U5 s c:=by
 induction s with
 | nil=>rfl
 | cons b l ih=>simp only[zR,U5,ih]
theorem TV(s sep:zx):Lib.cut s sep=E3 s sep:=by
 unfold Lib.cut E3
 rw[MX]
theorem Mx{w:World}{ok:Nat->Prop}(f:Nat->Bool):∀ (n k:Nat),Rc w ok (mO .bool n) (Rl (e:=.bool) f n k) ((List.range' k n).map λj=>Value.bool (f j))
 | 0,_=>.nil
 | n+1,k=>by
  exact Rc.cons .bool (mO .bool n) (f k) (Rl (e:=.bool) f n (k+1)) [Value.bool (f k)] _ (.bool _) (Mx f n (k+1))
theorem Tv{Z:KS}(s:zx):RD Z (.qi (mO .bool 256) (lG s)) (.agg (Lib.setCells s)):=by
 have h:=RD.qi (Z:=Z) (mO .bool 256) (lG s) _ (Mx (λj=>s.contains (UInt8.ofNat j)) 256 0)
 have e:pk (mO .bool 256) ((List.range' 0 256).map λj=>Value.bool (s.contains (UInt8.ofNat j)))=.agg (Lib.setCells s):=by
  unfold pk
  rw[show(mO .bool 256).isAgg=true from rfl,Lib.setCells_eq]
  show Value.agg (List.toArray _)=_
  congr 1
  apply Array.ext'
  rw[Array.toList_map,Array.toList_range,qM]
 grind
theorem RD.z8Y{Z:KS}{a b:D}{u v:Value}(h:RD Z a u)(k:RD Z b v):RD Z (.eG [a,b]) (.tuple #[u,v]):=by
 have:=wN.cons h (wN.cons k wN.nil)
 exact .eG [a,b] [u,v] this.1 this.2
theorem RD.zph{Z:KS}{a b c:D}{u v z:Value}(h:RD Z a u)(k:RD Z b v)(l:RD Z c z):RD Z (.eG [a,b,c]) (.tuple #[u,v,z]):=by
 have:=wN.cons h (wN.cons k (wN.cons l wN.nil))
 exact .eG [a,b,c] [u,v,z] this.1 this.2
theorem Pp(l:List UInt8):∀ c,Lib.repeatL l c=D2 l c
 | 0=>rfl
 | c+1=>by simp[Lib.repeatL,D2,Pp l c]
end Go.AM
namespace Go.AM
set_option linter.unusedSectionVars false
variable [yY]
open Go.RowKit
theorem Fv{w:World}{blk:Nat}{cs:Array Value}{t:TypeId}{fz:Nat×Nat}{v:Value}(h:w.heap[blk]? = some (.cells cs t fz)):w.setCell ⟨blk,0,none⟩ v=w.setRow blk (cs.setIfInBounds 0 v):=by
 unfold World.setCell World.setRow
 congr 1
 grind
def Is(t:Nat):List It:=[.v (.st [.op 0 t,.row 1 (.int .u8)]),.a (.int .u8)]
def TC(t:Nat):List Bk:=[.var (.st [.op 0 t,.row 1 (.int .u8)]),.arr (.int .u8)]
def ccD(t:Nat):hZ:=⟨[.ptr],⟨Is t,[(0,.ptr 0 0)],TC t⟩,[],⟨Is t,[],TC t⟩,0,λx=>.ret x⟩
theorem Ca{P:Program}{g t:Nat}(Yk:∀ args w,(callFunc g args).run P w=.ok (.enter g args) w)
  (zgA:∀ (b:Nat) (w:World),w.cell? ⟨b,0,none⟩=some (.pointer (some ⟨b,0,none⟩))->Calls P g #[.pointer (some ⟨b,0,none⟩)] w λe w'=>e=.returned (.tuple #[])/\w'=w)
  (zbC:∀ (b:Nat) (w:World),w.cell? ⟨b,0,none⟩=some (.pointer none)->w.shape? b=some (t,2)->w.frozen? ⟨b,0,none⟩=false ->
   Calls P g #[.pointer (some ⟨b,0,none⟩)] w λe w'=>e=.returned (.tuple #[])/\w'=w.setCell ⟨b,0,none⟩ (.pointer (some ⟨b,0,none⟩))):xw P g (ccD t):=by
 intro Z x xb y vX hy hI hlen hR
 cases hy
 have h0:Z.st[0]? = some (.var (.agg [.en 0 t,.ms 1 (zG x.2) (.int .u8) 0 (zG x.2)])):=by rw[vX]; rfl
 obtain⟨blk,n,cs,t',p1,p2,p3,p4,p5⟩:=hI.blk 0 _ h0
 obtain rfl:t'=t:=p5.2 t rfl
 obtain⟨v0,hv0,hd0⟩:=hR.get 0 (.ptr 0 0) rfl
 have hv:v0=.pointer (some ⟨blk,0,none⟩):=by
  cases hd0 with
  | ptr _ _ pE n' d J hp=>grind
 have fp:xb.toArray = #[.pointer (some ⟨blk,0,none⟩)]:=by
  match xb,hlen with
  | [a],_ =>
   grind
 obtain⟨pv,us,QA,g1,g2⟩:=wN.cons_inv p4
 obtain⟨bv,us',hus,g3,g4⟩:=wN.cons_inv g2
 have:=g4.we
 subst this
 subst hus
 have GX:cs = #[pv,bv]:=by rw[<- qJ (xs:=cs),QA]
 subst GX
 have z0P:∀ Y:KS,jd Y (.ret []) (.returned (.tuple #[])):=λY=>⟨.tuple #[],rfl,.eG [] [] rfl (λi h=>absurd h (Nat.not_lt_zero i))⟩
 refine .inl ⟨Yk _ _,?_⟩
 rw[fp]
 have used:pv=.pointer (some ⟨blk,0,none⟩)->Calls P g #[.pointer (some ⟨blk,0,none⟩)] Z.w λe w'=>∃ (Y:KS) (ds:List D),Y.w=w'/\Y.st=(ccD t').out.st x/\Inv Y/\Ext Z Y/\oL 0 ((ccD t').out.fr x)=some ds/\jd Y (.ret ds) e:=by
  intro hpv
  refine(zgA blk Z.w (by rw[qD p2,hpv]; rfl)).mono ?_
  rintro e w' ⟨rfl,rfl⟩
  exact⟨Z,[],rfl,vX,hI,Ext.refl Z,rfl,z0P Z⟩
 cases g1 with
 | nn _ _ pE n' d J hp=>rw[p1]at hp; cases hp; exact used rfl
 | nk _ _ d J =>
  refine(zbC blk Z.w (by rw[qD p2]; rfl) (by simp[World.shape?,p2]) (by simp[World.frozen?,p2])).mono ?_
  rintro e w' ⟨rfl,rfl⟩
  rw[Fv p2]
  have hex:=UM (cs := #[.pointer (some ⟨blk,0,none⟩),bv]) (x:=.var (.agg [.en 0 t',.ms 1 (zG x.2) (.int .u8) 0 (zG x.2)])) hI p1 h0 trivial
  refine⟨Z.upd 0 blk #[.pointer (some ⟨blk,0,none⟩),bv] (.var (.agg [.en 0 t',.ms 1 (zG x.2) (.int .u8) 0 (zG x.2)])),[],rfl,?_,UN hI p1 h0 trivial ?_,hex,rfl,z0P _⟩
  ·show Z.st.set 0 _=_
   rw[Gm h0]; exact vX
  ·refine⟨blk,n,_,t',p1,setRow_heap _ _ _ _ _ _ p2,p3,?_,p5⟩
   refine .cons (.nn 0 t' blk n _ (by show(Z.st.set 0 _)[0]? = _; rw[Gm h0]; exact h0) p1) (.cons (g3.mono hex) .nil)
def z3f(t:Nat):hZ:=⟨[.ptr],⟨Is t,[(0,.ptr 0 0)],TC t⟩,[],⟨[.s 0 (.qi .str),.v (.st [.op 0 t,.un])],[],[.var (.st [.op 0 t,.un]),.dead]⟩,1,
 λx=>z3g x.2⟩
theorem z3h{Z:KS}{w':World}{t:Nat}{xs:List Int}(vX:Z.st=[.var (.agg [.en 0 t,.ms 1 xs.length (.int .u8) 0 xs.length]),.arr xs.length (.int .u8) xs])(hI:Inv Z)
  (h1:w'.os=Z.w.os) (M:w'.tape=Z.w.tape) (h3:w'.output=Z.w.output) (h4:Z.w.heap.size<=w'.heap.size)
  (h5:∀ k,k<Z.w.heap.size->(∀ n:Nat,Z.ph[1]? ≠ some (some (k,n)))->w'.heap[k]? = Z.w.heap[k]?) :
  ∃ Y:KS,Y.w=w'/\Y.st=[.var (.agg [.en 0 t,.WI]),.dead]/\Inv Y/\Ext Z Y:=by
 have b0:Z.st[0]? = some (.var (.agg [.en 0 t,.ms 1 xs.length (.int .u8) 0 xs.length])):=by rw[vX]; rfl
 have b1:Z.st[1]? = some (.arr xs.length (.int .u8) xs):=by rw[vX]; rfl
 have hlen:Z.st.length=2:=by rw[vX]; rfl
 let Y:KS:={ Z with w:=w',st:=[.var (.agg [.en 0 t,.WI]),.dead] }
 have hk:∀ k,Z.ok k->w'.heap[k]? = Z.w.heap[k]? := λk hk=>h5 k (hI.bN k hk) λn h=>(hI.apart 1 k n h).2 hk
 have U4:I9 Z.w w' Z.ok Z.ok:=λk h=>⟨h,hk k h⟩
 have N:Ext Z Y:=by
  refine⟨h1,M,h3,h4,U4,λk h=>.inl h,λ_ _ _ h=>.inl h,λb d h=>⟨?_,rfl⟩,λb v0 e Vu h=>.inl ?_,λb h => ?_,by show Z.st.length<=2; omega,λk hk hn=>h5 k hk (hn 1)⟩
  ·grind
  ·grind
  ·grind
 refine⟨Y,rfl,rfl,⟨by show Z.ph.length=2; rw[hI.len,hlen],λk h=>qB (hI.bN k h) h4,λb blk n h=>⟨qB (hI.apart b blk n h).1 h4,(hI.apart b blk n h).2⟩,hI.inj,λb y I => ?_,hI.gl.mono U4⟩,N⟩
 match b,I with
 | 0,I =>
  cases I
  obtain⟨blk,n,cs,t',p1,p2,p3,p4,p5⟩:=hI.blk 0 _ b0
  have jZ:∀ m:Nat,Z.ph[1]? ≠ some (some (blk,m)):=λm h=>by
   have:=hI.inj 0 1 blk n m p1 h
   omega
  refine⟨blk,n,cs,t',p1,(h5 blk (hI.apart 0 blk n p1).1 jZ).trans p2,p3,?_,?_,λT hT=>p5.2 T hT⟩
  ·obtain⟨pv,us,QA,g1,g2⟩:=wN.cons_inv p4
   obtain⟨bv,us',hus,g3,g4⟩:=wN.cons_inv g2
   have:=g4.we
   subst this
   subst hus
   rw[QA]
   refine .cons (g1.mono N) (.cons (.WI bv (g3.KG rfl)) .nil)
  ·intro x GM
   simp only[xy,List.mem_cons,List.not_mem_nil,or_false]at GM
   rcases GM with rfl | rfl<;>rfl
 | 1,I=>cases I; trivial
 | b+2,I=>simp[Y]at I
theorem Ro{n:Int}(h0:0<=n)(h1:n<256):(((byteOf n).toNat:Nat):Int)=n:=by
 unfold byteOf
 have:(UInt8.ofNat n.toNat).toNat=n.toNat:=by
  rw[UInt8.toNat_ofNat']
  omega
 grind
theorem LW{P:Program}{g t:Nat}(Yk:∀ args w,(callFunc g args).run P w=.ok (.enter g args) w)
  (Ym:∀ (b:Nat) (p:Value) (w:World),w.heap[b]? = some (.cells #[p,.slice none 0 0] t (0,0))->Calls P g #[.pointer (some ⟨b,0,none⟩)] w λe w'=>e=.returned (.string ⟨#[]⟩)/\w'=w.drew)
  (Qq:∀ (b g' o cap:Nat) (p:Value) (w:World),cap≠0->w.heap[b]? = some (.cells #[p,.slice (some ⟨g',o,none⟩) 0 cap] t (0,0))->Calls P g #[.pointer (some ⟨b,0,none⟩)] w λe w'=>e=.returned (.string ⟨#[]⟩)/\w'=w.drew)
  (z0S:∀ (b g' cap:Nat) (p:Value) (cur:Array Value) (l:List UInt8) (w:World),l≠[]->l.length<=cap->l.length<=140737488355328->w.heap[b]? = some (.cells #[p,.slice (some ⟨g',0,none⟩) l.length cap] t (0,0)) ->
   w.heap[g']? = some (.cells cur Wm.u8 (0,0))->l.length<=cur.size->(∀ j x,l[j]? = some x->w.cell? ⟨g',j,none⟩=some (.int .u8 x.toNat)) ->
   Calls P g #[.pointer (some ⟨b,0,none⟩)] w λe w'=>e=.returned (.string ⟨l.toArray⟩)/\w'=w.drew.freeze ⟨g',0,none⟩ l.length)
  (Cu:∀ (b g' o:Nat) (p:Value) (cur:Array Value) (w:World),w.heap[b]? = some (.cells #[p,.slice (some ⟨g',o,none⟩) 0 0] t (0,0))->w.heap[g']? = some (.cells cur Wm.u8 (0,0)) ->
   Calls P g #[.pointer (some ⟨b,0,none⟩)] w λe w'=>e=.returned (.string ⟨#[]⟩)/\w'=w.drew.alloc (.view ⟨g',o,none⟩ Wm.u8)) 
  {Z:KS} {xb:List Value} {xs:List Int} (z6b:Z.st=[.var (.agg [.en 0 t,.ms 1 xs.length (.int .u8) 0 xs.length]),.arr xs.length (.int .u8) xs])
  (Cq:∀ n∈xs,(0:Int)<=n/\n<256) (hmax:xs.length<=140737488355328) (hI:Inv Z) (hlen:xb.length=1) (J:∃ v,xb.toArray[0]? = some v/\RD Z (.ptr 0 0) v) :
  gA P g xb.toArray Z.w λe w'=>∃ (Y:KS) (ds:List D),Y.w=w'/\Y.st=(z3f t).out.st (ku xs,())/\Inv Y/\Ext Z Y/\oL 1 ((z3f t).out.fr (ku xs,()))=some ds/\jd Y (.ret ds) e:=by
 have h0:Z.st[0]? = some (.var (.agg [.en 0 t,.ms 1 (xs.length) (.int .u8) 0 (xs.length)])):=by rw[z6b]; rfl
 have h1:Z.st[1]? = some (.arr (xs.length) (.int .u8) xs):=by rw[z6b]; rfl
 obtain⟨blk,n,cs,t',p1,p2,p3,p4,p5⟩:=hI.blk 0 _ h0
 obtain rfl:t'=t:=p5.2 t rfl
 obtain⟨v0,hv0,hd0⟩:=J
 have hv:v0=.pointer (some ⟨blk,0,none⟩):=by
  cases hd0 with
  | ptr _ _ pE n' d J hp=>grind
 have fp:xb.toArray = #[.pointer (some ⟨blk,0,none⟩)]:=by
  grind
 obtain⟨pv,us,QA,g1,g2⟩:=wN.cons_inv p4
 obtain⟨bv,us',hus,g3,g4⟩:=wN.cons_inv g2
 have:=g4.we
 subst this
 subst hus
 have GX:cs = #[pv,bv]:=by rw[<- qJ (xs:=cs),QA]
 subst GX
 refine .inl ⟨Yk _ _,?_⟩
 rw[fp]
 have fin:∀ (w':World) (s:zx),s=ku xs->w'.os=Z.w.os->w'.tape=Z.w.tape->w'.output=Z.w.output->Z.w.heap.size<=w'.heap.size ->
   (∀ k,k<Z.w.heap.size->(∀ n:Nat,Z.ph[1]? ≠ some (some (k,n)))->w'.heap[k]? = Z.w.heap[k]?) ->
   ∃ (Y:KS) (ds:List D),Y.w=w'/\Y.st=(z3f t').out.st (ku xs,())/\Inv Y/\Ext Z Y/\oL 1 ((z3f t').out.fr (ku xs,()))=some ds/\jd Y (.ret ds) (.returned (.string ⟨s.toArray⟩)):=by
  intro w' s hs q1 q2 q3 q4 q5
  subst hs
  obtain⟨Y,k1,k2,k3,k4⟩:=z3h z6b hI q1 q2 q3 q4 q5
  exact⟨Y,[.qi .str (ku xs)],k1,k2,k3,k4,rfl,_,rfl,RD.str⟩
 have hnn:(ku xs).length=xs.length:=zH _
 cases g3 with
 | ms _ _ _ _ _ cap a I jg ha Ws hm =>
  obtain⟨hle,hm⟩:=hm xs h1
  rcases hm with⟨hz,_,hv',hp⟩ | ⟨z5e,n1,o,VH,hp,hv',zfM,bM,ho⟩
  ·rw[hv']at p2
   have KA:xs=[]:=X hz
   refine(Ym blk pv Z.w p2).mono ?_
   rintro e w' ⟨rfl,rfl⟩
   exact fin _ [] (by rw[KA]; rfl) rfl rfl rfl (E _) (λ_ _ _=>rfl)
  ·cases hv'
   obtain⟨_,⟨hnl,hpn⟩ | ⟨zlX,n2,cs2,T2,r1,r2,r3,r4,r5,f,r6⟩⟩:=hI.blk 1 _ h1
   ·grind
   ·rw[hp]at r1
    cases r1
    have hT:=r5 rfl
    subst hT
    by_cases hc0:cap=0
    ·subst hc0
     have hz:xs.length=0:=O
     have KA:xs=[]:=X hz
     rw[hz]at p2
     refine(Cu blk z5e o pv cs2 Z.w p2 r2).mono ?_
     rintro e w' ⟨rfl,rfl⟩
     refine fin _ [] (by rw[KA]; rfl) rfl rfl rfl (qz) (λk hk _ => ?_)
     exact Lib.alloc_old Z.w.drew _ k hk
    ·by_cases hz:xs.length=0
     ·have KA:xs=[]:=X hz
      rw[hz]at p2
      refine(Qq blk z5e o cap pv Z.w hc0 p2).mono ?_
      rintro e w' ⟨rfl,rfl⟩
      exact fin _ [] (by rw[KA]; rfl) rfl rfl rfl (E _) (λ_ _ _=>rfl)
     ·have ho':o=0:=by
       rcases ho with ho | ho
       ·exact absurd ho hc0
       ·simpa using ho
      subst ho'
      have jZ:ku xs≠[]:=λe=>hz (by rw[<- hnn,e]; rfl)
      have zg8:xs.length<=cs2.size:=by
       have:=r4
       simp only[Ty.size,Nat.mul_one]at this
       omega
      refine(z0S blk z5e cap pv cs2 (ku xs) Z.w jZ (by rw[hnn]; exact jg) (by rw[hnn]; exact hmax) (by rw[hnn]; exact p2) r2 (by rw[hnn]; exact zg8) ?_).mono ?_
      ·intro j c hj
       have MR:j<xs.length:=by rw[<- hnn]; exact(List.getElem?_eq_some_iff.1 hj).1
       obtain⟨q1,q2⟩:=r6 j MR
       have:=q2 0 (.int .u8 xs[j]) (by rw[q1.dO]; rfl)
       simp only[Ty.size,Nat.mul_one,zK]at this
       have hc:c=byteOf xs[j]:=by
        unfold ku at hj
        rw[zJ,B MR]at hj
        exact(Option.some.inj hj).symm
       obtain⟨b0,b1⟩:=Cq xs[j] (List.getElem_mem MR)
       rw[qD r2,hc,Ro b0 b1]
       exact this
      ·rintro e w' ⟨rfl,rfl⟩
       refine fin _ _ rfl ?_ ?_ ?_ ?_ ?_
       ·unfold zW; split<;>rfl
       ·unfold zW; split<;>rfl
       ·unfold zW; split<;>rfl
       ·unfold zW
        split
        ·exact E _
        ·show Z.w.heap.size<=(Array.modify _ _ _).size
         rw[Array.size_modify]; exact E _
       ·intro k hk hn
        have znk:k≠z5e:=λe=>hn n1 (e▸hp)
        unfold zW
        split
        ·rfl
        ·show(Array.modify _ _ _)[k]? = _
         rw[Array.getElem?_modify,if_neg (λe=>znk e.symm)]
         rfl
theorem SU{P:Program}{g t:Nat}(Yk:∀ args w,(callFunc g args).run P w=.ok (.enter g args) w)
  (Ym:∀ (b:Nat) (p:Value) (w:World),w.heap[b]? = some (.cells #[p,.slice none 0 0] t (0,0))->Calls P g #[.pointer (some ⟨b,0,none⟩)] w λe w'=>e=.returned (.string ⟨#[]⟩)/\w'=w.drew)
  (Qq:∀ (b g' o cap:Nat) (p:Value) (w:World),cap≠0->w.heap[b]? = some (.cells #[p,.slice (some ⟨g',o,none⟩) 0 cap] t (0,0))->Calls P g #[.pointer (some ⟨b,0,none⟩)] w λe w'=>e=.returned (.string ⟨#[]⟩)/\w'=w.drew)
  (z0S:∀ (b g' cap:Nat) (p:Value) (cur:Array Value) (l:List UInt8) (w:World),l≠[]->l.length<=cap->l.length<=140737488355328->w.heap[b]? = some (.cells #[p,.slice (some ⟨g',0,none⟩) l.length cap] t (0,0)) ->
   w.heap[g']? = some (.cells cur Wm.u8 (0,0))->l.length<=cur.size->(∀ j x,l[j]? = some x->w.cell? ⟨g',j,none⟩=some (.int .u8 x.toNat)) ->
   Calls P g #[.pointer (some ⟨b,0,none⟩)] w λe w'=>e=.returned (.string ⟨l.toArray⟩)/\w'=w.drew.freeze ⟨g',0,none⟩ l.length)
  (Cu:∀ (b g' o:Nat) (p:Value) (cur:Array Value) (w:World),w.heap[b]? = some (.cells #[p,.slice (some ⟨g',o,none⟩) 0 0] t (0,0))->w.heap[g']? = some (.cells cur Wm.u8 (0,0)) ->
   Calls P g #[.pointer (some ⟨b,0,none⟩)] w λe w'=>e=.returned (.string ⟨#[]⟩)/\w'=w.drew.alloc (.view ⟨g',o,none⟩ Wm.u8)):xw P g (z3f t):=by
 intro Z x xb y vX hy hI hlen hR
 obtain⟨⟨Cq,hmax⟩,hy⟩:=(show(z3g x.2).leads y from hy)
 have hy':(ku x.2,())=y:=hy
 subst hy'
 exact LW Yk Ym Qq z0S Cu (xs:=x.2) vX Cq hmax hI hlen (hR.get 0 (.ptr 0 0) rfl)
end Go.AM
namespace Go.AM
set_option linter.unusedSectionVars false
variable [yY]
open Go.RowKit
def Mn(P:Program):Tk:=λg args w hl=>(callFunc g args).run P w=.ok (.enter g args) w/\CallsD P g args .returning w λe u' w'=>settle u'=.returning/\hl e w'
def R9(P:Program)(t:Nat):Tk:=λg args w hl=>∀ (zs:List Value) (v:Value),args=(zs++[v]).toArray->(callFunc g zs.toArray).run P w=.ok (.enter g zs.toArray) w /\
 CallsD P g zs.toArray (.panicking [{ v:=.iface t v,recovered:=false }]) w λe u' w'=>settle u'=.returning/\hl e w'
theorem Mn.mono{P:Program}{g:Nat}{a:Array Value}{w:World}{hl R':Ending->World->Prop}(h:Mn P g a w hl)(hr:∀ e w',hl e w'->R' e w'):Mn P g a w R' :=
 ⟨h.1,h.2.mono λe u' w' hh=>⟨hh.1,hr e w' hh.2⟩⟩
theorem R9.mono{P:Program}{t g:Nat}{a:Array Value}{w:World}{hl R':Ending->World->Prop}(h:R9 P t g a w hl)(hr:∀ e w',hl e w'->R' e w'):R9 P t g a w R' :=
 λzs v e=>⟨(h zs v e).1,(h zs v e).2.mono λe u' w' hh=>⟨hh.1,hr e w' hh.2⟩⟩
def Ge(ops:Array Oper):Option (Nat×Nat):=match ops.toList with
 | [o1,o2]=>match o1.dst,o1.op,o1.guard with
  | some t1,.call ⟨.builtin .recover,_,_⟩,none=>match o2.dst,o2.op,o2.guard with
   | some t2,.assign (.tmp t),none=>bif zU t t1 then some (t1,t2)else none
   | _,_,_=>none
  | _,_,_=>none
 | _=>none
def zgO(t:Option Nat)(n:Nat):Nat:=match t with | none=>n | some _=>n+1
def zd2(t:Option Nat)(n:Nat)(fr:Fr):Option D:=match t with
 | none=>some .v8
 | some t=>match fr.get n with | some p=>some (.iface t p) | none=>none
section
variable (c:Ctx) (tab:lE)
def Kc(fn:Func)(m:Nat)(out:uq)(nr:Nat)(fr:Fr)(st:St):T out.den :=
 (np c fr st fn.results.toList).bind λds=>WH out m nr ds st
def evH(H:Hints)(fn:Func)(ops:Array Oper)(b:Code)(d:hZ)(n:Nat)(t:Option Nat)(x:d.sh.den):T d.out.den :=
 bif qC n fn.ntmps&&qC d.sh.bs.length d.out.bs.length&&zU d.ks.length (zgO t n)then match Ge ops,zd2 t n (d.sh.fr x)with
  | some (t1,t2),some rc=>bif Nat.blt t1 fn.ntmps&&Nat.blt t2 fn.ntmps then
    Vy c tab fn.ntmps H b ((t2,some rc)::(t1,some rc)::(n,none)::d.sh.fr x) [] (d.sh.st x) λo=>match o.ex with
     | .normal=>Kc c fn (d.sh.st x).length d.out d.nr o.fr o.st
     | .ret=>Kc c fn (d.sh.st x).length d.out d.nr o.fr o.st
     | _=>.fail
   else .fail
  | _,_=>.fail
 else .fail
def J1:List Oper->Option (List Oper×Operand×List Operand)
 | []=>none
 | [o]=>match o.op,o.guard,o.dst with
  | .defer ⟨.value f,args,_⟩,none,none=>some ([],f,args.toList)
  | _,_,_=>none
 | o::r=>match J1 r with | some (l,z)=>some (o::l,z) | none=>none
structure Dfd where
 g:Nat
 d0:hZ
 pt:Nat
 d1:hZ
def evD(n:Nat)(H:Hints)(h:Dfd)(fn:Func)(m:Nat)(out:uq)(nr:Nat):Code->Fr->Kn->St->T out.den
 | .seq a b,fr,kn,st=>match opsOf a with
  | some ops=>match J1 ops.toList with
   | some (pre,f,args)=>KL c tab n ops pre ⟨fr,kn,st,[],[]⟩ (λs=>match bu s.fr f,gC (args.map (bu s.fr))with
     | some (.wi g caps),some l=>bif zU (ed g) h.g then
       Vy c tab n H b s.fr s.kn s.st λo=>match o.ex with
        | .normal=>h.d0.K (bK g l caps) o.st λ_ ql=>Kc c fn m out nr (o.fr++(og (wH b)++s.fr)) ql
        | .ret=>h.d0.K (bK g l caps) o.st λ_ ql=>Kc c fn m out nr (o.fr++(og (wH b)++s.fr)) ql
        | .b9 (.iface t p)=>bif zU t h.pt then h.d1.K (bK g l caps++[p]) o.st λ_ ql=>Kc c fn m out nr (o.fr++(og (wH b)++s.fr)) ql else .fail
        | _=>.fail
      else .fail
     | _,_=>.fail) (λ_ _=>.fail)
   | none=>Vy c tab n H a fr kn st λr=>match r.ex with
    | .normal=>evD n H h fn m out nr b r.fr r.kn r.st
    | .ret=>Kc c fn m out nr r.fr r.st
    | _=>.fail
  | none=>Vy c tab n H a fr kn st λr=>match r.ex with
   | .normal=>evD n H h fn m out nr b r.fr r.kn r.st
   | .ret=>Kc c fn m out nr r.fr r.st
   | _=>.fail
 | _,_,_,_=>.fail
def z05(H:Hints)(h:Dfd)(fn:Func)(code:Code)(d:hZ)(x:d.sh.den):T d.out.den :=
 bif qC d.ks.length fn.ntmps&&qC d.sh.bs.length d.out.bs.length then evD c tab fn.ntmps H h fn (d.sh.st x).length d.out d.nr code (d.sh.fr x) [] (d.sh.st x)else .fail
end
section
variable {P:Program} {xid:Nat} {tab:lE} {ro:Nat->Bool} {n:Nat} {H:Hints}
theorem LG{ops:Array Oper}{t1 t2:Nat}(hr:Ge ops=some (t1,t2)){Q:Exit->Act->List Frame->World->Prop}{a:Act}{cs:List Frame}{w:World}{id:Nat}(h1:t1<a.tmps.size)
  (h:Q .normal ((a.put (some t1) ((recoverD cs).elim .nilIface (·.1))).put (some t2) ((recoverD cs).elim .nilIface (·.1))) ((recoverD cs).elim cs (·.2)) w):(Code.region id ops false).wpS P Q a cs w:=by
 unfold Ge at hr
 split at hr
 ·rename_i o1 o2 hops
  split at hr
  ·rename_i t1' args sr hd1 ho1 T9
   split at hr
   ·rename_i t2' t hd2 ho2 hg2
    cases I:zU t t1' with
    | false=>grind
    | true =>
     rw[I,cond_true]at hr
     cases hr
     have:=zM I
     subst this
     obtain⟨d1,op1,ty1,zcY,zaT,g1⟩:=o1
     obtain⟨d2,op2,BJ,z8E,zaU,g2⟩:=o2
     subst hd1 ho1 T9 hd2 ho2 hg2
     have bM:ops.size=2:=by rw[<- qO,hops]; rfl
     have e0:ops[0]? = some ⟨some t,.call ⟨.builtin .recover,args,sr⟩,ty1,zcY,zaT,none⟩:=by rw[<- zL,hops]; rfl
     have e1:ops[1]? = some ⟨some t2,.assign (.tmp t),BJ,z8E,zaU,none⟩:=by rw[<- zL,hops]; rfl
     have zbQ:List.range 2=[0,1]:=rfl
     have ev1:∀ v,((a.put (some t) v).eval (.tmp t))=v:=λv=>by simp[Act.eval,Act.put,h1]
     refine wpS_region ?_
     rw[bM,zbQ]
     simp only[wpOpsS,e0,e1]
     cases hrec:recoverD cs with
     | none =>
      rw[hrec]at h
      simp only[execOp,ev1]
      exact h
     | some z =>
      rw[hrec]at h
      simp only[execOp,ev1]
      exact h
   ·cases hr
  ·cases hr
 ·cases hr
theorem z0O(hm:(gR P xid tab ro).P.follows .mixedOrders=true)(hT:eo P tab){f:Nat}{fn:Func}{id:Nat}{ops:Array Oper}{b:Code}(hf:P.funcs[f]? = some fn)(I:fn.body=some (.seq (.region id ops false) b))
  (hL:gB P fn.ntmps H b) {d:hZ} {k:Nat} {t:Option Nat} {x:d.sh.den} {y:d.out.den} (hy:(evH (gR P xid tab ro) tab H fn ops b d k t x).leads y) {Z:KS} (vX:Z.st=d.sh.st x) (hI:Inv Z)
  {zs:List Value} (hk:zs.length=k) {u:FrameMode} {rv:Value} (hrv:∀ rc,zd2 t k (d.sh.fr x)=some rc->RD Z rc rv)
  (hu:∀ (c₀:Frame) (cs:List Frame),c₀.mode=u->(recoverD (c₀::cs)).elim .nilIface (·.1)=rv/\∃ u',(recoverD (c₀::cs)).elim (c₀::cs) (·.2)={ c₀ with mode:=u' }::cs/\settle u'=.returning)
  (hR:∀ s dd,(d.sh.fr x).get s=some dd->s≠k->∃ v,zs[s]? = some v/\RD Z dd v) :
  CallsD P f zs.toArray u Z.w λe u' w'=>settle u'=.returning/\∃ (Y:KS) (ds:List D),Y.w=w'/\Y.st=d.out.st y/\Inv Y/\Ext Z Y/\oL d.nr (d.out.fr y)=some ds/\jd Y (.ret ds) e:=by
 unfold evH at hy
 cases hc:qC k fn.ntmps&&qC d.sh.bs.length d.out.bs.length&&zU d.ks.length (zgO t k)with
 | false=>rw[hc]at hy; exact zX hy
 | true =>
 rw[hc,cond_true]at hy
 simp only[zN]at hc
 have RN:=V hc.1.1
 have hc2:=V hc.1.2
 split at hy
 ·rename_i t1 t2 rc hrs Dz
  cases hcc:Nat.blt t1 fn.ntmps&&Nat.blt t2 fn.ntmps with
  | false=>rw[hcc]at hy; exact zX hy
  | true =>
  rw[hcc,cond_true]at hy
  simp only[zN]at hcc
  have zgt:=hrv rc Dz
  refine callsD_of_wpS hf I λc₀ cs hc₀ => ?_
  obtain⟨hv,u',QA,nT⟩:=hu c₀ cs hc₀
  have h1:t1<fn.ntmps:=V hcc.1
  have M:t2<fn.ntmps:=V hcc.2
  have z15:zs.length+(fn.ntmps-zs.length)=fn.ntmps:=O
  let a0:Act:={ tmps:=zs.toArray++qI (fn.ntmps-zs.toArray.size) undef,defers:=[] }
  have hR0:Rel Z fn.ntmps (Fr.get ((k,none)::d.sh.fr x)) a0:=by
   refine⟨by simp[a0]; omega,rfl,λs dd hs => ?_⟩
   simp only[Fr.get]at hs
   cases hks:zU k s with
   | true=>grind
   | false =>
    rw[hks,cond_false]at hs
    obtain⟨v,g1,g2⟩:=hR s dd hs (λe=>by subst e; simp at hks)
    grind
  have HO:Rel Z fn.ntmps (Fr.get ((t2,some rc)::(t1,some rc)::(k,none)::d.sh.fr x)) ((a0.put (some t1) rv).put (some t2) rv):=by
   have g1:=hR0.put (dst:=some t1) (d:=some rc) (v:=rv) hcc.1 (λd' ef=>by cases ef; exact zgt)
   have g2:=g1.put (dst:=some t2) (d:=some rc) (v:=rv) hcc.2 (λd' ef=>by cases ef; exact zgt)
   have e1:=ZI ((k,none)::d.sh.fr x) (some t1) (some rc)
   have e2:=ZI ((t1,some rc)::(k,none)::d.sh.fr x) (some t2) (some rc)
   rw[<- e1]at g2
   have g3:Rel Z fn.ntmps (dS (Fr.get ((t1,some rc)::(k,none)::d.sh.fr x)) (some t2) (some rc)) ((a0.put (some t1) rv).put (some t2) rv):=g2
   rw[<- e2]at g3
   exact g3
  refine wpS_seq (LG hrs (by simp; omega) ?_)
  rw[hv,QA]
  show b.wpS P _ _ _ _
  refine wpS_of_wp ?_
  rw[<- vX]at hy
  refine QX hm hT b hL (Z:=Z) hy hI HO (nd _) _ λo sG a' κe e0 e1 e2 e3 e4 _ _ _ e6 => ?_
  have fin:(sG=.normal\/sG=.ret)->(Kc (gR P xid tab ro) fn Z.st.length d.out d.nr o.fr o.st).leads y ->
    bodyPostS P fn c₀ cs (λe u' w'=>settle u'=.returning/\∃ (Y:KS) (ds:List D),Y.w=w'/\Y.st=d.out.st y/\Inv Y/\Ext Z Y/\oL d.nr (d.out.fr y)=some ds/\jd Y (.ret ds) e) sG a' ({ c₀ with mode:=u' }::cs) κe.w:=by
   intro hex z0R
   obtain⟨v,k1,Y,ds,q1,q2,q3,q4,q5,q6⟩:=G6 hI e1 e2 e3 e4 (by rw[vX]; exact Nat.le_trans (uq.Xv _ _) hc2) z0R
   have JK:a'.defers=[]/\∃ u'',({ c₀ with mode:=u' }::cs:List Frame)={ c₀ with mode:=u'' }::cs/\∃ v,(results fn a'.tmps).run P κe.w=.ok v κe.w/\settle u''=.returning /\
     ∃ (Y:KS) (ds:List D),Y.w=κe.w/\Y.st=d.out.st y/\Inv Y/\Ext Z Y/\oL d.nr (d.out.fr y)=some ds/\jd Y (.ret ds) (.returned v) :=
    ⟨e4.defers,u',rfl,v,k1,nT,Y,ds,q1,q2,q3,q4,q5,q6⟩
   rcases hex with rfl | rfl
   ·exact JK
   ·exact JK
  cases GK:o.ex<;>rw[GK]at e0 e6<;>simp only at e0
  ·exact fin (.inl e6) e0
  ·exact zX e0
  ·exact fin (.inr e6) e0
  ·exact zX e0
 ·exact zX hy
theorem z5R(hm:(gR P xid tab ro).P.follows .mixedOrders=true)(hT:eo P tab){f:Nat}{fn:Func}{id:Nat}{ops:Array Oper}{b:Code}(hf:P.funcs[f]? = some fn)(I:fn.body=some (.seq (.region id ops false) b))
  (hn:(fn.name == "runtime.NumGoroutine")=false) (hL:gB P fn.ntmps H b) {d:hZ} (h:∀ x,evH (gR P xid tab ro) tab H fn ops b d d.ks.length none x=d.F x):cD (Mn P) f d:=by
 intro Z x xb y vX hy hI hlen hR
 rw[<- h]at hy
 refine⟨uS hf hn (xz) Z.w,z0O hm hT hf I hL hy vX hI hlen (u:=.returning) (rv:=.nilIface) (λrc Dz=>by cases Dz; exact .v8) (λc₀ cs hc => ?_) λs dd hs _ => ?_⟩
 ·have:recoverD (c₀::cs)=none:=by simp only[recoverD,hc]
  rw[this]
  exact⟨rfl,.returning,by rw[<- hc]; rfl,rfl⟩
 ·obtain⟨v,h1,M⟩:=hR.get s dd hs
  grind
theorem z5Q(hm:(gR P xid tab ro).P.follows .mixedOrders=true)(hT:eo P tab){f:Nat}{fn:Func}{id:Nat}{ops:Array Oper}{b:Code}(hf:P.funcs[f]? = some fn)(I:fn.body=some (.seq (.region id ops false) b))
  (hn:(fn.name == "runtime.NumGoroutine")=false) (hL:gB P fn.ntmps H b) {d:hZ} {k t:Nat} (hk:d.ks.length=k+1) (h:∀ x,evH (gR P xid tab ro) tab H fn ops b d k (some t) x=d.F x):cD (R9 P t) f d:=by
 intro Z x xb y vX hy hI hlen hR zs v hc
 have hc:xb=zs++[v]:=by simpa using hc
 subst hc
 rw[<- h]at hy
 have Kz:zs.length=k:=by simp at hlen; omega
 refine⟨uS hf hn (xz) Z.w,z0O hm hT hf I hL hy vX hI Kz (rv:=.iface t v) (λrc Dz => ?_) (λc₀ cs hc => ?_) λs dd hs hsk => ?_⟩
 ·simp only[zd2]at Dz
  split at Dz
  ·rename_i p hp
   cases Dz
   obtain⟨u,h1,M⟩:=hR.get k p hp
   have:u=v:=by
    grind
   subst this
   exact .iface t p u M
  ·cases Dz
 ·have:recoverD (c₀::cs)=some (.iface t v,{ c₀ with mode:=.panicking [{ v:=.iface t v,recovered:=true }] }::cs):=by simp only[recoverD,hc]
  rw[this]
  exact⟨rfl,_,rfl,rfl⟩
 ·obtain⟨u,h1,M⟩:=hR.get s dd hs
  grind
theorem Ff{p:Value}{g:Nat}{us vs:List Value}{w:World}(EG:p=Qw g us):∃ (fv:Fn) (cap zs:Array Value),(qS p vs.toArray).run P w=.ok ⟨.fn fv cap,zs⟩ w /\
  (invoke (.fn fv cap) zs).run P w=(callFunc (ed g) (bK g vs us).toArray).run P w/\∀ w',(invoke (.fn fv cap) zs).run P w'=(callFunc (ed g) (bK g vs us).toArray).run P w':=by
 subst EG
 unfold Qw ed bK
 cases I:qC 1000000 g with
 | true =>
  have key:∀ w',(invoke (.fn (.func (g % 1000000)) #[]) (us.toArray++vs.toArray)).run P w'=(callFunc (g % 1000000) (us++vs).toArray).run P w':=λw'=>by simp[invoke]
  exact⟨.func (g % 1000000),#[],us.toArray++vs.toArray,by rfl,key w,key⟩
 | false =>
  have key:∀ w',(invoke (.fn (.func g) us.toArray) vs.toArray).run P w'=(callFunc g (vs++us).toArray).run P w':=λw'=>by simp[invoke]
  exact⟨.func g,us.toArray,vs.toArray,by simp[qS],key w,key⟩
theorem QO:∀ {l:List Oper} {pre:List Oper} {f:Operand} {args:List Operand},J1 l=some (pre,f,args)->∃ o zs sr,l=pre++[o]/\o.op=.defer ⟨.value f,zs,sr⟩/\zs.toList=args/\o.guard=none/\o.dst=none
 | [],pre,f,args,h=>by cases h
 | [o],pre,f,args,h=>by
  simp only[J1]at h
  grind
 | o::p::r,pre,f,args,h=>by
  simp only[J1]at h
  split at h
  ·rename_i l z hz
   obtain⟨o',zs,sr,e,g1,g2,g3,g4⟩:=QO hz
   grind
  ·cases h
theorem E5{c:Ctx}{Z:KS}{a:Act}{id:Nat}{ops:Array Oper}{pre:List Oper}{f:Operand}{args:List Operand}{fr:Fr}{kn:Kn}{s1:om}{g:Nat}{caps l:List D}(hC:∀ g,Dp c.P g (c.fn g))(hI:Inv Z)(hR:Rel Z n fr.get a)(hk:yC kn fr.get)
  (J:J1 ops.toList=some (pre,f,args)) (jL:(tz c n ops pre ⟨fr,kn,Z.st,[],[]⟩).leads s1) (hf:bu s1.fr f=some (.wi g caps)) (R:gC (args.map (bu s1.fr))=some l) {Q:Exit->Act->World->Prop}
  (hQ:∀ (a':Act) (Y:KS) (fv:Fn) (cap zs:Array Value) (xb:List Value),Y.st=s1.st->Inv Y->Ext Z Y->Rel Y n s1.fr.get a'->yC s1.kn s1.fr.get->pC ops a a'->wN Y (bK g l caps) xb ->
   (∀ w',(invoke (.fn fv cap) zs).run c.P w'=(callFunc (ed g) xb.toArray).run c.P w')->Q .normal { a' with defers:=⟨.fn fv cap,zs⟩::a'.defers } Y.w):(Code.region id ops false).wp c.P Q a Z.w:=by
 obtain⟨o,oas,sr,e,ho,fp,hg,z5T⟩:=QO J
 have RP:∀ j:Nat,ops[j]? = (pre++[o])[j]? := λj=>by rw[<- e]; simp
 obtain⟨ks,g1,g2,_⟩:=rR pre 0 ⟨fr,kn,Z.st,[],[]⟩ s1 (λj=>by
  by_cases hj:j<pre.length
  ·grind
  ·right; omega) hk jL
 have bM:List.range ops.size=List.range' 0 pre.length++[pre.length]:=by
  have:ops.size=pre.length+1:=by rw[<- qO,e]; simp
  rw[this,qM,<- List.range'_append_1,Nat.zero_add]; rfl
 refine wp_region ?_
 rw[bM]
 refine Jo hC _ _ hI hR rfl g1 λa' Y e1 e2 e3 e4 e5 => ?_
 rw[wpOps_cons]
 unfold wpOp
 have hoi:ops[pre.length]? = some o:=by rw[RP]; simp
 rw[hoi]
 obtain⟨dst,op,ty,pos,after,guard⟩:=o
 simp only at ho hg z5T
 subst ho hg z5T
 simp only[Region.wanted,if_true]
 have lr:∀ (x:Operand) (z:D),bu s1.fr x=some z->RD Y z (a'.eval x):=λx z hz=>e4.eval (by rw[<- ij]; exact hz)
 have hpv:=lr f _ hf
 have hr:=fB (Z:=Y) (vs:=oas.toList.map a'.eval) R (by simp[<- fp]) (λi d v J hv=>by
      rw[<- fp]at J
      simp only[zJ]at J hv
      cases hi:oas.toList[i]? with
      | none=>grind
      | some x=>rw[hi]at J hv; simp at J hv; subst hv; exact lr x d J)
 generalize EG:a'.eval f=pv at hpv
 cases hpv with
 | wi _ _ us ZL hh2 =>
  obtain⟨fv,cap,zs,k1,k2,k3⟩:=Ff (P:=c.P) (vs:=oas.toList.map a'.eval) (w:=Y.w) (rfl:Qw g us=Qw g us)
  refine .inl ?_
  unfold Oper.wp
  have N:(execOp a'.eval ⟨none,.defer ⟨.value f,oas,sr⟩,ty,pos,after,none⟩).run c.P Y.w=.ok (.defer ⟨.fn fv cap,zs⟩) Y.w:=by
   have e9:oas.map a'.eval=(oas.toList.map a'.eval).toArray:=by apply Array.ext'; simp
   simp only[execOp,resolve,EG,e9,Sem.run_bind,k1,Result.andThen_ok,Sem.run_pure]
  rw[N]
  exact hQ a' Y fv cap zs _ e1 e2 e3 e4 g2 e5 (Y6 g hr (⟨ZL,hh2⟩:wN Y caps us)) k3
def Mu(κ0:KS)(out:uq)(nr:Nat)(y:out.den):Ending->World->Prop:=λe w'=>∃ (Y:KS) (ds:List D),Y.w=w'/\Y.st=out.st y/\Inv Y/\Ext κ0 Y/\oL nr (out.fr y)=some ds/\jd Y (.ret ds) e
theorem WY{κ0 κ2:KS}{fn:Func}{out:uq}{nr:Nat}{y:out.den}{fr:Fr}{ql:St}{tm:Array Value}(hZ:Inv κ0)(e1:κ2.st=ql)(e2:Inv κ2)(e3:Ext κ0 κ2)(e4:Rel κ2 fn.ntmps fr.get { tmps:=tm,defers:=[] })(hlen:κ0.st.length<=out.bs.length)
  (h:(Kc (gR P xid tab ro) fn κ0.st.length out nr fr ql).leads y):Leaves P fn tm (Mu κ0 out nr y) [] .returning κ2.w:=by
 obtain⟨v,k1,Y,ds,q1,q2,q3,q4,q5,q6⟩:=G6 (o:=⟨.ret,fr,[],ql,false⟩) hZ e1 e2 e3 e4 hlen h
 exact⟨v,k1,Y,ds,q1,q2,q3,q4,q5,q6⟩
theorem KF{code:Code}(h:u7 code=[])[Hp]:gB P n H code:=λp hp=>by rw[h]at hp; cases hp
theorem z2S{Z:KS}{f:F}{a:Act}(D:Hp)(h : @Rel D Z n f a) : @Rel Yc Z n f { tmps:=a.tmps,defers:=[] } := @Rel.mk Yc Z n f _ (@Rel.size D Z n f a h) rfl (@Rel.get D Z n f a h)
theorem Bv{Z Y:KS}{f:F}{a:Act}(x:Ext Z Y)(h : @Rel Yc Z n f a) : @Rel Yc Y n f a:=h.mono x
theorem zd3{Z:KS}{f:F}{a:Act}(h : @Rel Yc Z n f a)(l:List Deferred) : @Rel ⟨l⟩ Z n f { a with defers:=l } := @Rel.mk ⟨l⟩ Z n f _ h.size rfl h.get
theorem zb7(hm:(gR P xid tab ro).P.follows .mixedOrders=true)(hT:eo P tab){h:Dfd}(h0:cD (Mn P) h.g h.d0)(h1:cD (R9 P h.pt) h.g h.d1){fn:Func}{out:uq}{nr:Nat}{y:out.den}{κ0:KS}(hZ:Inv κ0)(hlen:κ0.st.length<=out.bs.length) :
  ∀ (code:Code),u7 code=[]->∀ {fr:Fr} {kn:Kn} {Z:KS} {a:Act},(evD (gR P xid tab ro) tab fn.ntmps H h fn κ0.st.length out nr code fr kn Z.st).leads y->Inv Z->Ext κ0 Z->Rel Z fn.ntmps fr.get a->yC kn fr.get ->
   code.wp P (bodyPostD P fn (Mu κ0 out nr y)) a Z.w:=by
 intro code
 induction code with
 | seq x b ix ib =>
  intro R fr kn Z a hy hI N hR hk
  have hlx:u7 x=[]:=by simp only[u7,qF]at R; exact R.1
  have hlb:u7 b=[]:=by simp only[u7,qF]at R; exact R.2
  have plain:(Vy (gR P xid tab ro) tab fn.ntmps H x fr kn Z.st λr=>match r.ex with
    | .normal=>evD (gR P xid tab ro) tab fn.ntmps H h fn κ0.st.length out nr b r.fr r.kn r.st
    | .ret=>Kc (gR P xid tab ro) fn κ0.st.length out nr r.fr r.st
    | _=>.fail).leads y->(Code.seq x b).wp P (bodyPostD P fn (Mu κ0 out nr y)) a Z.w:=by
   intro hy
   refine wp_seq (QX hm hT x (KF hlx) (Z:=Z) hy hI hR hk _ λo sG a' Y e0 e1 e2 e3 e4 T5 _ _ e6 => ?_)
   cases hex:o.ex<;>rw[hex]at e0 e6<;>simp only at e0
   ·cases e6
    exact ib hlb (Z:=Y) (e1▸e0) e2 (N.trans e3) e4 T5
   ·exact e0.elim
   ·cases e6
    show Leaves P fn a'.tmps _ a'.defers .returning Y.w
    rw[show a'.defers=[]from e4.defers]
    exact WY hZ e1 e2 (N.trans e3) (z2S Yc e4) hlen e0
   ·exact e0.elim
  simp only[evD]at hy
  split at hy
  ·rename_i ops hops
   obtain⟨id,rfl⟩:∃ id,x=.region id ops false:=by
    cases x with
    | region id ops' draw =>
     cases draw with
     | true=>cases hops
     | false=>cases hops; exact⟨id,rfl⟩
    | _=>cases hops
   split at hy
   ·rename_i pre f args J
    have H4:∀ o∈pre,∃ i:Nat,ops[i]? = some o:=λo ho=>by
     obtain⟨o',oas,sr,e,_⟩:=QO J
     have:o∈ops.toList:=by rw[e]; exact List.mem_append_left _ ho
     obtain⟨i,hi,he⟩:=List.getElem_of_mem this
     exact⟨i,by rw[<- he]; simp at hi; simp[hi]⟩
    rcases Vo pre hk H4 hy with⟨s1,jL,hy⟩ | ⟨_,_,_,hy⟩
    rotate_left
    ·exact hy.elim
    split at hy
    ·rename_i g caps l hf R
     cases hg:zU (ed g) h.g with
     | false=>rw[hg]at hy; exact hy.elim
     | true =>
     rw[hg,cond_true]at hy
     have hgg:=zM hg
     refine wp_seq (E5 (c:=gR P xid tab ro) (CJ hT) hI hR hk J jL hf R λa' κ1 fv cap zs xb e1 e2 e3 e4 T5 e5 e6 e7 => ?_)
     show b.wp P _ _ κ1.w
     have hdf:a'.defers=[]:=e4.defers
     rw[hdf]
     let D:Hp:=⟨[⟨.fn fv cap,zs⟩]⟩
     have hRD : @Rel D κ1 fn.ntmps s1.fr.get { a' with defers:=[⟨.fn fv cap,zs⟩] }:=zd3 e4 _
     rw[<- e1]at hy
     refine @QX _ D P xid tab ro fn.ntmps H hm hT b (@KF _ P fn.ntmps H b hlb D) s1.fr s1.kn κ1 _ _ _ y hy e2 hRD T5 _ λo sG a2 κe f0 f1 f2 f3 f4 HJ f5 _ f6 => ?_
     have zfR:a2.defers=[⟨.fn fv cap,zs⟩] := @Rel.defers D κe fn.ntmps _ a2 f4
     have hRa : @Rel Yc κe fn.ntmps (Fr.get (o.fr++(og (wH b)++s1.fr))) { tmps:=a2.tmps,defers:=[] }:=z2S D (@Wa _ D fn.ntmps κ1 κe s1.fr o.fr _ a2 (wH b) hRD f3 f4 f5)
     have z0D:wN κe (bK g l caps) xb:=wN.mono f3 e6
     have zfV:∀ (cs:Array Value) (w':World),cs=xb.toArray->(callFunc h.g cs).run P w'=.ok (.enter h.g cs) w'->(invoke (.fn fv cap) zs).run P w'=.ok (.enter h.g cs) w':=λcs w' QA hc=>by
      refine(e7 w').trans ?_
      rw[hgg,<- QA]; exact hc
     have zeo:(h.d0.K (bK g l caps) o.st λ_ ql=>Kc (gR P xid tab ro) fn κ0.st.length out nr (o.fr++(og (wH b)++s1.fr)) ql).leads y->Leaves P fn a2.tmps (Mu κ0 out nr y) a2.defers .returning κe.w:=by
      intro hK
      obtain⟨ds,ql,k1,k2⟩:=Go.AM.hZ.Tl hK
      rw[<- f1]at k1
      obtain⟨d1,d2⟩:=Go.AM.hZ.zde (Dr:=Mn P) Mn.mono h0 κe _ xb _ _ k1 f2 z0D
      rw[zfR]
      refine leaves_cons (by nofun) (zfV _ _ rfl d1) (d2.mono ?_)
      rintro e u' w' ⟨nT,κ2,rfl,g2,g3,g4,v,rfl,_⟩
      show Leaves P fn a2.tmps _ [] (settle u') κ2.w
      rw[nT]
      exact WY hZ g2 g3 ((N.trans (e3.trans f3)).trans g4) (Bv g4 hRa) hlen k2
     cases GK:o.ex<;>rw[GK]at f0 f6
     ·cases f6; exact zeo f0
     ·exact f0.elim
     ·cases f6; exact zeo f0
     ·rename_i pd
      obtain⟨v,rfl,hv⟩:=f6
      cases pd<;>first | exact zX f0 | skip
      rename_i t p
      have f00:(bif zU t h.pt then h.d1.K (bK g l caps++[p]) o.st λ_ ql=>Kc (gR P xid tab ro) fn κ0.st.length out nr (o.fr++(og (wH b)++s1.fr)) ql else .fail).leads y:=f0
      clear f0
      cases ht:zU t h.pt with
      | false=>rw[ht]at f00; exact f00.elim
      | true =>
      rw[ht,cond_true]at f00
      have:=zM ht
      subst this
      cases hv with
      | iface _ _ u hu =>
       obtain⟨ds,ql,k1,k2⟩:=Go.AM.hZ.Tl f00
       rw[<- f1]at k1
       obtain⟨d1,d2⟩:=Go.AM.hZ.zde (Dr:=R9 P h.pt) R9.mono h1 κe _ (xb++[u]) _ _ k1 f2 (z0D.append (wN.cons hu wN.nil)) xb u rfl
       show Leaves P fn a2.tmps _ a2.defers _ κe.w
       rw[zfR]
       refine leaves_cons (by nofun) (zfV _ _ rfl d1) (d2.mono ?_)
       rintro e u' w' ⟨nT,κ2,rfl,g2,g3,g4,v,rfl,_⟩
       show Leaves P fn a2.tmps _ [] (settle u') κ2.w
       rw[nT]
       exact WY hZ g2 g3 ((N.trans (e3.trans f3)).trans g4) (Bv g4 hRa) hlen k2
    ·exact hy.elim
   ·exact plain hy
  ·exact plain hy
 | _=>intro _ fr kn Z a hy; exact hy.elim
theorem zba(hm:(gR P xid tab ro).P.follows .mixedOrders=true)(hT:eo P tab){h:Dfd}(h0:cD (Mn P) h.g h.d0)(h1:cD (R9 P h.pt) h.g h.d1){f:Nat}{fn:Func}{code:Code}(hf:P.funcs[f]? = some fn)(I:fn.body=some code)
  (hn:(fn.name == "runtime.NumGoroutine")=false) (hL:u7 code=[]) {d:hZ} (he:∀ x,z05 (gR P xid tab ro) tab H h fn code d x=d.F x):xw P f d:=by
 intro Z x xb y vX hy hI hlen hR0
 rw[<- he]at hy
 unfold z05 at hy
 cases hle:qC d.ks.length fn.ntmps&&qC d.sh.bs.length d.out.bs.length with
 | false=>rw[hle]at hy; exact hy.elim
 | true =>
  rw[hle,cond_true]at hy
  simp only[zN]at hle
  have zg6:=V hle.1
  have z0W:=V hle.2
  refine .inl ⟨uS hf hn (xz) Z.w,calls_of_wp_defers hf I ?_⟩
  have hR:Rel Z fn.ntmps (d.sh.fr x).get { tmps:=xb.toArray++qI (fn.ntmps-xb.toArray.size) undef,defers:=[] }:=by
   refine⟨xz,rfl,λs e hs => ?_⟩
   obtain⟨v,h1,M⟩:=hR0.get s e hs
   grind
  rw[<- vX]at hy
  exact zb7 hm hT h0 h1 (κ0:=Z) hI (by rw[vX]; exact Nat.le_trans (uq.Xv _ _) z0W) code hL (Z:=Z) hy hI (Ext.refl Z) hR (nd _)
end
end Go.AM
namespace Go.AM
theorem Jc(c b:UInt8)(l:List UInt8):zI (b::l) [c]=if b=c then 0 else if zI l [c] == -1 then -1 else zI l [c]+1:=by
 show(if[c].isPrefixOf (b::l)then _ else _)=_
 by_cases h:b=c
 ·rw[if_pos h,if_pos (by subst h; simp[List.isPrefixOf])]
 ·rw[if_neg h,if_neg (by simp[List.isPrefixOf]; exact λe=>h e.symm)]
theorem Fw(c:UInt8):∀ l:List UInt8,zZ [c] 0 (qN l [c]) l=lj c l
 | []=>rfl
 | b::l=>by
  have ih:=Fw c l
  by_cases h:b=c
  ·have hi:zI (b::l) [c]=((0:Nat):Int):=by rw[Jc,if_pos h]; rfl
   have hc:=qP (s:=b::l) (sub:=[c]) (qz) hi
   rw[hc,show 1+qN ((b::l).drop (0+[c].length)) [c]=qN l [c]+1 from qR 1 _]
   unfold zZ
   rw[if_neg (by rw[hi]; decide),hi]
   show[]::zZ [c] 0 (qN l [c]) l=(if b=c then[]::lj c l else _)
   rw[if_pos h,ih]
  ·by_cases hm:zI l [c] = -1
   ·have hi:zI (b::l) [c] = -1:=by rw[Jc,if_neg h,hm]; rfl
    rw[Lib.count_miss hi]
    rw[Lib.count_miss hm]at ih
    show[b::l]=(if b=c then _ else z8F b (lj c l))
    rw[if_neg h,<- ih]
    rfl
   ·have hge:=Lib.index_ge l [c]
    obtain⟨i,hi⟩:∃ i:Nat,zI l [c]=(i:Int):=⟨(zI l [c]).toNat,O⟩
    have US:zI (b::l) [c]=((i+1:Nat):Int):=by
     rw[Jc,if_neg h,hi,if_neg (by rw[beq_iff_eq]; omega)]; omega
    have c1:=qP (s:=l) (sub:=[c]) (qz) hi
    have c2:=qP (s:=b::l) (sub:=[c]) (qz) US
    have e:(b::l).drop (i+1+[c].length)=l.drop (i+[c].length):=rfl
    rw[e]at c2
    rw[c1,qR]at ih
    rw[c2,qR]
    unfold zZ at ih ⊢
    rw[if_neg (by rw[hi,beq_iff_eq]; omega),hi]at ih
    rw[if_neg (by rw[US,beq_iff_eq]; omega),US]
    show(b::l.take i)::zZ [c] 0 _ (l.drop (i+1))=(if b=c then _ else z8F b (lj c l))
    rw[if_neg h,<- ih]
    rfl
theorem HE(s:ByteArray)(pos:Nat)(h:pos<s.size):pos+(Utf8.decode s pos).2<=s.size/\∀ j,1<=j->j<(Utf8.decode s pos).2->128<=(s.get! (pos+j)).toNat:=by
 unfold Utf8.decode
 simp only
 repeat' split
 all_goals simp only[zN,decide_eq_true_eq,beq_iff_eq]at *
 all_goals refine⟨O,λj h1 M => ?_⟩
 all_goals (rcases(by omega:j=1\/j=2\/j=3)with rfl | rfl | rfl<;>omega)
theorem U2(s:ByteArray)(i:Nat)(h:i<s.size):s.data.toList[i]? = some (s.get! i):=by
 have h':i<s.data.toList.length:=h
 rw[B h']
 have:=get_at s i h
 rw[zK]at this
 rw[this]
 rfl
theorem PF(c:UInt8):∀ (l cur r:zx),(∀ b∈l,b≠c)->sj c cur (l++r)=sj c (cur++l) r
 | [],cur,r,_=>by rw[List.append_nil]; rfl
 | b::l,cur,r,h=>by
  show(if b=c then _ else sj c (cur++[b]) (l++r))=_
  rw[if_neg (h b List.mem_cons_self),PF c l _ r (λx N=>h x (List.mem_cons_of_mem _ N)),List.append_assoc]
  rfl
def bD(l:zx)(a b:Nat):zx:=(l.drop a).take (b-a)
theorem SI(l:zx){a b:Nat}(n:Nat)(h:a<=b)(R:b+n<=l.length):bD l a (b+n)=bD l a b++(l.drop b).take n:=by
 unfold bD
 rw[show b+n-a=(b-a)+n by omega,List.take_add,List.drop_drop,show a+(b-a)=b by omega]
def K0(l:zx)(st:Option Nat)(pos:Nat):zx:=match st with | some a=>bD l a pos | none=>[]
theorem Eh(s:ByteArray):∀ (f pos:Nat) (st:Option Nat) (acc:List (Nat×Nat)),pos<=s.size->s.size<=pos+f->(∀ a,st=some a->a<pos) ->
  (zF s (qK (λn=>n==32) s f pos st acc)).map (λx=>bD s.data.toList x.1 x.2)=acc.map (λx=>bD s.data.toList x.1 x.2)++sj 32 (K0 s.data.toList st pos) (s.data.toList.drop pos):=by
 have hlen:s.data.toList.length=s.size:=rfl
 intro f
 induction f with
 | zero =>
  intro pos st acc h1 M h3
  have:pos=s.size:=O
  subst this
  rw[qG (O)]
  show(zF s (acc,st)).map _=_
  cases st with
  | none=>unfold zF K0 sj; simp
  | some a =>
   have ha:=h3 a rfl
   have jZ:bD s.data.toList a s.size≠[]:=λe=>by
    have:=congrArg zG e
    unfold bD at this
    simp only[zQ,zP,zT]at this
    omega
   unfold zF K0 sj
   simp[jZ]
 | succ f ih =>
  intro pos st acc h1 M h3
  by_cases hp:pos<s.size
  ·have N:=U2 s pos hp
   have wM:pos<s.data.toList.length:=hp
   obtain⟨db1,db2⟩:=HE s pos hp
   have hw:1<=(Utf8.decode s pos).2:=Lib.decode_width_pos s pos hp
   have J:s.data.toList.drop pos=s.get! pos::s.data.toList.drop (pos+1):=by
    rw[List.drop_eq_getElem_cons wM]
    rw[B wM]at N
    injection N with N
    rw[N]
   unfold qK
   rw[if_pos hp]
   by_cases h32:s.get! pos=32
   ·have z5P:Utf8.decode s pos=(32,1):=by
     have h0:(s[pos]'hp).toNat=32:=by rw[<- get_at s pos hp,zK,h32]; rfl
     rw[decode_ascii s pos hp (O),h0]
    rw[z5P]
    simp only[beq_self_eq_true,if_true]
    rw[J,h32]
    cases st with
    | none =>
     simp only
     rw[ih (pos+1) none acc (O) (O) (λa h=>by cases h)]
     show _=acc.map _++(if(32:UInt8)=32 then(if([]:zx)=[]then sj 32 [] _ else _)else _)
     rw[if_pos rfl,if_pos rfl]
     rfl
    | some a =>
     have ha:=h3 a rfl
     have jZ:bD s.data.toList a pos≠[]:=λe=>by
      have:=congrArg zG e
      unfold bD at this
      simp only[zQ,zP,zT]at this
      omega
     simp only
     rw[ih (pos+1) none _ (O) (O) (λa h=>by cases h)]
     show _=acc.map _++(if(32:UInt8)=32 then(if bD s.data.toList a pos=[]then _ else bD s.data.toList a pos::sj 32 [] _)else _)
     rw[if_pos rfl,if_neg jZ,List.map_append,List.append_assoc]
     rfl
   ·have znx:((Utf8.decode s pos).1==32)=false:=by
     rw[beq_eq_false_iff_ne]
     by_cases RI:(s[pos]'hp).toNat<128
     ·rw[decode_ascii s pos hp RI]
      intro e
      apply h32
      have h0:(s.get! pos).toNat=(s[pos]'hp).toNat:=by rw[<- get_at s pos hp,zK]
      exact UInt8.toNat_inj.1 (by rw[h0]; exact e)
     ·have:=(decode_high s pos hp (O)).1
      omega
    rw[znx]
    simp only[Bool.false_eq_true,if_false]
    generalize (Utf8.decode s pos).2=n at *
    have hch:s.data.toList.drop pos=(s.data.toList.drop pos).take n++s.data.toList.drop (pos+n):=by
     rw[<- List.drop_drop,List.take_append_drop]
    have Te:∀ b∈(s.data.toList.drop pos).take n,b≠32:=λb I=>by
     obtain⟨j,hj,ej⟩:=List.getElem_of_mem I
     simp only[zQ,zP]at hj
     rw[List.getElem_take,List.getElem_drop]at ej
     have hg:=U2 s (pos+j) (O)
     rw[B (O)]at hg
     injection hg with hg
     rw[hg]at ej
     rw[<- ej]
     by_cases j0:j=0
     ·subst j0; exact h32
     ·have:=db2 j (O) (O)
      intro e
      rw[e]at this
      exact absurd this (xn)
    have fin:∀ a,a<=pos->bD s.data.toList a pos=K0 s.data.toList st pos->(zF s (qK (λn=>n==32) s f (pos+n) (some a) acc)).map (λx=>bD s.data.toList x.1 x.2)=acc.map (λx=>bD s.data.toList x.1 x.2)++sj 32 (K0 s.data.toList st pos) (s.data.toList.drop pos):=by
     intro a ha e
     rw[ih (pos+n) (some a) acc (O) (O) (λx N=>by cases N; omega),hch,PF 32 _ _ _ Te]
     show _++sj 32 (bD s.data.toList a (pos+n)) _=_
     rw[SI _ n ha (O),e]
    cases st with
    | none=>exact fin pos (E _) (by unfold bD K0; rw[Nat.sub_self,List.take_zero])
    | some a=>exact fin a (Nat.le_of_lt (h3 a rfl)) rfl
  ·have:pos=s.size:=O
   subst this
   rw[Lib.spansFromP_end _ _ _ _ _ _ (O),qG (O)]
   cases st with
   | none=>unfold zF K0 sj; simp
   | some a =>
    have ha:=h3 a rfl
    have jZ:bD s.data.toList a s.size≠[]:=λe=>by
     have:=congrArg zG e
     unfold bD at this
     simp only[zQ,zP,zT]at this
     omega
    unfold zF K0 sj
    simp[jZ]
theorem Rz(s:ByteArray):(zE (λn=>n==32) s).map (·.data.toList)=sj 32 [] s.data.toList:=by
 have h:=Eh s s.size 0 none [] (Nat.zero_le _) (O) (λa h=>by cases h)
 unfold zE Lib.spansOfP
 rw[List.map_map]
 refine Eq.trans (List.map_congr_left λx _ => ?_) (h.trans (by rw[List.drop_zero]; rfl))
 show(s.extract x.1 x.2).data.toList=bD s.data.toList x.1 x.2
 rw[Lib.extract_data]
 rfl
theorem HR(chars:zx):∀ l:zx,qE l chars=rj l chars
 | []=>rfl
 | b::l=>by simp only[qE,rj,HR chars l]
end Go.AM
namespace Go.AM
set_option linter.unusedSectionVars false
variable [yY]
theorem contains_eq(s sub:zx):Lib.contains s sub=decide ((0:Int)<=Yp s sub):=by
 unfold Lib.contains
 rw[MX]
theorem RD.TM{Z:KS}{f:Nat}{v:Value}(h:RD Z (.wi f []) v)(hf:Nat.blt f 1000000=true):v=.func (.func f) #[] #[]:=by
 cases h with
 | wi _ _ vs R _ =>
  have:vs=[]:=X R.symm
  subst this
  exact C6 hf []
theorem Pw{Z:KS}{w':World}{A cap:Nat}{t:TypeId}{cur:Array Value}{fz:Nat×Nat}{xs:List zx}(h0:Z.w.heap.size<=A)(h1:A<w'.heap.size)(hh:w'.heap[A]? = some (.cells cur t fz))(jg:xs.length<=cap)
  (hc:∀ i (hi:i<xs.length),cur[i]? = some (.string ⟨xs[i].toArray⟩)):RD (Z.grown w') (.qi (.sl .str) xs) (.slice (some ⟨A,0,none⟩) xs.length cap):=by
 refine RD.qi (.sl .str) xs [.slice (some ⟨A,0,none⟩) xs.length cap] ?_
 have hf:∀ i,i<xs.length->∃ s,xs.getD i []=s/\cur[i]? = some (.string ⟨s.toArray⟩):=λi hi=>⟨_,rfl,by
  rw[qA,B hi]; exact hc i hi⟩
 refine Rc.sl .str xs A 0 cap (λi=>[.string ⟨(xs.getD i []).toArray⟩]) (.inr ⟨h0,h1⟩) jg (λi hi => ?_) (λi hi j v hv => ?_)
 ·show Rc _ _ .str xs[i] [.string ⟨(xs.getD i []).toArray⟩]
  rw[qA,B hi]
  exact Rc.str _
 ·obtain⟨s,e1,e2⟩:=hf i hi
  cases j with
  | succ j=>cases hv
  | zero =>
   have hv:some (zV ⟨(xs.getD i []).toArray⟩)=some v:=hv
   injection hv with hv
   rw[e1]at hv
   subst hv
   show w'.cell? ⟨A,0+i*Ty.size .str+0,none⟩=_
   rw[show 0+i*Ty.size .str+0=i from by show 0+i*1+0=i; omega]
   simp[World.cell?,hh,e2]
theorem z3b{Z:KS}(s sep:zx)(h1:sep.length=1)(t:TypeId) :
  RD (Z.grown (Z.w.alloc (.cells ((Lib.splitB ⟨sep.toArray⟩ 0 (zO ⟨s.toArray⟩ ⟨sep.toArray⟩) ⟨s.toArray⟩).map zV).toArray t))) (.qi (.sl .str) (lj (sep.headD 0) s))
   (.slice (some ⟨Z.w.heap.size,0,none⟩) (zO ⟨s.toArray⟩ ⟨sep.toArray⟩+1) (zO ⟨s.toArray⟩ ⟨sep.toArray⟩+1)):=by
 obtain⟨c,rfl⟩:∃ c,sep=[c]:=by
  match sep,h1 with
  | [c],_=>exact⟨c,rfl⟩
 have J:=Lib.splitB_data ⟨[c].toArray⟩ 0 (zO ⟨s.toArray⟩ ⟨[c].toArray⟩) ⟨s.toArray⟩
 have he:zZ [c] 0 (qN s [c]) s=lj c s:=Fw c s
 have J:(Lib.splitB ⟨[c].toArray⟩ 0 (zO ⟨s.toArray⟩ ⟨[c].toArray⟩) ⟨s.toArray⟩).map (·.data.toList)=lj c s:=J.trans he
 have hlen:=Lib.splitB_all ⟨[c].toArray⟩ (E 1) 0 (zO ⟨s.toArray⟩ ⟨[c].toArray⟩) ⟨s.toArray⟩ rfl
 generalize Lib.splitB ⟨[c].toArray⟩ 0 (zO ⟨s.toArray⟩ ⟨[c].toArray⟩) ⟨s.toArray⟩=bs at *
 rw[<- hlen]
 show RD _ (.qi (.sl .str) (lj c s)) _
 rw[<- J,show bs.length=(bs.map (·.data.toList)).length from(zH ..).symm]
 refine Pw (cur:=(bs.map zV).toArray) (t:=t) (fz:=(0,0)) (E _) (by show Z.w.heap.size<(Z.w.heap.push _).size; rw[Array.size_push]; omega) (by show(Z.w.heap.push _)[Z.w.heap.size]? = _; rw[Array.getElem?_push,if_pos rfl]) (E _) (λi hi => ?_)
 rw[zH]at hi
 rw[List.getElem?_toArray,zJ,B hi,List.getElem_map]
 rfl
theorem RA{Z:KS}{w':World}{A:Nat}{t:TypeId}(s:zx)(ho:w'.ownsRow Z.w.heap.size t 1 (.slice (some ⟨A,0,none⟩) (zE (λn=>n==32) ⟨s.toArray⟩).length (zE (λn=>n==32) ⟨s.toArray⟩).length) (zE (λn=>n==32) ⟨s.toArray⟩).length ((zE (λn=>n==32) ⟨s.toArray⟩).map zV)) :
  RD (Z.grown w') (.qi (.sl .str) (sj 32 [] s)) (.slice (some ⟨A,0,none⟩) (zE (λn=>n==32) ⟨s.toArray⟩).length (zE (λn=>n==32) ⟨s.toArray⟩).length):=by
 have he:(zE (λn=>n==32) ⟨s.toArray⟩).map (·.data.toList)=sj 32 [] s:=Rz ⟨s.toArray⟩
 generalize zE (λn=>n==32) ⟨s.toArray⟩=bs at *
 rw[<- he]
 obtain⟨-,⟨h,-⟩ | ⟨g,cap,cur,hv,hg,hh,hn,jg,bM,HQ⟩⟩:=ho
 ·cases h
 ·have e1:A=g:=by injection hv with a b c; injection a with a; injection a with a
  have e2:bs.length=cap:=by injection hv
  subst e1
  have wM:A<w'.heap.size:=(Array.getElem?_eq_some_iff.1 hh).1
  have:=Pw (Z:=Z) (xs:=bs.map (·.data.toList)) (cap:=bs.length) hg wM hh (by rw[zH]; exact E _) (λi hi=>by
   rw[zH]at hi
   have M:(cur.toList.take (bs.length*1))[i]? = (bs.map zV)[i]? := congrArg (λl=>l[i]?) HQ
   rw[List.getElem?_take,if_pos (O),zJ,B hi]at M
   rw[<- zL,M,List.getElem_map]
   rfl)
  rwa [zH]at this
end Go.AM
namespace Go.Proofs
open Go.Shelf Go.RowKit Go.Lib
variable {P:Program} {ρ:Ren}
set_option maxHeartbeats 8000000 in
set_option maxRecDepth 1000000 in
theorem Any.Qb(L:Lays.n152 P ρ)(s:ByteArray)(r:Int)(w:World)(hs:∀ b∈s.data.toList,b.toNat<128)(h1:128<=r)(M:r<=2147483647)(h63:s.size<4294967281) :
  Calls P (ρ.f 152) #[.string s,.int .i32 r] w λe w'=>e=.returned (.int .i64 (-1))/\Below w.heap.size w w':=by
 have mixed:=L.mixed
 have t3:=L.t3; have a3:=L.a3; have z3:=L.z3; have v3:=L.v3
 have t4:=L.t4; have a4:=L.a4; have z4:=L.z4; have v4:=L.v4
 have t5:=L.t5; have a5:=L.a5; have z5:=L.z5; have v5:=L.v5
 have t9:=L.t9; have a9:=L.a9; have z9:=L.z9; have v9:=L.v9
 have t21:=L.t21; have a21:=L.a21; have z21:=L.z21; have v21:=L.v21
 have zqU:∀ args w,(callFunc (ρ.f 137) args).run P w=.ok (.enter (ρ.f 137) args) w:=enters_of L.f137 (by kernel_rfl) rfl
 have zqT:∀ args w,(callFunc (ρ.f 119) args).run P w=.ok (.enter (ρ.f 119) args) w:=enters_of L.f119 (by kernel_rfl) rfl
 have HS:Aside (∀ b∈s.data.toList,b.toNat<128):=hs
 clear hs
 by_cases hE:r=65533
 ·subst hE
  go_enter L.f152,Body.n152_ntmps ρ
  go_wp2
  go_loopg [5,6] s.size (λg _ _ wx=>∃ i:Nat,i+g=s.size/\wx=w.iter s i)
  case atStart=>exact⟨0,O,rfl⟩
  case round =>
   obtain⟨i,hig,rfl⟩:=hrel
   cases gk with
   | zero =>
    obtain rfl:i=s.size:=O
    have Du:=run_next_end (P:=P) w s s.size
    go_wp2
    go_ret
    exact⟨rfl,(Below.refl _ _).alloc (E _) _⟩
   | succ g =>
    have hi:i<s.size:=O
    obtain⟨x,N⟩:∃ x:UInt8,s[i]'hi=x:=⟨_,rfl⟩
    have I1:s.data.toList[i]? = some x:=by rw[<- N]; exact Lib.data_getElem? s i hi
    have z9T:x.toNat<128:=HS.out x (zS I1)
    have Du:=λty=>run_next_ascii (P:=P) w s i ty hi (by rw[N]; exact z9T)
    rw[N]at Du
    have jZ:((x.toNat:Int)==65533)=false:=beq_eq_false_iff_ne.2 (O)
    clear I1 N
    go_wp2
    go_roundg g
    case measure=>omega
    case rel=>exact⟨i+1,O,rfl⟩
 ·have jZ:(r==65533)=false:=beq_eq_false_iff_ne.2 hE
  have c0:decide ((0:Int)<=r)=true:=decide_eq_true (O)
  have c1:decide (r<128)=false:=decide_eq_false (O)
  cases hv:Lib.validRune r
  ·go_enter L.f152,Body.n152_ntmps ρ
   go_wp2_with (go_at_fn (ρ.f 119); refine(Any.utf8_ValidRune { L with } _ _).mono ?_; rintro e w' ⟨rfl,hw⟩; rw[hw,hv])
   go_ret
   exact⟨rfl,Below.refl _ _⟩
  ·obtain⟨g1,g2,g3⟩:=encode_facts r (by rw[validRune_eq]; exact hv) h1
   have hu:(P.underlying (ρ.t 21)).isSome=true:=by rw[t21]; rfl
   have u21:=run_underlying L.t21; have u9:=run_underlying L.t9; have u3:=run_underlying L.t3
   go_enter L.f152,Body.n152_ntmps ρ
   go_wp2_with (go_at_fn (ρ.f 119); refine(Any.utf8_ValidRune { L with } _ _).mono ?_; rintro e w' ⟨rfl,hw⟩; rw[hw,hv])
   clear hw
   go_step3
   go_wp2
   obtain⟨m,hm⟩:∃ m:Nat,(Utf8.encode r).size=m+1:=⟨(Utf8.encode r).size-1,O⟩
   have bM:((Utf8.encode r).size:Int)-1=(m:Int):=O
   simp only[bM]
   by_cases wM:m<s.size
   ·have R:decide ((m:Int)<(s.size:Int))=true:=decide_eq_true (O)
    obtain⟨x,N⟩:∃ x:UInt8,s[m]'wM=x:=⟨_,rfl⟩
    obtain⟨y,hy⟩:∃ y:UInt8,(Utf8.encode r)[m]'(O)=y:=⟨_,rfl⟩
    have z9T:x.toNat<128:=HS.out x (by rw[<- N]; exact zS (Lib.data_getElem? s m wM))
    have zqz:128<=y.toNat:=by rw[<- hy]; have:=g3 (O); simpa[hm]using this
    have T7:(0:Int)<=(m:Int)+1:=O
    have I0:(m:Int)+1<=(s.size:Int):=O
    have Td:¬ ((m:Int)+1<0):=O
    have Yl:¬ ((s.size:Int)<(m:Int)+1):=O
    have hxy:((x.toNat:Int)==(y.toNat:Int))=false:=beq_eq_false_iff_ne.2 (O)
    have hwr:IntKind.i64.wrap ((m:Int)+1)=(m:Int)+1:=wrap_small _ (O) (O)
    have MP:((y.toNat:Int)).toNat.toUInt8=y:=qz
    have z61:zR (List.take (s.size-(m+1)) (List.drop (m+1) s.data.toList)) y<0:=by
     have Cr:=zY (List.take (s.size-(m+1)) (List.drop (m+1) s.data.toList)) y
     have hc:(List.take (s.size-(m+1)) (List.drop (m+1) s.data.toList)).contains y=false:=by
      rw[qL,decide_eq_false_iff_not]
      intro hm
      have:=HS.out y (List.mem_of_mem_drop (List.mem_of_mem_take hm))
      omega
     rw[hc]at Cr
     have:=gm Cr.symm
     omega
    have hsl:∀ zk:World,(Instr.slice (ρ.t 9) (.string s) (some (.int .i64 ((m:Int)+1))) none none).run P zk=.ok (.string (s.extract (m+1) s.size)) zk:=λzk=>by rw[run_slice_string_from_if zk _ _ _ _ t9,if_pos ⟨T7,I0⟩]; rfl
    go_rounds 1
    go_step3
    go_wp2
    go_region_o
    all_goals go_wp2
    all_goals go_region_with_o ((go_at_fn (ρ.f 137); refine(Any.strings_IndexByte { L with } _ _ _).mono ?_; rintro e w' ⟨rfl,hw⟩; rw[hw,MP]))
    all_goals go_wp2
    change qQ 2 _ Exit.ret _ _
    go_wp2
    change qQ 0 _ Exit.ret _ _
    go_ret
    exact⟨rfl,⟨rfl,rfl,rfl,E _,λ_ _=>rfl⟩⟩
   ·have R:decide ((m:Int)<(s.size:Int))=false:=decide_eq_false (O)
    go_rounds 1
    change qQ 0 _ Exit.ret _ _
    go_ret
    exact⟨rfl,Below.refl _ _⟩
set_option maxHeartbeats 8000000 in
set_option maxRecDepth 1000000 in
theorem Any.Zd(L:Lays.n153 P ρ)(s chars:ByteArray)(w:World)(M:2<=chars.size)(h8:s.size<=8)(QA:chars.size<4294967281)(hac:∀ b∈chars.data.toList,b.toNat<128) :
  Calls P (ρ.f 153) #[.string s,.string chars] w λe w'=>e=.returned (.int .i64 (qE s.data.toList chars.data.toList))/\Below w.heap.size w w':=by
 have HC:Aside (∀ b∈chars.data.toList,b.toNat<128):=hac
 clear hac
 have zrY:chars.toList.isEmpty=false:=by
  rw[Lib.toList_data]
  cases h:chars.data.toList with
  | nil=>have:=Lib.size_eq chars; rw[h,zT]at this; omega
  | cons _ _=>rfl
 have Yl:((chars.size:Int)==1)=false:=beq_eq_false_iff_ne.2 (O)
 have h8z:decide ((8:Int)<(s.size:Int))=false:=decide_eq_false (O)
 have t3:=L.t3; have a3:=L.a3; have z3:=L.z3; have v3:=L.v3
 have t4:=L.t4; have a4:=L.a4; have z4:=L.z4; have v4:=L.v4
 have t5:=L.t5; have a5:=L.a5; have z5:=L.z5; have v5:=L.v5
 have t9:=L.t9; have a9:=L.a9; have z9:=L.z9; have v9:=L.v9
 have t21:=L.t21; have a21:=L.a21; have z21:=L.z21; have v21:=L.v21
 have zqV:∀ args w,(callFunc (ρ.f 152) args).run P w=.ok (.enter (ρ.f 152) args) w:=enters_of L.f152 (by kernel_rfl) rfl
 have zqX:∀ args w,(callFunc (ρ.f 226) args).run P w=.ok (.enter (ρ.f 226) args) w:=enters_of L.f226 (by kernel_rfl) rfl
 go_enter L.f153,Body.n153_ntmps ρ
 go_wp2_with (go_at_fn (ρ.f 226); refine(Any.strings_shouldUseASCIISet { L with } _ _).mono ?_; rintro e w' ⟨rfl,hw⟩; rw[hw,h8z])
 go_loopw [9,10] (λ_ _ wr=>∃ pos:Nat,wr.heap[w.heap.size]? = some (.stringIter s pos)/\Below w.heap.size w wr/\pos<=s.size/\Lib.NoAny s.data.toList chars.data.toList pos) (λ_ _ wr=>s.size-wr.iterPos w.heap.size)
 case atStart=>exact⟨0,World.iter_heap w s 0,(Below.refl _ w).alloc (E _) _,Nat.zero_le _,Lib.NoAny.zero _ _⟩
 case round =>
  obtain⟨pos,hit,T8,hps,Te⟩:=hrel
  have HN:Aside (Lib.NoAny s.data.toList chars.data.toList pos):=Te
  clear Te
  have z9O:=iterPos_of hit
  by_cases hp:pos<s.size
  ·have Du:∀ ty,(Instr.next (.pointer (some ⟨w.heap.size,0,none⟩)) true ty).run P wr=_:=λty=>Lib.run_next_any_at wr w.heap.size s pos ty hit hp
   have IZ:=Lib.iterAt_heap wr w.heap.size s pos (pos+(Utf8.decode s pos).2) hit
   have z0L:=Lib.below_iterAt T8 (k:=w.heap.size) (E _) s (pos+(Utf8.decode s pos).2)
   obtain⟨W1,hW1⟩:∃ W1,W1=wr.iterAt w.heap.size s (pos+(Utf8.decode s pos).2):=⟨_,rfl⟩
   rw[<- hW1]at Du IZ z0L
   have zfB:=lt_of_block IZ
   have hwd:=Lib.decode_width_pos s pos hp
   obtain⟨db1,db2⟩:=Go.AM.HE s pos hp
   have I1:=Go.AM.U2 s pos hp
   clear hW1 hit T8
   by_cases RI:(s[pos]'hp).toNat<128
   ·have z5P:=decode_ascii s pos hp RI
    rw[z5P]at Du IZ hwd
    have KA:s.get! pos=s[pos]'hp:=by rw[<- get_at s pos hp,zK]
    rw[KA]at I1
    generalize s[pos]'hp=x at *
    have Cr:=zY chars.data.toList x
    have MP:((x.toNat:Int)).toNat.toUInt8=x:=qz
    have Hx:Aside (s.data.toList[pos]? = some x):=I1
    clear I1 z5P db2 KA
    cases Ja:chars.data.toList.contains x
    ·rw[Ja]at Cr
     have wM:¬ ((0:Int)<=zR chars.data.toList x):=gm Cr.symm
     clear Cr
     go_wp2_with (go_at_fn (ρ.f 152); refine(Any.strings_IndexRune_ascii { L with } _ _ _ (O) (O)).mono ?_; rintro e w' ⟨rfl,hw⟩; rw[hw,MP])
     go_roundw
     case rel=>exact⟨pos+1,IZ,z0L,O,HN.out.succ Hx.out Ja⟩
     case measure=>rw[iterPos_of IZ,z9O]; omega
    ·rw[Ja]at Cr
     have hge:(0:Int)<=zR chars.data.toList x:=uA Cr.symm
     clear Cr
     go_wp2_with (go_at_fn (ρ.f 152); refine(Any.strings_IndexRune_ascii { L with } _ _ _ (O) (O)).mono ?_; rintro e w' ⟨rfl,hw⟩; rw[hw,MP])
     go_ret
     exact⟨by rw[Lib.indexAny_hit HN.out Hx.out Ja]; rfl,z0L⟩
   ·have hr1:(128:Int)<=((Utf8.decode s pos).1:Int):=by have:=(decode_high s pos hp (O)).1; omega
    have hr2:((Utf8.decode s pos).1:Int)<=2147483647:=by have:=decode_le s pos; omega
    have HN2:Aside (Lib.NoAny s.data.toList chars.data.toList (pos+(Utf8.decode s pos).2)):=λj b hj I=>by
     by_cases h:j<pos
     ·exact HN.out j b h I
     ·have hg:=Go.AM.U2 s j (O)
      rw[hg]at I
      injection I with I
      have zq3:128<=b.toNat:=by
       rw[<- I]
       by_cases h0:j=pos
       ·subst h0
        have KA:s.get! j=s[j]'hp:=by rw[<- get_at s j hp,zK]
        rw[KA]; omega
       ·have:=db2 (j-pos) (O) (O)
        rwa [show pos+(j-pos)=j by omega]at this
      rw[qL,decide_eq_false_iff_not]
      intro hm
      have:=HC.out b hm
      omega
    clear I1 db2 HN
    generalize (Utf8.decode s pos).1=r at *
    generalize (Utf8.decode s pos).2=n at *
    go_wp2_with (go_at_fn (ρ.f 152); refine(Any.Qb { L with } _ _ _ HC.out hr1 hr2 QA).mono ?_; rintro e w' ⟨rfl,hB⟩)
    go_roundw
    case rel=>exact⟨pos+n,by rw[hB.block _ zfB]; exact IZ,z0L.trans (hB.mono z0L.size),O,HN2.out⟩
    case measure=>rw[iterPos_of ((hB.block _ zfB).trans IZ),z9O]; omega
  ·obtain rfl:pos=s.size:=O
   have Du:∀ ty,(Instr.next (.pointer (some ⟨w.heap.size,0,none⟩)) true ty).run P wr=_:=λty=>Lib.run_next_end_at wr w.heap.size s s.size ty hit (O)
   go_wp2
   go_ret
   exact⟨by rw[Lib.indexAny_none (by rw[<- Lib.size_eq]; exact HN.out)]; rfl,T8⟩
theorem Any.Xw(L:Lays.n153 P ρ)(hv116:∀ w,(zeroValue (ρ.t 116)).run P w=.ok (.agg (qI 256 (.bool false))) w)(zg0:(P.info? (ρ.t 116)).map (·.size)=some 256)(s chars:ByteArray)(w:World)(M:2<=chars.size)(hs:s.size<4294967281)(QA:chars.size<4294967281)
  (hac:∀ b∈chars.data.toList,b.toNat<128) :
  Calls P (ρ.f 153) #[.string s,.string chars] w λe w'=>e=.returned (.int .i64 (qE s.data.toList chars.data.toList))/\Below w.heap.size w w':=by
 by_cases h8:s.size<=8
 ·exact Any.Zd L s chars w M h8 QA hac
 ·refine(Any.strings_IndexAny_long L hv116 zg0 s chars w (O) (O) hs QA λj b h=>hac b (zS h)).mono λe w' ⟨h1,M⟩=>⟨h1,?_⟩
  rw[M]
  exact((Below.refl _ _).alloc (E _) _).alloc (qz) _
end Go.Proofs