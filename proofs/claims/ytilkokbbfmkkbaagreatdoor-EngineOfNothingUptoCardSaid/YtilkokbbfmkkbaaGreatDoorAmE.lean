/-
  The abstract machine, part E: texts of our own, the same for each claim.
-/
import Derived.Test.YtilkokbbfmkkbaaGreatDoorAmD
import Derived.Below
import Derived.Lib.Repeat
import Derived.Lib.ItoaNum
import Derived.Lib.IndexMore
import Derived.Lib.AsciiSet
import Derived.Lib.Strings
import Derived.Sort.Grow
import Derived.Deep.Draws
import Derived.Test.YtilkokbbfmkkbaaGreatDoorAmA
import Derived.Lib.Builder
import Derived.Recover
import Derived.Lib.Split
import Derived.Lib.SplitLaws
import Derived.Lib.FieldsP
import Derived.Lib.IndexAny
import Derived.Laws.RangeAny
import Derived.Lib.RuneCount
import Derived.Laws.AppendOwn
import Derived.Shelf.Strings.IndexAnyAll
import Derived.Laws.Runes
import Derived.Shelf.Small.Utf8
import Derived.WalkMore
import Derived.Handy
import Derived.Shelf.RegionOpenPlain
import Derived.WalkSmall
import Derived.Lib.OthersKept
set_option linter.unusedVariables false
namespace Go.AM
set_option linter.unusedSectionVars false
variable [we]
open Go.RowKit
theorem dZ{P:Program}{g:Nat}{fn:Func}{args:Array Value}(hf:P.funcs[g]? = some fn) (hn:(fn.name == "runtime.NumGoroutine")=false) (hb:fn.body.isNone=false) (w:World) :
  (callFunc g args).run P w=.ok (.enter g args) w:=xy hf hn hb w
def KS.grown(κ:KS)(w':World):KS:={ κ with w:=w',ok:=λk=>κ.ok k\/(κ.w.heap.size<=k/\k<w'.heap.size) }
theorem xc{P:Program}{g:Nat}{fn:Func}{d:Uq}(hf:P.funcs[g]? = some fn) (hn:(fn.name == "runtime.NumGoroutine")=false) (hb:fn.body.isNone=false)
  (H:∀ (κ:KS) (x:jT d.ps) (zp:List Value) (y:UP d.rs),(d.F x).leads y->Inv κ->zU κ (o5 d.ps x) zp ->
   Calls P g zp.toArray κ.w λe w'=>Below κ.w.heap.size κ.w w'/\(Ext κ (κ.grown w')->qL (κ.grown w') (.ret (ny d.rs y)) e)):ze P g d:=by
 intro κ x zp y qQ hy hI ha
 refine .inl ⟨dZ hf hn hb κ.w,(H κ x zp y hy hI ha).mono ?_⟩
 rintro e w' ⟨hB,he⟩
 have X9:κ.ph=[]:=List.eq_nil_of_length_eq_zero (by rw[hI.len,qQ]; rfl)
 have hx:Ext κ (κ.grown w'):=⟨hB.os,hB.tape,hB.output,hB.size,λk hk=>⟨.inl hk,hB.block k (hI.ux k hk)⟩,λk hk=>hk.elim .inl λh=>.inr (.inl h.1),λ_ _ _ h=>.inl h,λb d h=>by grind,
   λb v0 e xs h=>by grind,λb h=>by grind,Nat.le_refl _,λk hk _=>hB.block k hk⟩
 refine⟨κ.grown w',rfl,qQ,⟨hI.len,λk hk=>hk.elim (λh=>Nat.lt_of_lt_of_le (hI.ux k h) hB.size) (·.2),λb blk n hb => ?_,hI.inj,λb x hb => ?_,hI.gl.mono hx.same⟩,hx,he hx⟩
 ·have:κ.ph[b]? = some (some (blk,n)):=hb
  grind
 ·have:κ.st[b]? = some x:=hb
  grind
theorem GD(u:Nat):Lib.decDigits u=D2 u:=by
 induction u using Nat.strongRecOn with
 | _ u ih =>
  rw[Lib.decDigits,D2]
  grind
theorem Ca(n:Int):Lib.itoa n=Vr n:=by
 unfold Lib.itoa Vr
 rw[GD,GD]
theorem J5(w:World)(k:Nat)(os:Array Obj):RowKit.Below w.heap.size w (Go.Sort.grow (w.drewN k) os):=by
 refine⟨rfl,rfl,rfl,?_,λb hb => ?_⟩
 ·simp
 ·show(w.heap++os)[b]? = w.heap[b]?
  grind
theorem below_drewN(w:World)(k:Nat):RowKit.Below w.heap.size w (w.drewN k):=⟨rfl,rfl,rfl,Nat.le_refl _,λ_ _=>rfl⟩
theorem lN(w:World):RowKit.Below w.heap.size w w:=⟨rfl,rfl,rfl,Nat.le_refl _,λ_ _=>rfl⟩
theorem pX(w:World)(o:Obj):RowKit.Below w.heap.size w (w.alloc o):=by
 refine⟨rfl,rfl,rfl,?_,λb hb => ?_⟩
 ·simp
 ·show(w.heap.push o)[b]? = w.heap[b]?
  grind
theorem Y7(s sub:zh):Lib.index s sub=Zf s sub:=by
 induction s with
 | nil=>rfl
 | cons b l ih=>simp only[Lib.index,Zf,ih]
theorem Md(s:zh)(c:UInt8):Lib.indexByte s c=Kg s c:=by
 induction s with
 | nil=>rfl
 | cons b l ih=>simp only[Lib.indexByte,Kg,ih]
theorem FC(s sep:zh):Lib.cut s sep=YB s sep:=by
 unfold Lib.cut YB
 rw[Y7]
theorem Gd{w:World}{ok:Nat->Prop}(f:Nat->Bool):∀ (n k:Nat),Rc w ok (bG .bool n) (IZ (e:=.bool) f n k) ((List.range' k n).map λj=>Value.bool (f j))
 | 0,_=>.nil
 | n+1,k=>by
  exact Rc.cons .bool (bG .bool n) (f k) (IZ (e:=.bool) f n (k+1)) [Value.bool (f k)] _ (.bool _) (Gd f n (k+1))
theorem EA{κ:KS}(s:zh):RD κ (.zj (bG .bool 256) (XD s)) (.agg (Lib.setCells s)):=by
 have h:=RD.zj (κ:=κ) (bG .bool 256) (XD s) _ (Gd (λj=>s.contains (UInt8.ofNat j)) 256 0)
 have e:pk (bG .bool 256) ((List.range' 0 256).map λj=>Value.bool (s.contains (UInt8.ofNat j)))=.agg (Lib.setCells s):=by
  unfold pk
  rw[show(bG .bool 256).isAgg=true from rfl,Lib.setCells_eq]
  show Value.agg (List.toArray _)=_
  congr 1
  apply Array.ext'
  rw[Array.toList_map,Array.toList_range,List.range_eq_range']
 grind
theorem RD.L4{κ:KS}{a b:D}{u v:Value}(h:RD κ a u)(k:RD κ b v):RD κ (.jC [a,b]) (.tuple #[u,v]):=by
 have:=zU.cons h (zU.cons k zU.nil)
 exact .jC [a,b] [u,v] this.1 this.2
theorem RD.z6n{κ:KS}{a b c:D}{u v z:Value}(h:RD κ a u)(k:RD κ b v)(l:RD κ c z):RD κ (.jC [a,b,c]) (.tuple #[u,v,z]):=by
 have:=zU.cons h (zU.cons k (zU.cons l zU.nil))
 exact .jC [a,b,c] [u,v,z] this.1 this.2
theorem KT(l:List UInt8):∀ c,Lib.repeatL l c=Bf l c
 | 0=>rfl
 | c+1=>by simp[Lib.repeatL,Bf,KT l c]
end Go.AM
namespace Go.AM
set_option linter.unusedSectionVars false
variable [we]
open Go.RowKit
theorem Vv{w:World}{blk:Nat}{cs:Array Value}{t:TypeId}{fz:Nat×Nat}{v:Value}(h:w.heap[blk]? = some (.cells cs t fz)):w.setCell ⟨blk,0,none⟩ v=w.setRow blk (cs.setIfInBounds 0 v):=by
 unfold World.setCell World.setRow
 congr 1
 grind
def Jz(t:Nat):List It:=[.v (.st [.op 0 t,.row 1 (.int .u8)]),.a (.int .u8)]
def EX(t:Nat):List Bk:=[.var (.st [.op 0 t,.row 1 (.int .u8)]),.arr (.int .u8)]
def ccD(t:Nat):wK:=⟨[.ptr],⟨Jz t,[(0,.ptr 0 0)],EX t⟩,[],⟨Jz t,[],EX t⟩,0,λx=>.ret x⟩
theorem XG{P:Program}{g t:Nat}(sR:∀ args w,(callFunc g args).run P w=.ok (.enter g args) w)
  (z4u:∀ (b:Nat) (w:World),w.cell? ⟨b,0,none⟩=some (.pointer (some ⟨b,0,none⟩))->Calls P g #[.pointer (some ⟨b,0,none⟩)] w λe w'=>e=.returned (.tuple #[])/\w'=w)
  (Rx:∀ (b:Nat) (w:World),w.cell? ⟨b,0,none⟩=some (.pointer none)->w.shape? b=some (t,2)->w.frozen? ⟨b,0,none⟩=false ->
   Calls P g #[.pointer (some ⟨b,0,none⟩)] w λe w'=>e=.returned (.tuple #[])/\w'=w.setCell ⟨b,0,none⟩ (.pointer (some ⟨b,0,none⟩))):zE P g (ccD t):=by
 intro κ x zp y qQ hy hI hlen hR
 cases hy
 have h0:κ.st[0]? = some (.var (.agg [.ja 0 t,.ms 1 (List.length x.2) (.int .u8) 0 (List.length x.2)])):=by rw[qQ]; rfl
 obtain⟨blk,n,cs,t',p1,p2,p3,p4,p5⟩:=hI.blk 0 _ h0
 obtain rfl:t'=t:=p5.2 t rfl
 obtain⟨v0,hv0,Rj⟩:=hR.get 0 (.ptr 0 0) rfl
 have hv:v0=.pointer (some ⟨blk,0,none⟩):=by
  cases Rj with
  | ptr _ _ b6 n' d hd hp=>grind
 have kS:zp.toArray = #[.pointer (some ⟨blk,0,none⟩)]:=by
  match zp,hlen with
  | [a],_ =>
   grind
 obtain⟨pv,us,lF,g1,g2⟩:=zU.cons_inv p4
 obtain⟨bv,us',O3,g3,g4⟩:=zU.cons_inv g2
 have:=g4.zG
 subst this
 subst O3
 have Q4:cs = #[pv,bv]:=by rw[<- Array.toArray_toList (xs:=cs),lF]
 subst Q4
 have Ef:∀ κ':KS,qL κ' (.ret []) (.returned (.tuple #[])):=λκ'=>⟨.tuple #[],rfl,.jC [] [] rfl (λi h=>absurd h (Nat.not_lt_zero i))⟩
 refine .inl ⟨sR _ _,?_⟩
 rw[kS]
 have used:pv=.pointer (some ⟨blk,0,none⟩)->Calls P g #[.pointer (some ⟨blk,0,none⟩)] κ.w λe w'=>∃ (κ':KS) (ds:List D),κ'.w=w'/\κ'.st=(ccD t').out.st x/\Inv κ'/\Ext κ κ'/\gx 0 ((ccD t').out.fr x)=some ds/\qL κ' (.ret ds) e:=by
  intro Ie
  refine(z4u blk κ.w (by rw[Lib.cell_of_heap p2,Ie]; rfl)).mono ?_
  rintro e w' ⟨rfl,rfl⟩
  exact⟨κ,[],rfl,qQ,hI,Ext.refl κ,rfl,Ef κ⟩
 cases g1 with
 | yI _ _ b6 n' d hd hp=>rw[p1]at hp; cases hp; exact used rfl
 | yw _ _ d hd =>
  refine(Rx blk κ.w (by rw[Lib.cell_of_heap p2]; rfl) (by simp[World.shape?,p2]) (by simp[World.frozen?,p2])).mono ?_
  rintro e w' ⟨rfl,rfl⟩
  rw[Vv p2]
  have hex:=mU (cs := #[.pointer (some ⟨blk,0,none⟩),bv]) (x:=.var (.agg [.ja 0 t',.ms 1 (List.length x.2) (.int .u8) 0 (List.length x.2)])) hI p1 h0 trivial
  refine⟨κ.I3 0 blk #[.pointer (some ⟨blk,0,none⟩),bv] (.var (.agg [.ja 0 t',.ms 1 (List.length x.2) (.int .u8) 0 (List.length x.2)])),[],rfl,?_,nB hI p1 h0 trivial ?_,hex,rfl,Ef _⟩
  ·show κ.st.set 0 _=_
   rw[tr h0]; exact qQ
  ·refine⟨blk,n,_,t',p1,setRow_heap _ _ _ _ _ _ p2,p3,?_,p5⟩
   refine .cons (.yI 0 t' blk n _ (by show(κ.st.set 0 _)[0]? = _; rw[tr h0]; exact h0) p1) (.cons (g3.mono hex) .nil)
def C1(t:Nat):wK:=⟨[.ptr],⟨Jz t,[(0,.ptr 0 0)],EX t⟩,[],⟨[.s 0 (.zj .str),.v (.st [.op 0 t,.un])],[],[.var (.st [.op 0 t,.un]),.dead]⟩,1,
 λx=>Rr x.2⟩
theorem ED{κ:KS}{w':World}{t:Nat}{xs:List Int}(qQ:κ.st=[.var (.agg [.ja 0 t,.ms 1 xs.length (.int .u8) 0 xs.length]),.arr xs.length (.int .u8) xs])(hI:Inv κ)
  (h1:w'.os=κ.w.os) (h2:w'.tape=κ.w.tape) (h3:w'.output=κ.w.output) (h4:κ.w.heap.size<=w'.heap.size)
  (h5:∀ k,k<κ.w.heap.size->(∀ n:Nat,κ.ph[1]? ≠ some (some (k,n)))->w'.heap[k]? = κ.w.heap[k]?) :
  ∃ κ':KS,κ'.w=w'/\κ'.st=[.var (.agg [.ja 0 t,.lr]),.dead]/\Inv κ'/\Ext κ κ':=by
 have b0:κ.st[0]? = some (.var (.agg [.ja 0 t,.ms 1 xs.length (.int .u8) 0 xs.length])):=by rw[qQ]; rfl
 have b1:κ.st[1]? = some (.arr xs.length (.int .u8) xs):=by rw[qQ]; rfl
 have hlen:κ.st.length=2:=by rw[qQ]; rfl
 let κ':KS:={ κ with w:=w',st:=[.var (.agg [.ja 0 t,.lr]),.dead] }
 have hk:∀ k,κ.ok k->w'.heap[k]? = κ.w.heap[k]? := λk hk=>h5 k (hI.ux k hk) λn h=>(hI.apart 1 k n h).2 hk
 have nC:J9 κ.w w' κ.ok κ.ok:=λk h=>⟨h,hk k h⟩
 have hx:Ext κ κ':=by
  refine⟨h1,h2,h3,h4,nC,λk h=>.inl h,λ_ _ _ h=>.inl h,λb d h=>⟨?_,rfl⟩,λb v0 e mv h=>.inl ?_,λb h => ?_,by show κ.st.length<=2; omega,λk hk hn=>h5 k hk (hn 1)⟩
  ·grind
  ·grind
  ·grind
 refine⟨κ',rfl,rfl,⟨by show κ.ph.length=2; rw[hI.len,hlen],λk h=>Nat.lt_of_lt_of_le (hI.ux k h) h4,λb blk n h=>⟨Nat.lt_of_lt_of_le (hI.apart b blk n h).1 h4,(hI.apart b blk n h).2⟩,hI.inj,λb y hb => ?_,hI.gl.mono nC⟩,hx⟩
 match b,hb with
 | 0,hb =>
  cases hb
  obtain⟨blk,n,cs,t',p1,p2,p3,p4,p5⟩:=hI.blk 0 _ b0
  have ui:∀ m:Nat,κ.ph[1]? ≠ some (some (blk,m)):=λm h=>by
   have:=hI.inj 0 1 blk n m p1 h
   omega
  refine⟨blk,n,cs,t',p1,(h5 blk (hI.apart 0 blk n p1).1 ui).trans p2,p3,?_,?_,λT hT=>p5.2 T hT⟩
  ·obtain⟨pv,us,lF,g1,g2⟩:=zU.cons_inv p4
   obtain⟨bv,us',O3,g3,g4⟩:=zU.cons_inv g2
   have:=g4.zG
   subst this
   subst O3
   rw[lF]
   refine .cons (g1.mono hx) (.cons (.lr bv (g3.sg rfl)) .nil)
  ·intro x CQ
   simp only[zC,List.mem_cons,List.not_mem_nil,or_false]at CQ
   rcases CQ with rfl | rfl<;>rfl
 | 1,hb=>cases hb; trivial
 | b+2,hb=>simp[κ']at hb
theorem B2{n:Int}(h0:0<=n)(h1:n<256):(((byteOf n).toNat:Nat):Int)=n:=by
 unfold byteOf
 have:(UInt8.ofNat n.toNat).toNat=n.toNat:=by
  rw[UInt8.toNat_ofNat']
  omega
 grind
theorem Kd{P:Program}{g t:Nat}(sR:∀ args w,(callFunc g args).run P w=.ok (.enter g args) w)
  (Zn:∀ (b:Nat) (p:Value) (w:World),w.heap[b]? = some (.cells #[p,.slice none 0 0] t (0,0))->Calls P g #[.pointer (some ⟨b,0,none⟩)] w λe w'=>e=.returned (.string ⟨#[]⟩)/\w'=w.drew)
  (eE:∀ (b g' o cap:Nat) (p:Value) (w:World),cap≠0->w.heap[b]? = some (.cells #[p,.slice (some ⟨g',o,none⟩) 0 cap] t (0,0))->Calls P g #[.pointer (some ⟨b,0,none⟩)] w λe w'=>e=.returned (.string ⟨#[]⟩)/\w'=w.drew)
  (FT:∀ (b g' cap:Nat) (p:Value) (cur:Array Value) (l:List UInt8) (w:World),l≠[]->l.length<=cap->l.length<=140737488355328->w.heap[b]? = some (.cells #[p,.slice (some ⟨g',0,none⟩) l.length cap] t (0,0)) ->
   w.heap[g']? = some (.cells cur lf.u8 (0,0))->l.length<=cur.size->(∀ j x,l[j]? = some x->w.cell? ⟨g',j,none⟩=some (.int .u8 x.toNat)) ->
   Calls P g #[.pointer (some ⟨b,0,none⟩)] w λe w'=>e=.returned (.string ⟨l.toArray⟩)/\w'=w.drew.freeze ⟨g',0,none⟩ l.length)
  (W5:∀ (b g' o:Nat) (p:Value) (cur:Array Value) (w:World),w.heap[b]? = some (.cells #[p,.slice (some ⟨g',o,none⟩) 0 0] t (0,0))->w.heap[g']? = some (.cells cur lf.u8 (0,0)) ->
   Calls P g #[.pointer (some ⟨b,0,none⟩)] w λe w'=>e=.returned (.string ⟨#[]⟩)/\w'=w.drew.alloc (.view ⟨g',o,none⟩ lf.u8)) 
  {κ:KS} {zp:List Value} {xs:List Int} (PV:κ.st=[.var (.agg [.ja 0 t,.ms 1 xs.length (.int .u8) 0 xs.length]),.arr xs.length (.int .u8) xs])
  (XY:∀ n∈xs,(0:Int)<=n/\n<256) (Ep:xs.length<=140737488355328) (hI:Inv κ) (hlen:zp.length=1) (hd:∃ v,zp.toArray[0]? = some v/\RD κ (.ptr 0 0) v) :
  wY P g zp.toArray κ.w λe w'=>∃ (κ':KS) (ds:List D),κ'.w=w'/\κ'.st=(C1 t).out.st (wz xs,())/\Inv κ'/\Ext κ κ'/\gx 1 ((C1 t).out.fr (wz xs,()))=some ds/\qL κ' (.ret ds) e:=by
 have h0:κ.st[0]? = some (.var (.agg [.ja 0 t,.ms 1 (xs.length) (.int .u8) 0 (xs.length)])):=by rw[PV]; rfl
 have h1:κ.st[1]? = some (.arr (xs.length) (.int .u8) xs):=by rw[PV]; rfl
 obtain⟨blk,n,cs,t',p1,p2,p3,p4,p5⟩:=hI.blk 0 _ h0
 obtain rfl:t'=t:=p5.2 t rfl
 obtain⟨v0,hv0,Rj⟩:=hd
 have hv:v0=.pointer (some ⟨blk,0,none⟩):=by
  cases Rj with
  | ptr _ _ b6 n' d hd hp=>grind
 have kS:zp.toArray = #[.pointer (some ⟨blk,0,none⟩)]:=by
  grind
 obtain⟨pv,us,lF,g1,g2⟩:=zU.cons_inv p4
 obtain⟨bv,us',O3,g3,g4⟩:=zU.cons_inv g2
 have:=g4.zG
 subst this
 subst O3
 have Q4:cs = #[pv,bv]:=by rw[<- Array.toArray_toList (xs:=cs),lF]
 subst Q4
 refine .inl ⟨sR _ _,?_⟩
 rw[kS]
 have fin:∀ (w':World) (s:zh),s=wz xs->w'.os=κ.w.os->w'.tape=κ.w.tape->w'.output=κ.w.output->κ.w.heap.size<=w'.heap.size ->
   (∀ k,k<κ.w.heap.size->(∀ n:Nat,κ.ph[1]? ≠ some (some (k,n)))->w'.heap[k]? = κ.w.heap[k]?) ->
   ∃ (κ':KS) (ds:List D),κ'.w=w'/\κ'.st=(C1 t').out.st (wz xs,())/\Inv κ'/\Ext κ κ'/\gx 1 ((C1 t').out.fr (wz xs,()))=some ds/\qL κ' (.ret ds) (.returned (.string ⟨s.toArray⟩)):=by
  intro w' s hs q1 q2 q3 q4 q5
  subst hs
  obtain⟨κ',k1,k2,k3,k4⟩:=ED PV hI q1 q2 q3 q4 q5
  exact⟨κ',[.zj .str (wz xs)],k1,k2,k3,k4,rfl,_,rfl,RD.str⟩
 have Sb:(wz xs).length=xs.length:=List.length_map _
 cases g3 with
 | ms _ _ _ _ _ cap a hb qR ha mX hm =>
  obtain⟨hle,hm⟩:=hm xs h1
  rcases hm with⟨hz,_,Oj,hp⟩ | ⟨Nc,n1,o,rH,hp,Oj,z1G,vb,ho⟩
  ·rw[Oj]at p2
   have WW:xs=[]:=List.eq_nil_of_length_eq_zero hz
   refine(Zn blk pv κ.w p2).mono ?_
   rintro e w' ⟨rfl,rfl⟩
   exact fin _ [] (by rw[WW]; rfl) rfl rfl rfl (Nat.le_refl _) (λ_ _ _=>rfl)
  ·cases Oj
   obtain⟨_,⟨M0,hpn⟩ | ⟨z8i,n2,cs2,T2,r1,r2,r3,r4,r5,f,r6⟩⟩:=hI.blk 1 _ h1
   ·grind
   ·rw[hp]at r1
    cases r1
    have hT:=r5 rfl
    subst hT
    by_cases S7:cap=0
    ·subst S7
     have hz:xs.length=0:=by omega
     have WW:xs=[]:=List.eq_nil_of_length_eq_zero hz
     rw[hz]at p2
     refine(W5 blk Nc o pv cs2 κ.w p2 r2).mono ?_
     rintro e w' ⟨rfl,rfl⟩
     refine fin _ [] (by rw[WW]; rfl) rfl rfl rfl (by simp) (λk hk _ => ?_)
     exact Lib.alloc_old κ.w.drew _ k hk
    ·by_cases hz:xs.length=0
     ·have WW:xs=[]:=List.eq_nil_of_length_eq_zero hz
      rw[hz]at p2
      refine(eE blk Nc o cap pv κ.w S7 p2).mono ?_
      rintro e w' ⟨rfl,rfl⟩
      exact fin _ [] (by rw[WW]; rfl) rfl rfl rfl (Nat.le_refl _) (λ_ _ _=>rfl)
     ·have FE:o=0:=by
       rcases ho with ho | ho
       ·exact absurd ho S7
       ·simpa using ho
      subst FE
      have ui:wz xs≠[]:=λe=>hz (by rw[<- Sb,e]; rfl)
      have z0t:xs.length<=cs2.size:=by
       have:=r4
       simp only[Ty.size,Nat.mul_one]at this
       omega
      refine(FT blk Nc cap pv cs2 (wz xs) κ.w ui (by rw[Sb]; exact qR) (by rw[Sb]; exact Ep) (by rw[Sb]; exact p2) r2 (by rw[Sb]; exact z0t) ?_).mono ?_
      ·intro j c hj
       have Sg:j<xs.length:=by rw[<- Sb]; exact(List.getElem?_eq_some_iff.1 hj).1
       obtain⟨q1,q2⟩:=r6 j Sg
       have:=q2 0 (.int .u8 xs[j]) (by rw[q1.jB]; rfl)
       simp only[Ty.size,Nat.mul_one,Nat.add_zero]at this
       have hc:c=byteOf xs[j]:=by
        unfold wz at hj
        rw[List.getElem?_map,List.getElem?_eq_getElem Sg]at hj
        exact(Option.some.inj hj).symm
       obtain⟨b0,b1⟩:=XY xs[j] (List.getElem_mem Sg)
       rw[Lib.cell_of_heap r2,hc,B2 b0 b1]
       exact this
      ·rintro e w' ⟨rfl,rfl⟩
       refine fin _ _ rfl ?_ ?_ ?_ ?_ ?_
       ·unfold World.freeze; split<;>rfl
       ·unfold World.freeze; split<;>rfl
       ·unfold World.freeze; split<;>rfl
       ·unfold World.freeze
        split
        ·exact Nat.le_refl _
        ·show κ.w.heap.size<=(Array.modify _ _ _).size
         rw[Array.size_modify]; exact Nat.le_refl _
       ·intro k hk hn
        have z7P:k≠Nc:=λe=>hn n1 (e▸hp)
        unfold World.freeze
        split
        ·rfl
        ·show(Array.modify _ _ _)[k]? = _
         rw[Array.getElem?_modify,if_neg (λe=>z7P e.symm)]
         rfl
theorem Bm{P:Program}{g t:Nat}(sR:∀ args w,(callFunc g args).run P w=.ok (.enter g args) w)
  (Zn:∀ (b:Nat) (p:Value) (w:World),w.heap[b]? = some (.cells #[p,.slice none 0 0] t (0,0))->Calls P g #[.pointer (some ⟨b,0,none⟩)] w λe w'=>e=.returned (.string ⟨#[]⟩)/\w'=w.drew)
  (eE:∀ (b g' o cap:Nat) (p:Value) (w:World),cap≠0->w.heap[b]? = some (.cells #[p,.slice (some ⟨g',o,none⟩) 0 cap] t (0,0))->Calls P g #[.pointer (some ⟨b,0,none⟩)] w λe w'=>e=.returned (.string ⟨#[]⟩)/\w'=w.drew)
  (FT:∀ (b g' cap:Nat) (p:Value) (cur:Array Value) (l:List UInt8) (w:World),l≠[]->l.length<=cap->l.length<=140737488355328->w.heap[b]? = some (.cells #[p,.slice (some ⟨g',0,none⟩) l.length cap] t (0,0)) ->
   w.heap[g']? = some (.cells cur lf.u8 (0,0))->l.length<=cur.size->(∀ j x,l[j]? = some x->w.cell? ⟨g',j,none⟩=some (.int .u8 x.toNat)) ->
   Calls P g #[.pointer (some ⟨b,0,none⟩)] w λe w'=>e=.returned (.string ⟨l.toArray⟩)/\w'=w.drew.freeze ⟨g',0,none⟩ l.length)
  (W5:∀ (b g' o:Nat) (p:Value) (cur:Array Value) (w:World),w.heap[b]? = some (.cells #[p,.slice (some ⟨g',o,none⟩) 0 0] t (0,0))->w.heap[g']? = some (.cells cur lf.u8 (0,0)) ->
   Calls P g #[.pointer (some ⟨b,0,none⟩)] w λe w'=>e=.returned (.string ⟨#[]⟩)/\w'=w.drew.alloc (.view ⟨g',o,none⟩ lf.u8)):zE P g (C1 t):=by
 intro κ x zp y qQ hy hI hlen hR
 obtain⟨⟨XY,Ep⟩,hy⟩:=(show(Rr x.2).leads y from hy)
 have Lh:(wz x.2,())=y:=hy
 subst Lh
 exact Kd sR Zn eE FT W5 (xs:=x.2) qQ XY Ep hI hlen (hR.get 0 (.ptr 0 0) rfl)
end Go.AM
namespace Go.AM
set_option linter.unusedSectionVars false
variable [we]
open Go.RowKit
def H8(P:Program):El:=λg args w R=>(callFunc g args).run P w=.ok (.enter g args) w/\CallsD P g args .returning w λe u' w'=>settle u'=.returning/\R e w'
def Bu(P:Program)(t:Nat):El:=λg args w R=>∀ (zs:List Value) (v:Value),args=(zs++[v]).toArray->(callFunc g zs.toArray).run P w=.ok (.enter g zs.toArray) w /\
 CallsD P g zs.toArray (.panicking [{ v:=.iface t v,recovered:=false }]) w λe u' w'=>settle u'=.returning/\R e w'
theorem H8.mono{P:Program}{g:Nat}{a:Array Value}{w:World}{R R':Ending->World->Prop}(h:H8 P g a w R)(hr:∀ e w',R e w'->R' e w'):H8 P g a w R' :=
 ⟨h.1,h.2.mono λe u' w' hh=>⟨hh.1,hr e w' hh.2⟩⟩
theorem Bu.mono{P:Program}{t g:Nat}{a:Array Value}{w:World}{R R':Ending->World->Prop}(h:Bu P t g a w R)(hr:∀ e w',R e w'->R' e w'):Bu P t g a w R' :=
 λzs v e=>⟨(h zs v e).1,(h zs v e).2.mono λe u' w' hh=>⟨hh.1,hr e w' hh.2⟩⟩
def tQ(ops:Array Oper):Option (Nat×Nat):=match ops.toList with
 | [o1,o2]=>match o1.dst,o1.op,o1.guard with
  | some t1,.call ⟨.builtin .recover,_,_⟩,none=>match o2.dst,o2.op,o2.guard with
   | some t2,.assign (.tmp t),none=>bif Nat.beq t t1 then some (t1,t2)else none
   | _,_,_=>none
  | _,_,_=>none
 | _=>none
def z0K(t:Option Nat)(n:Nat):Nat:=match t with | none=>n | some _=>n+1
def P0(t:Option Nat)(n:Nat)(fr:Fr):Option D:=match t with
 | none=>some .q8
 | some t=>match fr.get n with | some p=>some (.iface t p) | none=>none
section
variable (c:Ctx) (tab:ya)
def rN(fn:Func)(m:Nat)(out:qz)(nr:Nat)(fr:Fr)(st:St):T out.den :=
 (yp c fr st fn.results.toList).bind λds=>lE out m nr ds st
def RR(H:Hints)(fn:Func)(ops:Array Oper)(b:Code)(d:wK)(n:Nat)(t:Option Nat)(x:d.sh.den):T d.out.den :=
 bif Nat.ble n fn.ntmps&&Nat.ble d.sh.bs.length d.out.bs.length&&Nat.beq d.ks.length (z0K t n)then match tQ ops,P0 t n (d.sh.fr x)with
  | some (t1,t2),some rc=>bif Nat.blt t1 fn.ntmps&&Nat.blt t2 fn.ntmps then
    mB c tab fn.ntmps H b ((t2,some rc)::(t1,some rc)::(n,none)::d.sh.fr x) [] (d.sh.st x) λo=>match o.ex with
     | .normal=>rN c fn (d.sh.st x).length d.out d.nr o.fr o.st
     | .ret=>rN c fn (d.sh.st x).length d.out d.nr o.fr o.st
     | _=>.fail
   else .fail
  | _,_=>.fail
 else .fail
def oD:List Oper->Option (List Oper×Operand×List Operand)
 | []=>none
 | [o]=>match o.op,o.guard,o.dst with
  | .defer ⟨.value f,args,_⟩,none,none=>some ([],f,args.toList)
  | _,_,_=>none
 | o::r=>match oD r with | some (l,z)=>some (o::l,z) | none=>none
structure Dfd where
 g:Nat
 d0:wK
 pt:Nat
 d1:wK
def S4(n:Nat)(H:Hints)(h:Dfd)(fn:Func)(m:Nat)(out:qz)(nr:Nat):Code->Fr->Kn->St->T out.den
 | .seq a b,fr,kn,st=>match opsOf a with
  | some ops=>match oD ops.toList with
   | some (pre,f,args)=>sc c tab n ops pre ⟨fr,kn,st,[],[]⟩ (λs=>match wZ s.fr f,wD (args.map (wZ s.fr))with
     | some (.zK g caps),some l=>bif Nat.beq (jc g) h.g then
       mB c tab n H b s.fr s.kn s.st λo=>match o.ex with
        | .normal=>h.d0.K (v8 g l caps) o.st λ_ zg=>rN c fn m out nr (o.fr++(yZ (zQ b)++s.fr)) zg
        | .ret=>h.d0.K (v8 g l caps) o.st λ_ zg=>rN c fn m out nr (o.fr++(yZ (zQ b)++s.fr)) zg
        | .wN (.iface t p)=>bif Nat.beq t h.pt then h.d1.K (v8 g l caps++[p]) o.st λ_ zg=>rN c fn m out nr (o.fr++(yZ (zQ b)++s.fr)) zg else .fail
        | _=>.fail
      else .fail
     | _,_=>.fail) (λ_ _=>.fail)
   | none=>mB c tab n H a fr kn st λr=>match r.ex with
    | .normal=>S4 n H h fn m out nr b r.fr r.kn r.st
    | .ret=>rN c fn m out nr r.fr r.st
    | _=>.fail
  | none=>mB c tab n H a fr kn st λr=>match r.ex with
   | .normal=>S4 n H h fn m out nr b r.fr r.kn r.st
   | .ret=>rN c fn m out nr r.fr r.st
   | _=>.fail
 | _,_,_,_=>.fail
def Dx(H:Hints)(h:Dfd)(fn:Func)(code:Code)(d:wK)(x:d.sh.den):T d.out.den :=
 bif Nat.ble d.ks.length fn.ntmps&&Nat.ble d.sh.bs.length d.out.bs.length then S4 c tab fn.ntmps H h fn (d.sh.st x).length d.out d.nr code (d.sh.fr x) [] (d.sh.st x)else .fail
end
section
variable {P:Program} {xid:Nat} {tab:ya} {ro:Nat->Bool} {n:Nat} {H:Hints}
theorem Kc{ops:Array Oper}{t1 t2:Nat}(hr:tQ ops=some (t1,t2)){Q:Exit->Act->List Frame->World->Prop}{a:Act}{cs:List Frame}{w:World}{id:Nat}(h1:t1<a.tmps.size)
  (h:Q .normal ((a.put (some t1) ((recoverD cs).elim .nilIface (·.1))).put (some t2) ((recoverD cs).elim .nilIface (·.1))) ((recoverD cs).elim cs (·.2)) w):(Code.region id ops false).wpS P Q a cs w:=by
 unfold tQ at hr
 split at hr
 ·rename_i o1 o2 hops
  split at hr
  ·rename_i t1' args cy hd1 C4 hg1
   split at hr
   ·rename_i t2' t hd2 I7 hg2
    cases hb:Nat.beq t t1' with
    | false=>grind
    | true =>
     rw[hb,cond_true]at hr
     cases hr
     have:=Nat.eq_of_beq_eq_true hb
     subst this
     obtain⟨d1,op1,ty1,Rw,R0,g1⟩:=o1
     obtain⟨d2,op2,Qd,Mu,RI,g2⟩:=o2
     subst hd1 C4 hg1 hd2 I7 hg2
     have vb:ops.size=2:=by rw[<- Array.length_toList,hops]; rfl
     have e0:ops[0]? = some ⟨some t,.call ⟨.builtin .recover,args,cy⟩,ty1,Rw,R0,none⟩:=by rw[<- Array.getElem?_toList,hops]; rfl
     have e1:ops[1]? = some ⟨some t2,.assign (.tmp t),Qd,Mu,RI,none⟩:=by rw[<- Array.getElem?_toList,hops]; rfl
     have R4:List.range 2=[0,1]:=rfl
     have ev1:∀ v,((a.put (some t) v).eval (.tmp t))=v:=λv=>by simp[Act.eval,Act.put,h1]
     refine wpS_region ?_
     rw[vb,R4]
     simp only[wpOpsS,e0,e1]
     cases hrec:recoverD cs with
     | none =>
      rw[hrec]at h
      simp only[execOp,ev1]
      exact h
     | some z =>
      rw[hrec]at h
      simp only[execOp,ev1]
      exact h
   ·cases hr
  ·cases hr
 ·cases hr
theorem Fw(hm:(wG P xid tab ro).P.follows .mixedOrders=true)(hT:jj P tab){f:Nat}{fn:Func}{id:Nat}{ops:Array Oper}{b:Code}(hf:P.funcs[f]? = some fn)(hb:fn.body=some (.seq (.region id ops false) b))
  (hL:wE P fn.ntmps H b) {d:wK} {k:Nat} {t:Option Nat} {x:d.sh.den} {y:d.out.den} (hy:(RR (wG P xid tab ro) tab H fn ops b d k t x).leads y) {κ:KS} (qQ:κ.st=d.sh.st x) (hI:Inv κ)
  {zs:List Value} (hk:zs.length=k) {u:FrameMode} {rv:Value} (hrv:∀ rc,P0 t k (d.sh.fr x)=some rc->RD κ rc rv)
  (hu:∀ (c₀:Frame) (cs:List Frame),c₀.mode=u->(recoverD (c₀::cs)).elim .nilIface (·.1)=rv/\∃ u',(recoverD (c₀::cs)).elim (c₀::cs) (·.2)={ c₀ with mode:=u' }::cs/\settle u'=.returning)
  (hR:∀ s dd,(d.sh.fr x).get s=some dd->s≠k->∃ v,zs[s]? = some v/\RD κ dd v) :
  CallsD P f zs.toArray u κ.w λe u' w'=>settle u'=.returning/\∃ (κ':KS) (ds:List D),κ'.w=w'/\κ'.st=d.out.st y/\Inv κ'/\Ext κ κ'/\gx d.nr (d.out.fr y)=some ds/\qL κ' (.ret ds) e:=by
 unfold RR at hy
 cases hc:Nat.ble k fn.ntmps&&Nat.ble d.sh.bs.length d.out.bs.length&&Nat.beq d.ks.length (z0K t k)with
 | false=>rw[hc]at hy; exact False.elim hy
 | true =>
 rw[hc,cond_true]at hy
 simp only[Bool.and_eq_true]at hc
 have Hw:=Nat.le_of_ble_eq_true hc.1.1
 have Ey:=Nat.le_of_ble_eq_true hc.1.2
 split at hy
 ·rename_i t1 t2 rc hrs WX
  cases hcc:Nat.blt t1 fn.ntmps&&Nat.blt t2 fn.ntmps with
  | false=>rw[hcc]at hy; exact False.elim hy
  | true =>
  rw[hcc,cond_true]at hy
  simp only[Bool.and_eq_true]at hcc
  have SZ:=hrv rc WX
  refine callsD_of_wpS hf hb λc₀ cs hc₀ => ?_
  obtain⟨hv,u',lF,ld⟩:=hu c₀ cs hc₀
  have h1:t1<fn.ntmps:=Nat.le_of_ble_eq_true hcc.1
  have h2:t2<fn.ntmps:=Nat.le_of_ble_eq_true hcc.2
  have F3:zs.length+(fn.ntmps-zs.length)=fn.ntmps:=by omega
  let a0:Act:={ tmps:=zs.toArray++Array.replicate (fn.ntmps-zs.toArray.size) undef,defers:=[] }
  have Dj:Rel κ fn.ntmps (Fr.get ((k,none)::d.sh.fr x)) a0:=by
   refine⟨by simp[a0]; omega,rfl,λs dd hs => ?_⟩
   simp only[Fr.get]at hs
   cases hks:Nat.beq k s with
   | true=>grind
   | false =>
    rw[hks,cond_false]at hs
    obtain⟨v,g1,g2⟩:=hR s dd hs (λe=>by subst e; simp at hks)
    grind
  have Qg:Rel κ fn.ntmps (Fr.get ((t2,some rc)::(t1,some rc)::(k,none)::d.sh.fr x)) ((a0.put (some t1) rv).put (some t2) rv):=by
   have g1:=Dj.put (dst:=some t1) (d:=some rc) (v:=rv) hcc.1 (λd' j9=>by cases j9; exact SZ)
   have g2:=g1.put (dst:=some t2) (d:=some rc) (v:=rv) hcc.2 (λd' j9=>by cases j9; exact SZ)
   have e1:=dB ((k,none)::d.sh.fr x) (some t1) (some rc)
   have e2:=dB ((t1,some rc)::(k,none)::d.sh.fr x) (some t2) (some rc)
   rw[<- e1]at g2
   have g3:Rel κ fn.ntmps (uO (Fr.get ((t1,some rc)::(k,none)::d.sh.fr x)) (some t2) (some rc)) ((a0.put (some t1) rv).put (some t2) rv):=g2
   rw[<- e2]at g3
   exact g3
  refine wpS_seq (Kc hrs (by simp; omega) ?_)
  rw[hv,lF]
  show b.wpS P _ _ _ _
  refine wpS_of_wp ?_
  rw[<- qQ]at hy
  refine fR hm hT b hL (κ:=κ) hy hI Qg (yk _) _ λo bS a' κe e0 e1 e2 e3 e4 _ _ _ e6 => ?_
  have fin:(bS=.normal\/bS=.ret)->(rN (wG P xid tab ro) fn κ.st.length d.out d.nr o.fr o.st).leads y ->
    bodyPostS P fn c₀ cs (λe u' w'=>settle u'=.returning/\∃ (κ':KS) (ds:List D),κ'.w=w'/\κ'.st=d.out.st y/\Inv κ'/\Ext κ κ'/\gx d.nr (d.out.fr y)=some ds/\qL κ' (.ret ds) e) bS a' ({ c₀ with mode:=u' }::cs) κe.w:=by
   intro hex OM
   obtain⟨v,k1,κ',ds,q1,q2,q3,q4,q5,q6⟩:=sL hI e1 e2 e3 e4 (by rw[qQ]; exact Nat.le_trans (qz.fQ _ _) Ey) OM
   have rb:a'.defers=[]/\∃ u'',({ c₀ with mode:=u' }::cs:List Frame)={ c₀ with mode:=u'' }::cs/\∃ v,(results fn a'.tmps).run P κe.w=.ok v κe.w/\settle u''=.returning /\
     ∃ (κ':KS) (ds:List D),κ'.w=κe.w/\κ'.st=d.out.st y/\Inv κ'/\Ext κ κ'/\gx d.nr (d.out.fr y)=some ds/\qL κ' (.ret ds) (.returned v) :=
    ⟨e4.defers,u',rfl,v,k1,ld,κ',ds,q1,q2,q3,q4,q5,q6⟩
   rcases hex with rfl | rfl
   ·exact rb
   ·exact rb
  cases hox:o.ex<;>rw[hox]at e0 e6<;>simp only at e0
  ·exact fin (.inl e6) e0
  ·exact False.elim e0
  ·exact fin (.inr e6) e0
  ·exact False.elim e0
 ·exact False.elim hy
theorem IH(hm:(wG P xid tab ro).P.follows .mixedOrders=true)(hT:jj P tab){f:Nat}{fn:Func}{id:Nat}{ops:Array Oper}{b:Code}(hf:P.funcs[f]? = some fn)(hb:fn.body=some (.seq (.region id ops false) b))
  (hn:(fn.name == "runtime.NumGoroutine")=false) (hL:wE P fn.ntmps H b) {d:wK} (h:∀ x,RR (wG P xid tab ro) tab H fn ops b d d.ks.length none x=d.F x):vS (H8 P) f d:=by
 intro κ x zp y qQ hy hI hlen hR
 rw[<- h]at hy
 refine⟨xy hf hn (by grind) κ.w,Fw hm hT hf hb hL hy qQ hI hlen (u:=.returning) (rv:=.nilIface) (λrc WX=>by cases WX; exact .q8) (λc₀ cs hc => ?_) λs dd hs _ => ?_⟩
 ·have:recoverD (c₀::cs)=none:=by simp only[recoverD,hc]
  rw[this]
  exact⟨rfl,.returning,by rw[<- hc]; rfl,rfl⟩
 ·obtain⟨v,h1,h2⟩:=hR.get s dd hs
  grind
theorem Io(hm:(wG P xid tab ro).P.follows .mixedOrders=true)(hT:jj P tab){f:Nat}{fn:Func}{id:Nat}{ops:Array Oper}{b:Code}(hf:P.funcs[f]? = some fn)(hb:fn.body=some (.seq (.region id ops false) b))
  (hn:(fn.name == "runtime.NumGoroutine")=false) (hL:wE P fn.ntmps H b) {d:wK} {k t:Nat} (hk:d.ks.length=k+1) (h:∀ x,RR (wG P xid tab ro) tab H fn ops b d k (some t) x=d.F x):vS (Bu P t) f d:=by
 intro κ x zp y qQ hy hI hlen hR zs v hc
 have hc:zp=zs++[v]:=by simpa using hc
 subst hc
 rw[<- h]at hy
 have WK:zs.length=k:=by simp at hlen; omega
 refine⟨xy hf hn (by grind) κ.w,Fw hm hT hf hb hL hy qQ hI WK (rv:=.iface t v) (λrc WX => ?_) (λc₀ cs hc => ?_) λs dd hs hsk => ?_⟩
 ·simp only[P0]at WX
  split at WX
  ·rename_i p hp
   cases WX
   obtain⟨u,h1,h2⟩:=hR.get k p hp
   have:u=v:=by
    grind
   subst this
   exact .iface t p u h2
  ·cases WX
 ·have:recoverD (c₀::cs)=some (.iface t v,{ c₀ with mode:=.panicking [{ v:=.iface t v,recovered:=true }] }::cs):=by simp only[recoverD,hc]
  rw[this]
  exact⟨rfl,_,rfl,rfl⟩
 ·obtain⟨u,h1,h2⟩:=hR.get s dd hs
  grind
theorem V8{p:Value}{g:Nat}{us vs:List Value}{w:World}(Un:p=eI g us):∃ (fv:Fn) (cap zs:Array Value),(Deferred.ofValue p vs.toArray).run P w=.ok ⟨.fn fv cap,zs⟩ w /\
  (invoke (.fn fv cap) zs).run P w=(callFunc (jc g) (v8 g vs us).toArray).run P w/\∀ w',(invoke (.fn fv cap) zs).run P w'=(callFunc (jc g) (v8 g vs us).toArray).run P w':=by
 subst Un
 unfold eI jc v8
 cases hb:Nat.ble 1000000 g with
 | true =>
  have key:∀ w',(invoke (.fn (.func (g % 1000000)) #[]) (us.toArray++vs.toArray)).run P w'=(callFunc (g % 1000000) (us++vs).toArray).run P w':=λw'=>by simp[invoke]
  exact⟨.func (g % 1000000),#[],us.toArray++vs.toArray,by rfl,key w,key⟩
 | false =>
  have key:∀ w',(invoke (.fn (.func g) us.toArray) vs.toArray).run P w'=(callFunc g (vs++us).toArray).run P w':=λw'=>by simp[invoke]
  exact⟨.func g,us.toArray,vs.toArray,by simp[Deferred.ofValue],key w,key⟩
theorem iw:∀ {l:List Oper} {pre:List Oper} {f:Operand} {args:List Operand},oD l=some (pre,f,args)->∃ o zs cy,l=pre++[o]/\o.op=.defer ⟨.value f,zs,cy⟩/\zs.toList=args/\o.guard=none/\o.dst=none
 | [],pre,f,args,h=>by cases h
 | [o],pre,f,args,h=>by
  simp only[oD]at h
  grind
 | o::p::r,pre,f,args,h=>by
  simp only[oD]at h
  split at h
  ·rename_i l z hz
   obtain⟨o',zs,cy,e,g1,g2,g3,g4⟩:=iw hz
   grind
  ·cases h
theorem Ve{c:Ctx}{κ:KS}{a:Act}{id:Nat}{ops:Array Oper}{pre:List Oper}{f:Operand}{args:List Operand}{fr:Fr}{kn:Kn}{s1:gG}{g:Nat}{caps l:List D}(hC:∀ g,WZ c.P g (c.fn g))(hI:Inv κ)(hR:Rel κ n fr.get a)(hk:xX kn fr.get)
  (hd:oD ops.toList=some (pre,f,args)) (xg:(cg c n ops pre ⟨fr,kn,κ.st,[],[]⟩).leads s1) (hf:wZ s1.fr f=some (.zK g caps)) (hl:wD (args.map (wZ s1.fr))=some l) {Q:Exit->Act->World->Prop}
  (hQ:∀ (a':Act) (κ':KS) (fv:Fn) (cap zs:Array Value) (zp:List Value),κ'.st=s1.st->Inv κ'->Ext κ κ'->Rel κ' n s1.fr.get a'->xX s1.kn s1.fr.get->bc ops a a'->zU κ' (v8 g l caps) zp ->
   (∀ w',(invoke (.fn fv cap) zs).run c.P w'=(callFunc (jc g) zp.toArray).run c.P w')->Q .normal { a' with defers:=⟨.fn fv cap,zs⟩::a'.defers } κ'.w):(Code.region id ops false).wp c.P Q a κ.w:=by
 obtain⟨o,Ph,cy,e,ho,kS,hg,Lk⟩:=iw hd
 have IA:∀ j:Nat,ops[j]? = (pre++[o])[j]? := λj=>by rw[<- e]; simp
 obtain⟨ks,g1,g2,_⟩:=bh pre 0 ⟨fr,kn,κ.st,[],[]⟩ s1 (λj=>by
  by_cases hj:j<pre.length
  ·grind
  ·right; omega) hk xg
 have vb:List.range ops.size=List.range' 0 pre.length++[pre.length]:=by
  have:ops.size=pre.length+1:=by rw[<- Array.length_toList,e]; simp
  rw[this,List.range_eq_range',<- List.range'_append_1,Nat.zero_add]; rfl
 refine wp_region ?_
 rw[vb]
 refine oh hC _ _ hI hR rfl g1 λa' κ' e1 e2 e3 e4 e5 => ?_
 rw[wpOps_cons]
 unfold wpOp
 have hoi:ops[pre.length]? = some o:=by rw[IA]; simp
 rw[hoi]
 obtain⟨dst,op,ty,pos,after,guard⟩:=o
 simp only at ho hg Lk
 subst ho hg Lk
 simp only[Region.wanted,if_true]
 have kP:∀ (x:Operand) (z:D),wZ s1.fr x=some z->RD κ' z (a'.eval x):=λx z hz=>e4.eval (by rw[<- ko]; exact hz)
 have Ie:=kP f _ hf
 have hr:=jU (κ:=κ') (vs:=Ph.toList.map a'.eval) hl (by simp[<- kS]) (λi d v hd hv=>by
      rw[<- kS]at hd
      simp only[List.getElem?_map]at hd hv
      cases hi:Ph.toList[i]? with
      | none=>grind
      | some x=>rw[hi]at hd hv; simp at hd hv; subst hv; exact kP x d hd)
 generalize Un:a'.eval f=pv at Ie
 cases Ie with
 | zK _ _ us ly SG =>
  obtain⟨fv,cap,zs,k1,k2,k3⟩:=V8 (P:=c.P) (vs:=Ph.toList.map a'.eval) (w:=κ'.w) (rfl:eI g us=eI g us)
  refine .inl ?_
  unfold Oper.wp
  have hx:(execOp a'.eval ⟨none,.defer ⟨.value f,Ph,cy⟩,ty,pos,after,none⟩).run c.P κ'.w=.ok (.defer ⟨.fn fv cap,zs⟩) κ'.w:=by
   have e9:Ph.map a'.eval=(Ph.toList.map a'.eval).toArray:=by apply Array.ext'; simp
   simp only[execOp,resolve,Un,e9,Sem.run_bind,k1,Result.andThen_ok,Sem.run_pure]
  rw[hx]
  exact hQ a' κ' fv cap zs _ e1 e2 e3 e4 g2 e5 (sH g hr (⟨ly,SG⟩:zU κ' caps us)) k3
def YN(κ0:KS)(out:qz)(nr:Nat)(y:out.den):Ending->World->Prop:=λe w'=>∃ (κ':KS) (ds:List D),κ'.w=w'/\κ'.st=out.st y/\Inv κ'/\Ext κ0 κ'/\gx nr (out.fr y)=some ds/\qL κ' (.ret ds) e
theorem lU{κ0 κ2:KS}{fn:Func}{out:qz}{nr:Nat}{y:out.den}{fr:Fr}{zg:St}{tm:Array Value}(hκ:Inv κ0)(e1:κ2.st=zg)(e2:Inv κ2)(e3:Ext κ0 κ2)(e4:Rel κ2 fn.ntmps fr.get { tmps:=tm,defers:=[] })(hlen:κ0.st.length<=out.bs.length)
  (h:(rN (wG P xid tab ro) fn κ0.st.length out nr fr zg).leads y):Leaves P fn tm (YN κ0 out nr y) [] .returning κ2.w:=by
 obtain⟨v,k1,κ',ds,q1,q2,q3,q4,q5,q6⟩:=sL (o:=⟨.ret,fr,[],zg,false⟩) hκ e1 e2 e3 e4 hlen h
 exact⟨v,k1,κ',ds,q1,q2,q3,q4,q5,q6⟩
theorem s8{code:Code}(h:qo code=[])[X0]:wE P n H code:=λp hp=>by rw[h]at hp; cases hp
theorem Fg{κ:KS}{f:F}{a:Act}(D:X0)(h : @Rel D κ n f a) : @Rel sK κ n f { tmps:=a.tmps,defers:=[] } := @Rel.mk sK κ n f _ (@Rel.size D κ n f a h) rfl (@Rel.get D κ n f a h)
theorem Qp{κ κ':KS}{f:F}{a:Act}(x:Ext κ κ')(h : @Rel sK κ n f a) : @Rel sK κ' n f a:=h.mono x
theorem RH{κ:KS}{f:F}{a:Act}(h : @Rel sK κ n f a)(l:List Deferred) : @Rel ⟨l⟩ κ n f { a with defers:=l } := @Rel.mk ⟨l⟩ κ n f _ h.size rfl h.get
theorem Pm(hm:(wG P xid tab ro).P.follows .mixedOrders=true)(hT:jj P tab){h:Dfd}(h0:vS (H8 P) h.g h.d0)(h1:vS (Bu P h.pt) h.g h.d1){fn:Func}{out:qz}{nr:Nat}{y:out.den}{κ0:KS}(hκ:Inv κ0)(hlen:κ0.st.length<=out.bs.length) :
  ∀ (code:Code),qo code=[]->∀ {fr:Fr} {kn:Kn} {κ:KS} {a:Act},(S4 (wG P xid tab ro) tab fn.ntmps H h fn κ0.st.length out nr code fr kn κ.st).leads y->Inv κ->Ext κ0 κ->Rel κ fn.ntmps fr.get a->xX kn fr.get ->
   code.wp P (bodyPostD P fn (YN κ0 out nr y)) a κ.w:=by
 intro code
 induction code with
 | seq x b ix ib =>
  intro hl fr kn κ a hy hI hx hR hk
  have Px:qo x=[]:=by simp only[qo,List.append_eq_nil_iff]at hl; exact hl.1
  have hlb:qo b=[]:=by simp only[qo,List.append_eq_nil_iff]at hl; exact hl.2
  have plain:(mB (wG P xid tab ro) tab fn.ntmps H x fr kn κ.st λr=>match r.ex with
    | .normal=>S4 (wG P xid tab ro) tab fn.ntmps H h fn κ0.st.length out nr b r.fr r.kn r.st
    | .ret=>rN (wG P xid tab ro) fn κ0.st.length out nr r.fr r.st
    | _=>.fail).leads y->(Code.seq x b).wp P (bodyPostD P fn (YN κ0 out nr y)) a κ.w:=by
   intro hy
   refine wp_seq (fR hm hT x (s8 Px) (κ:=κ) hy hI hR hk _ λo bS a' κ' e0 e1 e2 e3 e4 BV _ _ e6 => ?_)
   cases hex:o.ex<;>rw[hex]at e0 e6<;>simp only at e0
   ·cases e6
    exact ib hlb (κ:=κ') (e1▸e0) e2 (hx.trans e3) e4 BV
   ·exact e0.elim
   ·cases e6
    show Leaves P fn a'.tmps _ a'.defers .returning κ'.w
    rw[show a'.defers=[]from e4.defers]
    exact lU hκ e1 e2 (hx.trans e3) (Fg sK e4) hlen e0
   ·exact e0.elim
  simp only[S4]at hy
  split at hy
  ·rename_i ops hops
   obtain⟨id,rfl⟩:∃ id,x=.region id ops false:=by
    cases x with
    | region id ops' draw =>
     cases draw with
     | true=>cases hops
     | false=>cases hops; exact⟨id,rfl⟩
    | _=>cases hops
   split at hy
   ·rename_i pre f args hd
    have ZJ:∀ o∈pre,∃ i:Nat,ops[i]? = some o:=λo ho=>by
     obtain⟨o',Ph,cy,e,_⟩:=iw hd
     have:o∈ops.toList:=by rw[e]; exact List.mem_append_left _ ho
     obtain⟨i,hi,he⟩:=List.getElem_of_mem this
     exact⟨i,by rw[<- he]; simp at hi; simp[hi]⟩
    rcases mc pre hk ZJ hy with⟨s1,xg,hy⟩ | ⟨_,_,_,hy⟩
    rotate_left
    ·exact hy.elim
    split at hy
    ·rename_i g caps l hf hl
     cases hg:Nat.beq (jc g) h.g with
     | false=>rw[hg]at hy; exact hy.elim
     | true =>
     rw[hg,cond_true]at hy
     have hgg:=Nat.eq_of_beq_eq_true hg
     refine wp_seq (Ve (c:=wG P xid tab ro) (WC hT) hI hR hk hd xg hf hl λa' κ1 fv cap zs zp e1 e2 e3 e4 BV e5 e6 e7 => ?_)
     show b.wp P _ _ κ1.w
     have hdf:a'.defers=[]:=e4.defers
     rw[hdf]
     let D:X0:=⟨[⟨.fn fv cap,zs⟩]⟩
     have hRD : @Rel D κ1 fn.ntmps s1.fr.get { a' with defers:=[⟨.fn fv cap,zs⟩] }:=RH e4 _
     rw[<- e1]at hy
     refine @fR _ D P xid tab ro fn.ntmps H hm hT b (@s8 _ P fn.ntmps H b hlb D) s1.fr s1.kn κ1 _ _ _ y hy e2 hRD BV _ λo bS a2 κe f0 f1 f2 f3 f4 QD f5 _ f6 => ?_
     have TU:a2.defers=[⟨.fn fv cap,zs⟩] := @Rel.defers D κe fn.ntmps _ a2 f4
     have hRa : @Rel sK κe fn.ntmps (Fr.get (o.fr++(yZ (zQ b)++s1.fr))) { tmps:=a2.tmps,defers:=[] }:=Fg D (@iR _ D fn.ntmps κ1 κe s1.fr o.fr _ a2 (zQ b) hRD f3 f4 f5)
     have En:zU κe (v8 g l caps) zp:=zU.mono f3 e6
     have SQ:∀ (cs:Array Value) (w':World),cs=zp.toArray->(callFunc h.g cs).run P w'=.ok (.enter h.g cs) w'->(invoke (.fn fv cap) zs).run P w'=.ok (.enter h.g cs) w':=λcs w' lF hc=>by
      refine(e7 w').trans ?_
      rw[hgg,<- lF]; exact hc
     have Sh:(h.d0.K (v8 g l caps) o.st λ_ zg=>rN (wG P xid tab ro) fn κ0.st.length out nr (o.fr++(yZ (zQ b)++s1.fr)) zg).leads y->Leaves P fn a2.tmps (YN κ0 out nr y) a2.defers .returning κe.w:=by
      intro hK
      obtain⟨ds,zg,k1,k2⟩:=wK.Fi hK
      rw[<- f1]at k1
      obtain⟨d1,d2⟩:=wK.RB (Dr:=H8 P) H8.mono h0 κe _ zp _ _ k1 f2 En
      rw[TU]
      refine leaves_cons (by nofun) (SQ _ _ rfl d1) (d2.mono ?_)
      rintro e u' w' ⟨ld,κ2,rfl,g2,g3,g4,v,rfl,_⟩
      show Leaves P fn a2.tmps _ [] (settle u') κ2.w
      rw[ld]
      exact lU hκ g2 g3 ((hx.trans (e3.trans f3)).trans g4) (Qp g4 hRa) hlen k2
     cases hox:o.ex<;>rw[hox]at f0 f6
     ·cases f6; exact Sh f0
     ·exact f0.elim
     ·cases f6; exact Sh f0
     ·rename_i pd
      obtain⟨v,rfl,hv⟩:=f6
      cases pd<;>first | exact False.elim f0 | skip
      rename_i t p
      have f00:(bif Nat.beq t h.pt then h.d1.K (v8 g l caps++[p]) o.st λ_ zg=>rN (wG P xid tab ro) fn κ0.st.length out nr (o.fr++(yZ (zQ b)++s1.fr)) zg else .fail).leads y:=f0
      clear f0
      cases ht:Nat.beq t h.pt with
      | false=>rw[ht]at f00; exact f00.elim
      | true =>
      rw[ht,cond_true]at f00
      have:=Nat.eq_of_beq_eq_true ht
      subst this
      cases hv with
      | iface _ _ u hu =>
       obtain⟨ds,zg,k1,k2⟩:=wK.Fi f00
       rw[<- f1]at k1
       obtain⟨d1,d2⟩:=wK.RB (Dr:=Bu P h.pt) Bu.mono h1 κe _ (zp++[u]) _ _ k1 f2 (En.append (zU.cons hu zU.nil)) zp u rfl
       show Leaves P fn a2.tmps _ a2.defers _ κe.w
       rw[TU]
       refine leaves_cons (by nofun) (SQ _ _ rfl d1) (d2.mono ?_)
       rintro e u' w' ⟨ld,κ2,rfl,g2,g3,g4,v,rfl,_⟩
       show Leaves P fn a2.tmps _ [] (settle u') κ2.w
       rw[ld]
       exact lU hκ g2 g3 ((hx.trans (e3.trans f3)).trans g4) (Qp g4 hRa) hlen k2
    ·exact hy.elim
   ·exact plain hy
  ·exact plain hy
 | _=>intro _ fr kn κ a hy; exact hy.elim
theorem PY(hm:(wG P xid tab ro).P.follows .mixedOrders=true)(hT:jj P tab){h:Dfd}(h0:vS (H8 P) h.g h.d0)(h1:vS (Bu P h.pt) h.g h.d1){f:Nat}{fn:Func}{code:Code}(hf:P.funcs[f]? = some fn)(hb:fn.body=some code)
  (hn:(fn.name == "runtime.NumGoroutine")=false) (hL:qo code=[]) {d:wK} (he:∀ x,Dx (wG P xid tab ro) tab H h fn code d x=d.F x):zE P f d:=by
 intro κ x zp y qQ hy hI hlen Dj
 rw[<- he]at hy
 unfold Dx at hy
 cases hle:Nat.ble d.ks.length fn.ntmps&&Nat.ble d.sh.bs.length d.out.bs.length with
 | false=>rw[hle]at hy; exact hy.elim
 | true =>
  rw[hle,cond_true]at hy
  simp only[Bool.and_eq_true]at hle
  have T4:=Nat.le_of_ble_eq_true hle.1
  have Cz:=Nat.le_of_ble_eq_true hle.2
  refine .inl ⟨xy hf hn (by grind) κ.w,calls_of_wp_defers hf hb ?_⟩
  have hR:Rel κ fn.ntmps (d.sh.fr x).get { tmps:=zp.toArray++Array.replicate (fn.ntmps-zp.toArray.size) undef,defers:=[] }:=by
   refine⟨by grind,rfl,λs e hs => ?_⟩
   obtain⟨v,h1,h2⟩:=Dj.get s e hs
   grind
  rw[<- qQ]at hy
  exact Pm hm hT h0 h1 (κ0:=κ) hI (by rw[qQ]; exact Nat.le_trans (qz.fQ _ _) Cz) code hL (κ:=κ) hy hI (Ext.refl κ) hR (yk _)
end
end Go.AM
namespace Go.AM
theorem oo(c b:UInt8)(l:List UInt8):Lib.index (b::l) [c]=if b=c then 0 else if Lib.index l [c] == -1 then -1 else Lib.index l [c]+1:=by
 show(if[c].isPrefixOf (b::l)then _ else _)=_
 by_cases h:b=c
 ·rw[if_pos h,if_pos (by subst h; simp[List.isPrefixOf])]
 ·rw[if_neg h,if_neg (by simp[List.isPrefixOf]; exact λe=>h e.symm)]
theorem Ua(c:UInt8):∀ l:List UInt8,Lib.splitK [c] 0 (Lib.count l [c]) l=tT c l
 | []=>rfl
 | b::l=>by
  have ih:=Ua c l
  by_cases h:b=c
  ·have hi:Lib.index (b::l) [c]=((0:Nat):Int):=by rw[oo,if_pos h]; rfl
   have hc:=Lib.count_hit (s:=b::l) (sub:=[c]) (by simp) hi
   rw[hc,show 1+Lib.count ((b::l).drop (0+[c].length)) [c]=Lib.count l [c]+1 from Nat.add_comm 1 _]
   unfold Lib.splitK
   rw[if_neg (by rw[hi]; decide),hi]
   show[]::Lib.splitK [c] 0 (Lib.count l [c]) l=(if b=c then[]::tT c l else _)
   rw[if_pos h,ih]
  ·by_cases hm:Lib.index l [c] = -1
   ·have hi:Lib.index (b::l) [c] = -1:=by rw[oo,if_neg h,hm]; rfl
    rw[Lib.count_miss hi]
    rw[Lib.count_miss hm]at ih
    show[b::l]=(if b=c then _ else Pk b (tT c l))
    rw[if_neg h,<- ih]
    rfl
   ·have hge:=Lib.index_ge l [c]
    obtain⟨i,hi⟩:∃ i:Nat,Lib.index l [c]=(i:Int):=⟨(Lib.index l [c]).toNat,by omega⟩
    have rF:Lib.index (b::l) [c]=((i+1:Nat):Int):=by
     rw[oo,if_neg h,hi,if_neg (by rw[beq_iff_eq]; omega)]; omega
    have c1:=Lib.count_hit (s:=l) (sub:=[c]) (by simp) hi
    have c2:=Lib.count_hit (s:=b::l) (sub:=[c]) (by simp) rF
    have e:(b::l).drop (i+1+[c].length)=l.drop (i+[c].length):=rfl
    rw[e]at c2
    rw[c1,Nat.add_comm]at ih
    rw[c2,Nat.add_comm]
    unfold Lib.splitK at ih ⊢
    rw[if_neg (by rw[hi,beq_iff_eq]; omega),hi]at ih
    rw[if_neg (by rw[rF,beq_iff_eq]; omega),rF]
    show(b::l.take i)::Lib.splitK [c] 0 _ (l.drop (i+1))=(if b=c then _ else Pk b (tT c l))
    rw[if_neg h,<- ih]
    rfl
theorem Xk(s:ByteArray)(pos:Nat)(h:pos<s.size):pos+(Utf8.decode s pos).2<=s.size/\∀ j,1<=j->j<(Utf8.decode s pos).2->128<=(s.get! (pos+j)).toNat:=by
 unfold Utf8.decode
 simp only
 repeat' split
 all_goals simp only[Bool.and_eq_true,decide_eq_true_eq,beq_iff_eq]at *
 all_goals refine⟨by omega,λj h1 h2 => ?_⟩
 all_goals (rcases(by omega:j=1\/j=2\/j=3)with rfl | rfl | rfl<;>omega)
theorem mV(s:ByteArray)(i:Nat)(h:i<s.size):s.data.toList[i]? = some (s.get! i):=by
 have h':i<s.data.toList.length:=h
 rw[List.getElem?_eq_getElem h']
 have:=get_at s i h
 rw[Nat.add_zero]at this
 rw[this]
 rfl
theorem Gy(c:UInt8):∀ (l cur r:zh),(∀ b∈l,b≠c)->dP c cur (l++r)=dP c (cur++l) r
 | [],cur,r,_=>by rw[List.append_nil]; rfl
 | b::l,cur,r,h=>by
  show(if b=c then _ else dP c (cur++[b]) (l++r))=_
  rw[if_neg (h b List.mem_cons_self),Gy c l _ r (λx hx=>h x (List.mem_cons_of_mem _ hx)),List.append_assoc]
  rfl
def wO(l:zh)(a b:Nat):zh:=(l.drop a).take (b-a)
theorem HH(l:zh){a b:Nat}(n:Nat)(h:a<=b)(hl:b+n<=l.length):wO l a (b+n)=wO l a b++(l.drop b).take n:=by
 unfold wO
 rw[show b+n-a=(b-a)+n by omega,List.take_add,List.drop_drop,show a+(b-a)=b by omega]
def pB(l:zh)(st:Option Nat)(pos:Nat):zh:=match st with | some a=>wO l a pos | none=>[]
theorem Ud(s:ByteArray):∀ (f pos:Nat) (st:Option Nat) (acc:List (Nat×Nat)),pos<=s.size->s.size<=pos+f->(∀ a,st=some a->a<pos) ->
  (Lib.closeSpans s (Lib.spansFromP (λn=>n==32) s f pos st acc)).map (λx=>wO s.data.toList x.1 x.2)=acc.map (λx=>wO s.data.toList x.1 x.2)++dP 32 (pB s.data.toList st pos) (s.data.toList.drop pos):=by
 have hlen:s.data.toList.length=s.size:=rfl
 intro f
 induction f with
 | zero =>
  intro pos st acc h1 h2 h3
  have:pos=s.size:=by omega
  subst this
  rw[List.drop_of_length_le (by omega)]
  show(Lib.closeSpans s (acc,st)).map _=_
  cases st with
  | none=>unfold Lib.closeSpans pB dP; simp
  | some a =>
   have ha:=h3 a rfl
   have ui:wO s.data.toList a s.size≠[]:=λe=>by
    have:=congrArg List.length e
    unfold wO at this
    simp only[List.length_take,List.length_drop,List.length_nil]at this
    omega
   unfold Lib.closeSpans pB dP
   simp[ui]
 | succ f ih =>
  intro pos st acc h1 h2 h3
  by_cases hp:pos<s.size
  ·have hx:=mV s pos hp
   have qc:pos<s.data.toList.length:=hp
   obtain⟨db1,db2⟩:=Xk s pos hp
   have hw:1<=(Utf8.decode s pos).2:=Lib.decode_width_pos s pos hp
   have hd:s.data.toList.drop pos=s.get! pos::s.data.toList.drop (pos+1):=by
    rw[List.drop_eq_getElem_cons qc]
    rw[List.getElem?_eq_getElem qc]at hx
    injection hx with hx
    rw[hx]
   unfold Lib.spansFromP
   rw[if_pos hp]
   by_cases h32:s.get! pos=32
   ·have Mk:Utf8.decode s pos=(32,1):=by
     have h0:(s[pos]'hp).toNat=32:=by rw[<- get_at s pos hp,Nat.add_zero,h32]; rfl
     rw[decode_ascii s pos hp (by omega),h0]
    rw[Mk]
    simp only[beq_self_eq_true,if_true]
    rw[hd,h32]
    cases st with
    | none =>
     simp only
     rw[ih (pos+1) none acc (by omega) (by omega) (λa h=>by cases h)]
     show _=acc.map _++(if(32:UInt8)=32 then(if([]:zh)=[]then dP 32 [] _ else _)else _)
     rw[if_pos rfl,if_pos rfl]
     rfl
    | some a =>
     have ha:=h3 a rfl
     have ui:wO s.data.toList a pos≠[]:=λe=>by
      have:=congrArg List.length e
      unfold wO at this
      simp only[List.length_take,List.length_drop,List.length_nil]at this
      omega
     simp only
     rw[ih (pos+1) none _ (by omega) (by omega) (λa h=>by cases h)]
     show _=acc.map _++(if(32:UInt8)=32 then(if wO s.data.toList a pos=[]then _ else wO s.data.toList a pos::dP 32 [] _)else _)
     rw[if_pos rfl,if_neg ui,List.map_append,List.append_assoc]
     rfl
   ·have z5p:((Utf8.decode s pos).1==32)=false:=by
     rw[beq_eq_false_iff_ne]
     by_cases h128:(s[pos]'hp).toNat<128
     ·rw[decode_ascii s pos hp h128]
      intro e
      apply h32
      have h0:(s.get! pos).toNat=(s[pos]'hp).toNat:=by rw[<- get_at s pos hp,Nat.add_zero]
      exact UInt8.toNat_inj.1 (by rw[h0]; exact e)
     ·have:=(decode_high s pos hp (by omega)).1
      omega
    rw[z5p]
    simp only[Bool.false_eq_true,if_false]
    generalize (Utf8.decode s pos).2=n at *
    have hch:s.data.toList.drop pos=(s.data.toList.drop pos).take n++s.data.toList.drop (pos+n):=by
     rw[<- List.drop_drop,List.take_append_drop]
    have Ib:∀ b∈(s.data.toList.drop pos).take n,b≠32:=λb hb=>by
     obtain⟨j,hj,ej⟩:=List.getElem_of_mem hb
     simp only[List.length_take,List.length_drop]at hj
     rw[List.getElem_take,List.getElem_drop]at ej
     have hg:=mV s (pos+j) (by omega)
     rw[List.getElem?_eq_getElem (by omega)]at hg
     injection hg with hg
     rw[hg]at ej
     rw[<- ej]
     by_cases j0:j=0
     ·subst j0; exact h32
     ·have:=db2 j (by omega) (by omega)
      intro e
      rw[e]at this
      exact absurd this (by decide)
    have fin:∀ a,a<=pos->wO s.data.toList a pos=pB s.data.toList st pos->(Lib.closeSpans s (Lib.spansFromP (λn=>n==32) s f (pos+n) (some a) acc)).map (λx=>wO s.data.toList x.1 x.2)=acc.map (λx=>wO s.data.toList x.1 x.2)++dP 32 (pB s.data.toList st pos) (s.data.toList.drop pos):=by
     intro a ha e
     rw[ih (pos+n) (some a) acc (by omega) (by omega) (λx hx=>by cases hx; omega),hch,Gy 32 _ _ _ Ib]
     show _++dP 32 (wO s.data.toList a (pos+n)) _=_
     rw[HH _ n ha (by omega),e]
    cases st with
    | none=>exact fin pos (Nat.le_refl _) (by unfold wO pB; rw[Nat.sub_self,List.take_zero])
    | some a=>exact fin a (Nat.le_of_lt (h3 a rfl)) rfl
  ·have:pos=s.size:=by omega
   subst this
   rw[Lib.spansFromP_end _ _ _ _ _ _ (by omega),List.drop_of_length_le (by omega)]
   cases st with
   | none=>unfold Lib.closeSpans pB dP; simp
   | some a =>
    have ha:=h3 a rfl
    have ui:wO s.data.toList a s.size≠[]:=λe=>by
     have:=congrArg List.length e
     unfold wO at this
     simp only[List.length_take,List.length_drop,List.length_nil]at this
     omega
    unfold Lib.closeSpans pB dP
    simp[ui]
theorem HI(s:ByteArray):(Lib.goFieldsP (λn=>n==32) s).map (·.data.toList)=dP 32 [] s.data.toList:=by
 have h:=Ud s s.size 0 none [] (Nat.zero_le _) (by omega) (λa h=>by cases h)
 unfold Lib.goFieldsP Lib.spansOfP
 rw[List.map_map]
 refine Eq.trans (List.map_congr_left λx _ => ?_) (h.trans (by rw[List.drop_zero]; rfl))
 show(s.extract x.1 x.2).data.toList=wO s.data.toList x.1 x.2
 rw[Lib.extract_data]
 rfl
theorem Xy(chars:zh):∀ l:zh,Lib.indexAny l chars=mq l chars
 | []=>rfl
 | b::l=>by simp only[Lib.indexAny,mq,Xy chars l]
end Go.AM
namespace Go.AM
set_option linter.unusedSectionVars false
variable [we]
theorem contains_eq(s sub:zh):Lib.contains s sub=decide ((0:Int)<=Zf s sub):=by
 unfold Lib.contains
 rw[Y7]
theorem RD.FL{κ:KS}{f:Nat}{v:Value}(h:RD κ (.zK f []) v)(hf:Nat.blt f 1000000=true):v=.func (.func f) #[] #[]:=by
 cases h with
 | zK _ _ vs hl _ =>
  have:vs=[]:=List.eq_nil_of_length_eq_zero hl.symm
  subst this
  exact Wu hf []
theorem KL{κ:KS}{w':World}{A cap:Nat}{t:TypeId}{cur:Array Value}{fz:Nat×Nat}{xs:List zh}(h0:κ.w.heap.size<=A)(h1:A<w'.heap.size)(hh:w'.heap[A]? = some (.cells cur t fz))(qR:xs.length<=cap)
  (hc:∀ i (hi:i<xs.length),cur[i]? = some (.string ⟨xs[i].toArray⟩)):RD (κ.grown w') (.zj (.sl .str) xs) (.slice (some ⟨A,0,none⟩) xs.length cap):=by
 refine RD.zj (.sl .str) xs [.slice (some ⟨A,0,none⟩) xs.length cap] ?_
 have hf:∀ i,i<xs.length->∃ s,xs.getD i []=s/\cur[i]? = some (.string ⟨s.toArray⟩):=λi hi=>⟨_,rfl,by
  rw[List.getD_eq_getElem?_getD,List.getElem?_eq_getElem hi]; exact hc i hi⟩
 refine Rc.sl .str xs A 0 cap (λi=>[.string ⟨(xs.getD i []).toArray⟩]) (.inr ⟨h0,h1⟩) qR (λi hi => ?_) (λi hi j v hv => ?_)
 ·show Rc _ _ .str xs[i] [.string ⟨(xs.getD i []).toArray⟩]
  rw[List.getD_eq_getElem?_getD,List.getElem?_eq_getElem hi]
  exact Rc.str _
 ·obtain⟨s,e1,e2⟩:=hf i hi
  cases j with
  | succ j=>cases hv
  | zero =>
   have hv:some (Value.string ⟨(xs.getD i []).toArray⟩)=some v:=hv
   injection hv with hv
   rw[e1]at hv
   subst hv
   show w'.cell? ⟨A,0+i*Ty.size .str+0,none⟩=_
   rw[show 0+i*Ty.size .str+0=i from by show 0+i*1+0=i; omega]
   simp[World.cell?,hh,e2]
theorem Fm{κ:KS}(s sep:zh)(h1:sep.length=1)(t:TypeId) :
  RD (κ.grown (κ.w.alloc (.cells ((Lib.splitB ⟨sep.toArray⟩ 0 (Lib.countB ⟨s.toArray⟩ ⟨sep.toArray⟩) ⟨s.toArray⟩).map Value.string).toArray t))) (.zj (.sl .str) (tT (sep.headD 0) s))
   (.slice (some ⟨κ.w.heap.size,0,none⟩) (Lib.countB ⟨s.toArray⟩ ⟨sep.toArray⟩+1) (Lib.countB ⟨s.toArray⟩ ⟨sep.toArray⟩+1)):=by
 obtain⟨c,rfl⟩:∃ c,sep=[c]:=by
  match sep,h1 with
  | [c],_=>exact⟨c,rfl⟩
 have hd:=Lib.splitB_data ⟨[c].toArray⟩ 0 (Lib.countB ⟨s.toArray⟩ ⟨[c].toArray⟩) ⟨s.toArray⟩
 have he:Lib.splitK [c] 0 (Lib.count s [c]) s=tT c s:=Ua c s
 have hd:(Lib.splitB ⟨[c].toArray⟩ 0 (Lib.countB ⟨s.toArray⟩ ⟨[c].toArray⟩) ⟨s.toArray⟩).map (·.data.toList)=tT c s:=hd.trans he
 have hlen:=Lib.splitB_all ⟨[c].toArray⟩ (Nat.le_refl 1) 0 (Lib.countB ⟨s.toArray⟩ ⟨[c].toArray⟩) ⟨s.toArray⟩ rfl
 generalize Lib.splitB ⟨[c].toArray⟩ 0 (Lib.countB ⟨s.toArray⟩ ⟨[c].toArray⟩) ⟨s.toArray⟩=bs at *
 rw[<- hlen]
 show RD _ (.zj (.sl .str) (tT c s)) _
 rw[<- hd,show bs.length=(bs.map (·.data.toList)).length from(List.length_map ..).symm]
 refine KL (cur:=(bs.map Value.string).toArray) (t:=t) (fz:=(0,0)) (Nat.le_refl _) (by show κ.w.heap.size<(κ.w.heap.push _).size; rw[Array.size_push]; omega) (by show(κ.w.heap.push _)[κ.w.heap.size]? = _; rw[Array.getElem?_push,if_pos rfl]) (Nat.le_refl _) (λi hi => ?_)
 rw[List.length_map]at hi
 rw[List.getElem?_toArray,List.getElem?_map,List.getElem?_eq_getElem hi,List.getElem_map]
 rfl
theorem Bw{κ:KS}{w':World}{A:Nat}{t:TypeId}(s:zh)(ho:w'.ownsRow κ.w.heap.size t 1 (.slice (some ⟨A,0,none⟩) (Lib.goFieldsP (λn=>n==32) ⟨s.toArray⟩).length (Lib.goFieldsP (λn=>n==32) ⟨s.toArray⟩).length) (Lib.goFieldsP (λn=>n==32) ⟨s.toArray⟩).length ((Lib.goFieldsP (λn=>n==32) ⟨s.toArray⟩).map Value.string)) :
  RD (κ.grown w') (.zj (.sl .str) (dP 32 [] s)) (.slice (some ⟨A,0,none⟩) (Lib.goFieldsP (λn=>n==32) ⟨s.toArray⟩).length (Lib.goFieldsP (λn=>n==32) ⟨s.toArray⟩).length):=by
 have he:(Lib.goFieldsP (λn=>n==32) ⟨s.toArray⟩).map (·.data.toList)=dP 32 [] s:=HI ⟨s.toArray⟩
 generalize Lib.goFieldsP (λn=>n==32) ⟨s.toArray⟩=bs at *
 rw[<- he]
 obtain⟨-,⟨h,-⟩ | ⟨g,cap,cur,hv,hg,hh,hn,qR,vb,QF⟩⟩:=ho
 ·cases h
 ·have e1:A=g:=by injection hv with a b c; injection a with a; injection a with a
  have e2:bs.length=cap:=by injection hv
  subst e1
  have qc:A<w'.heap.size:=(Array.getElem?_eq_some_iff.1 hh).1
  have:=KL (κ:=κ) (xs:=bs.map (·.data.toList)) (cap:=bs.length) hg qc hh (by rw[List.length_map]; exact Nat.le_refl _) (λi hi=>by
   rw[List.length_map]at hi
   have h2:(cur.toList.take (bs.length*1))[i]? = (bs.map Value.string)[i]? := congrArg (λl=>l[i]?) QF
   rw[List.getElem?_take,if_pos (by omega),List.getElem?_map,List.getElem?_eq_getElem hi]at h2
   rw[<- Array.getElem?_toList,h2,List.getElem_map]
   rfl)
  rwa [List.length_map]at this
end Go.AM
namespace Go.Proofs
open Go.Shelf Go.RowKit Go.Lib
variable {P:Program} {ρ:Ren}
set_option maxHeartbeats 8000000 in
set_option maxRecDepth 1000000 in
theorem Any.dC(L:Lays.n152 P ρ)(s:ByteArray)(r:Int)(w:World)(hs:∀ b∈s.data.toList,b.toNat<128)(h1:128<=r)(h2:r<=2147483647)(h63:s.size<4294967281) :
  Calls P (ρ.f 152) #[.string s,.int .i32 r] w λe w'=>e=.returned (.int .i64 (-1))/\Below w.heap.size w w':=by
 have mixed:=L.mixed
 have t3:=L.t3; have a3:=L.a3; have z3:=L.z3; have v3:=L.v3
 have t4:=L.t4; have a4:=L.a4; have z4:=L.z4; have v4:=L.v4
 have t5:=L.t5; have a5:=L.a5; have z5:=L.z5; have v5:=L.v5
 have t9:=L.t9; have a9:=L.a9; have z9:=L.z9; have v9:=L.v9
 have t21:=L.t21; have a21:=L.a21; have z21:=L.z21; have v21:=L.v21
 have zaz:∀ args w,(callFunc (ρ.f 137) args).run P w=.ok (.enter (ρ.f 137) args) w:=enters_of L.f137 (by kernel_rfl) rfl
 have zb4:∀ args w,(callFunc (ρ.f 119) args).run P w=.ok (.enter (ρ.f 119) args) w:=enters_of L.f119 (by kernel_rfl) rfl
 have HS:Aside (∀ b∈s.data.toList,b.toNat<128):=hs
 clear hs
 by_cases hE:r=65533
 ·subst hE
  go_enter L.f152,Body.n152_ntmps ρ
  go_wp2
  go_loopg [5,6] s.size (λg _ _ wx=>∃ i:Nat,i+g=s.size/\wx=w.iter s i)
  case atStart=>exact⟨0,by omega,rfl⟩
  case round =>
   obtain⟨i,hig,rfl⟩:=hrel
   cases gk with
   | zero =>
    obtain rfl:i=s.size:=by omega
    have KW:=run_next_end (P:=P) w s s.size
    go_wp2
    go_ret
    exact⟨rfl,(Below.refl _ _).alloc (Nat.le_refl _) _⟩
   | succ g =>
    have hi:i<s.size:=by omega
    obtain⟨x,hx⟩:∃ x:UInt8,s[i]'hi=x:=⟨_,rfl⟩
    have Ok:s.data.toList[i]? = some x:=by rw[<- hx]; exact Lib.data_getElem? s i hi
    have Ou:x.toNat<128:=HS.out x (List.mem_of_getElem? Ok)
    have KW:=λty=>run_next_ascii (P:=P) w s i ty hi (by rw[hx]; exact Ou)
    rw[hx]at KW
    have ui:((x.toNat:Int)==65533)=false:=beq_eq_false_iff_ne.2 (by omega)
    clear Ok hx
    go_wp2
    go_roundg g
    case measure=>omega
    case rel=>exact⟨i+1,by omega,rfl⟩
 ·have ui:(r==65533)=false:=beq_eq_false_iff_ne.2 hE
  have c0:decide ((0:Int)<=r)=true:=decide_eq_true (by omega)
  have c1:decide (r<128)=false:=decide_eq_false (by omega)
  cases hv:Lib.validRune r
  ·go_enter L.f152,Body.n152_ntmps ρ
   go_wp2_with (go_at_fn (ρ.f 119); refine(Any.utf8_ValidRune { L with } _ _).mono ?_; rintro e w' ⟨rfl,hw⟩; rw[hw,hv])
   go_ret
   exact⟨rfl,Below.refl _ _⟩
  ·obtain⟨g1,g2,g3⟩:=encode_facts r (by rw[validRune_eq]; exact hv) h1
   have hu:(P.underlying (ρ.t 21)).isSome=true:=by rw[t21]; rfl
   have u21:=run_underlying L.t21; have u9:=run_underlying L.t9; have u3:=run_underlying L.t3
   go_enter L.f152,Body.n152_ntmps ρ
   go_wp2_with (go_at_fn (ρ.f 119); refine(Any.utf8_ValidRune { L with } _ _).mono ?_; rintro e w' ⟨rfl,hw⟩; rw[hw,hv])
   clear hw
   go_step3
   go_wp2
   obtain⟨m,hm⟩:∃ m:Nat,(Utf8.encode r).size=m+1:=⟨(Utf8.encode r).size-1,by omega⟩
   have vb:((Utf8.encode r).size:Int)-1=(m:Int):=by omega
   simp only[vb]
   by_cases qc:m<s.size
   ·have hl:decide ((m:Int)<(s.size:Int))=true:=decide_eq_true (by omega)
    obtain⟨x,hx⟩:∃ x:UInt8,s[m]'qc=x:=⟨_,rfl⟩
    obtain⟨y,hy⟩:∃ y:UInt8,(Utf8.encode r)[m]'(by omega)=y:=⟨_,rfl⟩
    have Ou:x.toNat<128:=HS.out x (by rw[<- hx]; exact List.mem_of_getElem? (Lib.data_getElem? s m qc))
    have z8K:128<=y.toNat:=by rw[<- hy]; have:=g3 (by omega); simpa[hm]using this
    have BY:(0:Int)<=(m:Int)+1:=by omega
    have KU:(m:Int)+1<=(s.size:Int):=by omega
    have BZ:¬ ((m:Int)+1<0):=by omega
    have By:¬ ((s.size:Int)<(m:Int)+1):=by omega
    have hxy:((x.toNat:Int)==(y.toNat:Int))=false:=beq_eq_false_iff_ne.2 (by omega)
    have hwr:IntKind.i64.wrap ((m:Int)+1)=(m:Int)+1:=wrap_small _ (by omega) (by omega)
    have YO:((y.toNat:Int)).toNat.toUInt8=y:=by simp
    have zaC:Lib.indexByte (List.take (s.size-(m+1)) (List.drop (m+1) s.data.toList)) y<0:=by
     have Wl:=Lib.contains_iff_indexByte (List.take (s.size-(m+1)) (List.drop (m+1) s.data.toList)) y
     have hc:(List.take (s.size-(m+1)) (List.drop (m+1) s.data.toList)).contains y=false:=by
      rw[List.contains_eq_mem,decide_eq_false_iff_not]
      intro hm
      have:=HS.out y (List.mem_of_mem_drop (List.mem_of_mem_take hm))
      omega
     rw[hc]at Wl
     have:=of_decide_eq_false Wl.symm
     omega
    have hsl:∀ W:World,(Instr.slice (ρ.t 9) (.string s) (some (.int .i64 ((m:Int)+1))) none none).run P W=.ok (.string (s.extract (m+1) s.size)) W:=λW=>by rw[run_slice_string_from_if W _ _ _ _ t9,if_pos ⟨BY,KU⟩]; rfl
    go_rounds 1
    go_step3
    go_wp2
    go_region_o
    all_goals go_wp2
    all_goals go_region_with_o ((go_at_fn (ρ.f 137); refine(Any.strings_IndexByte { L with } _ _ _).mono ?_; rintro e w' ⟨rfl,hw⟩; rw[hw,YO]))
    all_goals go_wp2
    change Exit.inBlock 2 _ Exit.ret _ _
    go_wp2
    change Exit.inBlock 0 _ Exit.ret _ _
    go_ret
    exact⟨rfl,⟨rfl,rfl,rfl,Nat.le_refl _,λ_ _=>rfl⟩⟩
   ·have hl:decide ((m:Int)<(s.size:Int))=false:=decide_eq_false (by omega)
    go_rounds 1
    change Exit.inBlock 0 _ Exit.ret _ _
    go_ret
    exact⟨rfl,Below.refl _ _⟩
set_option maxHeartbeats 8000000 in
set_option maxRecDepth 1000000 in
theorem Any.cX(L:Lays.n153 P ρ)(s chars:ByteArray)(w:World)(h2:2<=chars.size)(h8:s.size<=8)(lF:chars.size<4294967281)(hac:∀ b∈chars.data.toList,b.toNat<128) :
  Calls P (ρ.f 153) #[.string s,.string chars] w λe w'=>e=.returned (.int .i64 (Lib.indexAny s.data.toList chars.data.toList))/\Below w.heap.size w w':=by
 have HC:Aside (∀ b∈chars.data.toList,b.toNat<128):=hac
 clear hac
 have z9T:chars.toList.isEmpty=false:=by
  rw[Lib.toList_data]
  cases h:chars.data.toList with
  | nil=>have:=Lib.size_eq chars; rw[h,List.length_nil]at this; omega
  | cons _ _=>rfl
 have By:((chars.size:Int)==1)=false:=beq_eq_false_iff_ne.2 (by omega)
 have h8z:decide ((8:Int)<(s.size:Int))=false:=decide_eq_false (by omega)
 have t3:=L.t3; have a3:=L.a3; have z3:=L.z3; have v3:=L.v3
 have t4:=L.t4; have a4:=L.a4; have z4:=L.z4; have v4:=L.v4
 have t5:=L.t5; have a5:=L.a5; have z5:=L.z5; have v5:=L.v5
 have t9:=L.t9; have a9:=L.a9; have z9:=L.z9; have v9:=L.v9
 have t21:=L.t21; have a21:=L.a21; have z21:=L.z21; have v21:=L.v21
 have za3:∀ args w,(callFunc (ρ.f 152) args).run P w=.ok (.enter (ρ.f 152) args) w:=enters_of L.f152 (by kernel_rfl) rfl
 have z9z:∀ args w,(callFunc (ρ.f 226) args).run P w=.ok (.enter (ρ.f 226) args) w:=enters_of L.f226 (by kernel_rfl) rfl
 go_enter L.f153,Body.n153_ntmps ρ
 go_wp2_with (go_at_fn (ρ.f 226); refine(Any.strings_shouldUseASCIISet { L with } _ _).mono ?_; rintro e w' ⟨rfl,hw⟩; rw[hw,h8z])
 go_loopw [9,10] (λ_ _ wr=>∃ pos:Nat,wr.heap[w.heap.size]? = some (.stringIter s pos)/\Below w.heap.size w wr/\pos<=s.size/\Lib.NoAny s.data.toList chars.data.toList pos) (λ_ _ wr=>s.size-wr.iterPos w.heap.size)
 case atStart=>exact⟨0,World.iter_heap w s 0,(Below.refl _ w).alloc (Nat.le_refl _) _,Nat.zero_le _,Lib.NoAny.zero _ _⟩
 case round =>
  obtain⟨pos,hit,MD,hps,Ib⟩:=hrel
  have HN:Aside (Lib.NoAny s.data.toList chars.data.toList pos):=Ib
  clear Ib
  have NP:=iterPos_of hit
  by_cases hp:pos<s.size
  ·have KW:∀ ty,(Instr.next (.pointer (some ⟨w.heap.size,0,none⟩)) true ty).run P wr=_:=λty=>Lib.run_next_any_at wr w.heap.size s pos ty hit hp
   have Ke:=Lib.iterAt_heap wr w.heap.size s pos (pos+(Utf8.decode s pos).2) hit
   have CJ:=Lib.below_iterAt MD (k:=w.heap.size) (Nat.le_refl _) s (pos+(Utf8.decode s pos).2)
   obtain⟨W1,hW1⟩:∃ W1,W1=wr.iterAt w.heap.size s (pos+(Utf8.decode s pos).2):=⟨_,rfl⟩
   rw[<- hW1]at KW Ke CJ
   have z3T:=lt_of_block Ke
   have hwd:=Lib.decode_width_pos s pos hp
   obtain⟨db1,db2⟩:=Go.AM.Xk s pos hp
   have Ok:=Go.AM.mV s pos hp
   clear hW1 hit MD
   by_cases h128:(s[pos]'hp).toNat<128
   ·have Mk:=decode_ascii s pos hp h128
    rw[Mk]at KW Ke hwd
    have WW:s.get! pos=s[pos]'hp:=by rw[<- get_at s pos hp,Nat.add_zero]
    rw[WW]at Ok
    generalize s[pos]'hp=x at *
    have Wl:=Lib.contains_iff_indexByte chars.data.toList x
    have YO:((x.toNat:Int)).toNat.toUInt8=x:=by simp
    have Hx:Aside (s.data.toList[pos]? = some x):=Ok
    clear Ok Mk db2 WW
    cases XC:chars.data.toList.contains x
    ·rw[XC]at Wl
     have qc:¬ ((0:Int)<=Lib.indexByte chars.data.toList x):=of_decide_eq_false Wl.symm
     clear Wl
     go_wp2_with (go_at_fn (ρ.f 152); refine(Any.strings_IndexRune_ascii { L with } _ _ _ (by omega) (by omega)).mono ?_; rintro e w' ⟨rfl,hw⟩; rw[hw,YO])
     go_roundw
     case rel=>exact⟨pos+1,Ke,CJ,by omega,HN.out.succ Hx.out XC⟩
     case measure=>rw[iterPos_of Ke,NP]; omega
    ·rw[XC]at Wl
     have hge:(0:Int)<=Lib.indexByte chars.data.toList x:=of_decide_eq_true Wl.symm
     clear Wl
     go_wp2_with (go_at_fn (ρ.f 152); refine(Any.strings_IndexRune_ascii { L with } _ _ _ (by omega) (by omega)).mono ?_; rintro e w' ⟨rfl,hw⟩; rw[hw,YO])
     go_ret
     exact⟨by rw[Lib.indexAny_hit HN.out Hx.out XC]; rfl,CJ⟩
   ·have hr1:(128:Int)<=((Utf8.decode s pos).1:Int):=by have:=(decode_high s pos hp (by omega)).1; omega
    have hr2:((Utf8.decode s pos).1:Int)<=2147483647:=by have:=decode_le s pos; omega
    have HN2:Aside (Lib.NoAny s.data.toList chars.data.toList (pos+(Utf8.decode s pos).2)):=λj b hj hb=>by
     by_cases h:j<pos
     ·exact HN.out j b h hb
     ·have hg:=Go.AM.mV s j (by omega)
      rw[hg]at hb
      injection hb with hb
      have z96:128<=b.toNat:=by
       rw[<- hb]
       by_cases h0:j=pos
       ·subst h0
        have WW:s.get! j=s[j]'hp:=by rw[<- get_at s j hp,Nat.add_zero]
        rw[WW]; omega
       ·have:=db2 (j-pos) (by omega) (by omega)
        rwa [show pos+(j-pos)=j by omega]at this
      rw[List.contains_eq_mem,decide_eq_false_iff_not]
      intro hm
      have:=HC.out b hm
      omega
    clear Ok db2 HN
    generalize (Utf8.decode s pos).1=r at *
    generalize (Utf8.decode s pos).2=n at *
    go_wp2_with (go_at_fn (ρ.f 152); refine(Any.dC { L with } _ _ _ HC.out hr1 hr2 lF).mono ?_; rintro e w' ⟨rfl,hB⟩)
    go_roundw
    case rel=>exact⟨pos+n,by rw[hB.block _ z3T]; exact Ke,CJ.trans (hB.mono CJ.size),by omega,HN2.out⟩
    case measure=>rw[iterPos_of ((hB.block _ z3T).trans Ke),NP]; omega
  ·obtain rfl:pos=s.size:=by omega
   have KW:∀ ty,(Instr.next (.pointer (some ⟨w.heap.size,0,none⟩)) true ty).run P wr=_:=λty=>Lib.run_next_end_at wr w.heap.size s s.size ty hit (by omega)
   go_wp2
   go_ret
   exact⟨by rw[Lib.indexAny_none (by rw[<- Lib.size_eq]; exact HN.out)]; rfl,MD⟩
theorem Any.eR(L:Lays.n153 P ρ)(hv116:∀ w,(zeroValue (ρ.t 116)).run P w=.ok (.agg (Array.replicate 256 (.bool false))) w)(z2y:(P.info? (ρ.t 116)).map (·.size)=some 256)(s chars:ByteArray)(w:World)(h2:2<=chars.size)(hs:s.size<4294967281)(lF:chars.size<4294967281)
  (hac:∀ b∈chars.data.toList,b.toNat<128) :
  Calls P (ρ.f 153) #[.string s,.string chars] w λe w'=>e=.returned (.int .i64 (Lib.indexAny s.data.toList chars.data.toList))/\Below w.heap.size w w':=by
 by_cases h8:s.size<=8
 ·exact Any.cX L s chars w h2 h8 lF hac
 ·refine(Any.strings_IndexAny_long L hv116 z2y s chars w (by omega) (by omega) hs lF λj b h=>hac b (List.mem_of_getElem? h)).mono λe w' ⟨h1,h2⟩=>⟨h1,?_⟩
  rw[h2]
  exact((Below.refl _ _).alloc (Nat.le_refl _) _).alloc (by simp) _
end Go.Proofs