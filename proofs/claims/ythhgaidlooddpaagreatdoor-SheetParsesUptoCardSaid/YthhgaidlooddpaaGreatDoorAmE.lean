/-
  The abstract machine, part E: texts of our own, the same for each claim.
-/
import Derived.Test.YthhgaidlooddpaaGreatDoorAmD
import Derived.Below
import Derived.Lib.Repeat
import Derived.Lib.ItoaNum
import Derived.Lib.IndexMore
import Derived.Lib.AsciiSet
import Derived.Lib.Strings
import Derived.Sort.Grow
import Derived.Deep.Draws
import Derived.Test.YthhgaidlooddpaaGreatDoorAmA
import Derived.Lib.Builder
import Derived.Recover
import Derived.Lib.Split
import Derived.Lib.SplitLaws
import Derived.Lib.FieldsP
import Derived.Lib.IndexAny
import Derived.Laws.RangeAny
import Derived.Lib.RuneCount
import Derived.Laws.AppendOwn
import Derived.Shelf.Strings.IndexAnyAll
import Derived.Laws.Runes
import Derived.Shelf.Small.Utf8
import Derived.WalkMore
import Derived.Handy
import Derived.Shelf.RegionOpenPlain
import Derived.WalkSmall
import Derived.Lib.OthersKept
set_option linter.unusedVariables false
namespace Go.AM
set_option linter.unusedSectionVars false
variable [ur]
open Go.RowKit
theorem nZ{P:Program}{g:Nat}{fn:Func}{args:Array Value}(hf:P.funcs[g]? = some fn) (hn:(fn.name == "runtime.NumGoroutine")=false) (hb:fn.body.isNone=false) (w:World) :
  (callFunc g args).run P w=.ok (.enter g args) w:=vt hf hn hb w
def KS.grown(κ:KS)(w':World):KS:={ κ with w:=w',ok:=λk=>κ.ok k\/(κ.w.heap.size<=k/\k<w'.heap.size) }
theorem vS{P:Program}{g:Nat}{fn:Func}{d:Dc}(hf:P.funcs[g]? = some fn) (hn:(fn.name == "runtime.NumGoroutine")=false) (hb:fn.body.isNone=false)
  (H:∀ (κ:KS) (x:ym d.ps) (zJ:List Value) (y:Bt d.rs),(d.F x).leads y->Inv κ->qM κ (Xr d.ps x) zJ ->
   Calls P g zJ.toArray κ.w λe w'=>Below κ.w.heap.size κ.w w'/\(Ext κ (κ.grown w')->wW (κ.grown w') (.ret (QE d.rs y)) e)):zG P g d:=by
 intro κ x zJ y xR hy hI ha
 refine .inl ⟨nZ hf hn hb κ.w,(H κ x zJ y hy hI ha).mono ?_⟩
 rintro e w' ⟨hB,he⟩
 have Gc:κ.ph=[]:=List.eq_nil_of_length_eq_zero (by rw[hI.len,xR]; rfl)
 have hx:Ext κ (κ.grown w'):=⟨hB.os,hB.tape,hB.output,hB.size,λk hk=>⟨.inl hk,hB.block k (hI.gm k hk)⟩,λk hk=>hk.elim .inl λh=>.inr (.inl h.1),λ_ _ _ h=>.inl h,λb d h=>by grind,
   λb v0 e xs h=>by grind,λb h=>by grind,Nat.le_refl _,λk hk _=>hB.block k hk⟩
 refine⟨κ.grown w',rfl,xR,⟨hI.len,λk hk=>hk.elim (λh=>Nat.lt_of_lt_of_le (hI.gm k h) hB.size) (·.2),λb blk n hb => ?_,hI.inj,λb x hb => ?_,hI.gl.mono hx.same⟩,hx,he hx⟩
 ·have:κ.ph[b]? = some (some (blk,n)):=hb
  grind
 ·have:κ.st[b]? = some x:=hb
  grind
theorem Iq(u:Nat):Lib.decDigits u=UI u:=by
 induction u using Nat.strongRecOn with
 | _ u ih =>
  rw[Lib.decDigits,UI]
  grind
theorem RT(n:Int):Lib.itoa n=nV n:=by
 unfold Lib.itoa nV
 rw[Iq,Iq]
theorem Ig(w:World)(k:Nat)(os:Array Obj):RowKit.Below w.heap.size w (Go.Sort.grow (w.drewN k) os):=by
 refine⟨rfl,rfl,rfl,?_,λb hb => ?_⟩
 ·simp
 ·show(w.heap++os)[b]? = w.heap[b]?
  grind
theorem below_drewN(w:World)(k:Nat):RowKit.Below w.heap.size w (w.drewN k):=⟨rfl,rfl,rfl,Nat.le_refl _,λ_ _=>rfl⟩
theorem Zb(w:World):RowKit.Below w.heap.size w w:=⟨rfl,rfl,rfl,Nat.le_refl _,λ_ _=>rfl⟩
theorem W8(w:World)(o:Obj):RowKit.Below w.heap.size w (w.alloc o):=by
 refine⟨rfl,rfl,rfl,?_,λb hb => ?_⟩
 ·simp
 ·show(w.heap.push o)[b]? = w.heap[b]?
  grind
theorem LV(s sub:zd):Lib.index s sub=dX s sub:=by
 induction s with
 | nil=>rfl
 | cons b l ih=>simp only[Lib.index,dX,ih]
theorem z2p(s:zd)(c:UInt8):Lib.indexByte s c=ZL s c:=by
 induction s with
 | nil=>rfl
 | cons b l ih=>simp only[Lib.indexByte,ZL,ih]
theorem Rx(s sep:zd):Lib.cut s sep=wT s sep:=by
 unfold Lib.cut wT
 rw[LV]
theorem N6{w:World}{ok:Nat->Prop}(f:Nat->Bool):∀ (n k:Nat),Rc w ok (dY .bool n) (OT (e:=.bool) f n k) ((List.range' k n).map λj=>Value.bool (f j))
 | 0,_=>.nil
 | n+1,k=>by
  exact Rc.cons .bool (dY .bool n) (f k) (OT (e:=.bool) f n (k+1)) [Value.bool (f k)] _ (.bool _) (N6 f n (k+1))
theorem Sb{κ:KS}(s:zd):RD κ (.zC (dY .bool 256) (dC s)) (.agg (Lib.setCells s)):=by
 have h:=RD.zC (κ:=κ) (dY .bool 256) (dC s) _ (N6 (λj=>s.contains (UInt8.ofNat j)) 256 0)
 have e:pk (dY .bool 256) ((List.range' 0 256).map λj=>Value.bool (s.contains (UInt8.ofNat j)))=.agg (Lib.setCells s):=by
  unfold pk
  rw[show(dY .bool 256).isAgg=true from rfl,Lib.setCells_eq]
  show Value.agg (List.toArray _)=_
  congr 1
  apply Array.ext'
  rw[Array.toList_map,Array.toList_range,List.range_eq_range']
 grind
theorem RD.zdh{κ:KS}{a b:D}{u v:Value}(h:RD κ a u)(k:RD κ b v):RD κ (.gz [a,b]) (.tuple #[u,v]):=by
 have:=qM.cons h (qM.cons k qM.nil)
 exact .gz [a,b] [u,v] this.1 this.2
theorem RD.zge{κ:KS}{a b c:D}{u v z:Value}(h:RD κ a u)(k:RD κ b v)(l:RD κ c z):RD κ (.gz [a,b,c]) (.tuple #[u,v,z]):=by
 have:=qM.cons h (qM.cons k (qM.cons l qM.nil))
 exact .gz [a,b,c] [u,v,z] this.1 this.2
theorem N5(l:List UInt8):∀ c,Lib.repeatL l c=kA l c
 | 0=>rfl
 | c+1=>by simp[Lib.repeatL,kA,N5 l c]
end Go.AM
namespace Go.AM
set_option linter.unusedSectionVars false
variable [ur]
open Go.RowKit
theorem Cv{w:World}{blk:Nat}{cs:Array Value}{t:TypeId}{fz:Nat×Nat}{v:Value}(h:w.heap[blk]? = some (.cells cs t fz)):w.setCell ⟨blk,0,none⟩ v=w.setRow blk (cs.setIfInBounds 0 v):=by
 unfold World.setCell World.setRow
 congr 1
 grind
def Io(t:Nat):List It:=[.v (.st [.op 0 t,.row 1 (.int .u8)]),.a (.int .u8)]
def Sf(t:Nat):List Bk:=[.var (.st [.op 0 t,.row 1 (.int .u8)]),.arr (.int .u8)]
def ccD(t:Nat):kQ:=⟨[.ptr],⟨Io t,[(0,.ptr 0 0)],Sf t⟩,[],⟨Io t,[],Sf t⟩,0,λx=>.ret x⟩
theorem GB{P:Program}{g t:Nat}(Jj:∀ args w,(callFunc g args).run P w=.ok (.enter g args) w)
  (zcT:∀ (b:Nat) (w:World),w.cell? ⟨b,0,none⟩=some (.pointer (some ⟨b,0,none⟩))->Calls P g #[.pointer (some ⟨b,0,none⟩)] w λe w'=>e=.returned (.tuple #[])/\w'=w)
  (z6m:∀ (b:Nat) (w:World),w.cell? ⟨b,0,none⟩=some (.pointer none)->w.shape? b=some (t,2)->w.frozen? ⟨b,0,none⟩=false ->
   Calls P g #[.pointer (some ⟨b,0,none⟩)] w λe w'=>e=.returned (.tuple #[])/\w'=w.setCell ⟨b,0,none⟩ (.pointer (some ⟨b,0,none⟩))):qQ P g (ccD t):=by
 intro κ x zJ y xR hy hI hlen hR
 cases hy
 have h0:κ.st[0]? = some (.var (.agg [.yt 0 t,.ms 1 (List.length x.2) (.int .u8) 0 (List.length x.2)])):=by rw[xR]; rfl
 obtain⟨blk,n,cs,t',p1,p2,p3,p4,p5⟩:=hI.blk 0 _ h0
 obtain rfl:t'=t:=p5.2 t rfl
 obtain⟨v0,hv0,NS⟩:=hR.get 0 (.ptr 0 0) rfl
 have hv:v0=.pointer (some ⟨blk,0,none⟩):=by
  cases NS with
  | ptr _ _ lN n' d hd hp=>grind
 have cg:zJ.toArray = #[.pointer (some ⟨blk,0,none⟩)]:=by
  match zJ,hlen with
  | [a],_ =>
   grind
 obtain⟨pv,us,Xk,g1,g2⟩:=qM.cons_inv p4
 obtain⟨bv,us',hus,g3,g4⟩:=qM.cons_inv g2
 have:=g4.ql
 subst this
 subst hus
 have Kz:cs = #[pv,bv]:=by rw[<- Array.toArray_toList (xs:=cs),Xk]
 subst Kz
 have TL:∀ κ':KS,wW κ' (.ret []) (.returned (.tuple #[])):=λκ'=>⟨.tuple #[],rfl,.gz [] [] rfl (λi h=>absurd h (Nat.not_lt_zero i))⟩
 refine .inl ⟨Jj _ _,?_⟩
 rw[cg]
 have used:pv=.pointer (some ⟨blk,0,none⟩)->Calls P g #[.pointer (some ⟨blk,0,none⟩)] κ.w λe w'=>∃ (κ':KS) (ds:List D),κ'.w=w'/\κ'.st=(ccD t').out.st x/\Inv κ'/\Ext κ κ'/\gY 0 ((ccD t').out.fr x)=some ds/\wW κ' (.ret ds) e:=by
  intro hpv
  refine(zcT blk κ.w (by rw[Lib.cell_of_heap p2,hpv]; rfl)).mono ?_
  rintro e w' ⟨rfl,rfl⟩
  exact⟨κ,[],rfl,xR,hI,Ext.refl κ,rfl,TL κ⟩
 cases g1 with
 | dn _ _ lN n' d hd hp=>rw[p1]at hp; cases hp; exact used rfl
 | cW _ _ d hd =>
  refine(z6m blk κ.w (by rw[Lib.cell_of_heap p2]; rfl) (by simp[World.shape?,p2]) (by simp[World.frozen?,p2])).mono ?_
  rintro e w' ⟨rfl,rfl⟩
  rw[Cv p2]
  have hex:=mJ (cs := #[.pointer (some ⟨blk,0,none⟩),bv]) (x:=.var (.agg [.yt 0 t',.ms 1 (List.length x.2) (.int .u8) 0 (List.length x.2)])) hI p1 h0 trivial
  refine⟨κ.Br 0 blk #[.pointer (some ⟨blk,0,none⟩),bv] (.var (.agg [.yt 0 t',.ms 1 (List.length x.2) (.int .u8) 0 (List.length x.2)])),[],rfl,?_,QU hI p1 h0 trivial ?_,hex,rfl,TL _⟩
  ·show κ.st.set 0 _=_
   rw[UY h0]; exact xR
  ·refine⟨blk,n,_,t',p1,setRow_heap _ _ _ _ _ _ p2,p3,?_,p5⟩
   refine .cons (.dn 0 t' blk n _ (by show(κ.st.set 0 _)[0]? = _; rw[UY h0]; exact h0) p1) (.cons (g3.mono hex) .nil)
def RG(t:Nat):kQ:=⟨[.ptr],⟨Io t,[(0,.ptr 0 0)],Sf t⟩,[],⟨[.s 0 (.zC .str),.v (.st [.op 0 t,.un])],[],[.var (.st [.op 0 t,.un]),.dead]⟩,1,
 λx=>z1H x.2⟩
theorem Pr{κ:KS}{w':World}{t:Nat}{xs:List Int}(xR:κ.st=[.var (.agg [.yt 0 t,.ms 1 xs.length (.int .u8) 0 xs.length]),.arr xs.length (.int .u8) xs])(hI:Inv κ)
  (h1:w'.os=κ.w.os) (h2:w'.tape=κ.w.tape) (h3:w'.output=κ.w.output) (h4:κ.w.heap.size<=w'.heap.size)
  (h5:∀ k,k<κ.w.heap.size->(∀ n:Nat,κ.ph[1]? ≠ some (some (k,n)))->w'.heap[k]? = κ.w.heap[k]?) :
  ∃ κ':KS,κ'.w=w'/\κ'.st=[.var (.agg [.yt 0 t,.tA]),.dead]/\Inv κ'/\Ext κ κ':=by
 have b0:κ.st[0]? = some (.var (.agg [.yt 0 t,.ms 1 xs.length (.int .u8) 0 xs.length])):=by rw[xR]; rfl
 have b1:κ.st[1]? = some (.arr xs.length (.int .u8) xs):=by rw[xR]; rfl
 have hlen:κ.st.length=2:=by rw[xR]; rfl
 let κ':KS:={ κ with w:=w',st:=[.var (.agg [.yt 0 t,.tA]),.dead] }
 have hk:∀ k,κ.ok k->w'.heap[k]? = κ.w.heap[k]? := λk hk=>h5 k (hI.gm k hk) λn h=>(hI.apart 1 k n h).2 hk
 have V5:Eh κ.w w' κ.ok κ.ok:=λk h=>⟨h,hk k h⟩
 have hx:Ext κ κ':=by
  refine⟨h1,h2,h3,h4,V5,λk h=>.inl h,λ_ _ _ h=>.inl h,λb d h=>⟨?_,rfl⟩,λb v0 e Zd h=>.inl ?_,λb h => ?_,by show κ.st.length<=2; omega,λk hk hn=>h5 k hk (hn 1)⟩
  ·grind
  ·grind
  ·grind
 refine⟨κ',rfl,rfl,⟨by show κ.ph.length=2; rw[hI.len,hlen],λk h=>Nat.lt_of_lt_of_le (hI.gm k h) h4,λb blk n h=>⟨Nat.lt_of_lt_of_le (hI.apart b blk n h).1 h4,(hI.apart b blk n h).2⟩,hI.inj,λb y hb => ?_,hI.gl.mono V5⟩,hx⟩
 match b,hb with
 | 0,hb =>
  cases hb
  obtain⟨blk,n,cs,t',p1,p2,p3,p4,p5⟩:=hI.blk 0 _ b0
  have uh:∀ m:Nat,κ.ph[1]? ≠ some (some (blk,m)):=λm h=>by
   have:=hI.inj 0 1 blk n m p1 h
   omega
  refine⟨blk,n,cs,t',p1,(h5 blk (hI.apart 0 blk n p1).1 uh).trans p2,p3,?_,?_,λT hT=>p5.2 T hT⟩
  ·obtain⟨pv,us,Xk,g1,g2⟩:=qM.cons_inv p4
   obtain⟨bv,us',hus,g3,g4⟩:=qM.cons_inv g2
   have:=g4.ql
   subst this
   subst hus
   rw[Xk]
   refine .cons (g1.mono hx) (.cons (.tA bv (g3.VE rfl)) .nil)
  ·intro x Zt
   simp only[qm,List.mem_cons,List.not_mem_nil,or_false]at Zt
   rcases Zt with rfl | rfl<;>rfl
 | 1,hb=>cases hb; trivial
 | b+2,hb=>simp[κ']at hb
theorem Nh{n:Int}(h0:0<=n)(h1:n<256):(((byteOf n).toNat:Nat):Int)=n:=by
 unfold byteOf
 have:(UInt8.ofNat n.toNat).toNat=n.toNat:=by
  rw[UInt8.toNat_ofNat']
  omega
 grind
theorem F6{P:Program}{g t:Nat}(Jj:∀ args w,(callFunc g args).run P w=.ok (.enter g args) w)
  (Uq:∀ (b:Nat) (p:Value) (w:World),w.heap[b]? = some (.cells #[p,.slice none 0 0] t (0,0))->Calls P g #[.pointer (some ⟨b,0,none⟩)] w λe w'=>e=.returned (.string ⟨#[]⟩)/\w'=w.drew)
  (ob:∀ (b g' o cap:Nat) (p:Value) (w:World),cap≠0->w.heap[b]? = some (.cells #[p,.slice (some ⟨g',o,none⟩) 0 cap] t (0,0))->Calls P g #[.pointer (some ⟨b,0,none⟩)] w λe w'=>e=.returned (.string ⟨#[]⟩)/\w'=w.drew)
  (Su:∀ (b g' cap:Nat) (p:Value) (cur:Array Value) (l:List UInt8) (w:World),l≠[]->l.length<=cap->l.length<=140737488355328->w.heap[b]? = some (.cells #[p,.slice (some ⟨g',0,none⟩) l.length cap] t (0,0)) ->
   w.heap[g']? = some (.cells cur tn.u8 (0,0))->l.length<=cur.size->(∀ j x,l[j]? = some x->w.cell? ⟨g',j,none⟩=some (.int .u8 x.toNat)) ->
   Calls P g #[.pointer (some ⟨b,0,none⟩)] w λe w'=>e=.returned (.string ⟨l.toArray⟩)/\w'=w.drew.freeze ⟨g',0,none⟩ l.length)
  (GG:∀ (b g' o:Nat) (p:Value) (cur:Array Value) (w:World),w.heap[b]? = some (.cells #[p,.slice (some ⟨g',o,none⟩) 0 0] t (0,0))->w.heap[g']? = some (.cells cur tn.u8 (0,0)) ->
   Calls P g #[.pointer (some ⟨b,0,none⟩)] w λe w'=>e=.returned (.string ⟨#[]⟩)/\w'=w.drew.alloc (.view ⟨g',o,none⟩ tn.u8)) 
  {κ:KS} {zJ:List Value} {xs:List Int} (z6x:κ.st=[.var (.agg [.yt 0 t,.ms 1 xs.length (.int .u8) 0 xs.length]),.arr xs.length (.int .u8) xs])
  (Ka:∀ n∈xs,(0:Int)<=n/\n<256) (z3B:xs.length<=140737488355328) (hI:Inv κ) (hlen:zJ.length=1) (hd:∃ v,zJ.toArray[0]? = some v/\RD κ (.ptr 0 0) v) :
  j6 P g zJ.toArray κ.w λe w'=>∃ (κ':KS) (ds:List D),κ'.w=w'/\κ'.st=(RG t).out.st (qO xs,())/\Inv κ'/\Ext κ κ'/\gY 1 ((RG t).out.fr (qO xs,()))=some ds/\wW κ' (.ret ds) e:=by
 have h0:κ.st[0]? = some (.var (.agg [.yt 0 t,.ms 1 (xs.length) (.int .u8) 0 (xs.length)])):=by rw[z6x]; rfl
 have h1:κ.st[1]? = some (.arr (xs.length) (.int .u8) xs):=by rw[z6x]; rfl
 obtain⟨blk,n,cs,t',p1,p2,p3,p4,p5⟩:=hI.blk 0 _ h0
 obtain rfl:t'=t:=p5.2 t rfl
 obtain⟨v0,hv0,NS⟩:=hd
 have hv:v0=.pointer (some ⟨blk,0,none⟩):=by
  cases NS with
  | ptr _ _ lN n' d hd hp=>grind
 have cg:zJ.toArray = #[.pointer (some ⟨blk,0,none⟩)]:=by
  grind
 obtain⟨pv,us,Xk,g1,g2⟩:=qM.cons_inv p4
 obtain⟨bv,us',hus,g3,g4⟩:=qM.cons_inv g2
 have:=g4.ql
 subst this
 subst hus
 have Kz:cs = #[pv,bv]:=by rw[<- Array.toArray_toList (xs:=cs),Xk]
 subst Kz
 refine .inl ⟨Jj _ _,?_⟩
 rw[cg]
 have fin:∀ (w':World) (s:zd),s=qO xs->w'.os=κ.w.os->w'.tape=κ.w.tape->w'.output=κ.w.output->κ.w.heap.size<=w'.heap.size ->
   (∀ k,k<κ.w.heap.size->(∀ n:Nat,κ.ph[1]? ≠ some (some (k,n)))->w'.heap[k]? = κ.w.heap[k]?) ->
   ∃ (κ':KS) (ds:List D),κ'.w=w'/\κ'.st=(RG t').out.st (qO xs,())/\Inv κ'/\Ext κ κ'/\gY 1 ((RG t').out.fr (qO xs,()))=some ds/\wW κ' (.ret ds) (.returned (.string ⟨s.toArray⟩)):=by
  intro w' s hs q1 q2 q3 q4 q5
  subst hs
  obtain⟨κ',k1,k2,k3,k4⟩:=Pr z6x hI q1 q2 q3 q4 q5
  exact⟨κ',[.zC .str (qO xs)],k1,k2,k3,k4,rfl,_,rfl,RD.str⟩
 have hnn:(qO xs).length=xs.length:=List.length_map _
 cases g3 with
 | ms _ _ _ _ _ cap a hb vJ ha nN hm =>
  obtain⟨hle,hm⟩:=hm xs h1
  rcases hm with⟨hz,_,hv',hp⟩ | ⟨z3r,n1,o,Fu,hp,hv',z92,jv,ho⟩
  ·rw[hv']at p2
   have Vq:xs=[]:=List.eq_nil_of_length_eq_zero hz
   refine(Uq blk pv κ.w p2).mono ?_
   rintro e w' ⟨rfl,rfl⟩
   exact fin _ [] (by rw[Vq]; rfl) rfl rfl rfl (Nat.le_refl _) (λ_ _ _=>rfl)
  ·cases hv'
   obtain⟨_,⟨P6,hpn⟩ | ⟨zfS,n2,cs2,T2,r1,r2,r3,r4,r5,f,r6⟩⟩:=hI.blk 1 _ h1
   ·grind
   ·rw[hp]at r1
    cases r1
    have hT:=r5 rfl
    subst hT
    by_cases hc0:cap=0
    ·subst hc0
     have hz:xs.length=0:=by omega
     have Vq:xs=[]:=List.eq_nil_of_length_eq_zero hz
     rw[hz]at p2
     refine(GG blk z3r o pv cs2 κ.w p2 r2).mono ?_
     rintro e w' ⟨rfl,rfl⟩
     refine fin _ [] (by rw[Vq]; rfl) rfl rfl rfl (by simp) (λk hk _ => ?_)
     exact Lib.alloc_old κ.w.drew _ k hk
    ·by_cases hz:xs.length=0
     ·have Vq:xs=[]:=List.eq_nil_of_length_eq_zero hz
      rw[hz]at p2
      refine(ob blk z3r o cap pv κ.w hc0 p2).mono ?_
      rintro e w' ⟨rfl,rfl⟩
      exact fin _ [] (by rw[Vq]; rfl) rfl rfl rfl (Nat.le_refl _) (λ_ _ _=>rfl)
     ·have ho':o=0:=by
       rcases ho with ho | ho
       ·exact absurd ho hc0
       ·simpa using ho
      subst ho'
      have uh:qO xs≠[]:=λe=>hz (by rw[<- hnn,e]; rfl)
      have z5z:xs.length<=cs2.size:=by
       have:=r4
       simp only[Ty.size,Nat.mul_one]at this
       omega
      refine(Su blk z3r cap pv cs2 (qO xs) κ.w uh (by rw[hnn]; exact vJ) (by rw[hnn]; exact z3B) (by rw[hnn]; exact p2) r2 (by rw[hnn]; exact z5z) ?_).mono ?_
      ·intro j c hj
       have hj':j<xs.length:=by rw[<- hnn]; exact(List.getElem?_eq_some_iff.1 hj).1
       obtain⟨q1,q2⟩:=r6 j hj'
       have:=q2 0 (.int .u8 xs[j]) (by rw[q1.yW]; rfl)
       simp only[Ty.size,Nat.mul_one,Nat.add_zero]at this
       have hc:c=byteOf xs[j]:=by
        unfold qO at hj
        rw[List.getElem?_map,List.getElem?_eq_getElem hj']at hj
        exact(Option.some.inj hj).symm
       obtain⟨b0,b1⟩:=Ka xs[j] (List.getElem_mem hj')
       rw[Lib.cell_of_heap r2,hc,Nh b0 b1]
       exact this
      ·rintro e w' ⟨rfl,rfl⟩
       refine fin _ _ rfl ?_ ?_ ?_ ?_ ?_
       ·unfold World.freeze; split<;>rfl
       ·unfold World.freeze; split<;>rfl
       ·unfold World.freeze; split<;>rfl
       ·unfold World.freeze
        split
        ·exact Nat.le_refl _
        ·show κ.w.heap.size<=(Array.modify _ _ _).size
         rw[Array.size_modify]; exact Nat.le_refl _
       ·intro k hk hn
        have zgT:k≠z3r:=λe=>hn n1 (e▸hp)
        unfold World.freeze
        split
        ·rfl
        ·show(Array.modify _ _ _)[k]? = _
         rw[Array.getElem?_modify,if_neg (λe=>zgT e.symm)]
         rfl
theorem OU{P:Program}{g t:Nat}(Jj:∀ args w,(callFunc g args).run P w=.ok (.enter g args) w)
  (Uq:∀ (b:Nat) (p:Value) (w:World),w.heap[b]? = some (.cells #[p,.slice none 0 0] t (0,0))->Calls P g #[.pointer (some ⟨b,0,none⟩)] w λe w'=>e=.returned (.string ⟨#[]⟩)/\w'=w.drew)
  (ob:∀ (b g' o cap:Nat) (p:Value) (w:World),cap≠0->w.heap[b]? = some (.cells #[p,.slice (some ⟨g',o,none⟩) 0 cap] t (0,0))->Calls P g #[.pointer (some ⟨b,0,none⟩)] w λe w'=>e=.returned (.string ⟨#[]⟩)/\w'=w.drew)
  (Su:∀ (b g' cap:Nat) (p:Value) (cur:Array Value) (l:List UInt8) (w:World),l≠[]->l.length<=cap->l.length<=140737488355328->w.heap[b]? = some (.cells #[p,.slice (some ⟨g',0,none⟩) l.length cap] t (0,0)) ->
   w.heap[g']? = some (.cells cur tn.u8 (0,0))->l.length<=cur.size->(∀ j x,l[j]? = some x->w.cell? ⟨g',j,none⟩=some (.int .u8 x.toNat)) ->
   Calls P g #[.pointer (some ⟨b,0,none⟩)] w λe w'=>e=.returned (.string ⟨l.toArray⟩)/\w'=w.drew.freeze ⟨g',0,none⟩ l.length)
  (GG:∀ (b g' o:Nat) (p:Value) (cur:Array Value) (w:World),w.heap[b]? = some (.cells #[p,.slice (some ⟨g',o,none⟩) 0 0] t (0,0))->w.heap[g']? = some (.cells cur tn.u8 (0,0)) ->
   Calls P g #[.pointer (some ⟨b,0,none⟩)] w λe w'=>e=.returned (.string ⟨#[]⟩)/\w'=w.drew.alloc (.view ⟨g',o,none⟩ tn.u8)):qQ P g (RG t):=by
 intro κ x zJ y xR hy hI hlen hR
 obtain⟨⟨Ka,z3B⟩,hy⟩:=(show(z1H x.2).leads y from hy)
 have hy':(qO x.2,())=y:=hy
 subst hy'
 exact F6 Jj Uq ob Su GG (xs:=x.2) xR Ka z3B hI hlen (hR.get 0 (.ptr 0 0) rfl)
end Go.AM
namespace Go.AM
set_option linter.unusedSectionVars false
variable [ur]
open Go.RowKit
def Pb(P:Program):z03:=λg args w R=>(callFunc g args).run P w=.ok (.enter g args) w/\CallsD P g args .returning w λe u' w'=>settle u'=.returning/\R e w'
def P2(P:Program)(t:Nat):z03:=λg args w R=>∀ (zs:List Value) (v:Value),args=(zs++[v]).toArray->(callFunc g zs.toArray).run P w=.ok (.enter g zs.toArray) w /\
 CallsD P g zs.toArray (.panicking [{ v:=.iface t v,recovered:=false }]) w λe u' w'=>settle u'=.returning/\R e w'
theorem Pb.mono{P:Program}{g:Nat}{a:Array Value}{w:World}{R R':Ending->World->Prop}(h:Pb P g a w R)(hr:∀ e w',R e w'->R' e w'):Pb P g a w R' :=
 ⟨h.1,h.2.mono λe u' w' hh=>⟨hh.1,hr e w' hh.2⟩⟩
theorem P2.mono{P:Program}{t g:Nat}{a:Array Value}{w:World}{R R':Ending->World->Prop}(h:P2 P t g a w R)(hr:∀ e w',R e w'->R' e w'):P2 P t g a w R' :=
 λzs v e=>⟨(h zs v e).1,(h zs v e).2.mono λe u' w' hh=>⟨hh.1,hr e w' hh.2⟩⟩
def Ul(ops:Array Oper):Option (Nat×Nat):=match ops.toList with
 | [o1,o2]=>match o1.dst,o1.op,o1.guard with
  | some t1,.call ⟨.builtin .recover,_,_⟩,none=>match o2.dst,o2.op,o2.guard with
   | some t2,.assign (.tmp t),none=>bif Nat.beq t t1 then some (t1,t2)else none
   | _,_,_=>none
  | _,_,_=>none
 | _=>none
def zdG(t:Option Nat)(n:Nat):Nat:=match t with | none=>n | some _=>n+1
def z8g(t:Option Nat)(n:Nat)(fr:Fr):Option D:=match t with
 | none=>some .xh
 | some t=>match fr.get n with | some p=>some (.iface t p) | none=>none
section
variable (c:Ctx) (tab:ez)
def Ve(fn:Func)(out:vG)(nr:Nat)(fr:Fr)(st:St):T out.den :=
 (cj c fr st fn.results.toList).bind λds=>bif Nat.beq ds.length nr then(out.un (wL ds 0) st).bind λy=>bif (gY nr (out.fr y)).isSome then .ret y else .fail else .fail
def evH(H:Hints)(fn:Func)(ops:Array Oper)(b:Code)(d:kQ)(n:Nat)(t:Option Nat)(x:d.sh.den):T d.out.den :=
 bif Nat.ble n fn.ntmps&&Nat.ble d.sh.bs.length d.out.bs.length&&Nat.beq d.ks.length (zdG t n)then match Ul ops,z8g t n (d.sh.fr x)with
  | some (t1,t2),some rc=>bif Nat.blt t1 fn.ntmps&&Nat.blt t2 fn.ntmps then
    ZI c tab fn.ntmps H b ((t2,some rc)::(t1,some rc)::(n,none)::d.sh.fr x) [] (d.sh.st x) λo=>match o.ex with
     | .normal=>Ve c fn d.out d.nr o.fr o.st
     | .ret=>Ve c fn d.out d.nr o.fr o.st
     | _=>.fail
   else .fail
  | _,_=>.fail
 else .fail
def W3:List Oper->Option (List Oper×Operand×List Operand)
 | []=>none
 | [o]=>match o.op,o.guard,o.dst with
  | .defer ⟨.value f,args,_⟩,none,none=>some ([],f,args.toList)
  | _,_,_=>none
 | o::r=>match W3 r with | some (l,z)=>some (o::l,z) | none=>none
structure Dfd where
 g:Nat
 d0:kQ
 pt:Nat
 d1:kQ
def evD(n:Nat)(H:Hints)(h:Dfd)(fn:Func)(out:vG)(nr:Nat):Code->Fr->Kn->St->T out.den
 | .seq a b,fr,kn,st=>match opsOf a with
  | some ops=>match W3 ops.toList with
   | some (pre,f,args)=>VM c tab n ops pre ⟨fr,kn,st,[],[]⟩ (λs=>match jc s.fr f,uY (args.map (jc s.fr))with
     | some (.xk g caps),some l=>bif Nat.beq (yZ g) h.g then
       ZI c tab n H b s.fr s.kn s.st λo=>match o.ex with
        | .normal=>h.d0.K (jT g l caps) o.st λ_ zx=>Ve c fn out nr (o.fr++(dL (qw b)++s.fr)) zx
        | .ret=>h.d0.K (jT g l caps) o.st λ_ zx=>Ve c fn out nr (o.fr++(dL (qw b)++s.fr)) zx
        | .ye (.iface t p)=>bif Nat.beq t h.pt then h.d1.K (jT g l caps++[p]) o.st λ_ zx=>Ve c fn out nr (o.fr++(dL (qw b)++s.fr)) zx else .fail
        | _=>.fail
      else .fail
     | _,_=>.fail) (λ_ _=>.fail)
   | none=>ZI c tab n H a fr kn st λr=>match r.ex with
    | .normal=>evD n H h fn out nr b r.fr r.kn r.st
    | .ret=>Ve c fn out nr r.fr r.st
    | _=>.fail
  | none=>ZI c tab n H a fr kn st λr=>match r.ex with
   | .normal=>evD n H h fn out nr b r.fr r.kn r.st
   | .ret=>Ve c fn out nr r.fr r.st
   | _=>.fail
 | _,_,_,_=>.fail
def PG(H:Hints)(h:Dfd)(fn:Func)(code:Code)(d:kQ)(x:d.sh.den):T d.out.den :=
 bif Nat.ble d.ks.length fn.ntmps&&Nat.ble d.sh.bs.length d.out.bs.length then evD c tab fn.ntmps H h fn d.out d.nr code (d.sh.fr x) [] (d.sh.st x)else .fail
end
section
variable {P:Program} {xid:Nat} {tab:ez} {ro:Nat->Bool} {n:Nat} {H:Hints}
theorem FI{ops:Array Oper}{t1 t2:Nat}(hr:Ul ops=some (t1,t2)){Q:Exit->Act->List Frame->World->Prop}{a:Act}{cs:List Frame}{w:World}{id:Nat}(h1:t1<a.tmps.size)
  (h:Q .normal ((a.put (some t1) ((recoverD cs).elim .nilIface (·.1))).put (some t2) ((recoverD cs).elim .nilIface (·.1))) ((recoverD cs).elim cs (·.2)) w):(Code.region id ops false).wpS P Q a cs w:=by
 unfold Ul at hr
 split at hr
 ·rename_i o1 o2 hops
  split at hr
  ·rename_i t1' args oq EF Tl hg1
   split at hr
   ·rename_i t2' t hd2 ho2 hg2
    cases hb:Nat.beq t t1' with
    | false=>grind
    | true =>
     rw[hb,cond_true]at hr
     cases hr
     have:=Nat.eq_of_beq_eq_true hb
     subst this
     obtain⟨d1,op1,ty1,z7o,z6g,g1⟩:=o1
     obtain⟨d2,op2,Gq,z3h,z5Y,g2⟩:=o2
     subst EF Tl hg1 hd2 ho2 hg2
     have jv:ops.size=2:=by rw[<- Array.length_toList,hops]; rfl
     have e0:ops[0]? = some ⟨some t,.call ⟨.builtin .recover,args,oq⟩,ty1,z7o,z6g,none⟩:=by rw[<- Array.getElem?_toList,hops]; rfl
     have e1:ops[1]? = some ⟨some t2,.assign (.tmp t),Gq,z3h,z5Y,none⟩:=by rw[<- Array.getElem?_toList,hops]; rfl
     have z6q:List.range 2=[0,1]:=rfl
     have ev1:∀ v,((a.put (some t) v).eval (.tmp t))=v:=λv=>by simp[Act.eval,Act.put,h1]
     refine wpS_region ?_
     rw[jv,z6q]
     simp only[wpOpsS,e0,e1]
     cases Vf:recoverD cs with
     | none =>
      rw[Vf]at h
      simp only[execOp,ev1]
      exact h
     | some z =>
      rw[Vf]at h
      simp only[execOp,ev1]
      exact h
   ·cases hr
  ·cases hr
 ·cases hr
theorem RZ(hm:(uE P xid tab ro).P.follows .mixedOrders=true)(hT:yx P tab){f:Nat}{fn:Func}{id:Nat}{ops:Array Oper}{b:Code}(hf:P.funcs[f]? = some fn)(hb:fn.body=some (.seq (.region id ops false) b))
  (hL:uC P fn.ntmps H b) {d:kQ} {k:Nat} {t:Option Nat} {x:d.sh.den} {y:d.out.den} (hy:(evH (uE P xid tab ro) tab H fn ops b d k t x).leads y) {κ:KS} (xR:κ.st=d.sh.st x) (hI:Inv κ)
  {zs:List Value} (hk:zs.length=k) {u:FrameMode} {rv:Value} (hrv:∀ rc,z8g t k (d.sh.fr x)=some rc->RD κ rc rv)
  (hu:∀ (c₀:Frame) (cs:List Frame),c₀.mode=u->(recoverD (c₀::cs)).elim .nilIface (·.1)=rv/\∃ u',(recoverD (c₀::cs)).elim (c₀::cs) (·.2)={ c₀ with mode:=u' }::cs/\settle u'=.returning)
  (hR:∀ s dd,(d.sh.fr x).get s=some dd->s≠k->∃ v,zs[s]? = some v/\RD κ dd v) :
  CallsD P f zs.toArray u κ.w λe u' w'=>settle u'=.returning/\∃ (κ':KS) (ds:List D),κ'.w=w'/\κ'.st=d.out.st y/\Inv κ'/\Ext κ κ'/\gY d.nr (d.out.fr y)=some ds/\wW κ' (.ret ds) e:=by
 unfold evH at hy
 cases hc:Nat.ble k fn.ntmps&&Nat.ble d.sh.bs.length d.out.bs.length&&Nat.beq d.ks.length (zdG t k)with
 | false=>rw[hc]at hy; exact False.elim hy
 | true =>
 rw[hc,cond_true]at hy
 simp only[Bool.and_eq_true]at hc
 have NP:=Nat.le_of_ble_eq_true hc.1.1
 have Fa:=Nat.le_of_ble_eq_true hc.1.2
 split at hy
 ·rename_i t1 t2 rc hrs E7
  cases RY:Nat.blt t1 fn.ntmps&&Nat.blt t2 fn.ntmps with
  | false=>rw[RY]at hy; exact False.elim hy
  | true =>
  rw[RY,cond_true]at hy
  simp only[Bool.and_eq_true]at RY
  have zbE:=hrv rc E7
  refine callsD_of_wpS hf hb λc₀ cs hc₀ => ?_
  obtain⟨hv,u',Xk,c9⟩:=hu c₀ cs hc₀
  have h1:t1<fn.ntmps:=Nat.le_of_ble_eq_true RY.1
  have h2:t2<fn.ntmps:=Nat.le_of_ble_eq_true RY.2
  have RP:zs.length+(fn.ntmps-zs.length)=fn.ntmps:=by omega
  let a0:Act:={ tmps:=zs.toArray++Array.replicate (fn.ntmps-zs.toArray.size) undef,defers:=[] }
  have TI:Rel κ fn.ntmps (Fr.get ((k,none)::d.sh.fr x)) a0:=by
   refine⟨by simp[a0]; omega,rfl,λs dd hs => ?_⟩
   simp only[Fr.get]at hs
   cases hks:Nat.beq k s with
   | true=>grind
   | false =>
    rw[hks,cond_false]at hs
    obtain⟨v,g1,g2⟩:=hR s dd hs (λe=>by subst e; simp at hks)
    grind
  have Ge:Rel κ fn.ntmps (Fr.get ((t2,some rc)::(t1,some rc)::(k,none)::d.sh.fr x)) ((a0.put (some t1) rv).put (some t2) rv):=by
   have g1:=TI.put (dst:=some t1) (d:=some rc) (v:=rv) RY.1 (λd' yq=>by cases yq; exact zbE)
   have g2:=g1.put (dst:=some t2) (d:=some rc) (v:=rv) RY.2 (λd' yq=>by cases yq; exact zbE)
   have e1:=nG ((k,none)::d.sh.fr x) (some t1) (some rc)
   have e2:=nG ((t1,some rc)::(k,none)::d.sh.fr x) (some t2) (some rc)
   rw[<- e1]at g2
   have g3:Rel κ fn.ntmps (y7 (Fr.get ((t1,some rc)::(k,none)::d.sh.fr x)) (some t2) (some rc)) ((a0.put (some t1) rv).put (some t2) rv):=g2
   rw[<- e2]at g3
   exact g3
  refine wpS_seq (FI hrs (by simp; omega) ?_)
  rw[hv,Xk]
  show b.wpS P _ _ _ _
  refine wpS_of_wp ?_
  rw[<- xR]at hy
  refine pM hm hT b hL (κ:=κ) hy hI Ge (dA _) _ λo iI a' κe e0 e1 e2 e3 e4 _ _ _ e6 => ?_
  have fin:(iI=.normal\/iI=.ret)->(Ve (uE P xid tab ro) fn d.out d.nr o.fr o.st).leads y ->
    bodyPostS P fn c₀ cs (λe u' w'=>settle u'=.returning/\∃ (κ':KS) (ds:List D),κ'.w=w'/\κ'.st=d.out.st y/\Inv κ'/\Ext κ κ'/\gY d.nr (d.out.fr y)=some ds/\wW κ' (.ret ds) e) iI a' ({ c₀ with mode:=u' }::cs) κe.w:=by
   intro hex z6y
   obtain⟨v,k1,κ',ds,q1,q2,q3,q4,q5,q6⟩:=Ew e1 e2 e3 e4 (by rw[xR]; exact Nat.le_trans (vG.ZE _ _) Fa) z6y
   have oU:a'.defers=[]/\∃ u'',({ c₀ with mode:=u' }::cs:List Frame)={ c₀ with mode:=u'' }::cs/\∃ v,(results fn a'.tmps).run P κe.w=.ok v κe.w/\settle u''=.returning /\
     ∃ (κ':KS) (ds:List D),κ'.w=κe.w/\κ'.st=d.out.st y/\Inv κ'/\Ext κ κ'/\gY d.nr (d.out.fr y)=some ds/\wW κ' (.ret ds) (.returned v) :=
    ⟨e4.defers,u',rfl,v,k1,c9,κ',ds,q1,q2,q3,q4,q5,q6⟩
   rcases hex with rfl | rfl
   ·exact oU
   ·exact oU
  cases hox:o.ex<;>rw[hox]at e0 e6<;>simp only at e0
  ·exact fin (.inl e6) e0
  ·exact False.elim e0
  ·exact fin (.inr e6) e0
  ·exact False.elim e0
 ·exact False.elim hy
theorem z2U(hm:(uE P xid tab ro).P.follows .mixedOrders=true)(hT:yx P tab){f:Nat}{fn:Func}{id:Nat}{ops:Array Oper}{b:Code}(hf:P.funcs[f]? = some fn)(hb:fn.body=some (.seq (.region id ops false) b))
  (hn:(fn.name == "runtime.NumGoroutine")=false) (hL:uC P fn.ntmps H b) {d:kQ} (h:∀ x,evH (uE P xid tab ro) tab H fn ops b d d.ks.length none x=d.F x):gy (Pb P) f d:=by
 intro κ x zJ y xR hy hI hlen hR
 rw[<- h]at hy
 refine⟨vt hf hn (by grind) κ.w,RZ hm hT hf hb hL hy xR hI hlen (u:=.returning) (rv:=.nilIface) (λrc E7=>by cases E7; exact .xh) (λc₀ cs hc => ?_) λs dd hs _ => ?_⟩
 ·have:recoverD (c₀::cs)=none:=by simp only[recoverD,hc]
  rw[this]
  exact⟨rfl,.returning,by rw[<- hc]; rfl,rfl⟩
 ·obtain⟨v,h1,h2⟩:=hR.get s dd hs
  grind
theorem z0Y(hm:(uE P xid tab ro).P.follows .mixedOrders=true)(hT:yx P tab){f:Nat}{fn:Func}{id:Nat}{ops:Array Oper}{b:Code}(hf:P.funcs[f]? = some fn)(hb:fn.body=some (.seq (.region id ops false) b))
  (hn:(fn.name == "runtime.NumGoroutine")=false) (hL:uC P fn.ntmps H b) {d:kQ} {k t:Nat} (hk:d.ks.length=k+1) (h:∀ x,evH (uE P xid tab ro) tab H fn ops b d k (some t) x=d.F x):gy (P2 P t) f d:=by
 intro κ x zJ y xR hy hI hlen hR zs v hc
 have hc:zJ=zs++[v]:=by simpa using hc
 subst hc
 rw[<- h]at hy
 have HL:zs.length=k:=by simp at hlen; omega
 refine⟨vt hf hn (by grind) κ.w,RZ hm hT hf hb hL hy xR hI HL (rv:=.iface t v) (λrc E7 => ?_) (λc₀ cs hc => ?_) λs dd hs hsk => ?_⟩
 ·simp only[z8g]at E7
  split at E7
  ·rename_i p hp
   cases E7
   obtain⟨u,h1,h2⟩:=hR.get k p hp
   have:u=v:=by
    grind
   subst this
   exact .iface t p u h2
  ·cases E7
 ·have:recoverD (c₀::cs)=some (.iface t v,{ c₀ with mode:=.panicking [{ v:=.iface t v,recovered:=true }] }::cs):=by simp only[recoverD,hc]
  rw[this]
  exact⟨rfl,_,rfl,rfl⟩
 ·obtain⟨u,h1,h2⟩:=hR.get s dd hs
  grind
theorem BI{p:Value}{g:Nat}{us vs:List Value}{w:World}(By:p=oj g us):∃ (fv:Fn) (cap zs:Array Value),(Deferred.ofValue p vs.toArray).run P w=.ok ⟨.fn fv cap,zs⟩ w /\
  (invoke (.fn fv cap) zs).run P w=(callFunc (yZ g) (jT g vs us).toArray).run P w/\∀ w',(invoke (.fn fv cap) zs).run P w'=(callFunc (yZ g) (jT g vs us).toArray).run P w':=by
 subst By
 unfold oj yZ jT
 cases hb:Nat.ble 1000000 g with
 | true =>
  have key:∀ w',(invoke (.fn (.func (g % 1000000)) #[]) (us.toArray++vs.toArray)).run P w'=(callFunc (g % 1000000) (us++vs).toArray).run P w':=λw'=>by simp[invoke]
  exact⟨.func (g % 1000000),#[],us.toArray++vs.toArray,by rfl,key w,key⟩
 | false =>
  have key:∀ w',(invoke (.fn (.func g) us.toArray) vs.toArray).run P w'=(callFunc g (vs++us).toArray).run P w':=λw'=>by simp[invoke]
  exact⟨.func g,us.toArray,vs.toArray,by simp[Deferred.ofValue],key w,key⟩
theorem pW:∀ {l:List Oper} {pre:List Oper} {f:Operand} {args:List Operand},W3 l=some (pre,f,args)->∃ o zs oq,l=pre++[o]/\o.op=.defer ⟨.value f,zs,oq⟩/\zs.toList=args/\o.guard=none/\o.dst=none
 | [],pre,f,args,h=>by cases h
 | [o],pre,f,args,h=>by
  simp only[W3]at h
  grind
 | o::p::r,pre,f,args,h=>by
  simp only[W3]at h
  split at h
  ·rename_i l z hz
   obtain⟨o',zs,oq,e,g1,g2,g3,g4⟩:=pW hz
   grind
  ·cases h
theorem D8{c:Ctx}{κ:KS}{a:Act}{id:Nat}{ops:Array Oper}{pre:List Oper}{f:Operand}{args:List Operand}{fr:Fr}{kn:Kn}{s1:dU}{g:Nat}{caps l:List D}(hC:∀ g,Bu c.P g (c.fn g))(hI:Inv κ)(hR:Rel κ n fr.get a)(hk:vW kn fr.get)
  (hd:W3 ops.toList=some (pre,f,args)) (wX:(lH c n ops pre ⟨fr,kn,κ.st,[],[]⟩).leads s1) (hf:jc s1.fr f=some (.xk g caps)) (hl:uY (args.map (jc s1.fr))=some l) {Q:Exit->Act->World->Prop}
  (hQ:∀ (a':Act) (κ':KS) (fv:Fn) (cap zs:Array Value) (zJ:List Value),κ'.st=s1.st->Inv κ'->Ext κ κ'->Rel κ' n s1.fr.get a'->vW s1.kn s1.fr.get->fW ops a a'->qM κ' (jT g l caps) zJ ->
   (∀ w',(invoke (.fn fv cap) zs).run c.P w'=(callFunc (yZ g) zJ.toArray).run c.P w')->Q .normal { a' with defers:=⟨.fn fv cap,zs⟩::a'.defers } κ'.w):(Code.region id ops false).wp c.P Q a κ.w:=by
 obtain⟨o,oas,oq,e,ho,cg,hg,z2E⟩:=pW hd
 have Oj:∀ j:Nat,ops[j]? = (pre++[o])[j]? := λj=>by rw[<- e]; simp
 obtain⟨ks,g1,g2,_⟩:=fe pre 0 ⟨fr,kn,κ.st,[],[]⟩ s1 (λj=>by
  by_cases hj:j<pre.length
  ·grind
  ·right; omega) hk wX
 have jv:List.range ops.size=List.range' 0 pre.length++[pre.length]:=by
  have:ops.size=pre.length+1:=by rw[<- Array.length_toList,e]; simp
  rw[this,List.range_eq_range',<- List.range'_append_1,Nat.zero_add]; rfl
 refine wp_region ?_
 rw[jv]
 refine XS hC _ _ hI hR rfl g1 λa' κ' e1 e2 e3 e4 e5 => ?_
 rw[wpOps_cons]
 unfold wpOp
 have hoi:ops[pre.length]? = some o:=by rw[Oj]; simp
 rw[hoi]
 obtain⟨dst,op,ty,pos,after,guard⟩:=o
 simp only at ho hg z2E
 subst ho hg z2E
 simp only[Region.wanted,if_true]
 have ig:∀ (x:Operand) (z:D),jc s1.fr x=some z->RD κ' z (a'.eval x):=λx z hz=>e4.eval (by rw[<- bq]; exact hz)
 have hpv:=ig f _ hf
 have hr:=gM (κ:=κ') (vs:=oas.toList.map a'.eval) hl (by simp[<- cg]) (λi d v hd hv=>by
      rw[<- cg]at hd
      simp only[List.getElem?_map]at hd hv
      cases hi:oas.toList[i]? with
      | none=>grind
      | some x=>rw[hi]at hd hv; simp at hd hv; subst hv; exact ig x d hd)
 generalize By:a'.eval f=pv at hpv
 cases hpv with
 | xk _ _ us iU hh2 =>
  obtain⟨fv,cap,zs,k1,k2,k3⟩:=BI (P:=c.P) (vs:=oas.toList.map a'.eval) (w:=κ'.w) (rfl:oj g us=oj g us)
  refine .inl ?_
  unfold Oper.wp
  have hx:(execOp a'.eval ⟨none,.defer ⟨.value f,oas,oq⟩,ty,pos,after,none⟩).run c.P κ'.w=.ok (.defer ⟨.fn fv cap,zs⟩) κ'.w:=by
   have e9:oas.map a'.eval=(oas.toList.map a'.eval).toArray:=by apply Array.ext'; simp
   simp only[execOp,resolve,By,e9,Sem.run_bind,k1,Result.andThen_ok,Sem.run_pure]
  rw[hx]
  exact hQ a' κ' fv cap zs _ e1 e2 e3 e4 g2 e5 (K7 g hr (⟨iU,hh2⟩:qM κ' caps us)) k3
def MG(κ0:KS)(out:vG)(nr:Nat)(y:out.den):Ending->World->Prop:=λe w'=>∃ (κ':KS) (ds:List D),κ'.w=w'/\κ'.st=out.st y/\Inv κ'/\Ext κ0 κ'/\gY nr (out.fr y)=some ds/\wW κ' (.ret ds) e
theorem tZ{κ0 κ2:KS}{fn:Func}{out:vG}{nr:Nat}{y:out.den}{fr:Fr}{zx:St}{tm:Array Value}(e1:κ2.st=zx)(e2:Inv κ2)(e3:Ext κ0 κ2)(e4:Rel κ2 fn.ntmps fr.get { tmps:=tm,defers:=[] })(hlen:κ0.st.length<=out.bs.length)
  (h:(Ve (uE P xid tab ro) fn out nr fr zx).leads y):Leaves P fn tm (MG κ0 out nr y) [] .returning κ2.w:=by
 obtain⟨v,k1,κ',ds,q1,q2,q3,q4,q5,q6⟩:=Ew (o:=⟨.ret,fr,[],zx,false⟩) e1 e2 e3 e4 hlen h
 exact⟨v,k1,κ',ds,q1,q2,q3,q4,q5,q6⟩
theorem VP{code:Code}(h:xD code=[])[Ku]:uC P n H code:=λp hp=>by rw[h]at hp; cases hp
theorem z0s{κ:KS}{f:F}{a:Act}(D:Ku)(h : @Rel D κ n f a) : @Rel JX κ n f { tmps:=a.tmps,defers:=[] } := @Rel.mk JX κ n f _ (@Rel.size D κ n f a h) rfl (@Rel.get D κ n f a h)
theorem Yn{κ κ':KS}{f:F}{a:Act}(x:Ext κ κ')(h : @Rel JX κ n f a) : @Rel JX κ' n f a:=h.mono x
theorem z5U{κ:KS}{f:F}{a:Act}(h : @Rel JX κ n f a)(l:List Deferred) : @Rel ⟨l⟩ κ n f { a with defers:=l } := @Rel.mk ⟨l⟩ κ n f _ h.size rfl h.get
theorem z5R(hm:(uE P xid tab ro).P.follows .mixedOrders=true)(hT:yx P tab){h:Dfd}(h0:gy (Pb P) h.g h.d0)(h1:gy (P2 P h.pt) h.g h.d1){fn:Func}{out:vG}{nr:Nat}{y:out.den}{κ0:KS}(hlen:κ0.st.length<=out.bs.length) :
  ∀ (code:Code),xD code=[]->∀ {fr:Fr} {kn:Kn} {κ:KS} {a:Act},(evD (uE P xid tab ro) tab fn.ntmps H h fn out nr code fr kn κ.st).leads y->Inv κ->Ext κ0 κ->Rel κ fn.ntmps fr.get a->vW kn fr.get ->
   code.wp P (bodyPostD P fn (MG κ0 out nr y)) a κ.w:=by
 intro code
 induction code with
 | seq x b ix ib =>
  intro hl fr kn κ a hy hI hx hR hk
  have hlx:xD x=[]:=by simp only[xD,List.append_eq_nil_iff]at hl; exact hl.1
  have hlb:xD b=[]:=by simp only[xD,List.append_eq_nil_iff]at hl; exact hl.2
  have plain:(ZI (uE P xid tab ro) tab fn.ntmps H x fr kn κ.st λr=>match r.ex with
    | .normal=>evD (uE P xid tab ro) tab fn.ntmps H h fn out nr b r.fr r.kn r.st
    | .ret=>Ve (uE P xid tab ro) fn out nr r.fr r.st
    | _=>.fail).leads y->(Code.seq x b).wp P (bodyPostD P fn (MG κ0 out nr y)) a κ.w:=by
   intro hy
   refine wp_seq (pM hm hT x (VP hlx) (κ:=κ) hy hI hR hk _ λo iI a' κ' e0 e1 e2 e3 e4 Pc _ _ e6 => ?_)
   cases hex:o.ex<;>rw[hex]at e0 e6<;>simp only at e0
   ·cases e6
    exact ib hlb (κ:=κ') (e1▸e0) e2 (hx.trans e3) e4 Pc
   ·exact e0.elim
   ·cases e6
    show Leaves P fn a'.tmps _ a'.defers .returning κ'.w
    rw[show a'.defers=[]from e4.defers]
    exact tZ e1 e2 (hx.trans e3) (z0s JX e4) hlen e0
   ·exact e0.elim
  simp only[evD]at hy
  split at hy
  ·rename_i ops hops
   obtain⟨id,rfl⟩:∃ id,x=.region id ops false:=by
    cases x with
    | region id ops' draw =>
     cases draw with
     | true=>cases hops
     | false=>cases hops; exact⟨id,rfl⟩
    | _=>cases hops
   split at hy
   ·rename_i pre f args hd
    have nO:∀ o∈pre,∃ i:Nat,ops[i]? = some o:=λo ho=>by
     obtain⟨o',oas,oq,e,_⟩:=pW hd
     have:o∈ops.toList:=by rw[e]; exact List.mem_append_left _ ho
     obtain⟨i,hi,he⟩:=List.getElem_of_mem this
     exact⟨i,by rw[<- he]; simp at hi; simp[hi]⟩
    rcases Zg pre hk nO hy with⟨s1,wX,hy⟩ | ⟨_,_,_,hy⟩
    rotate_left
    ·exact hy.elim
    split at hy
    ·rename_i g caps l hf hl
     cases hg:Nat.beq (yZ g) h.g with
     | false=>rw[hg]at hy; exact hy.elim
     | true =>
     rw[hg,cond_true]at hy
     have hgg:=Nat.eq_of_beq_eq_true hg
     refine wp_seq (D8 (c:=uE P xid tab ro) (H6 hT) hI hR hk hd wX hf hl λa' κ1 fv cap zs zJ e1 e2 e3 e4 Pc e5 e6 e7 => ?_)
     show b.wp P _ _ κ1.w
     have hdf:a'.defers=[]:=e4.defers
     rw[hdf]
     let D:Ku:=⟨[⟨.fn fv cap,zs⟩]⟩
     have hRD : @Rel D κ1 fn.ntmps s1.fr.get { a' with defers:=[⟨.fn fv cap,zs⟩] }:=z5U e4 _
     rw[<- e1]at hy
     refine @pM _ D P xid tab ro fn.ntmps H hm hT b (@VP _ P fn.ntmps H b hlb D) s1.fr s1.kn κ1 _ _ _ y hy e2 hRD Pc _ λo iI a2 κe f0 f1 f2 f3 f4 Yl f5 _ f6 => ?_
     have zco:a2.defers=[⟨.fn fv cap,zs⟩] := @Rel.defers D κe fn.ntmps _ a2 f4
     have hRa : @Rel JX κe fn.ntmps (Fr.get (o.fr++(dL (qw b)++s1.fr))) { tmps:=a2.tmps,defers:=[] }:=z0s D (@sD _ D fn.ntmps κ1 κe s1.fr o.fr _ a2 (qw b) hRD f3 f4 f5)
     have TS:qM κe (jT g l caps) zJ:=qM.mono f3 e6
     have z9u:∀ (cs:Array Value) (w':World),cs=zJ.toArray->(callFunc h.g cs).run P w'=.ok (.enter h.g cs) w'->(invoke (.fn fv cap) zs).run P w'=.ok (.enter h.g cs) w':=λcs w' Xk hc=>by
      refine(e7 w').trans ?_
      rw[hgg,<- Xk]; exact hc
     have z9p:(h.d0.K (jT g l caps) o.st λ_ zx=>Ve (uE P xid tab ro) fn out nr (o.fr++(dL (qw b)++s1.fr)) zx).leads y->Leaves P fn a2.tmps (MG κ0 out nr y) a2.defers .returning κe.w:=by
      intro hK
      obtain⟨ds,zx,k1,k2⟩:=kQ.T7 hK
      rw[<- f1]at k1
      obtain⟨d1,d2⟩:=kQ.z84 (Dr:=Pb P) Pb.mono h0 κe _ zJ _ _ k1 f2 TS
      rw[zco]
      refine leaves_cons (by nofun) (z9u _ _ rfl d1) (d2.mono ?_)
      rintro e u' w' ⟨c9,κ2,rfl,g2,g3,g4,v,rfl,_⟩
      show Leaves P fn a2.tmps _ [] (settle u') κ2.w
      rw[c9]
      exact tZ g2 g3 ((hx.trans (e3.trans f3)).trans g4) (Yn g4 hRa) hlen k2
     cases hox:o.ex<;>rw[hox]at f0 f6
     ·cases f6; exact z9p f0
     ·exact f0.elim
     ·cases f6; exact z9p f0
     ·rename_i pd
      obtain⟨v,rfl,hv⟩:=f6
      cases pd<;>first | exact False.elim f0 | skip
      rename_i t p
      have f00:(bif Nat.beq t h.pt then h.d1.K (jT g l caps++[p]) o.st λ_ zx=>Ve (uE P xid tab ro) fn out nr (o.fr++(dL (qw b)++s1.fr)) zx else .fail).leads y:=f0
      clear f0
      cases ht:Nat.beq t h.pt with
      | false=>rw[ht]at f00; exact f00.elim
      | true =>
      rw[ht,cond_true]at f00
      have:=Nat.eq_of_beq_eq_true ht
      subst this
      cases hv with
      | iface _ _ u hu =>
       obtain⟨ds,zx,k1,k2⟩:=kQ.T7 f00
       rw[<- f1]at k1
       obtain⟨d1,d2⟩:=kQ.z84 (Dr:=P2 P h.pt) P2.mono h1 κe _ (zJ++[u]) _ _ k1 f2 (TS.append (qM.cons hu qM.nil)) zJ u rfl
       show Leaves P fn a2.tmps _ a2.defers _ κe.w
       rw[zco]
       refine leaves_cons (by nofun) (z9u _ _ rfl d1) (d2.mono ?_)
       rintro e u' w' ⟨c9,κ2,rfl,g2,g3,g4,v,rfl,_⟩
       show Leaves P fn a2.tmps _ [] (settle u') κ2.w
       rw[c9]
       exact tZ g2 g3 ((hx.trans (e3.trans f3)).trans g4) (Yn g4 hRa) hlen k2
    ·exact hy.elim
   ·exact plain hy
  ·exact plain hy
 | _=>intro _ fr kn κ a hy; exact hy.elim
theorem z6E(hm:(uE P xid tab ro).P.follows .mixedOrders=true)(hT:yx P tab){h:Dfd}(h0:gy (Pb P) h.g h.d0)(h1:gy (P2 P h.pt) h.g h.d1){f:Nat}{fn:Func}{code:Code}(hf:P.funcs[f]? = some fn)(hb:fn.body=some code)
  (hn:(fn.name == "runtime.NumGoroutine")=false) (hL:xD code=[]) {d:kQ} (he:∀ x,PG (uE P xid tab ro) tab H h fn code d x=d.F x):qQ P f d:=by
 intro κ x zJ y xR hy hI hlen TI
 rw[<- he]at hy
 unfold PG at hy
 cases hle:Nat.ble d.ks.length fn.ntmps&&Nat.ble d.sh.bs.length d.out.bs.length with
 | false=>rw[hle]at hy; exact hy.elim
 | true =>
  rw[hle,cond_true]at hy
  simp only[Bool.and_eq_true]at hle
  have NQ:=Nat.le_of_ble_eq_true hle.1
  have TP:=Nat.le_of_ble_eq_true hle.2
  refine .inl ⟨vt hf hn (by grind) κ.w,calls_of_wp_defers hf hb ?_⟩
  have hR:Rel κ fn.ntmps (d.sh.fr x).get { tmps:=zJ.toArray++Array.replicate (fn.ntmps-zJ.toArray.size) undef,defers:=[] }:=by
   refine⟨by grind,rfl,λs e hs => ?_⟩
   obtain⟨v,h1,h2⟩:=TI.get s e hs
   grind
  exact z5R hm hT h0 h1 (κ0:=κ) (by rw[xR]; exact Nat.le_trans (vG.ZE _ _) TP) code hL (κ:=κ) (by rw[xR]; exact hy) hI (Ext.refl κ) hR (dA _)
end
end Go.AM
namespace Go.AM
theorem Xt(c b:UInt8)(l:List UInt8):Lib.index (b::l) [c]=if b=c then 0 else if Lib.index l [c] == -1 then -1 else Lib.index l [c]+1:=by
 show(if[c].isPrefixOf (b::l)then _ else _)=_
 by_cases h:b=c
 ·rw[if_pos h,if_pos (by subst h; simp[List.isPrefixOf])]
 ·rw[if_neg h,if_neg (by simp[List.isPrefixOf]; exact λe=>h e.symm)]
theorem Bv(c:UInt8):∀ l:List UInt8,Lib.splitK [c] 0 (Lib.count l [c]) l=ju c l
 | []=>rfl
 | b::l=>by
  have ih:=Bv c l
  by_cases h:b=c
  ·have hi:Lib.index (b::l) [c]=((0:Nat):Int):=by rw[Xt,if_pos h]; rfl
   have hc:=Lib.count_hit (s:=b::l) (sub:=[c]) (by simp) hi
   rw[hc,show 1+Lib.count ((b::l).drop (0+[c].length)) [c]=Lib.count l [c]+1 from Nat.add_comm 1 _]
   unfold Lib.splitK
   rw[if_neg (by rw[hi]; decide),hi]
   show[]::Lib.splitK [c] 0 (Lib.count l [c]) l=(if b=c then[]::ju c l else _)
   rw[if_pos h,ih]
  ·by_cases hm:Lib.index l [c] = -1
   ·have hi:Lib.index (b::l) [c] = -1:=by rw[Xt,if_neg h,hm]; rfl
    rw[Lib.count_miss hi]
    rw[Lib.count_miss hm]at ih
    show[b::l]=(if b=c then _ else NX b (ju c l))
    rw[if_neg h,<- ih]
    rfl
   ·have hge:=Lib.index_ge l [c]
    obtain⟨i,hi⟩:∃ i:Nat,Lib.index l [c]=(i:Int):=⟨(Lib.index l [c]).toNat,by omega⟩
    have Ww:Lib.index (b::l) [c]=((i+1:Nat):Int):=by
     rw[Xt,if_neg h,hi,if_neg (by rw[beq_iff_eq]; omega)]; omega
    have c1:=Lib.count_hit (s:=l) (sub:=[c]) (by simp) hi
    have c2:=Lib.count_hit (s:=b::l) (sub:=[c]) (by simp) Ww
    have e:(b::l).drop (i+1+[c].length)=l.drop (i+[c].length):=rfl
    rw[e]at c2
    rw[c1,Nat.add_comm]at ih
    rw[c2,Nat.add_comm]
    unfold Lib.splitK at ih ⊢
    rw[if_neg (by rw[hi,beq_iff_eq]; omega),hi]at ih
    rw[if_neg (by rw[Ww,beq_iff_eq]; omega),Ww]
    show(b::l.take i)::Lib.splitK [c] 0 _ (l.drop (i+1))=(if b=c then _ else NX b (ju c l))
    rw[if_neg h,<- ih]
    rfl
theorem Y9(s:ByteArray)(pos:Nat)(h:pos<s.size):pos+(Utf8.decode s pos).2<=s.size/\∀ j,1<=j->j<(Utf8.decode s pos).2->128<=(s.get! (pos+j)).toNat:=by
 unfold Utf8.decode
 simp only
 repeat' split
 all_goals simp only[Bool.and_eq_true,decide_eq_true_eq,beq_iff_eq]at *
 all_goals refine⟨by omega,λj h1 h2 => ?_⟩
 all_goals (rcases(by omega:j=1\/j=2\/j=3)with rfl | rfl | rfl<;>omega)
theorem Qi(s:ByteArray)(i:Nat)(h:i<s.size):s.data.toList[i]? = some (s.get! i):=by
 have h':i<s.data.toList.length:=h
 rw[List.getElem?_eq_getElem h']
 have:=get_at s i h
 rw[Nat.add_zero]at this
 rw[this]
 rfl
theorem MY(c:UInt8):∀ (l cur r:zd),(∀ b∈l,b≠c)->xK c cur (l++r)=xK c (cur++l) r
 | [],cur,r,_=>by rw[List.append_nil]; rfl
 | b::l,cur,r,h=>by
  show(if b=c then _ else xK c (cur++[b]) (l++r))=_
  rw[if_neg (h b List.mem_cons_self),MY c l _ r (λx hx=>h x (List.mem_cons_of_mem _ hx)),List.append_assoc]
  rfl
def j4(l:zd)(a b:Nat):zd:=(l.drop a).take (b-a)
theorem Ou(l:zd){a b:Nat}(n:Nat)(h:a<=b)(hl:b+n<=l.length):j4 l a (b+n)=j4 l a b++(l.drop b).take n:=by
 unfold j4
 rw[show b+n-a=(b-a)+n by omega,List.take_add,List.drop_drop,show a+(b-a)=b by omega]
def WL(l:zd)(st:Option Nat)(pos:Nat):zd:=match st with | some a=>j4 l a pos | none=>[]
theorem BV(s:ByteArray):∀ (f pos:Nat) (st:Option Nat) (acc:List (Nat×Nat)),pos<=s.size->s.size<=pos+f->(∀ a,st=some a->a<pos) ->
  (Lib.closeSpans s (Lib.spansFromP (λn=>n==32) s f pos st acc)).map (λx=>j4 s.data.toList x.1 x.2)=acc.map (λx=>j4 s.data.toList x.1 x.2)++xK 32 (WL s.data.toList st pos) (s.data.toList.drop pos):=by
 have hlen:s.data.toList.length=s.size:=rfl
 intro f
 induction f with
 | zero =>
  intro pos st acc h1 h2 h3
  have:pos=s.size:=by omega
  subst this
  rw[List.drop_of_length_le (by omega)]
  show(Lib.closeSpans s (acc,st)).map _=_
  cases st with
  | none=>unfold Lib.closeSpans WL xK; simp
  | some a =>
   have ha:=h3 a rfl
   have uh:j4 s.data.toList a s.size≠[]:=λe=>by
    have:=congrArg List.length e
    unfold j4 at this
    simp only[List.length_take,List.length_drop,List.length_nil]at this
    omega
   unfold Lib.closeSpans WL xK
   simp[uh]
 | succ f ih =>
  intro pos st acc h1 h2 h3
  by_cases hp:pos<s.size
  ·have hx:=Qi s pos hp
   have qD:pos<s.data.toList.length:=hp
   obtain⟨db1,db2⟩:=Y9 s pos hp
   have hw:1<=(Utf8.decode s pos).2:=Lib.decode_width_pos s pos hp
   have hd:s.data.toList.drop pos=s.get! pos::s.data.toList.drop (pos+1):=by
    rw[List.drop_eq_getElem_cons qD]
    rw[List.getElem?_eq_getElem qD]at hx
    injection hx with hx
    rw[hx]
   unfold Lib.spansFromP
   rw[if_pos hp]
   by_cases h32:s.get! pos=32
   ·have z3w:Utf8.decode s pos=(32,1):=by
     have h0:(s[pos]'hp).toNat=32:=by rw[<- get_at s pos hp,Nat.add_zero,h32]; rfl
     rw[decode_ascii s pos hp (by omega),h0]
    rw[z3w]
    simp only[beq_self_eq_true,if_true]
    rw[hd,h32]
    cases st with
    | none =>
     simp only
     rw[ih (pos+1) none acc (by omega) (by omega) (λa h=>by cases h)]
     show _=acc.map _++(if(32:UInt8)=32 then(if([]:zd)=[]then xK 32 [] _ else _)else _)
     rw[if_pos rfl,if_pos rfl]
     rfl
    | some a =>
     have ha:=h3 a rfl
     have uh:j4 s.data.toList a pos≠[]:=λe=>by
      have:=congrArg List.length e
      unfold j4 at this
      simp only[List.length_take,List.length_drop,List.length_nil]at this
      omega
     simp only
     rw[ih (pos+1) none _ (by omega) (by omega) (λa h=>by cases h)]
     show _=acc.map _++(if(32:UInt8)=32 then(if j4 s.data.toList a pos=[]then _ else j4 s.data.toList a pos::xK 32 [] _)else _)
     rw[if_pos rfl,if_neg uh,List.map_append,List.append_assoc]
     rfl
   ·have zg0:((Utf8.decode s pos).1==32)=false:=by
     rw[beq_eq_false_iff_ne]
     by_cases Ns:(s[pos]'hp).toNat<128
     ·rw[decode_ascii s pos hp Ns]
      intro e
      apply h32
      have h0:(s.get! pos).toNat=(s[pos]'hp).toNat:=by rw[<- get_at s pos hp,Nat.add_zero]
      exact UInt8.toNat_inj.1 (by rw[h0]; exact e)
     ·have:=(decode_high s pos hp (by omega)).1
      omega
    rw[zg0]
    simp only[Bool.false_eq_true,if_false]
    generalize (Utf8.decode s pos).2=n at *
    have hch:s.data.toList.drop pos=(s.data.toList.drop pos).take n++s.data.toList.drop (pos+n):=by
     rw[<- List.drop_drop,List.take_append_drop]
    have kf:∀ b∈(s.data.toList.drop pos).take n,b≠32:=λb hb=>by
     obtain⟨j,hj,ej⟩:=List.getElem_of_mem hb
     simp only[List.length_take,List.length_drop]at hj
     rw[List.getElem_take,List.getElem_drop]at ej
     have hg:=Qi s (pos+j) (by omega)
     rw[List.getElem?_eq_getElem (by omega)]at hg
     injection hg with hg
     rw[hg]at ej
     rw[<- ej]
     by_cases j0:j=0
     ·subst j0; exact h32
     ·have:=db2 j (by omega) (by omega)
      intro e
      rw[e]at this
      exact absurd this (by decide)
    have fin:∀ a,a<=pos->j4 s.data.toList a pos=WL s.data.toList st pos->(Lib.closeSpans s (Lib.spansFromP (λn=>n==32) s f (pos+n) (some a) acc)).map (λx=>j4 s.data.toList x.1 x.2)=acc.map (λx=>j4 s.data.toList x.1 x.2)++xK 32 (WL s.data.toList st pos) (s.data.toList.drop pos):=by
     intro a ha e
     rw[ih (pos+n) (some a) acc (by omega) (by omega) (λx hx=>by cases hx; omega),hch,MY 32 _ _ _ kf]
     show _++xK 32 (j4 s.data.toList a (pos+n)) _=_
     rw[Ou _ n ha (by omega),e]
    cases st with
    | none=>exact fin pos (Nat.le_refl _) (by unfold j4 WL; rw[Nat.sub_self,List.take_zero])
    | some a=>exact fin a (Nat.le_of_lt (h3 a rfl)) rfl
  ·have:pos=s.size:=by omega
   subst this
   rw[Lib.spansFromP_end _ _ _ _ _ _ (by omega),List.drop_of_length_le (by omega)]
   cases st with
   | none=>unfold Lib.closeSpans WL xK; simp
   | some a =>
    have ha:=h3 a rfl
    have uh:j4 s.data.toList a s.size≠[]:=λe=>by
     have:=congrArg List.length e
     unfold j4 at this
     simp only[List.length_take,List.length_drop,List.length_nil]at this
     omega
    unfold Lib.closeSpans WL xK
    simp[uh]
theorem NI(s:ByteArray):(Lib.goFieldsP (λn=>n==32) s).map (·.data.toList)=xK 32 [] s.data.toList:=by
 have h:=BV s s.size 0 none [] (Nat.zero_le _) (by omega) (λa h=>by cases h)
 unfold Lib.goFieldsP Lib.spansOfP
 rw[List.map_map]
 refine Eq.trans (List.map_congr_left λx _ => ?_) (h.trans (by rw[List.drop_zero]; rfl))
 show(s.extract x.1 x.2).data.toList=j4 s.data.toList x.1 x.2
 rw[Lib.extract_data]
 rfl
theorem Yy(chars:zd):∀ l:zd,Lib.indexAny l chars=bJ l chars
 | []=>rfl
 | b::l=>by simp only[Lib.indexAny,bJ,Yy chars l]
end Go.AM
namespace Go.AM
set_option linter.unusedSectionVars false
variable [ur]
theorem contains_eq(s sub:zd):Lib.contains s sub=decide ((0:Int)<=dX s sub):=by
 unfold Lib.contains
 rw[LV]
theorem RD.SM{κ:KS}{f:Nat}{v:Value}(h:RD κ (.xk f []) v)(hf:Nat.blt f 1000000=true):v=.func (.func f) #[] #[]:=by
 cases h with
 | xk _ _ vs hl _ =>
  have:vs=[]:=List.eq_nil_of_length_eq_zero hl.symm
  subst this
  exact HE hf []
theorem IT{κ:KS}{w':World}{A cap:Nat}{t:TypeId}{cur:Array Value}{fz:Nat×Nat}{xs:List zd}(h0:κ.w.heap.size<=A)(h1:A<w'.heap.size)(hh:w'.heap[A]? = some (.cells cur t fz))(vJ:xs.length<=cap)
  (hc:∀ i (hi:i<xs.length),cur[i]? = some (.string ⟨xs[i].toArray⟩)):RD (κ.grown w') (.zC (.sl .str) xs) (.slice (some ⟨A,0,none⟩) xs.length cap):=by
 refine RD.zC (.sl .str) xs [.slice (some ⟨A,0,none⟩) xs.length cap] ?_
 have hf:∀ i,i<xs.length->∃ s,xs.getD i []=s/\cur[i]? = some (.string ⟨s.toArray⟩):=λi hi=>⟨_,rfl,by
  rw[List.getD_eq_getElem?_getD,List.getElem?_eq_getElem hi]; exact hc i hi⟩
 refine Rc.sl .str xs A 0 cap (λi=>[.string ⟨(xs.getD i []).toArray⟩]) (.inr ⟨h0,h1⟩) vJ (λi hi => ?_) (λi hi j v hv => ?_)
 ·show Rc _ _ .str xs[i] [.string ⟨(xs.getD i []).toArray⟩]
  rw[List.getD_eq_getElem?_getD,List.getElem?_eq_getElem hi]
  exact Rc.str _
 ·obtain⟨s,e1,e2⟩:=hf i hi
  cases j with
  | succ j=>cases hv
  | zero =>
   have hv:some (Value.string ⟨(xs.getD i []).toArray⟩)=some v:=hv
   injection hv with hv
   rw[e1]at hv
   subst hv
   show w'.cell? ⟨A,0+i*Ty.size .str+0,none⟩=_
   rw[show 0+i*Ty.size .str+0=i from by show 0+i*1+0=i; omega]
   simp[World.cell?,hh,e2]
theorem Sx{κ:KS}(s sep:zd)(h1:sep.length=1)(t:TypeId) :
  RD (κ.grown (κ.w.alloc (.cells ((Lib.splitB ⟨sep.toArray⟩ 0 (Lib.countB ⟨s.toArray⟩ ⟨sep.toArray⟩) ⟨s.toArray⟩).map Value.string).toArray t))) (.zC (.sl .str) (ju (sep.headD 0) s))
   (.slice (some ⟨κ.w.heap.size,0,none⟩) (Lib.countB ⟨s.toArray⟩ ⟨sep.toArray⟩+1) (Lib.countB ⟨s.toArray⟩ ⟨sep.toArray⟩+1)):=by
 obtain⟨c,rfl⟩:∃ c,sep=[c]:=by
  match sep,h1 with
  | [c],_=>exact⟨c,rfl⟩
 have hd:=Lib.splitB_data ⟨[c].toArray⟩ 0 (Lib.countB ⟨s.toArray⟩ ⟨[c].toArray⟩) ⟨s.toArray⟩
 have he:Lib.splitK [c] 0 (Lib.count s [c]) s=ju c s:=Bv c s
 have hd:(Lib.splitB ⟨[c].toArray⟩ 0 (Lib.countB ⟨s.toArray⟩ ⟨[c].toArray⟩) ⟨s.toArray⟩).map (·.data.toList)=ju c s:=hd.trans he
 have hlen:=Lib.splitB_all ⟨[c].toArray⟩ (Nat.le_refl 1) 0 (Lib.countB ⟨s.toArray⟩ ⟨[c].toArray⟩) ⟨s.toArray⟩ rfl
 generalize Lib.splitB ⟨[c].toArray⟩ 0 (Lib.countB ⟨s.toArray⟩ ⟨[c].toArray⟩) ⟨s.toArray⟩=bs at *
 rw[<- hlen]
 show RD _ (.zC (.sl .str) (ju c s)) _
 rw[<- hd,show bs.length=(bs.map (·.data.toList)).length from(List.length_map ..).symm]
 refine IT (cur:=(bs.map Value.string).toArray) (t:=t) (fz:=(0,0)) (Nat.le_refl _) (by show κ.w.heap.size<(κ.w.heap.push _).size; rw[Array.size_push]; omega) (by show(κ.w.heap.push _)[κ.w.heap.size]? = _; rw[Array.getElem?_push,if_pos rfl]) (Nat.le_refl _) (λi hi => ?_)
 rw[List.length_map]at hi
 rw[List.getElem?_toArray,List.getElem?_map,List.getElem?_eq_getElem hi,List.getElem_map]
 rfl
theorem Nt{κ:KS}{w':World}{A:Nat}{t:TypeId}(s:zd)(ho:w'.ownsRow κ.w.heap.size t 1 (.slice (some ⟨A,0,none⟩) (Lib.goFieldsP (λn=>n==32) ⟨s.toArray⟩).length (Lib.goFieldsP (λn=>n==32) ⟨s.toArray⟩).length) (Lib.goFieldsP (λn=>n==32) ⟨s.toArray⟩).length ((Lib.goFieldsP (λn=>n==32) ⟨s.toArray⟩).map Value.string)) :
  RD (κ.grown w') (.zC (.sl .str) (xK 32 [] s)) (.slice (some ⟨A,0,none⟩) (Lib.goFieldsP (λn=>n==32) ⟨s.toArray⟩).length (Lib.goFieldsP (λn=>n==32) ⟨s.toArray⟩).length):=by
 have he:(Lib.goFieldsP (λn=>n==32) ⟨s.toArray⟩).map (·.data.toList)=xK 32 [] s:=NI ⟨s.toArray⟩
 generalize Lib.goFieldsP (λn=>n==32) ⟨s.toArray⟩=bs at *
 rw[<- he]
 obtain⟨-,⟨h,-⟩ | ⟨g,cap,cur,hv,hg,hh,hn,vJ,jv,TB⟩⟩:=ho
 ·cases h
 ·have e1:A=g:=by injection hv with a b c; injection a with a; injection a with a
  have e2:bs.length=cap:=by injection hv
  subst e1
  have qD:A<w'.heap.size:=(Array.getElem?_eq_some_iff.1 hh).1
  have:=IT (κ:=κ) (xs:=bs.map (·.data.toList)) (cap:=bs.length) hg qD hh (by rw[List.length_map]; exact Nat.le_refl _) (λi hi=>by
   rw[List.length_map]at hi
   have h2:(cur.toList.take (bs.length*1))[i]? = (bs.map Value.string)[i]? := congrArg (λl=>l[i]?) TB
   rw[List.getElem?_take,if_pos (by omega),List.getElem?_map,List.getElem?_eq_getElem hi]at h2
   rw[<- Array.getElem?_toList,h2,List.getElem_map]
   rfl)
  rwa [List.length_map]at this
end Go.AM
namespace Go.Proofs
open Go.Shelf Go.RowKit Go.Lib
variable {P:Program} {ρ:Ren}
set_option maxHeartbeats 8000000 in
set_option maxRecDepth 1000000 in
theorem Any.mI(L:Lays.n152 P ρ)(s:ByteArray)(r:Int)(w:World)(hs:∀ b∈s.data.toList,b.toNat<128)(h1:128<=r)(h2:r<=2147483647)(h63:s.size<4294967281) :
  Calls P (ρ.f 152) #[.string s,.int .i32 r] w λe w'=>e=.returned (.int .i64 (-1))/\Below w.heap.size w w':=by
 have mixed:=L.mixed
 have t3:=L.t3; have a3:=L.a3; have z3:=L.z3; have v3:=L.v3
 have t4:=L.t4; have a4:=L.a4; have z4:=L.z4; have v4:=L.v4
 have t5:=L.t5; have a5:=L.a5; have z5:=L.z5; have v5:=L.v5
 have t9:=L.t9; have a9:=L.a9; have z9:=L.z9; have v9:=L.v9
 have t21:=L.t21; have a21:=L.a21; have z21:=L.z21; have v21:=L.v21
 have zjU:∀ args w,(callFunc (ρ.f 137) args).run P w=.ok (.enter (ρ.f 137) args) w:=enters_of L.f137 (by kernel_rfl) rfl
 have zkX:∀ args w,(callFunc (ρ.f 119) args).run P w=.ok (.enter (ρ.f 119) args) w:=enters_of L.f119 (by kernel_rfl) rfl
 have HS:Aside (∀ b∈s.data.toList,b.toNat<128):=hs
 clear hs
 by_cases hE:r=65533
 ·subst hE
  go_enter L.f152,Body.n152_ntmps ρ
  go_wp2
  go_loopg [5,6] s.size (λg _ _ wx=>∃ i:Nat,i+g=s.size/\wx=w.iter s i)
  case atStart=>exact⟨0,by omega,rfl⟩
  case round =>
   obtain⟨i,hig,rfl⟩:=hrel
   cases gk with
   | zero =>
    obtain rfl:i=s.size:=by omega
    have hnx:=run_next_end (P:=P) w s s.size
    go_wp2
    go_ret
    exact⟨rfl,(Below.refl _ _).alloc (Nat.le_refl _) _⟩
   | succ g =>
    have hi:i<s.size:=by omega
    obtain⟨x,hx⟩:∃ x:UInt8,s[i]'hi=x:=⟨_,rfl⟩
    have K8:s.data.toList[i]? = some x:=by rw[<- hx]; exact Lib.data_getElem? s i hi
    have z4Z:x.toNat<128:=HS.out x (List.mem_of_getElem? K8)
    have hnx:=λty=>run_next_ascii (P:=P) w s i ty hi (by rw[hx]; exact z4Z)
    rw[hx]at hnx
    have uh:((x.toNat:Int)==65533)=false:=beq_eq_false_iff_ne.2 (by omega)
    clear K8 hx
    go_wp2
    go_roundg g
    case measure=>omega
    case rel=>exact⟨i+1,by omega,rfl⟩
 ·have uh:(r==65533)=false:=beq_eq_false_iff_ne.2 hE
  have c0:decide ((0:Int)<=r)=true:=decide_eq_true (by omega)
  have c1:decide (r<128)=false:=decide_eq_false (by omega)
  cases hv:Lib.validRune r
  ·go_enter L.f152,Body.n152_ntmps ρ
   go_wp2_with (go_at_fn (ρ.f 119); refine(Any.utf8_ValidRune { L with } _ _).mono ?_; rintro e w' ⟨rfl,hw⟩; rw[hw,hv])
   go_ret
   exact⟨rfl,Below.refl _ _⟩
  ·obtain⟨g1,g2,g3⟩:=encode_facts r (by rw[validRune_eq]; exact hv) h1
   have hu:(P.underlying (ρ.t 21)).isSome=true:=by rw[t21]; rfl
   have u21:=run_underlying L.t21; have u9:=run_underlying L.t9; have u3:=run_underlying L.t3
   go_enter L.f152,Body.n152_ntmps ρ
   go_wp2_with (go_at_fn (ρ.f 119); refine(Any.utf8_ValidRune { L with } _ _).mono ?_; rintro e w' ⟨rfl,hw⟩; rw[hw,hv])
   clear hw
   go_step3
   go_wp2
   obtain⟨m,hm⟩:∃ m:Nat,(Utf8.encode r).size=m+1:=⟨(Utf8.encode r).size-1,by omega⟩
   have jv:((Utf8.encode r).size:Int)-1=(m:Int):=by omega
   simp only[jv]
   by_cases qD:m<s.size
   ·have hl:decide ((m:Int)<(s.size:Int))=true:=decide_eq_true (by omega)
    obtain⟨x,hx⟩:∃ x:UInt8,s[m]'qD=x:=⟨_,rfl⟩
    obtain⟨y,hy⟩:∃ y:UInt8,(Utf8.encode r)[m]'(by omega)=y:=⟨_,rfl⟩
    have z4Z:x.toNat<128:=HS.out x (by rw[<- hx]; exact List.mem_of_getElem? (Lib.data_getElem? s m qD))
    have zi5:128<=y.toNat:=by rw[<- hy]; have:=g3 (by omega); simpa[hm]using this
    have CG:(0:Int)<=(m:Int)+1:=by omega
    have Is:(m:Int)+1<=(s.size:Int):=by omega
    have P5:¬ ((m:Int)+1<0):=by omega
    have E9:¬ ((s.size:Int)<(m:Int)+1):=by omega
    have hxy:((x.toNat:Int)==(y.toNat:Int))=false:=beq_eq_false_iff_ne.2 (by omega)
    have hwr:IntKind.i64.wrap ((m:Int)+1)=(m:Int)+1:=wrap_small _ (by omega) (by omega)
    have Lx:((y.toNat:Int)).toNat.toUInt8=y:=by simp
    have z6s:Lib.indexByte (List.take (s.size-(m+1)) (List.drop (m+1) s.data.toList)) y<0:=by
     have Hs:=Lib.contains_iff_indexByte (List.take (s.size-(m+1)) (List.drop (m+1) s.data.toList)) y
     have hc:(List.take (s.size-(m+1)) (List.drop (m+1) s.data.toList)).contains y=false:=by
      rw[List.contains_eq_mem,decide_eq_false_iff_not]
      intro hm
      have:=HS.out y (List.mem_of_mem_drop (List.mem_of_mem_take hm))
      omega
     rw[hc]at Hs
     have:=of_decide_eq_false Hs.symm
     omega
    have hsl:∀ W:World,(Instr.slice (ρ.t 9) (.string s) (some (.int .i64 ((m:Int)+1))) none none).run P W=.ok (.string (s.extract (m+1) s.size)) W:=λW=>by rw[run_slice_string_from_if W _ _ _ _ t9,if_pos ⟨CG,Is⟩]; rfl
    go_rounds 1
    go_step3
    go_wp2
    go_region_o
    all_goals go_wp2
    all_goals go_region_with_o ((go_at_fn (ρ.f 137); refine(Any.strings_IndexByte { L with } _ _ _).mono ?_; rintro e w' ⟨rfl,hw⟩; rw[hw,Lx]))
    all_goals go_wp2
    change Exit.inBlock 2 _ Exit.ret _ _
    go_wp2
    change Exit.inBlock 0 _ Exit.ret _ _
    go_ret
    exact⟨rfl,⟨rfl,rfl,rfl,Nat.le_refl _,λ_ _=>rfl⟩⟩
   ·have hl:decide ((m:Int)<(s.size:Int))=false:=decide_eq_false (by omega)
    go_rounds 1
    change Exit.inBlock 0 _ Exit.ret _ _
    go_ret
    exact⟨rfl,Below.refl _ _⟩
set_option maxHeartbeats 8000000 in
set_option maxRecDepth 1000000 in
theorem Any.ma(L:Lays.n153 P ρ)(s chars:ByteArray)(w:World)(h2:2<=chars.size)(h8:s.size<=8)(Xk:chars.size<4294967281)(hac:∀ b∈chars.data.toList,b.toNat<128) :
  Calls P (ρ.f 153) #[.string s,.string chars] w λe w'=>e=.returned (.int .i64 (Lib.indexAny s.data.toList chars.data.toList))/\Below w.heap.size w w':=by
 have HC:Aside (∀ b∈chars.data.toList,b.toNat<128):=hac
 clear hac
 have zk6:chars.toList.isEmpty=false:=by
  rw[Lib.toList_data]
  cases h:chars.data.toList with
  | nil=>have:=Lib.size_eq chars; rw[h,List.length_nil]at this; omega
  | cons _ _=>rfl
 have E9:((chars.size:Int)==1)=false:=beq_eq_false_iff_ne.2 (by omega)
 have h8z:decide ((8:Int)<(s.size:Int))=false:=decide_eq_false (by omega)
 have t3:=L.t3; have a3:=L.a3; have z3:=L.z3; have v3:=L.v3
 have t4:=L.t4; have a4:=L.a4; have z4:=L.z4; have v4:=L.v4
 have t5:=L.t5; have a5:=L.a5; have z5:=L.z5; have v5:=L.v5
 have t9:=L.t9; have a9:=L.a9; have z9:=L.z9; have v9:=L.v9
 have t21:=L.t21; have a21:=L.a21; have z21:=L.z21; have v21:=L.v21
 have zkA:∀ args w,(callFunc (ρ.f 152) args).run P w=.ok (.enter (ρ.f 152) args) w:=enters_of L.f152 (by kernel_rfl) rfl
 have zk7:∀ args w,(callFunc (ρ.f 226) args).run P w=.ok (.enter (ρ.f 226) args) w:=enters_of L.f226 (by kernel_rfl) rfl
 go_enter L.f153,Body.n153_ntmps ρ
 go_wp2_with (go_at_fn (ρ.f 226); refine(Any.strings_shouldUseASCIISet { L with } _ _).mono ?_; rintro e w' ⟨rfl,hw⟩; rw[hw,h8z])
 go_loopw [9,10] (λ_ _ wr=>∃ pos:Nat,wr.heap[w.heap.size]? = some (.stringIter s pos)/\Below w.heap.size w wr/\pos<=s.size/\Lib.NoAny s.data.toList chars.data.toList pos) (λ_ _ wr=>s.size-wr.iterPos w.heap.size)
 case atStart=>exact⟨0,World.iter_heap w s 0,(Below.refl _ w).alloc (Nat.le_refl _) _,Nat.zero_le _,Lib.NoAny.zero _ _⟩
 case round =>
  obtain⟨pos,hit,Pd,hps,kf⟩:=hrel
  have HN:Aside (Lib.NoAny s.data.toList chars.data.toList pos):=kf
  clear kf
  have z5N:=iterPos_of hit
  by_cases hp:pos<s.size
  ·have hnx:∀ ty,(Instr.next (.pointer (some ⟨w.heap.size,0,none⟩)) true ty).run P wr=_:=λty=>Lib.run_next_any_at wr w.heap.size s pos ty hit hp
   have Ej:=Lib.iterAt_heap wr w.heap.size s pos (pos+(Utf8.decode s pos).2) hit
   have Sj:=Lib.below_iterAt Pd (k:=w.heap.size) (Nat.le_refl _) s (pos+(Utf8.decode s pos).2)
   obtain⟨W1,hW1⟩:∃ W1,W1=wr.iterAt w.heap.size s (pos+(Utf8.decode s pos).2):=⟨_,rfl⟩
   rw[<- hW1]at hnx Ej Sj
   have zcj:=lt_of_block Ej
   have hwd:=Lib.decode_width_pos s pos hp
   obtain⟨db1,db2⟩:=Go.AM.Y9 s pos hp
   have K8:=Go.AM.Qi s pos hp
   clear hW1 hit Pd
   by_cases Ns:(s[pos]'hp).toNat<128
   ·have z3w:=decode_ascii s pos hp Ns
    rw[z3w]at hnx Ej hwd
    have Vq:s.get! pos=s[pos]'hp:=by rw[<- get_at s pos hp,Nat.add_zero]
    rw[Vq]at K8
    generalize s[pos]'hp=x at *
    have Hs:=Lib.contains_iff_indexByte chars.data.toList x
    have Lx:((x.toNat:Int)).toNat.toUInt8=x:=by simp
    have Hx:Aside (s.data.toList[pos]? = some x):=K8
    clear K8 z3w db2 Vq
    cases V9:chars.data.toList.contains x
    ·rw[V9]at Hs
     have qD:¬ ((0:Int)<=Lib.indexByte chars.data.toList x):=of_decide_eq_false Hs.symm
     clear Hs
     go_wp2_with (go_at_fn (ρ.f 152); refine(Any.strings_IndexRune_ascii { L with } _ _ _ (by omega) (by omega)).mono ?_; rintro e w' ⟨rfl,hw⟩; rw[hw,Lx])
     go_roundw
     case rel=>exact⟨pos+1,Ej,Sj,by omega,HN.out.succ Hx.out V9⟩
     case measure=>rw[iterPos_of Ej,z5N]; omega
    ·rw[V9]at Hs
     have hge:(0:Int)<=Lib.indexByte chars.data.toList x:=of_decide_eq_true Hs.symm
     clear Hs
     go_wp2_with (go_at_fn (ρ.f 152); refine(Any.strings_IndexRune_ascii { L with } _ _ _ (by omega) (by omega)).mono ?_; rintro e w' ⟨rfl,hw⟩; rw[hw,Lx])
     go_ret
     exact⟨by rw[Lib.indexAny_hit HN.out Hx.out V9]; rfl,Sj⟩
   ·have hr1:(128:Int)<=((Utf8.decode s pos).1:Int):=by have:=(decode_high s pos hp (by omega)).1; omega
    have hr2:((Utf8.decode s pos).1:Int)<=2147483647:=by have:=decode_le s pos; omega
    have HN2:Aside (Lib.NoAny s.data.toList chars.data.toList (pos+(Utf8.decode s pos).2)):=λj b hj hb=>by
     by_cases h:j<pos
     ·exact HN.out j b h hb
     ·have hg:=Go.AM.Qi s j (by omega)
      rw[hg]at hb
      injection hb with hb
      have zis:128<=b.toNat:=by
       rw[<- hb]
       by_cases h0:j=pos
       ·subst h0
        have Vq:s.get! j=s[j]'hp:=by rw[<- get_at s j hp,Nat.add_zero]
        rw[Vq]; omega
       ·have:=db2 (j-pos) (by omega) (by omega)
        rwa [show pos+(j-pos)=j by omega]at this
      rw[List.contains_eq_mem,decide_eq_false_iff_not]
      intro hm
      have:=HC.out b hm
      omega
    clear K8 db2 HN
    generalize (Utf8.decode s pos).1=r at *
    generalize (Utf8.decode s pos).2=n at *
    go_wp2_with (go_at_fn (ρ.f 152); refine(Any.mI { L with } _ _ _ HC.out hr1 hr2 Xk).mono ?_; rintro e w' ⟨rfl,hB⟩)
    go_roundw
    case rel=>exact⟨pos+n,by rw[hB.block _ zcj]; exact Ej,Sj.trans (hB.mono Sj.size),by omega,HN2.out⟩
    case measure=>rw[iterPos_of ((hB.block _ zcj).trans Ej),z5N]; omega
  ·obtain rfl:pos=s.size:=by omega
   have hnx:∀ ty,(Instr.next (.pointer (some ⟨w.heap.size,0,none⟩)) true ty).run P wr=_:=λty=>Lib.run_next_end_at wr w.heap.size s s.size ty hit (by omega)
   go_wp2
   go_ret
   exact⟨by rw[Lib.indexAny_none (by rw[<- Lib.size_eq]; exact HN.out)]; rfl,Pd⟩
theorem Any.pA(L:Lays.n153 P ρ)(hv116:∀ w,(zeroValue (ρ.t 116)).run P w=.ok (.agg (Array.replicate 256 (.bool false))) w)(zcl:(P.info? (ρ.t 116)).map (·.size)=some 256)(s chars:ByteArray)(w:World)(h2:2<=chars.size)(hs:s.size<4294967281)(Xk:chars.size<4294967281)
  (hac:∀ b∈chars.data.toList,b.toNat<128) :
  Calls P (ρ.f 153) #[.string s,.string chars] w λe w'=>e=.returned (.int .i64 (Lib.indexAny s.data.toList chars.data.toList))/\Below w.heap.size w w':=by
 by_cases h8:s.size<=8
 ·exact Any.ma L s chars w h2 h8 Xk hac
 ·refine(Any.strings_IndexAny_long L hv116 zcl s chars w (by omega) (by omega) hs Xk λj b h=>hac b (List.mem_of_getElem? h)).mono λe w' ⟨h1,h2⟩=>⟨h1,?_⟩
  rw[h2]
  exact((Below.refl _ _).alloc (Nat.le_refl _) _).alloc (by simp) _
end Go.Proofs