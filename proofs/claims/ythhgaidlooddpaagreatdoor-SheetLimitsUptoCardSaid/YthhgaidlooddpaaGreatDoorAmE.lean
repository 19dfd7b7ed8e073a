/-
  The abstract machine, part E: texts of our own, the same for each claim.
-/
import Derived.Test.YthhgaidlooddpaaGreatDoorAmD
import Derived.Below
import Derived.Lib.Repeat
import Derived.Lib.ItoaNum
import Derived.Lib.IndexMore
import Derived.Lib.AsciiSet
import Derived.Lib.Strings
import Derived.Sort.Grow
import Derived.Deep.Draws
import Derived.Test.YthhgaidlooddpaaGreatDoorAmA
import Derived.Lib.Builder
import Derived.Recover
import Derived.Lib.Split
import Derived.Lib.SplitLaws
import Derived.Lib.FieldsP
import Derived.Lib.IndexAny
import Derived.Laws.RangeAny
import Derived.Lib.RuneCount
import Derived.Laws.AppendOwn
import Derived.Shelf.Strings.IndexAnyAll
import Derived.Laws.Runes
import Derived.Shelf.Small.Utf8
import Derived.WalkMore
import Derived.Handy
import Derived.Shelf.RegionOpenPlain
import Derived.WalkSmall
import Derived.Lib.OthersKept
set_option linter.unusedVariables false
namespace Go.AM
set_option linter.unusedSectionVars false
variable [vz]
open Go.RowKit
theorem lQ{P:Program}{g:Nat}{fn:Func}{args:Array Value}(hf:P.funcs[g]? = some fn) (hn:(fn.name == "runtime.NumGoroutine")=false) (hb:fn.body.isNone=false) (w:World) :
  (callFunc g args).run P w=.ok (.enter g args) w:=wz hf hn hb w
def KS.grown(κ:KS)(w':World):KS:={ κ with w:=w',ok:=λk=>κ.ok k\/(κ.w.heap.size<=k/\k<w'.heap.size) }
theorem wW{P:Program}{g:Nat}{fn:Func}{d:G0}(hf:P.funcs[g]? = some fn) (hn:(fn.name == "runtime.NumGoroutine")=false) (hb:fn.body.isNone=false)
  (H:∀ (κ:KS) (x:jX d.ps) (zw:List Value) (y:YD d.rs),(d.F x).leads y->Inv κ->qA κ (Zq d.ps x) zw ->
   Calls P g zw.toArray κ.w λe w'=>Below κ.w.heap.size κ.w w'/\(Ext κ (κ.grown w')->wc (κ.grown w') (.ret (tp d.rs y)) e)):zG P g d:=by
 intro κ x zw y xE hy hI ha
 refine .inl ⟨lQ hf hn hb κ.w,(H κ x zw y hy hI ha).mono ?_⟩
 rintro e w' ⟨hB,he⟩
 have Jd:κ.ph=[]:=List.eq_nil_of_length_eq_zero (by rw[hI.len,xE]; rfl)
 have hx:Ext κ (κ.grown w'):=⟨hB.os,hB.tape,hB.output,hB.size,λk hk=>⟨.inl hk,hB.block k (hI.y4 k hk)⟩,λk hk=>hk.elim .inl λh=>.inr (.inl h.1),λ_ _ _ h=>.inl h,λb d h=>by grind,
   λb v0 e xs h=>by grind,λb h=>by grind,Nat.le_refl _,λk hk _=>hB.block k hk⟩
 refine⟨κ.grown w',rfl,xE,⟨hI.len,λk hk=>hk.elim (λh=>Nat.lt_of_lt_of_le (hI.y4 k h) hB.size) (·.2),λb blk n hb => ?_,hI.inj,λb x hb => ?_,hI.gl.mono hx.same⟩,hx,he hx⟩
 ·have:κ.ph[b]? = some (some (blk,n)):=hb
  grind
 ·have:κ.st[b]? = some x:=hb
  grind
theorem EX(u:Nat):Lib.decDigits u=WQ u:=by
 induction u using Nat.strongRecOn with
 | _ u ih =>
  rw[Lib.decDigits,WQ]
  grind
theorem Rl(n:Int):Lib.itoa n=fj n:=by
 unfold Lib.itoa fj
 rw[EX,EX]
theorem BV(w:World)(k:Nat)(os:Array Obj):RowKit.Below w.heap.size w (Go.Sort.grow (w.drewN k) os):=by
 refine⟨rfl,rfl,rfl,?_,λb hb => ?_⟩
 ·simp
 ·show(w.heap++os)[b]? = w.heap[b]?
  grind
theorem below_drewN(w:World)(k:Nat):RowKit.Below w.heap.size w (w.drewN k):=⟨rfl,rfl,rfl,Nat.le_refl _,λ_ _=>rfl⟩
theorem ri(w:World):RowKit.Below w.heap.size w w:=⟨rfl,rfl,rfl,Nat.le_refl _,λ_ _=>rfl⟩
theorem Q8(w:World)(o:Obj):RowKit.Below w.heap.size w (w.alloc o):=by
 refine⟨rfl,rfl,rfl,?_,λb hb => ?_⟩
 ·simp
 ·show(w.heap.push o)[b]? = w.heap[b]?
  grind
theorem ET(s sub:zf):Lib.index s sub=cn s sub:=by
 induction s with
 | nil=>rfl
 | cons b l ih=>simp only[Lib.index,cn,ih]
theorem z0x(s:zf)(c:UInt8):Lib.indexByte s c=mc s c:=by
 induction s with
 | nil=>rfl
 | cons b l ih=>simp only[Lib.indexByte,mc,ih]
theorem Rb(s sep:zf):Lib.cut s sep=ua s sep:=by
 unfold Lib.cut ua
 rw[ET]
theorem Ia{w:World}{ok:Nat->Prop}(f:Nat->Bool):∀ (n k:Nat),Rc w ok (cj .bool n) (IT (e:=.bool) f n k) ((List.range' k n).map λj=>Value.bool (f j))
 | 0,_=>.nil
 | n+1,k=>by
  exact Rc.cons .bool (cj .bool n) (f k) (IT (e:=.bool) f n (k+1)) [Value.bool (f k)] _ (.bool _) (Ia f n (k+1))
theorem Rh{κ:KS}(s:zf):RD κ (.zD (cj .bool 256) (bM s)) (.agg (Lib.setCells s)):=by
 have h:=RD.zD (κ:=κ) (cj .bool 256) (bM s) _ (Ia (λj=>s.contains (UInt8.ofNat j)) 256 0)
 have e:pk (cj .bool 256) ((List.range' 0 256).map λj=>Value.bool (s.contains (UInt8.ofNat j)))=.agg (Lib.setCells s):=by
  unfold pk
  rw[show(cj .bool 256).isAgg=true from rfl,Lib.setCells_eq]
  show Value.agg (List.toArray _)=_
  congr 1
  apply Array.ext'
  rw[Array.toList_map,Array.toList_range,List.range_eq_range']
 grind
theorem RD.z63{κ:KS}{a b:D}{u v:Value}(h:RD κ a u)(k:RD κ b v):RD κ (.kY [a,b]) (.tuple #[u,v]):=by
 have:=qA.cons h (qA.cons k qA.nil)
 exact .kY [a,b] [u,v] this.1 this.2
theorem RD.zda{κ:KS}{a b c:D}{u v z:Value}(h:RD κ a u)(k:RD κ b v)(l:RD κ c z):RD κ (.kY [a,b,c]) (.tuple #[u,v,z]):=by
 have:=qA.cons h (qA.cons k (qA.cons l qA.nil))
 exact .kY [a,b,c] [u,v,z] this.1 this.2
theorem DG(l:List UInt8):∀ c,Lib.repeatL l c=jh l c
 | 0=>rfl
 | c+1=>by simp[Lib.repeatL,jh,DG l c]
end Go.AM
namespace Go.AM
set_option linter.unusedSectionVars false
variable [vz]
open Go.RowKit
theorem H3{w:World}{blk:Nat}{cs:Array Value}{t:TypeId}{fz:Nat×Nat}{v:Value}(h:w.heap[blk]? = some (.cells cs t fz)):w.setCell ⟨blk,0,none⟩ v=w.setRow blk (cs.setIfInBounds 0 v):=by
 unfold World.setCell World.setRow
 congr 1
 grind
def CO(t:Nat):List It:=[.v (.st [.op 0 t,.row 1 (.int .u8)]),.a (.int .u8)]
def NW(t:Nat):List Bk:=[.var (.st [.op 0 t,.row 1 (.int .u8)]),.arr (.int .u8)]
def ccD(t:Nat):jD:=⟨[.ptr],⟨CO t,[(0,.ptr 0 0)],NW t⟩,[],⟨CO t,[],NW t⟩,0,λx=>.ret x⟩
theorem Y9{P:Program}{g t:Nat}(VB:∀ args w,(callFunc g args).run P w=.ok (.enter g args) w)
  (z97:∀ (b:Nat) (w:World),w.cell? ⟨b,0,none⟩=some (.pointer (some ⟨b,0,none⟩))->Calls P g #[.pointer (some ⟨b,0,none⟩)] w λe w'=>e=.returned (.tuple #[])/\w'=w)
  (z2V:∀ (b:Nat) (w:World),w.cell? ⟨b,0,none⟩=some (.pointer none)->w.shape? b=some (t,2)->w.frozen? ⟨b,0,none⟩=false ->
   Calls P g #[.pointer (some ⟨b,0,none⟩)] w λe w'=>e=.returned (.tuple #[])/\w'=w.setCell ⟨b,0,none⟩ (.pointer (some ⟨b,0,none⟩))):xN P g (ccD t):=by
 intro κ x zw y xE hy hI hlen hR
 cases hy
 have h0:κ.st[0]? = some (.var (.agg [.kf 0 t,.ms 1 (List.length x.2) (.int .u8) 0 (List.length x.2)])):=by rw[xE]; rfl
 obtain⟨blk,n,cs,t',p1,p2,p3,p4,p5⟩:=hI.blk 0 _ h0
 obtain rfl:t'=t:=p5.2 t rfl
 obtain⟨v0,hv0,II⟩:=hR.get 0 (.ptr 0 0) rfl
 have hv:v0=.pointer (some ⟨blk,0,none⟩):=by
  cases II with
  | ptr _ _ fS n' d hd hp=>grind
 have gF:zw.toArray = #[.pointer (some ⟨blk,0,none⟩)]:=by
  match zw,hlen with
  | [a],_ =>
   grind
 obtain⟨pv,us,ZF,g1,g2⟩:=qA.cons_inv p4
 obtain⟨bv,us',hus,g3,g4⟩:=qA.cons_inv g2
 have:=g4.qc
 subst this
 subst hus
 have U2:cs = #[pv,bv]:=by rw[<- Array.toArray_toList (xs:=cs),ZF]
 subst U2
 have Ry:∀ κ':KS,wc κ' (.ret []) (.returned (.tuple #[])):=λκ'=>⟨.tuple #[],rfl,.kY [] [] rfl (λi h=>absurd h (Nat.not_lt_zero i))⟩
 refine .inl ⟨VB _ _,?_⟩
 rw[gF]
 have used:pv=.pointer (some ⟨blk,0,none⟩)->Calls P g #[.pointer (some ⟨blk,0,none⟩)] κ.w λe w'=>∃ (κ':KS) (ds:List D),κ'.w=w'/\κ'.st=(ccD t').out.st x/\Inv κ'/\Ext κ κ'/\yx 0 ((ccD t').out.fr x)=some ds/\wc κ' (.ret ds) e:=by
  intro RJ
  refine(z97 blk κ.w (by rw[Lib.cell_of_heap p2,RJ]; rfl)).mono ?_
  rintro e w' ⟨rfl,rfl⟩
  exact⟨κ,[],rfl,xE,hI,Ext.refl κ,rfl,Ry κ⟩
 cases g1 with
 | bE _ _ fS n' d hd hp=>rw[p1]at hp; cases hp; exact used rfl
 | bC _ _ d hd =>
  refine(z2V blk κ.w (by rw[Lib.cell_of_heap p2]; rfl) (by simp[World.shape?,p2]) (by simp[World.frozen?,p2])).mono ?_
  rintro e w' ⟨rfl,rfl⟩
  rw[H3 p2]
  have hex:=lC (cs := #[.pointer (some ⟨blk,0,none⟩),bv]) (x:=.var (.agg [.kf 0 t',.ms 1 (List.length x.2) (.int .u8) 0 (List.length x.2)])) hI p1 h0 trivial
  refine⟨κ.Yz 0 blk #[.pointer (some ⟨blk,0,none⟩),bv] (.var (.agg [.kf 0 t',.ms 1 (List.length x.2) (.int .u8) 0 (List.length x.2)])),[],rfl,?_,tf hI p1 h0 trivial ?_,hex,rfl,Ry _⟩
  ·show κ.st.set 0 _=_
   rw[VF h0]; exact xE
  ·refine⟨blk,n,_,t',p1,setRow_heap _ _ _ _ _ _ p2,p3,?_,p5⟩
   refine .cons (.bE 0 t' blk n _ (by show(κ.st.set 0 _)[0]? = _; rw[VF h0]; exact h0) p1) (.cons (g3.mono hex) .nil)
def Oz(t:Nat):jD:=⟨[.ptr],⟨CO t,[(0,.ptr 0 0)],NW t⟩,[],⟨[.s 0 (.zD .str),.v (.st [.op 0 t,.un])],[],[.var (.st [.op 0 t,.un]),.dead]⟩,1,
 λx=>z15 x.2⟩
theorem MG{κ:KS}{w':World}{t:Nat}{xs:List Int}(xE:κ.st=[.var (.agg [.kf 0 t,.ms 1 xs.length (.int .u8) 0 xs.length]),.arr xs.length (.int .u8) xs])(hI:Inv κ)
  (h1:w'.os=κ.w.os) (h2:w'.tape=κ.w.tape) (h3:w'.output=κ.w.output) (h4:κ.w.heap.size<=w'.heap.size)
  (h5:∀ k,k<κ.w.heap.size->(∀ n:Nat,κ.ph[1]? ≠ some (some (k,n)))->w'.heap[k]? = κ.w.heap[k]?) :
  ∃ κ':KS,κ'.w=w'/\κ'.st=[.var (.agg [.kf 0 t,.pK]),.dead]/\Inv κ'/\Ext κ κ':=by
 have b0:κ.st[0]? = some (.var (.agg [.kf 0 t,.ms 1 xs.length (.int .u8) 0 xs.length])):=by rw[xE]; rfl
 have b1:κ.st[1]? = some (.arr xs.length (.int .u8) xs):=by rw[xE]; rfl
 have hlen:κ.st.length=2:=by rw[xE]; rfl
 let κ':KS:={ κ with w:=w',st:=[.var (.agg [.kf 0 t,.pK]),.dead] }
 have hk:∀ k,κ.ok k->w'.heap[k]? = κ.w.heap[k]? := λk hk=>h5 k (hI.y4 k hk) λn h=>(hI.apart 1 k n h).2 hk
 have QK:Df κ.w w' κ.ok κ.ok:=λk h=>⟨h,hk k h⟩
 have hx:Ext κ κ':=by
  refine⟨h1,h2,h3,h4,QK,λk h=>.inl h,λ_ _ _ h=>.inl h,λb d h=>⟨?_,rfl⟩,λb v0 e rB h=>.inl ?_,λb h => ?_,by show κ.st.length<=2; omega,λk hk hn=>h5 k hk (hn 1)⟩
  ·grind
  ·grind
  ·grind
 refine⟨κ',rfl,rfl,⟨by show κ.ph.length=2; rw[hI.len,hlen],λk h=>Nat.lt_of_lt_of_le (hI.y4 k h) h4,λb blk n h=>⟨Nat.lt_of_lt_of_le (hI.apart b blk n h).1 h4,(hI.apart b blk n h).2⟩,hI.inj,λb y hb => ?_,hI.gl.mono QK⟩,hx⟩
 match b,hb with
 | 0,hb =>
  cases hb
  obtain⟨blk,n,cs,t',p1,p2,p3,p4,p5⟩:=hI.blk 0 _ b0
  have vy:∀ m:Nat,κ.ph[1]? ≠ some (some (blk,m)):=λm h=>by
   have:=hI.inj 0 1 blk n m p1 h
   omega
  refine⟨blk,n,cs,t',p1,(h5 blk (hI.apart 0 blk n p1).1 vy).trans p2,p3,?_,?_,λT hT=>p5.2 T hT⟩
  ·obtain⟨pv,us,ZF,g1,g2⟩:=qA.cons_inv p4
   obtain⟨bv,us',hus,g3,g4⟩:=qA.cons_inv g2
   have:=g4.qc
   subst this
   subst hus
   rw[ZF]
   refine .cons (g1.mono hx) (.cons (.pK bv (g3.Xi rfl)) .nil)
  ·intro x K3
   simp only[qe,List.mem_cons,List.not_mem_nil,or_false]at K3
   rcases K3 with rfl | rfl<;>rfl
 | 1,hb=>cases hb; trivial
 | b+2,hb=>simp[κ']at hb
theorem Ir{n:Int}(h0:0<=n)(h1:n<256):(((byteOf n).toNat:Nat):Int)=n:=by
 unfold byteOf
 have:(UInt8.ofNat n.toNat).toNat=n.toNat:=by
  rw[UInt8.toNat_ofNat']
  omega
 grind
theorem BS{P:Program}{g t:Nat}(VB:∀ args w,(callFunc g args).run P w=.ok (.enter g args) w)
  (Wg:∀ (b:Nat) (p:Value) (w:World),w.heap[b]? = some (.cells #[p,.slice none 0 0] t (0,0))->Calls P g #[.pointer (some ⟨b,0,none⟩)] w λe w'=>e=.returned (.string ⟨#[]⟩)/\w'=w.drew)
  (lR:∀ (b g' o cap:Nat) (p:Value) (w:World),cap≠0->w.heap[b]? = some (.cells #[p,.slice (some ⟨g',o,none⟩) 0 cap] t (0,0))->Calls P g #[.pointer (some ⟨b,0,none⟩)] w λe w'=>e=.returned (.string ⟨#[]⟩)/\w'=w.drew)
  (Pg:∀ (b g' cap:Nat) (p:Value) (cur:Array Value) (l:List UInt8) (w:World),l≠[]->l.length<=cap->l.length<=140737488355328->w.heap[b]? = some (.cells #[p,.slice (some ⟨g',0,none⟩) l.length cap] t (0,0)) ->
   w.heap[g']? = some (.cells cur pe.u8 (0,0))->l.length<=cur.size->(∀ j x,l[j]? = some x->w.cell? ⟨g',j,none⟩=some (.int .u8 x.toNat)) ->
   Calls P g #[.pointer (some ⟨b,0,none⟩)] w λe w'=>e=.returned (.string ⟨l.toArray⟩)/\w'=w.drew.freeze ⟨g',0,none⟩ l.length)
  (JY:∀ (b g' o:Nat) (p:Value) (cur:Array Value) (w:World),w.heap[b]? = some (.cells #[p,.slice (some ⟨g',o,none⟩) 0 0] t (0,0))->w.heap[g']? = some (.cells cur pe.u8 (0,0)) ->
   Calls P g #[.pointer (some ⟨b,0,none⟩)] w λe w'=>e=.returned (.string ⟨#[]⟩)/\w'=w.drew.alloc (.view ⟨g',o,none⟩ pe.u8)) 
  {κ:KS} {zw:List Value} {xs:List Int} (z50:κ.st=[.var (.agg [.kf 0 t,.ms 1 xs.length (.int .u8) 0 xs.length]),.arr xs.length (.int .u8) xs])
  (Bq:∀ n∈xs,(0:Int)<=n/\n<256) (z14:xs.length<=140737488355328) (hI:Inv κ) (hlen:zw.length=1) (hd:∃ v,zw.toArray[0]? = some v/\RD κ (.ptr 0 0) v) :
  ug P g zw.toArray κ.w λe w'=>∃ (κ':KS) (ds:List D),κ'.w=w'/\κ'.st=(Oz t).out.st (qD xs,())/\Inv κ'/\Ext κ κ'/\yx 1 ((Oz t).out.fr (qD xs,()))=some ds/\wc κ' (.ret ds) e:=by
 have h0:κ.st[0]? = some (.var (.agg [.kf 0 t,.ms 1 (xs.length) (.int .u8) 0 (xs.length)])):=by rw[z50]; rfl
 have h1:κ.st[1]? = some (.arr (xs.length) (.int .u8) xs):=by rw[z50]; rfl
 obtain⟨blk,n,cs,t',p1,p2,p3,p4,p5⟩:=hI.blk 0 _ h0
 obtain rfl:t'=t:=p5.2 t rfl
 obtain⟨v0,hv0,II⟩:=hd
 have hv:v0=.pointer (some ⟨blk,0,none⟩):=by
  cases II with
  | ptr _ _ fS n' d hd hp=>grind
 have gF:zw.toArray = #[.pointer (some ⟨blk,0,none⟩)]:=by
  grind
 obtain⟨pv,us,ZF,g1,g2⟩:=qA.cons_inv p4
 obtain⟨bv,us',hus,g3,g4⟩:=qA.cons_inv g2
 have:=g4.qc
 subst this
 subst hus
 have U2:cs = #[pv,bv]:=by rw[<- Array.toArray_toList (xs:=cs),ZF]
 subst U2
 refine .inl ⟨VB _ _,?_⟩
 rw[gF]
 have fin:∀ (w':World) (s:zf),s=qD xs->w'.os=κ.w.os->w'.tape=κ.w.tape->w'.output=κ.w.output->κ.w.heap.size<=w'.heap.size ->
   (∀ k,k<κ.w.heap.size->(∀ n:Nat,κ.ph[1]? ≠ some (some (k,n)))->w'.heap[k]? = κ.w.heap[k]?) ->
   ∃ (κ':KS) (ds:List D),κ'.w=w'/\κ'.st=(Oz t').out.st (qD xs,())/\Inv κ'/\Ext κ κ'/\yx 1 ((Oz t').out.fr (qD xs,()))=some ds/\wc κ' (.ret ds) (.returned (.string ⟨s.toArray⟩)):=by
  intro w' s hs q1 q2 q3 q4 q5
  subst hs
  obtain⟨κ',k1,k2,k3,k4⟩:=MG z50 hI q1 q2 q3 q4 q5
  exact⟨κ',[.zD .str (qD xs)],k1,k2,k3,k4,rfl,_,rfl,RD.str⟩
 have hnn:(qD xs).length=xs.length:=List.length_map _
 cases g3 with
 | ms _ _ _ _ _ cap a hb wM ha mW hm =>
  obtain⟨hle,hm⟩:=hm xs h1
  rcases hm with⟨hz,_,hv',hp⟩ | ⟨z0O,n1,o,Cw,hp,hv',z6a,uo,ho⟩
  ·rw[hv']at p2
   have Xz:xs=[]:=List.eq_nil_of_length_eq_zero hz
   refine(Wg blk pv κ.w p2).mono ?_
   rintro e w' ⟨rfl,rfl⟩
   exact fin _ [] (by rw[Xz]; rfl) rfl rfl rfl (Nat.le_refl _) (λ_ _ _=>rfl)
  ·cases hv'
   obtain⟨_,⟨Dt,hpn⟩ | ⟨zcw,n2,cs2,T2,r1,r2,r3,r4,r5,f,r6⟩⟩:=hI.blk 1 _ h1
   ·grind
   ·rw[hp]at r1
    cases r1
    have hT:=r5 rfl
    subst hT
    by_cases T4:cap=0
    ·subst T4
     have hz:xs.length=0:=by omega
     have Xz:xs=[]:=List.eq_nil_of_length_eq_zero hz
     rw[hz]at p2
     refine(JY blk z0O o pv cs2 κ.w p2 r2).mono ?_
     rintro e w' ⟨rfl,rfl⟩
     refine fin _ [] (by rw[Xz]; rfl) rfl rfl rfl (by simp) (λk hk _ => ?_)
     exact Lib.alloc_old κ.w.drew _ k hk
    ·by_cases hz:xs.length=0
     ·have Xz:xs=[]:=List.eq_nil_of_length_eq_zero hz
      rw[hz]at p2
      refine(lR blk z0O o cap pv κ.w T4 p2).mono ?_
      rintro e w' ⟨rfl,rfl⟩
      exact fin _ [] (by rw[Xz]; rfl) rfl rfl rfl (Nat.le_refl _) (λ_ _ _=>rfl)
     ·have NV:o=0:=by
       rcases ho with ho | ho
       ·exact absurd ho T4
       ·simpa using ho
      subst NV
      have vy:qD xs≠[]:=λe=>hz (by rw[<- hnn,e]; rfl)
      have z2d:xs.length<=cs2.size:=by
       have:=r4
       simp only[Ty.size,Nat.mul_one]at this
       omega
      refine(Pg blk z0O cap pv cs2 (qD xs) κ.w vy (by rw[hnn]; exact wM) (by rw[hnn]; exact z14) (by rw[hnn]; exact p2) r2 (by rw[hnn]; exact z2d) ?_).mono ?_
      ·intro j c hj
       have hj':j<xs.length:=by rw[<- hnn]; exact(List.getElem?_eq_some_iff.1 hj).1
       obtain⟨q1,q2⟩:=r6 j hj'
       have:=q2 0 (.int .u8 xs[j]) (by rw[q1.kT]; rfl)
       simp only[Ty.size,Nat.mul_one,Nat.add_zero]at this
       have hc:c=byteOf xs[j]:=by
        unfold qD at hj
        rw[List.getElem?_map,List.getElem?_eq_getElem hj']at hj
        exact(Option.some.inj hj).symm
       obtain⟨b0,b1⟩:=Bq xs[j] (List.getElem_mem hj')
       rw[Lib.cell_of_heap r2,hc,Ir b0 b1]
       exact this
      ·rintro e w' ⟨rfl,rfl⟩
       refine fin _ _ rfl ?_ ?_ ?_ ?_ ?_
       ·unfold World.freeze; split<;>rfl
       ·unfold World.freeze; split<;>rfl
       ·unfold World.freeze; split<;>rfl
       ·unfold World.freeze
        split
        ·exact Nat.le_refl _
        ·show κ.w.heap.size<=(Array.modify _ _ _).size
         rw[Array.size_modify]; exact Nat.le_refl _
       ·intro k hk hn
        have zbY:k≠z0O:=λe=>hn n1 (e▸hp)
        unfold World.freeze
        split
        ·rfl
        ·show(Array.modify _ _ _)[k]? = _
         rw[Array.getElem?_modify,if_neg (λe=>zbY e.symm)]
         rfl
theorem Lm{P:Program}{g t:Nat}(VB:∀ args w,(callFunc g args).run P w=.ok (.enter g args) w)
  (Wg:∀ (b:Nat) (p:Value) (w:World),w.heap[b]? = some (.cells #[p,.slice none 0 0] t (0,0))->Calls P g #[.pointer (some ⟨b,0,none⟩)] w λe w'=>e=.returned (.string ⟨#[]⟩)/\w'=w.drew)
  (lR:∀ (b g' o cap:Nat) (p:Value) (w:World),cap≠0->w.heap[b]? = some (.cells #[p,.slice (some ⟨g',o,none⟩) 0 cap] t (0,0))->Calls P g #[.pointer (some ⟨b,0,none⟩)] w λe w'=>e=.returned (.string ⟨#[]⟩)/\w'=w.drew)
  (Pg:∀ (b g' cap:Nat) (p:Value) (cur:Array Value) (l:List UInt8) (w:World),l≠[]->l.length<=cap->l.length<=140737488355328->w.heap[b]? = some (.cells #[p,.slice (some ⟨g',0,none⟩) l.length cap] t (0,0)) ->
   w.heap[g']? = some (.cells cur pe.u8 (0,0))->l.length<=cur.size->(∀ j x,l[j]? = some x->w.cell? ⟨g',j,none⟩=some (.int .u8 x.toNat)) ->
   Calls P g #[.pointer (some ⟨b,0,none⟩)] w λe w'=>e=.returned (.string ⟨l.toArray⟩)/\w'=w.drew.freeze ⟨g',0,none⟩ l.length)
  (JY:∀ (b g' o:Nat) (p:Value) (cur:Array Value) (w:World),w.heap[b]? = some (.cells #[p,.slice (some ⟨g',o,none⟩) 0 0] t (0,0))->w.heap[g']? = some (.cells cur pe.u8 (0,0)) ->
   Calls P g #[.pointer (some ⟨b,0,none⟩)] w λe w'=>e=.returned (.string ⟨#[]⟩)/\w'=w.drew.alloc (.view ⟨g',o,none⟩ pe.u8)):xN P g (Oz t):=by
 intro κ x zw y xE hy hI hlen hR
 obtain⟨⟨Bq,z14⟩,hy⟩:=(show(z15 x.2).leads y from hy)
 have hy':(qD x.2,())=y:=hy
 subst hy'
 exact BS VB Wg lR Pg JY (xs:=x.2) xE Bq z14 hI hlen (hR.get 0 (.ptr 0 0) rfl)
end Go.AM
namespace Go.AM
set_option linter.unusedSectionVars false
variable [vz]
open Go.RowKit
def Mj(P:Program):OB:=λg args w R=>(callFunc g args).run P w=.ok (.enter g args) w/\CallsD P g args .returning w λe u' w'=>settle u'=.returning/\R e w'
def Ml(P:Program)(t:Nat):OB:=λg args w R=>∀ (zs:List Value) (v:Value),args=(zs++[v]).toArray->(callFunc g zs.toArray).run P w=.ok (.enter g zs.toArray) w /\
 CallsD P g zs.toArray (.panicking [{ v:=.iface t v,recovered:=false }]) w λe u' w'=>settle u'=.returning/\R e w'
theorem Mj.mono{P:Program}{g:Nat}{a:Array Value}{w:World}{R R':Ending->World->Prop}(h:Mj P g a w R)(hr:∀ e w',R e w'->R' e w'):Mj P g a w R' :=
 ⟨h.1,h.2.mono λe u' w' hh=>⟨hh.1,hr e w' hh.2⟩⟩
theorem Ml.mono{P:Program}{t g:Nat}{a:Array Value}{w:World}{R R':Ending->World->Prop}(h:Ml P t g a w R)(hr:∀ e w',R e w'->R' e w'):Ml P t g a w R' :=
 λzs v e=>⟨(h zs v e).1,(h zs v e).2.mono λe u' w' hh=>⟨hh.1,hr e w' hh.2⟩⟩
def Vy(ops:Array Oper):Option (Nat×Nat):=match ops.toList with
 | [o1,o2]=>match o1.dst,o1.op,o1.guard with
  | some t1,.call ⟨.builtin .recover,_,_⟩,none=>match o2.dst,o2.op,o2.guard with
   | some t2,.assign (.tmp t),none=>bif Nat.beq t t1 then some (t1,t2)else none
   | _,_,_=>none
  | _,_,_=>none
 | _=>none
def z8A(t:Option Nat)(n:Nat):Nat:=match t with | none=>n | some _=>n+1
def z3u(t:Option Nat)(n:Nat)(fr:Fr):Option D:=match t with
 | none=>some .qP
 | some t=>match fr.get n with | some p=>some (.iface t p) | none=>none
section
variable (c:Ctx) (tab:c8)
def QX(fn:Func)(out:vH)(nr:Nat)(fr:Fr)(st:St):T out.den :=
 (gC c fr st fn.results.toList).bind λds=>bif Nat.beq ds.length nr then(out.un (w6 ds 0) st).bind λy=>bif (yx nr (out.fr y)).isSome then .ret y else .fail else .fail
def evH(H:Hints)(fn:Func)(ops:Array Oper)(b:Code)(d:jD)(n:Nat)(t:Option Nat)(x:d.sh.den):T d.out.den :=
 bif Nat.ble n fn.ntmps&&Nat.ble d.sh.bs.length d.out.bs.length&&Nat.beq d.ks.length (z8A t n)then match Vy ops,z3u t n (d.sh.fr x)with
  | some (t1,t2),some rc=>bif Nat.blt t1 fn.ntmps&&Nat.blt t2 fn.ntmps then
    sk c tab fn.ntmps H b ((t2,some rc)::(t1,some rc)::(n,none)::d.sh.fr x) [] (d.sh.st x) λo=>match o.ex with
     | .normal=>QX c fn d.out d.nr o.fr o.st
     | .ret=>QX c fn d.out d.nr o.fr o.st
     | _=>.fail
   else .fail
  | _,_=>.fail
 else .fail
def Zr:List Oper->Option (List Oper×Operand×List Operand)
 | []=>none
 | [o]=>match o.op,o.guard,o.dst with
  | .defer ⟨.value f,args,_⟩,none,none=>some ([],f,args.toList)
  | _,_,_=>none
 | o::r=>match Zr r with | some (l,z)=>some (o::l,z) | none=>none
structure Dfd where
 g:Nat
 d0:jD
 pt:Nat
 d1:jD
def evD(n:Nat)(H:Hints)(h:Dfd)(fn:Func)(out:vH)(nr:Nat):Code->Fr->Kn->St->T out.den
 | .seq a b,fr,kn,st=>match opsOf a with
  | some ops=>match Zr ops.toList with
   | some (pre,f,args)=>Xq c tab n ops pre ⟨fr,kn,st,[],[]⟩ (λs=>match uf s.fr f,u6 (args.map (uf s.fr))with
     | some (.qS g caps),some l=>bif Nat.beq (y8 g) h.g then
       sk c tab n H b s.fr s.kn s.st λo=>match o.ex with
        | .normal=>h.d0.K (uT g l caps) o.st λ_ zq=>QX c fn out nr (o.fr++(bU (qi b)++s.fr)) zq
        | .ret=>h.d0.K (uT g l caps) o.st λ_ zq=>QX c fn out nr (o.fr++(bU (qi b)++s.fr)) zq
        | .kb (.iface t p)=>bif Nat.beq t h.pt then h.d1.K (uT g l caps++[p]) o.st λ_ zq=>QX c fn out nr (o.fr++(bU (qi b)++s.fr)) zq else .fail
        | _=>.fail
      else .fail
     | _,_=>.fail) (λ_ _=>.fail)
   | none=>sk c tab n H a fr kn st λr=>match r.ex with
    | .normal=>evD n H h fn out nr b r.fr r.kn r.st
    | .ret=>QX c fn out nr r.fr r.st
    | _=>.fail
  | none=>sk c tab n H a fr kn st λr=>match r.ex with
   | .normal=>evD n H h fn out nr b r.fr r.kn r.st
   | .ret=>QX c fn out nr r.fr r.st
   | _=>.fail
 | _,_,_,_=>.fail
def NL(H:Hints)(h:Dfd)(fn:Func)(code:Code)(d:jD)(x:d.sh.den):T d.out.den :=
 bif Nat.ble d.ks.length fn.ntmps&&Nat.ble d.sh.bs.length d.out.bs.length then evD c tab fn.ntmps H h fn d.out d.nr code (d.sh.fr x) [] (d.sh.st x)else .fail
end
section
variable {P:Program} {xid:Nat} {tab:c8} {ro:Nat->Bool} {n:Nat} {H:Hints}
theorem CU{ops:Array Oper}{t1 t2:Nat}(hr:Vy ops=some (t1,t2)){Q:Exit->Act->List Frame->World->Prop}{a:Act}{cs:List Frame}{w:World}{id:Nat}(h1:t1<a.tmps.size)
  (h:Q .normal ((a.put (some t1) ((recoverD cs).elim .nilIface (·.1))).put (some t2) ((recoverD cs).elim .nilIface (·.1))) ((recoverD cs).elim cs (·.2)) w):(Code.region id ops false).wpS P Q a cs w:=by
 unfold Vy at hr
 split at hr
 ·rename_i o1 o2 hops
  split at hr
  ·rename_i t1' args ml BJ MD hg1
   split at hr
   ·rename_i t2' t RV RZ hg2
    cases hb:Nat.beq t t1' with
    | false=>grind
    | true =>
     rw[hb,cond_true]at hr
     cases hr
     have:=Nat.eq_of_beq_eq_true hb
     subst this
     obtain⟨d1,op1,ty1,z4x,z2L,g1⟩:=o1
     obtain⟨d2,op2,UK,z0i,z4Z,g2⟩:=o2
     subst BJ MD hg1 RV RZ hg2
     have uo:ops.size=2:=by rw[<- Array.length_toList,hops]; rfl
     have e0:ops[0]? = some ⟨some t,.call ⟨.builtin .recover,args,ml⟩,ty1,z4x,z2L,none⟩:=by rw[<- Array.getElem?_toList,hops]; rfl
     have e1:ops[1]? = some ⟨some t2,.assign (.tmp t),UK,z0i,z4Z,none⟩:=by rw[<- Array.getElem?_toList,hops]; rfl
     have z4i:List.range 2=[0,1]:=rfl
     have ev1:∀ v,((a.put (some t) v).eval (.tmp t))=v:=λv=>by simp[Act.eval,Act.put,h1]
     refine wpS_region ?_
     rw[uo,z4i]
     simp only[wpOpsS,e0,e1]
     cases QY:recoverD cs with
     | none =>
      rw[QY]at h
      simp only[execOp,ev1]
      exact h
     | some z =>
      rw[QY]at h
      simp only[execOp,ev1]
      exact h
   ·cases hr
  ·cases hr
 ·cases hr
theorem Pp(hm:(vJ P xid tab ro).P.follows .mixedOrders=true)(hT:kM P tab){f:Nat}{fn:Func}{id:Nat}{ops:Array Oper}{b:Code}(hf:P.funcs[f]? = some fn)(hb:fn.body=some (.seq (.region id ops false) b))
  (hL:vP P fn.ntmps H b) {d:jD} {k:Nat} {t:Option Nat} {x:d.sh.den} {y:d.out.den} (hy:(evH (vJ P xid tab ro) tab H fn ops b d k t x).leads y) {κ:KS} (xE:κ.st=d.sh.st x) (hI:Inv κ)
  {zs:List Value} (hk:zs.length=k) {u:FrameMode} {rv:Value} (hrv:∀ rc,z3u t k (d.sh.fr x)=some rc->RD κ rc rv)
  (hu:∀ (c₀:Frame) (cs:List Frame),c₀.mode=u->(recoverD (c₀::cs)).elim .nilIface (·.1)=rv/\∃ u',(recoverD (c₀::cs)).elim (c₀::cs) (·.2)={ c₀ with mode:=u' }::cs/\settle u'=.returning)
  (hR:∀ s dd,(d.sh.fr x).get s=some dd->s≠k->∃ v,zs[s]? = some v/\RD κ dd v) :
  CallsD P f zs.toArray u κ.w λe u' w'=>settle u'=.returning/\∃ (κ':KS) (ds:List D),κ'.w=w'/\κ'.st=d.out.st y/\Inv κ'/\Ext κ κ'/\yx d.nr (d.out.fr y)=some ds/\wc κ' (.ret ds) e:=by
 unfold evH at hy
 cases hc:Nat.ble k fn.ntmps&&Nat.ble d.sh.bs.length d.out.bs.length&&Nat.beq d.ks.length (z8A t k)with
 | false=>rw[hc]at hy; exact False.elim hy
 | true =>
 rw[hc,cond_true]at hy
 simp only[Bool.and_eq_true]at hc
 have Iw:=Nat.le_of_ble_eq_true hc.1.1
 have O8:=Nat.le_of_ble_eq_true hc.1.2
 split at hy
 ·rename_i t1 t2 rc hrs Bh
  cases hcc:Nat.blt t1 fn.ntmps&&Nat.blt t2 fn.ntmps with
  | false=>rw[hcc]at hy; exact False.elim hy
  | true =>
  rw[hcc,cond_true]at hy
  simp only[Bool.and_eq_true]at hcc
  have z7m:=hrv rc Bh
  refine callsD_of_wpS hf hb λc₀ cs hc₀ => ?_
  obtain⟨hv,u',ZF,gA⟩:=hu c₀ cs hc₀
  have h1:t1<fn.ntmps:=Nat.le_of_ble_eq_true hcc.1
  have h2:t2<fn.ntmps:=Nat.le_of_ble_eq_true hcc.2
  have Ny:zs.length+(fn.ntmps-zs.length)=fn.ntmps:=by omega
  let a0:Act:={ tmps:=zs.toArray++Array.replicate (fn.ntmps-zs.toArray.size) undef,defers:=[] }
  have NO:Rel κ fn.ntmps (Fr.get ((k,none)::d.sh.fr x)) a0:=by
   refine⟨by simp[a0]; omega,rfl,λs dd hs => ?_⟩
   simp only[Fr.get]at hs
   cases hks:Nat.beq k s with
   | true=>grind
   | false =>
    rw[hks,cond_false]at hs
    obtain⟨v,g1,g2⟩:=hR s dd hs (λe=>by subst e; simp at hks)
    grind
  have Jg:Rel κ fn.ntmps (Fr.get ((t2,some rc)::(t1,some rc)::(k,none)::d.sh.fr x)) ((a0.put (some t1) rv).put (some t2) rv):=by
   have g1:=NO.put (dst:=some t1) (d:=some rc) (v:=rv) hcc.1 (λd' ke=>by cases ke; exact z7m)
   have g2:=g1.put (dst:=some t2) (d:=some rc) (v:=rv) hcc.2 (λd' ke=>by cases ke; exact z7m)
   have e1:=lp ((k,none)::d.sh.fr x) (some t1) (some rc)
   have e2:=lp ((t1,some rc)::(k,none)::d.sh.fr x) (some t2) (some rc)
   rw[<- e1]at g2
   have g3:Rel κ fn.ntmps (jP (Fr.get ((t1,some rc)::(k,none)::d.sh.fr x)) (some t2) (some rc)) ((a0.put (some t1) rv).put (some t2) rv):=g2
   rw[<- e2]at g3
   exact g3
  refine wpS_seq (CU hrs (by simp; omega) ?_)
  rw[hv,ZF]
  show b.wpS P _ _ _ _
  refine wpS_of_wp ?_
  rw[<- xE]at hy
  refine nG hm hT b hL (κ:=κ) hy hI Jg (bp _) _ λo eG a' κe e0 e1 e2 e3 e4 _ _ _ e6 => ?_
  have fin:(eG=.normal\/eG=.ret)->(QX (vJ P xid tab ro) fn d.out d.nr o.fr o.st).leads y ->
    bodyPostS P fn c₀ cs (λe u' w'=>settle u'=.returning/\∃ (κ':KS) (ds:List D),κ'.w=w'/\κ'.st=d.out.st y/\Inv κ'/\Ext κ κ'/\yx d.nr (d.out.fr y)=some ds/\wc κ' (.ret ds) e) eG a' ({ c₀ with mode:=u' }::cs) κe.w:=by
   intro hex z2U
   obtain⟨v,k1,κ',ds,q1,q2,q3,q4,q5,q6⟩:=Dv e1 e2 e3 e4 (by rw[xE]; exact Nat.le_trans (vH.rj _ _) O8) z2U
   have mX:a'.defers=[]/\∃ u'',({ c₀ with mode:=u' }::cs:List Frame)={ c₀ with mode:=u'' }::cs/\∃ v,(results fn a'.tmps).run P κe.w=.ok v κe.w/\settle u''=.returning /\
     ∃ (κ':KS) (ds:List D),κ'.w=κe.w/\κ'.st=d.out.st y/\Inv κ'/\Ext κ κ'/\yx d.nr (d.out.fr y)=some ds/\wc κ' (.ret ds) (.returned v) :=
    ⟨e4.defers,u',rfl,v,k1,gA,κ',ds,q1,q2,q3,q4,q5,q6⟩
   rcases hex with rfl | rfl
   ·exact mX
   ·exact mX
  cases hox:o.ex<;>rw[hox]at e0 e6<;>simp only at e0
  ·exact fin (.inl e6) e0
  ·exact False.elim e0
  ·exact fin (.inr e6) e0
  ·exact False.elim e0
 ·exact False.elim hy
theorem Tk(hm:(vJ P xid tab ro).P.follows .mixedOrders=true)(hT:kM P tab){f:Nat}{fn:Func}{id:Nat}{ops:Array Oper}{b:Code}(hf:P.funcs[f]? = some fn)(hb:fn.body=some (.seq (.region id ops false) b))
  (hn:(fn.name == "runtime.NumGoroutine")=false) (hL:vP P fn.ntmps H b) {d:jD} (h:∀ x,evH (vJ P xid tab ro) tab H fn ops b d d.ks.length none x=d.F x):yb (Mj P) f d:=by
 intro κ x zw y xE hy hI hlen hR
 rw[<- h]at hy
 refine⟨wz hf hn (by grind) κ.w,Pp hm hT hf hb hL hy xE hI hlen (u:=.returning) (rv:=.nilIface) (λrc Bh=>by cases Bh; exact .qP) (λc₀ cs hc => ?_) λs dd hs _ => ?_⟩
 ·have:recoverD (c₀::cs)=none:=by simp only[recoverD,hc]
  rw[this]
  exact⟨rfl,.returning,by rw[<- hc]; rfl,rfl⟩
 ·obtain⟨v,h1,h2⟩:=hR.get s dd hs
  grind
theorem TW(hm:(vJ P xid tab ro).P.follows .mixedOrders=true)(hT:kM P tab){f:Nat}{fn:Func}{id:Nat}{ops:Array Oper}{b:Code}(hf:P.funcs[f]? = some fn)(hb:fn.body=some (.seq (.region id ops false) b))
  (hn:(fn.name == "runtime.NumGoroutine")=false) (hL:vP P fn.ntmps H b) {d:jD} {k t:Nat} (hk:d.ks.length=k+1) (h:∀ x,evH (vJ P xid tab ro) tab H fn ops b d k (some t) x=d.F x):yb (Ml P t) f d:=by
 intro κ x zw y xE hy hI hlen hR zs v hc
 have hc:zw=zs++[v]:=by simpa using hc
 subst hc
 rw[<- h]at hy
 have Kt:zs.length=k:=by simp at hlen; omega
 refine⟨wz hf hn (by grind) κ.w,Pp hm hT hf hb hL hy xE hI Kt (rv:=.iface t v) (λrc Bh => ?_) (λc₀ cs hc => ?_) λs dd hs hsk => ?_⟩
 ·simp only[z3u]at Bh
  split at Bh
  ·rename_i p hp
   cases Bh
   obtain⟨u,h1,h2⟩:=hR.get k p hp
   have:u=v:=by
    grind
   subst this
   exact .iface t p u h2
  ·cases Bh
 ·have:recoverD (c₀::cs)=some (.iface t v,{ c₀ with mode:=.panicking [{ v:=.iface t v,recovered:=true }] }::cs):=by simp only[recoverD,hc]
  rw[this]
  exact⟨rfl,_,rfl,rfl⟩
 ·obtain⟨u,h1,h2⟩:=hR.get s dd hs
  grind
theorem B6{p:Value}{g:Nat}{us vs:List Value}{w:World}(GL:p=me g us):∃ (fv:Fn) (cap zs:Array Value),(Deferred.ofValue p vs.toArray).run P w=.ok ⟨.fn fv cap,zs⟩ w /\
  (invoke (.fn fv cap) zs).run P w=(callFunc (y8 g) (uT g vs us).toArray).run P w/\∀ w',(invoke (.fn fv cap) zs).run P w'=(callFunc (y8 g) (uT g vs us).toArray).run P w':=by
 subst GL
 unfold me y8 uT
 cases hb:Nat.ble 1000000 g with
 | true =>
  have key:∀ w',(invoke (.fn (.func (g % 1000000)) #[]) (us.toArray++vs.toArray)).run P w'=(callFunc (g % 1000000) (us++vs).toArray).run P w':=λw'=>by simp[invoke]
  exact⟨.func (g % 1000000),#[],us.toArray++vs.toArray,by rfl,key w,key⟩
 | false =>
  have key:∀ w',(invoke (.fn (.func g) us.toArray) vs.toArray).run P w'=(callFunc g (vs++us).toArray).run P w':=λw'=>by simp[invoke]
  exact⟨.func g,us.toArray,vs.toArray,by simp[Deferred.ofValue],key w,key⟩
theorem mS:∀ {l:List Oper} {pre:List Oper} {f:Operand} {args:List Operand},Zr l=some (pre,f,args)->∃ o zs ml,l=pre++[o]/\o.op=.defer ⟨.value f,zs,ml⟩/\zs.toList=args/\o.guard=none/\o.dst=none
 | [],pre,f,args,h=>by cases h
 | [o],pre,f,args,h=>by
  simp only[Zr]at h
  grind
 | o::p::r,pre,f,args,h=>by
  simp only[Zr]at h
  split at h
  ·rename_i l z hz
   obtain⟨o',zs,ml,e,g1,g2,g3,g4⟩:=mS hz
   grind
  ·cases h
theorem YM{c:Ctx}{κ:KS}{a:Act}{id:Nat}{ops:Array Oper}{pre:List Oper}{f:Operand}{args:List Operand}{fr:Fr}{kn:Kn}{s1:cg}{g:Nat}{caps l:List D}(hC:∀ g,YB c.P g (c.fn g))(hI:Inv κ)(hR:Rel κ n fr.get a)(hk:vd kn fr.get)
  (hd:Zr ops.toList=some (pre,f,args)) (vi:(eX c n ops pre ⟨fr,kn,κ.st,[],[]⟩).leads s1) (hf:uf s1.fr f=some (.qS g caps)) (hl:u6 (args.map (uf s1.fr))=some l) {Q:Exit->Act->World->Prop}
  (hQ:∀ (a':Act) (κ':KS) (fv:Fn) (cap zs:Array Value) (zw:List Value),κ'.st=s1.st->Inv κ'->Ext κ κ'->Rel κ' n s1.fr.get a'->vd s1.kn s1.fr.get->cO ops a a'->qA κ' (uT g l caps) zw ->
   (∀ w',(invoke (.fn fv cap) zs).run c.P w'=(callFunc (y8 g) zw.toArray).run c.P w')->Q .normal { a' with defers:=⟨.fn fv cap,zs⟩::a'.defers } κ'.w):(Code.region id ops false).wp c.P Q a κ.w:=by
 obtain⟨o,oas,ml,e,ho,gF,hg,Sy⟩:=mS hd
 have Lx:∀ j:Nat,ops[j]? = (pre++[o])[j]? := λj=>by rw[<- e]; simp
 obtain⟨ks,g1,g2,_⟩:=dv pre 0 ⟨fr,kn,κ.st,[],[]⟩ s1 (λj=>by
  by_cases hj:j<pre.length
  ·grind
  ·right; omega) hk vi
 have uo:List.range ops.size=List.range' 0 pre.length++[pre.length]:=by
  have:ops.size=pre.length+1:=by rw[<- Array.length_toList,e]; simp
  rw[this,List.range_eq_range',<- List.range'_append_1,Nat.zero_add]; rfl
 refine wp_region ?_
 rw[uo]
 refine ZJ hC _ _ hI hR rfl g1 λa' κ' e1 e2 e3 e4 e5 => ?_
 rw[wpOps_cons]
 unfold wpOp
 have hoi:ops[pre.length]? = some o:=by rw[Lx]; simp
 rw[hoi]
 obtain⟨dst,op,ty,pos,after,guard⟩:=o
 simp only at ho hg Sy
 subst ho hg Sy
 simp only[Region.wanted,if_true]
 have dL:∀ (x:Operand) (z:D),uf s1.fr x=some z->RD κ' z (a'.eval x):=λx z hz=>e4.eval (by rw[<- yV]; exact hz)
 have RJ:=dL f _ hf
 have hr:=yi (κ:=κ') (vs:=oas.toList.map a'.eval) hl (by simp[<- gF]) (λi d v hd hv=>by
      rw[<- gF]at hd
      simp only[List.getElem?_map]at hd hv
      cases hi:oas.toList[i]? with
      | none=>grind
      | some x=>rw[hi]at hd hv; simp at hd hv; subst hv; exact dL x d hd)
 generalize GL:a'.eval f=pv at RJ
 cases RJ with
 | qS _ _ us dJ hh2 =>
  obtain⟨fv,cap,zs,k1,k2,k3⟩:=B6 (P:=c.P) (vs:=oas.toList.map a'.eval) (w:=κ'.w) (rfl:me g us=me g us)
  refine .inl ?_
  unfold Oper.wp
  have hx:(execOp a'.eval ⟨none,.defer ⟨.value f,oas,ml⟩,ty,pos,after,none⟩).run c.P κ'.w=.ok (.defer ⟨.fn fv cap,zs⟩) κ'.w:=by
   have e9:oas.map a'.eval=(oas.toList.map a'.eval).toArray:=by apply Array.ext'; simp
   simp only[execOp,resolve,GL,e9,Sem.run_bind,k1,Result.andThen_ok,Sem.run_pure]
  rw[hx]
  exact hQ a' κ' fv cap zs _ e1 e2 e3 e4 g2 e5 (W5 g hr (⟨dJ,hh2⟩:qA κ' caps us)) k3
def EF(κ0:KS)(out:vH)(nr:Nat)(y:out.den):Ending->World->Prop:=λe w'=>∃ (κ':KS) (ds:List D),κ'.w=w'/\κ'.st=out.st y/\Inv κ'/\Ext κ0 κ'/\yx nr (out.fr y)=some ds/\wc κ' (.ret ds) e
theorem se{κ0 κ2:KS}{fn:Func}{out:vH}{nr:Nat}{y:out.den}{fr:Fr}{zq:St}{tm:Array Value}(e1:κ2.st=zq)(e2:Inv κ2)(e3:Ext κ0 κ2)(e4:Rel κ2 fn.ntmps fr.get { tmps:=tm,defers:=[] })(hlen:κ0.st.length<=out.bs.length)
  (h:(QX (vJ P xid tab ro) fn out nr fr zq).leads y):Leaves P fn tm (EF κ0 out nr y) [] .returning κ2.w:=by
 obtain⟨v,k1,κ',ds,q1,q2,q3,q4,q5,q6⟩:=Dv (o:=⟨.ret,fr,[],zq,false⟩) e1 e2 e3 e4 hlen h
 exact⟨v,k1,κ',ds,q1,q2,q3,q4,q5,q6⟩
theorem Xj{code:Code}(h:xh code=[])[VW]:vP P n H code:=λp hp=>by rw[h]at hp; cases hp
theorem Oa{κ:KS}{f:F}{a:Act}(D:VW)(h : @Rel D κ n f a) : @Rel Vb κ n f { tmps:=a.tmps,defers:=[] } := @Rel.mk Vb κ n f _ (@Rel.size D κ n f a h) rfl (@Rel.get D κ n f a h)
theorem Jr{κ κ':KS}{f:F}{a:Act}(x:Ext κ κ')(h : @Rel Vb κ n f a) : @Rel Vb κ' n f a:=h.mono x
theorem z3s{κ:KS}{f:F}{a:Act}(h : @Rel Vb κ n f a)(l:List Deferred) : @Rel ⟨l⟩ κ n f { a with defers:=l } := @Rel.mk ⟨l⟩ κ n f _ h.size rfl h.get
theorem z4v(hm:(vJ P xid tab ro).P.follows .mixedOrders=true)(hT:kM P tab){h:Dfd}(h0:yb (Mj P) h.g h.d0)(h1:yb (Ml P h.pt) h.g h.d1){fn:Func}{out:vH}{nr:Nat}{y:out.den}{κ0:KS}(hlen:κ0.st.length<=out.bs.length) :
  ∀ (code:Code),xh code=[]->∀ {fr:Fr} {kn:Kn} {κ:KS} {a:Act},(evD (vJ P xid tab ro) tab fn.ntmps H h fn out nr code fr kn κ.st).leads y->Inv κ->Ext κ0 κ->Rel κ fn.ntmps fr.get a->vd kn fr.get ->
   code.wp P (bodyPostD P fn (EF κ0 out nr y)) a κ.w:=by
 intro code
 induction code with
 | seq x b ix ib =>
  intro hl fr kn κ a hy hI hx hR hk
  have RO:xh x=[]:=by simp only[xh,List.append_eq_nil_iff]at hl; exact hl.1
  have hlb:xh b=[]:=by simp only[xh,List.append_eq_nil_iff]at hl; exact hl.2
  have plain:(sk (vJ P xid tab ro) tab fn.ntmps H x fr kn κ.st λr=>match r.ex with
    | .normal=>evD (vJ P xid tab ro) tab fn.ntmps H h fn out nr b r.fr r.kn r.st
    | .ret=>QX (vJ P xid tab ro) fn out nr r.fr r.st
    | _=>.fail).leads y->(Code.seq x b).wp P (bodyPostD P fn (EF κ0 out nr y)) a κ.w:=by
   intro hy
   refine wp_seq (nG hm hT x (Xj RO) (κ:=κ) hy hI hR hk _ λo eG a' κ' e0 e1 e2 e3 e4 Md _ _ e6 => ?_)
   cases hex:o.ex<;>rw[hex]at e0 e6<;>simp only at e0
   ·cases e6
    exact ib hlb (κ:=κ') (e1▸e0) e2 (hx.trans e3) e4 Md
   ·exact e0.elim
   ·cases e6
    show Leaves P fn a'.tmps _ a'.defers .returning κ'.w
    rw[show a'.defers=[]from e4.defers]
    exact se e1 e2 (hx.trans e3) (Oa Vb e4) hlen e0
   ·exact e0.elim
  simp only[evD]at hy
  split at hy
  ·rename_i ops hops
   obtain⟨id,rfl⟩:∃ id,x=.region id ops false:=by
    cases x with
    | region id ops' draw =>
     cases draw with
     | true=>cases hops
     | false=>cases hops; exact⟨id,rfl⟩
    | _=>cases hops
   split at hy
   ·rename_i pre f args hd
    have sU:∀ o∈pre,∃ i:Nat,ops[i]? = some o:=λo ho=>by
     obtain⟨o',oas,ml,e,_⟩:=mS hd
     have:o∈ops.toList:=by rw[e]; exact List.mem_append_left _ ho
     obtain⟨i,hi,he⟩:=List.getElem_of_mem this
     exact⟨i,by rw[<- he]; simp at hi; simp[hi]⟩
    rcases sd pre hk sU hy with⟨s1,vi,hy⟩ | ⟨_,_,_,hy⟩
    rotate_left
    ·exact hy.elim
    split at hy
    ·rename_i g caps l hf hl
     cases hg:Nat.beq (y8 g) h.g with
     | false=>rw[hg]at hy; exact hy.elim
     | true =>
     rw[hg,cond_true]at hy
     have hgg:=Nat.eq_of_beq_eq_true hg
     refine wp_seq (YM (c:=vJ P xid tab ro) (Ym hT) hI hR hk hd vi hf hl λa' κ1 fv cap zs zw e1 e2 e3 e4 Md e5 e6 e7 => ?_)
     show b.wp P _ _ κ1.w
     have hdf:a'.defers=[]:=e4.defers
     rw[hdf]
     let D:VW:=⟨[⟨.fn fv cap,zs⟩]⟩
     have hRD : @Rel D κ1 fn.ntmps s1.fr.get { a' with defers:=[⟨.fn fv cap,zs⟩] }:=z3s e4 _
     rw[<- e1]at hy
     refine @nG _ D P xid tab ro fn.ntmps H hm hT b (@Xj _ P fn.ntmps H b hlb D) s1.fr s1.kn κ1 _ _ _ y hy e2 hRD Md _ λo eG a2 κe f0 f1 f2 f3 f4 JD f5 _ f6 => ?_
     have z5G:a2.defers=[⟨.fn fv cap,zs⟩] := @Rel.defers D κe fn.ntmps _ a2 f4
     have hRa : @Rel Vb κe fn.ntmps (Fr.get (o.fr++(bU (qi b)++s1.fr))) { tmps:=a2.tmps,defers:=[] }:=Oa D (@oo _ D fn.ntmps κ1 κe s1.fr o.fr _ a2 (qi b) hRD f3 f4 f5)
     have Pe:qA κe (uT g l caps) zw:=qA.mono f3 e6
     have z8G:∀ (cs:Array Value) (w':World),cs=zw.toArray->(callFunc h.g cs).run P w'=.ok (.enter h.g cs) w'->(invoke (.fn fv cap) zs).run P w'=.ok (.enter h.g cs) w':=λcs w' ZF hc=>by
      refine(e7 w').trans ?_
      rw[hgg,<- ZF]; exact hc
     have z6j:(h.d0.K (uT g l caps) o.st λ_ zq=>QX (vJ P xid tab ro) fn out nr (o.fr++(bU (qi b)++s1.fr)) zq).leads y->Leaves P fn a2.tmps (EF κ0 out nr y) a2.defers .returning κe.w:=by
      intro hK
      obtain⟨ds,zq,k1,k2⟩:=jD.OL hK
      rw[<- f1]at k1
      obtain⟨d1,d2⟩:=jD.z3W (Dr:=Mj P) Mj.mono h0 κe _ zw _ _ k1 f2 Pe
      rw[z5G]
      refine leaves_cons (by nofun) (z8G _ _ rfl d1) (d2.mono ?_)
      rintro e u' w' ⟨gA,κ2,rfl,g2,g3,g4,v,rfl,_⟩
      show Leaves P fn a2.tmps _ [] (settle u') κ2.w
      rw[gA]
      exact se g2 g3 ((hx.trans (e3.trans f3)).trans g4) (Jr g4 hRa) hlen k2
     cases hox:o.ex<;>rw[hox]at f0 f6
     ·cases f6; exact z6j f0
     ·exact f0.elim
     ·cases f6; exact z6j f0
     ·rename_i pd
      obtain⟨v,rfl,hv⟩:=f6
      cases pd<;>first | exact False.elim f0 | skip
      rename_i t p
      have f00:(bif Nat.beq t h.pt then h.d1.K (uT g l caps++[p]) o.st λ_ zq=>QX (vJ P xid tab ro) fn out nr (o.fr++(bU (qi b)++s1.fr)) zq else .fail).leads y:=f0
      clear f0
      cases ht:Nat.beq t h.pt with
      | false=>rw[ht]at f00; exact f00.elim
      | true =>
      rw[ht,cond_true]at f00
      have:=Nat.eq_of_beq_eq_true ht
      subst this
      cases hv with
      | iface _ _ u hu =>
       obtain⟨ds,zq,k1,k2⟩:=jD.OL f00
       rw[<- f1]at k1
       obtain⟨d1,d2⟩:=jD.z3W (Dr:=Ml P h.pt) Ml.mono h1 κe _ (zw++[u]) _ _ k1 f2 (Pe.append (qA.cons hu qA.nil)) zw u rfl
       show Leaves P fn a2.tmps _ a2.defers _ κe.w
       rw[z5G]
       refine leaves_cons (by nofun) (z8G _ _ rfl d1) (d2.mono ?_)
       rintro e u' w' ⟨gA,κ2,rfl,g2,g3,g4,v,rfl,_⟩
       show Leaves P fn a2.tmps _ [] (settle u') κ2.w
       rw[gA]
       exact se g2 g3 ((hx.trans (e3.trans f3)).trans g4) (Jr g4 hRa) hlen k2
    ·exact hy.elim
   ·exact plain hy
  ·exact plain hy
 | _=>intro _ fr kn κ a hy; exact hy.elim
theorem z2P(hm:(vJ P xid tab ro).P.follows .mixedOrders=true)(hT:kM P tab){h:Dfd}(h0:yb (Mj P) h.g h.d0)(h1:yb (Ml P h.pt) h.g h.d1){f:Nat}{fn:Func}{code:Code}(hf:P.funcs[f]? = some fn)(hb:fn.body=some code)
  (hn:(fn.name == "runtime.NumGoroutine")=false) (hL:xh code=[]) {d:jD} (he:∀ x,NL (vJ P xid tab ro) tab H h fn code d x=d.F x):xN P f d:=by
 intro κ x zw y xE hy hI hlen NO
 rw[<- he]at hy
 unfold NL at hy
 cases hle:Nat.ble d.ks.length fn.ntmps&&Nat.ble d.sh.bs.length d.out.bs.length with
 | false=>rw[hle]at hy; exact hy.elim
 | true =>
  rw[hle,cond_true]at hy
  simp only[Bool.and_eq_true]at hle
  have Is:=Nat.le_of_ble_eq_true hle.1
  have Nb:=Nat.le_of_ble_eq_true hle.2
  refine .inl ⟨wz hf hn (by grind) κ.w,calls_of_wp_defers hf hb ?_⟩
  have hR:Rel κ fn.ntmps (d.sh.fr x).get { tmps:=zw.toArray++Array.replicate (fn.ntmps-zw.toArray.size) undef,defers:=[] }:=by
   refine⟨by grind,rfl,λs e hs => ?_⟩
   obtain⟨v,h1,h2⟩:=NO.get s e hs
   grind
  exact z4v hm hT h0 h1 (κ0:=κ) (by rw[xE]; exact Nat.le_trans (vH.rj _ _) Nb) code hL (κ:=κ) (by rw[xE]; exact hy) hI (Ext.refl κ) hR (bp _)
end
end Go.AM
namespace Go.AM
theorem ZK(c b:UInt8)(l:List UInt8):Lib.index (b::l) [c]=if b=c then 0 else if Lib.index l [c] == -1 then -1 else Lib.index l [c]+1:=by
 show(if[c].isPrefixOf (b::l)then _ else _)=_
 by_cases h:b=c
 ·rw[if_pos h,if_pos (by subst h; simp[List.isPrefixOf])]
 ·rw[if_neg h,if_neg (by simp[List.isPrefixOf]; exact λe=>h e.symm)]
theorem H7(c:UInt8):∀ l:List UInt8,Lib.splitK [c] 0 (Lib.count l [c]) l=bQ c l
 | []=>rfl
 | b::l=>by
  have ih:=H7 c l
  by_cases h:b=c
  ·have hi:Lib.index (b::l) [c]=((0:Nat):Int):=by rw[ZK,if_pos h]; rfl
   have hc:=Lib.count_hit (s:=b::l) (sub:=[c]) (by simp) hi
   rw[hc,show 1+Lib.count ((b::l).drop (0+[c].length)) [c]=Lib.count l [c]+1 from Nat.add_comm 1 _]
   unfold Lib.splitK
   rw[if_neg (by rw[hi]; decide),hi]
   show[]::Lib.splitK [c] 0 (Lib.count l [c]) l=(if b=c then[]::bQ c l else _)
   rw[if_pos h,ih]
  ·by_cases hm:Lib.index l [c] = -1
   ·have hi:Lib.index (b::l) [c] = -1:=by rw[ZK,if_neg h,hm]; rfl
    rw[Lib.count_miss hi]
    rw[Lib.count_miss hm]at ih
    show[b::l]=(if b=c then _ else MT b (bQ c l))
    rw[if_neg h,<- ih]
    rfl
   ·have hge:=Lib.index_ge l [c]
    obtain⟨i,hi⟩:∃ i:Nat,Lib.index l [c]=(i:Int):=⟨(Lib.index l [c]).toNat,by omega⟩
    have QL:Lib.index (b::l) [c]=((i+1:Nat):Int):=by
     rw[ZK,if_neg h,hi,if_neg (by rw[beq_iff_eq]; omega)]; omega
    have c1:=Lib.count_hit (s:=l) (sub:=[c]) (by simp) hi
    have c2:=Lib.count_hit (s:=b::l) (sub:=[c]) (by simp) QL
    have e:(b::l).drop (i+1+[c].length)=l.drop (i+[c].length):=rfl
    rw[e]at c2
    rw[c1,Nat.add_comm]at ih
    rw[c2,Nat.add_comm]
    unfold Lib.splitK at ih ⊢
    rw[if_neg (by rw[hi,beq_iff_eq]; omega),hi]at ih
    rw[if_neg (by rw[QL,beq_iff_eq]; omega),QL]
    show(b::l.take i)::Lib.splitK [c] 0 _ (l.drop (i+1))=(if b=c then _ else MT b (bQ c l))
    rw[if_neg h,<- ih]
    rfl
theorem JJ(s:ByteArray)(pos:Nat)(h:pos<s.size):pos+(Utf8.decode s pos).2<=s.size/\∀ j,1<=j->j<(Utf8.decode s pos).2->128<=(s.get! (pos+j)).toNat:=by
 unfold Utf8.decode
 simp only
 repeat' split
 all_goals simp only[Bool.and_eq_true,decide_eq_true_eq,beq_iff_eq]at *
 all_goals refine⟨by omega,λj h1 h2 => ?_⟩
 all_goals (rcases(by omega:j=1\/j=2\/j=3)with rfl | rfl | rfl<;>omega)
theorem tk(s:ByteArray)(i:Nat)(h:i<s.size):s.data.toList[i]? = some (s.get! i):=by
 have h':i<s.data.toList.length:=h
 rw[List.getElem?_eq_getElem h']
 have:=get_at s i h
 rw[Nat.add_zero]at this
 rw[this]
 rfl
theorem Fv(c:UInt8):∀ (l cur r:zf),(∀ b∈l,b≠c)->gL c cur (l++r)=gL c (cur++l) r
 | [],cur,r,_=>by rw[List.append_nil]; rfl
 | b::l,cur,r,h=>by
  show(if b=c then _ else gL c (cur++[b]) (l++r))=_
  rw[if_neg (h b List.mem_cons_self),Fv c l _ r (λx hx=>h x (List.mem_cons_of_mem _ hx)),List.append_assoc]
  rfl
def ud(l:zf)(a b:Nat):zf:=(l.drop a).take (b-a)
theorem Ln(l:zf){a b:Nat}(n:Nat)(h:a<=b)(hl:b+n<=l.length):ud l a (b+n)=ud l a b++(l.drop b).take n:=by
 unfold ud
 rw[show b+n-a=(b-a)+n by omega,List.take_add,List.drop_drop,show a+(b-a)=b by omega]
def Qn(l:zf)(st:Option Nat)(pos:Nat):zf:=match st with | some a=>ud l a pos | none=>[]
theorem Hk(s:ByteArray):∀ (f pos:Nat) (st:Option Nat) (acc:List (Nat×Nat)),pos<=s.size->s.size<=pos+f->(∀ a,st=some a->a<pos) ->
  (Lib.closeSpans s (Lib.spansFromP (λn=>n==32) s f pos st acc)).map (λx=>ud s.data.toList x.1 x.2)=acc.map (λx=>ud s.data.toList x.1 x.2)++gL 32 (Qn s.data.toList st pos) (s.data.toList.drop pos):=by
 have hlen:s.data.toList.length=s.size:=rfl
 intro f
 induction f with
 | zero =>
  intro pos st acc h1 h2 h3
  have:pos=s.size:=by omega
  subst this
  rw[List.drop_of_length_le (by omega)]
  show(Lib.closeSpans s (acc,st)).map _=_
  cases st with
  | none=>unfold Lib.closeSpans Qn gL; simp
  | some a =>
   have ha:=h3 a rfl
   have vy:ud s.data.toList a s.size≠[]:=λe=>by
    have:=congrArg List.length e
    unfold ud at this
    simp only[List.length_take,List.length_drop,List.length_nil]at this
    omega
   unfold Lib.closeSpans Qn gL
   simp[vy]
 | succ f ih =>
  intro pos st acc h1 h2 h3
  by_cases hp:pos<s.size
  ·have hx:=tk s pos hp
   have qs:pos<s.data.toList.length:=hp
   obtain⟨db1,db2⟩:=JJ s pos hp
   have hw:1<=(Utf8.decode s pos).2:=Lib.decode_width_pos s pos hp
   have hd:s.data.toList.drop pos=s.get! pos::s.data.toList.drop (pos+1):=by
    rw[List.drop_eq_getElem_cons qs]
    rw[List.getElem?_eq_getElem qs]at hx
    injection hx with hx
    rw[hx]
   unfold Lib.spansFromP
   rw[if_pos hp]
   by_cases h32:s.get! pos=32
   ·have Su:Utf8.decode s pos=(32,1):=by
     have h0:(s[pos]'hp).toNat=32:=by rw[<- get_at s pos hp,Nat.add_zero,h32]; rfl
     rw[decode_ascii s pos hp (by omega),h0]
    rw[Su]
    simp only[beq_self_eq_true,if_true]
    rw[hd,h32]
    cases st with
    | none =>
     simp only
     rw[ih (pos+1) none acc (by omega) (by omega) (λa h=>by cases h)]
     show _=acc.map _++(if(32:UInt8)=32 then(if([]:zf)=[]then gL 32 [] _ else _)else _)
     rw[if_pos rfl,if_pos rfl]
     rfl
    | some a =>
     have ha:=h3 a rfl
     have vy:ud s.data.toList a pos≠[]:=λe=>by
      have:=congrArg List.length e
      unfold ud at this
      simp only[List.length_take,List.length_drop,List.length_nil]at this
      omega
     simp only
     rw[ih (pos+1) none _ (by omega) (by omega) (λa h=>by cases h)]
     show _=acc.map _++(if(32:UInt8)=32 then(if ud s.data.toList a pos=[]then _ else ud s.data.toList a pos::gL 32 [] _)else _)
     rw[if_pos rfl,if_neg vy,List.map_append,List.append_assoc]
     rfl
   ·have zd3:((Utf8.decode s pos).1==32)=false:=by
     rw[beq_eq_false_iff_ne]
     by_cases Lj:(s[pos]'hp).toNat<128
     ·rw[decode_ascii s pos hp Lj]
      intro e
      apply h32
      have h0:(s.get! pos).toNat=(s[pos]'hp).toNat:=by rw[<- get_at s pos hp,Nat.add_zero]
      exact UInt8.toNat_inj.1 (by rw[h0]; exact e)
     ·have:=(decode_high s pos hp (by omega)).1
      omega
    rw[zd3]
    simp only[Bool.false_eq_true,if_false]
    generalize (Utf8.decode s pos).2=n at *
    have hch:s.data.toList.drop pos=(s.data.toList.drop pos).take n++s.data.toList.drop (pos+n):=by
     rw[<- List.drop_drop,List.take_append_drop]
    have ya:∀ b∈(s.data.toList.drop pos).take n,b≠32:=λb hb=>by
     obtain⟨j,hj,ej⟩:=List.getElem_of_mem hb
     simp only[List.length_take,List.length_drop]at hj
     rw[List.getElem_take,List.getElem_drop]at ej
     have hg:=tk s (pos+j) (by omega)
     rw[List.getElem?_eq_getElem (by omega)]at hg
     injection hg with hg
     rw[hg]at ej
     rw[<- ej]
     by_cases j0:j=0
     ·subst j0; exact h32
     ·have:=db2 j (by omega) (by omega)
      intro e
      rw[e]at this
      exact absurd this (by decide)
    have fin:∀ a,a<=pos->ud s.data.toList a pos=Qn s.data.toList st pos->(Lib.closeSpans s (Lib.spansFromP (λn=>n==32) s f (pos+n) (some a) acc)).map (λx=>ud s.data.toList x.1 x.2)=acc.map (λx=>ud s.data.toList x.1 x.2)++gL 32 (Qn s.data.toList st pos) (s.data.toList.drop pos):=by
     intro a ha e
     rw[ih (pos+n) (some a) acc (by omega) (by omega) (λx hx=>by cases hx; omega),hch,Fv 32 _ _ _ ya]
     show _++gL 32 (ud s.data.toList a (pos+n)) _=_
     rw[Ln _ n ha (by omega),e]
    cases st with
    | none=>exact fin pos (Nat.le_refl _) (by unfold ud Qn; rw[Nat.sub_self,List.take_zero])
    | some a=>exact fin a (Nat.le_of_lt (h3 a rfl)) rfl
  ·have:pos=s.size:=by omega
   subst this
   rw[Lib.spansFromP_end _ _ _ _ _ _ (by omega),List.drop_of_length_le (by omega)]
   cases st with
   | none=>unfold Lib.closeSpans Qn gL; simp
   | some a =>
    have ha:=h3 a rfl
    have vy:ud s.data.toList a s.size≠[]:=λe=>by
     have:=congrArg List.length e
     unfold ud at this
     simp only[List.length_take,List.length_drop,List.length_nil]at this
     omega
    unfold Lib.closeSpans Qn gL
    simp[vy]
theorem LX(s:ByteArray):(Lib.goFieldsP (λn=>n==32) s).map (·.data.toList)=gL 32 [] s.data.toList:=by
 have h:=Hk s s.size 0 none [] (Nat.zero_le _) (by omega) (λa h=>by cases h)
 unfold Lib.goFieldsP Lib.spansOfP
 rw[List.map_map]
 refine Eq.trans (List.map_congr_left λx _ => ?_) (h.trans (by rw[List.drop_zero]; rfl))
 show(s.extract x.1 x.2).data.toList=ud s.data.toList x.1 x.2
 rw[Lib.extract_data]
 rfl
theorem JB(chars:zf):∀ l:zf,Lib.indexAny l chars=yZ l chars
 | []=>rfl
 | b::l=>by simp only[Lib.indexAny,yZ,JB chars l]
end Go.AM
namespace Go.AM
set_option linter.unusedSectionVars false
variable [vz]
theorem contains_eq(s sub:zf):Lib.contains s sub=decide ((0:Int)<=cn s sub):=by
 unfold Lib.contains
 rw[ET]
theorem RD.PH{κ:KS}{f:Nat}{v:Value}(h:RD κ (.qS f []) v)(hf:Nat.blt f 1000000=true):v=.func (.func f) #[] #[]:=by
 cases h with
 | qS _ _ vs hl _ =>
  have:vs=[]:=List.eq_nil_of_length_eq_zero hl.symm
  subst this
  exact Kq hf []
theorem Fg{κ:KS}{w':World}{A cap:Nat}{t:TypeId}{cur:Array Value}{fz:Nat×Nat}{xs:List zf}(h0:κ.w.heap.size<=A)(h1:A<w'.heap.size)(hh:w'.heap[A]? = some (.cells cur t fz))(wM:xs.length<=cap)
  (hc:∀ i (hi:i<xs.length),cur[i]? = some (.string ⟨xs[i].toArray⟩)):RD (κ.grown w') (.zD (.sl .str) xs) (.slice (some ⟨A,0,none⟩) xs.length cap):=by
 refine RD.zD (.sl .str) xs [.slice (some ⟨A,0,none⟩) xs.length cap] ?_
 have hf:∀ i,i<xs.length->∃ s,xs.getD i []=s/\cur[i]? = some (.string ⟨s.toArray⟩):=λi hi=>⟨_,rfl,by
  rw[List.getD_eq_getElem?_getD,List.getElem?_eq_getElem hi]; exact hc i hi⟩
 refine Rc.sl .str xs A 0 cap (λi=>[.string ⟨(xs.getD i []).toArray⟩]) (.inr ⟨h0,h1⟩) wM (λi hi => ?_) (λi hi j v hv => ?_)
 ·show Rc _ _ .str xs[i] [.string ⟨(xs.getD i []).toArray⟩]
  rw[List.getD_eq_getElem?_getD,List.getElem?_eq_getElem hi]
  exact Rc.str _
 ·obtain⟨s,e1,e2⟩:=hf i hi
  cases j with
  | succ j=>cases hv
  | zero =>
   have hv:some (Value.string ⟨(xs.getD i []).toArray⟩)=some v:=hv
   injection hv with hv
   rw[e1]at hv
   subst hv
   show w'.cell? ⟨A,0+i*Ty.size .str+0,none⟩=_
   rw[show 0+i*Ty.size .str+0=i from by show 0+i*1+0=i; omega]
   simp[World.cell?,hh,e2]
theorem OU{κ:KS}(s sep:zf)(h1:sep.length=1)(t:TypeId) :
  RD (κ.grown (κ.w.alloc (.cells ((Lib.splitB ⟨sep.toArray⟩ 0 (Lib.countB ⟨s.toArray⟩ ⟨sep.toArray⟩) ⟨s.toArray⟩).map Value.string).toArray t))) (.zD (.sl .str) (bQ (sep.headD 0) s))
   (.slice (some ⟨κ.w.heap.size,0,none⟩) (Lib.countB ⟨s.toArray⟩ ⟨sep.toArray⟩+1) (Lib.countB ⟨s.toArray⟩ ⟨sep.toArray⟩+1)):=by
 obtain⟨c,rfl⟩:∃ c,sep=[c]:=by
  match sep,h1 with
  | [c],_=>exact⟨c,rfl⟩
 have hd:=Lib.splitB_data ⟨[c].toArray⟩ 0 (Lib.countB ⟨s.toArray⟩ ⟨[c].toArray⟩) ⟨s.toArray⟩
 have he:Lib.splitK [c] 0 (Lib.count s [c]) s=bQ c s:=H7 c s
 have hd:(Lib.splitB ⟨[c].toArray⟩ 0 (Lib.countB ⟨s.toArray⟩ ⟨[c].toArray⟩) ⟨s.toArray⟩).map (·.data.toList)=bQ c s:=hd.trans he
 have hlen:=Lib.splitB_all ⟨[c].toArray⟩ (Nat.le_refl 1) 0 (Lib.countB ⟨s.toArray⟩ ⟨[c].toArray⟩) ⟨s.toArray⟩ rfl
 generalize Lib.splitB ⟨[c].toArray⟩ 0 (Lib.countB ⟨s.toArray⟩ ⟨[c].toArray⟩) ⟨s.toArray⟩=bs at *
 rw[<- hlen]
 show RD _ (.zD (.sl .str) (bQ c s)) _
 rw[<- hd,show bs.length=(bs.map (·.data.toList)).length from(List.length_map ..).symm]
 refine Fg (cur:=(bs.map Value.string).toArray) (t:=t) (fz:=(0,0)) (Nat.le_refl _) (by show κ.w.heap.size<(κ.w.heap.push _).size; rw[Array.size_push]; omega) (by show(κ.w.heap.push _)[κ.w.heap.size]? = _; rw[Array.getElem?_push,if_pos rfl]) (Nat.le_refl _) (λi hi => ?_)
 rw[List.length_map]at hi
 rw[List.getElem?_toArray,List.getElem?_map,List.getElem?_eq_getElem hi,List.getElem_map]
 rfl
theorem LM{κ:KS}{w':World}{A:Nat}{t:TypeId}(s:zf)(ho:w'.ownsRow κ.w.heap.size t 1 (.slice (some ⟨A,0,none⟩) (Lib.goFieldsP (λn=>n==32) ⟨s.toArray⟩).length (Lib.goFieldsP (λn=>n==32) ⟨s.toArray⟩).length) (Lib.goFieldsP (λn=>n==32) ⟨s.toArray⟩).length ((Lib.goFieldsP (λn=>n==32) ⟨s.toArray⟩).map Value.string)) :
  RD (κ.grown w') (.zD (.sl .str) (gL 32 [] s)) (.slice (some ⟨A,0,none⟩) (Lib.goFieldsP (λn=>n==32) ⟨s.toArray⟩).length (Lib.goFieldsP (λn=>n==32) ⟨s.toArray⟩).length):=by
 have he:(Lib.goFieldsP (λn=>n==32) ⟨s.toArray⟩).map (·.data.toList)=gL 32 [] s:=LX ⟨s.toArray⟩
 generalize Lib.goFieldsP (λn=>n==32) ⟨s.toArray⟩=bs at *
 rw[<- he]
 obtain⟨-,⟨h,-⟩ | ⟨g,cap,cur,hv,hg,hh,hn,wM,uo,NB⟩⟩:=ho
 ·cases h
 ·have e1:A=g:=by injection hv with a b c; injection a with a; injection a with a
  have e2:bs.length=cap:=by injection hv
  subst e1
  have qs:A<w'.heap.size:=(Array.getElem?_eq_some_iff.1 hh).1
  have:=Fg (κ:=κ) (xs:=bs.map (·.data.toList)) (cap:=bs.length) hg qs hh (by rw[List.length_map]; exact Nat.le_refl _) (λi hi=>by
   rw[List.length_map]at hi
   have h2:(cur.toList.take (bs.length*1))[i]? = (bs.map Value.string)[i]? := congrArg (λl=>l[i]?) NB
   rw[List.getElem?_take,if_pos (by omega),List.getElem?_map,List.getElem?_eq_getElem hi]at h2
   rw[<- Array.getElem?_toList,h2,List.getElem_map]
   rfl)
  rwa [List.length_map]at this
end Go.AM
namespace Go.Proofs
open Go.Shelf Go.RowKit Go.Lib
variable {P:Program} {ρ:Ren}
set_option maxHeartbeats 8000000 in
set_option maxRecDepth 1000000 in
theorem Any.lH(L:Lays.n152 P ρ)(s:ByteArray)(r:Int)(w:World)(hs:∀ b∈s.data.toList,b.toNat<128)(h1:128<=r)(h2:r<=2147483647)(h63:s.size<4294967281) :
  Calls P (ρ.f 152) #[.string s,.int .i32 r] w λe w'=>e=.returned (.int .i64 (-1))/\Below w.heap.size w w':=by
 have mixed:=L.mixed
 have t3:=L.t3; have a3:=L.a3; have z3:=L.z3; have v3:=L.v3
 have t4:=L.t4; have a4:=L.a4; have z4:=L.z4; have v4:=L.v4
 have t5:=L.t5; have a5:=L.a5; have z5:=L.z5; have v5:=L.v5
 have t9:=L.t9; have a9:=L.a9; have z9:=L.z9; have v9:=L.v9
 have t21:=L.t21; have a21:=L.a21; have z21:=L.z21; have v21:=L.v21
 have zfv:∀ args w,(callFunc (ρ.f 137) args).run P w=.ok (.enter (ρ.f 137) args) w:=enters_of L.f137 (by kernel_rfl) rfl
 have zgE:∀ args w,(callFunc (ρ.f 119) args).run P w=.ok (.enter (ρ.f 119) args) w:=enters_of L.f119 (by kernel_rfl) rfl
 have HS:Aside (∀ b∈s.data.toList,b.toNat<128):=hs
 clear hs
 by_cases hE:r=65533
 ·subst hE
  go_enter L.f152,Body.n152_ntmps ρ
  go_wp2
  go_loopg [5,6] s.size (λg _ _ wx=>∃ i:Nat,i+g=s.size/\wx=w.iter s i)
  case atStart=>exact⟨0,by omega,rfl⟩
  case round =>
   obtain⟨i,hig,rfl⟩:=hrel
   cases gk with
   | zero =>
    obtain rfl:i=s.size:=by omega
    have hnx:=run_next_end (P:=P) w s s.size
    go_wp2
    go_ret
    exact⟨rfl,(Below.refl _ _).alloc (Nat.le_refl _) _⟩
   | succ g =>
    have hi:i<s.size:=by omega
    obtain⟨x,hx⟩:∃ x:UInt8,s[i]'hi=x:=⟨_,rfl⟩
    have VP:s.data.toList[i]? = some x:=by rw[<- hx]; exact Lib.data_getElem? s i hi
    have z2q:x.toNat<128:=HS.out x (List.mem_of_getElem? VP)
    have hnx:=λty=>run_next_ascii (P:=P) w s i ty hi (by rw[hx]; exact z2q)
    rw[hx]at hnx
    have vy:((x.toNat:Int)==65533)=false:=beq_eq_false_iff_ne.2 (by omega)
    clear VP hx
    go_wp2
    go_roundg g
    case measure=>omega
    case rel=>exact⟨i+1,by omega,rfl⟩
 ·have vy:(r==65533)=false:=beq_eq_false_iff_ne.2 hE
  have c0:decide ((0:Int)<=r)=true:=decide_eq_true (by omega)
  have c1:decide (r<128)=false:=decide_eq_false (by omega)
  cases hv:Lib.validRune r
  ·go_enter L.f152,Body.n152_ntmps ρ
   go_wp2_with (go_at_fn (ρ.f 119); refine(Any.utf8_ValidRune { L with } _ _).mono ?_; rintro e w' ⟨rfl,hw⟩; rw[hw,hv])
   go_ret
   exact⟨rfl,Below.refl _ _⟩
  ·obtain⟨g1,g2,g3⟩:=encode_facts r (by rw[validRune_eq]; exact hv) h1
   have hu:(P.underlying (ρ.t 21)).isSome=true:=by rw[t21]; rfl
   have u21:=run_underlying L.t21; have u9:=run_underlying L.t9; have u3:=run_underlying L.t3
   go_enter L.f152,Body.n152_ntmps ρ
   go_wp2_with (go_at_fn (ρ.f 119); refine(Any.utf8_ValidRune { L with } _ _).mono ?_; rintro e w' ⟨rfl,hw⟩; rw[hw,hv])
   clear hw
   go_step3
   go_wp2
   obtain⟨m,hm⟩:∃ m:Nat,(Utf8.encode r).size=m+1:=⟨(Utf8.encode r).size-1,by omega⟩
   have uo:((Utf8.encode r).size:Int)-1=(m:Int):=by omega
   simp only[uo]
   by_cases qs:m<s.size
   ·have hl:decide ((m:Int)<(s.size:Int))=true:=decide_eq_true (by omega)
    obtain⟨x,hx⟩:∃ x:UInt8,s[m]'qs=x:=⟨_,rfl⟩
    obtain⟨y,hy⟩:∃ y:UInt8,(Utf8.encode r)[m]'(by omega)=y:=⟨_,rfl⟩
    have z2q:x.toNat<128:=HS.out x (by rw[<- hx]; exact List.mem_of_getElem? (Lib.data_getElem? s m qs))
    have zdX:128<=y.toNat:=by rw[<- hy]; have:=g3 (by omega); simpa[hm]using this
    have Xb:(0:Int)<=(m:Int)+1:=by omega
    have Es:(m:Int)+1<=(s.size:Int):=by omega
    have Mo:¬ ((m:Int)+1<0):=by omega
    have H2:¬ ((s.size:Int)<(m:Int)+1):=by omega
    have hxy:((x.toNat:Int)==(y.toNat:Int))=false:=beq_eq_false_iff_ne.2 (by omega)
    have hwr:IntKind.i64.wrap ((m:Int)+1)=(m:Int)+1:=wrap_small _ (by omega) (by omega)
    have F3:((y.toNat:Int)).toNat.toUInt8=y:=by simp
    have zfk:Lib.indexByte (List.take (s.size-(m+1)) (List.drop (m+1) s.data.toList)) y<0:=by
     have Kx:=Lib.contains_iff_indexByte (List.take (s.size-(m+1)) (List.drop (m+1) s.data.toList)) y
     have hc:(List.take (s.size-(m+1)) (List.drop (m+1) s.data.toList)).contains y=false:=by
      rw[List.contains_eq_mem,decide_eq_false_iff_not]
      intro hm
      have:=HS.out y (List.mem_of_mem_drop (List.mem_of_mem_take hm))
      omega
     rw[hc]at Kx
     have:=of_decide_eq_false Kx.symm
     omega
    have hsl:∀ W:World,(Instr.slice (ρ.t 9) (.string s) (some (.int .i64 ((m:Int)+1))) none none).run P W=.ok (.string (s.extract (m+1) s.size)) W:=λW=>by rw[run_slice_string_from_if W _ _ _ _ t9,if_pos ⟨Xb,Es⟩]; rfl
    go_rounds 1
    go_step3
    go_wp2
    go_region_o
    all_goals go_wp2
    all_goals go_region_with_o ((go_at_fn (ρ.f 137); refine(Any.strings_IndexByte { L with } _ _ _).mono ?_; rintro e w' ⟨rfl,hw⟩; rw[hw,F3]))
    all_goals go_wp2
    change Exit.inBlock 2 _ Exit.ret _ _
    go_wp2
    change Exit.inBlock 0 _ Exit.ret _ _
    go_ret
    exact⟨rfl,⟨rfl,rfl,rfl,Nat.le_refl _,λ_ _=>rfl⟩⟩
   ·have hl:decide ((m:Int)<(s.size:Int))=false:=decide_eq_false (by omega)
    go_rounds 1
    change Exit.inBlock 0 _ Exit.ret _ _
    go_ret
    exact⟨rfl,Below.refl _ _⟩
set_option maxHeartbeats 8000000 in
set_option maxRecDepth 1000000 in
theorem Any.fq(L:Lays.n153 P ρ)(s chars:ByteArray)(w:World)(h2:2<=chars.size)(h8:s.size<=8)(ZF:chars.size<4294967281)(hac:∀ b∈chars.data.toList,b.toNat<128) :
  Calls P (ρ.f 153) #[.string s,.string chars] w λe w'=>e=.returned (.int .i64 (Lib.indexAny s.data.toList chars.data.toList))/\Below w.heap.size w w':=by
 have HC:Aside (∀ b∈chars.data.toList,b.toNat<128):=hac
 clear hac
 have zfd:chars.toList.isEmpty=false:=by
  rw[Lib.toList_data]
  cases h:chars.data.toList with
  | nil=>have:=Lib.size_eq chars; rw[h,List.length_nil]at this; omega
  | cons _ _=>rfl
 have H2:((chars.size:Int)==1)=false:=beq_eq_false_iff_ne.2 (by omega)
 have h8z:decide ((8:Int)<(s.size:Int))=false:=decide_eq_false (by omega)
 have t3:=L.t3; have a3:=L.a3; have z3:=L.z3; have v3:=L.v3
 have t4:=L.t4; have a4:=L.a4; have z4:=L.z4; have v4:=L.v4
 have t5:=L.t5; have a5:=L.a5; have z5:=L.z5; have v5:=L.v5
 have t9:=L.t9; have a9:=L.a9; have z9:=L.z9; have v9:=L.v9
 have t21:=L.t21; have a21:=L.a21; have z21:=L.z21; have v21:=L.v21
 have zg0:∀ args w,(callFunc (ρ.f 152) args).run P w=.ok (.enter (ρ.f 152) args) w:=enters_of L.f152 (by kernel_rfl) rfl
 have zfs:∀ args w,(callFunc (ρ.f 226) args).run P w=.ok (.enter (ρ.f 226) args) w:=enters_of L.f226 (by kernel_rfl) rfl
 go_enter L.f153,Body.n153_ntmps ρ
 go_wp2_with (go_at_fn (ρ.f 226); refine(Any.strings_shouldUseASCIISet { L with } _ _).mono ?_; rintro e w' ⟨rfl,hw⟩; rw[hw,h8z])
 go_loopw [9,10] (λ_ _ wr=>∃ pos:Nat,wr.heap[w.heap.size]? = some (.stringIter s pos)/\Below w.heap.size w wr/\pos<=s.size/\Lib.NoAny s.data.toList chars.data.toList pos) (λ_ _ wr=>s.size-wr.iterPos w.heap.size)
 case atStart=>exact⟨0,World.iter_heap w s 0,(Below.refl _ w).alloc (Nat.le_refl _) _,Nat.zero_le _,Lib.NoAny.zero _ _⟩
 case round =>
  obtain⟨pos,hit,Mp,hps,ya⟩:=hrel
  have HN:Aside (Lib.NoAny s.data.toList chars.data.toList pos):=ya
  clear ya
  have z2z:=iterPos_of hit
  by_cases hp:pos<s.size
  ·have hnx:∀ ty,(Instr.next (.pointer (some ⟨w.heap.size,0,none⟩)) true ty).run P wr=_:=λty=>Lib.run_next_any_at wr w.heap.size s pos ty hit hp
   have C8:=Lib.iterAt_heap wr w.heap.size s pos (pos+(Utf8.decode s pos).2) hit
   have PD:=Lib.below_iterAt Mp (k:=w.heap.size) (Nat.le_refl _) s (pos+(Utf8.decode s pos).2)
   obtain⟨W1,hW1⟩:∃ W1,W1=wr.iterAt w.heap.size s (pos+(Utf8.decode s pos).2):=⟨_,rfl⟩
   rw[<- hW1]at hnx C8 PD
   have z8W:=lt_of_block C8
   have hwd:=Lib.decode_width_pos s pos hp
   obtain⟨db1,db2⟩:=Go.AM.JJ s pos hp
   have VP:=Go.AM.tk s pos hp
   clear hW1 hit Mp
   by_cases Lj:(s[pos]'hp).toNat<128
   ·have Su:=decode_ascii s pos hp Lj
    rw[Su]at hnx C8 hwd
    have Xz:s.get! pos=s[pos]'hp:=by rw[<- get_at s pos hp,Nat.add_zero]
    rw[Xz]at VP
    generalize s[pos]'hp=x at *
    have Kx:=Lib.contains_iff_indexByte chars.data.toList x
    have F3:((x.toNat:Int)).toNat.toUInt8=x:=by simp
    have Hx:Aside (s.data.toList[pos]? = some x):=VP
    clear VP Su db2 Xz
    cases QF:chars.data.toList.contains x
    ·rw[QF]at Kx
     have qs:¬ ((0:Int)<=Lib.indexByte chars.data.toList x):=of_decide_eq_false Kx.symm
     clear Kx
     go_wp2_with (go_at_fn (ρ.f 152); refine(Any.strings_IndexRune_ascii { L with } _ _ _ (by omega) (by omega)).mono ?_; rintro e w' ⟨rfl,hw⟩; rw[hw,F3])
     go_roundw
     case rel=>exact⟨pos+1,C8,PD,by omega,HN.out.succ Hx.out QF⟩
     case measure=>rw[iterPos_of C8,z2z]; omega
    ·rw[QF]at Kx
     have hge:(0:Int)<=Lib.indexByte chars.data.toList x:=of_decide_eq_true Kx.symm
     clear Kx
     go_wp2_with (go_at_fn (ρ.f 152); refine(Any.strings_IndexRune_ascii { L with } _ _ _ (by omega) (by omega)).mono ?_; rintro e w' ⟨rfl,hw⟩; rw[hw,F3])
     go_ret
     exact⟨by rw[Lib.indexAny_hit HN.out Hx.out QF]; rfl,PD⟩
   ·have hr1:(128:Int)<=((Utf8.decode s pos).1:Int):=by have:=(decode_high s pos hp (by omega)).1; omega
    have hr2:((Utf8.decode s pos).1:Int)<=2147483647:=by have:=decode_le s pos; omega
    have HN2:Aside (Lib.NoAny s.data.toList chars.data.toList (pos+(Utf8.decode s pos).2)):=λj b hj hb=>by
     by_cases h:j<pos
     ·exact HN.out j b h hb
     ·have hg:=Go.AM.tk s j (by omega)
      rw[hg]at hb
      injection hb with hb
      have zdS:128<=b.toNat:=by
       rw[<- hb]
       by_cases h0:j=pos
       ·subst h0
        have Xz:s.get! j=s[j]'hp:=by rw[<- get_at s j hp,Nat.add_zero]
        rw[Xz]; omega
       ·have:=db2 (j-pos) (by omega) (by omega)
        rwa [show pos+(j-pos)=j by omega]at this
      rw[List.contains_eq_mem,decide_eq_false_iff_not]
      intro hm
      have:=HC.out b hm
      omega
    clear VP db2 HN
    generalize (Utf8.decode s pos).1=r at *
    generalize (Utf8.decode s pos).2=n at *
    go_wp2_with (go_at_fn (ρ.f 152); refine(Any.lH { L with } _ _ _ HC.out hr1 hr2 ZF).mono ?_; rintro e w' ⟨rfl,hB⟩)
    go_roundw
    case rel=>exact⟨pos+n,by rw[hB.block _ z8W]; exact C8,PD.trans (hB.mono PD.size),by omega,HN2.out⟩
    case measure=>rw[iterPos_of ((hB.block _ z8W).trans C8),z2z]; omega
  ·obtain rfl:pos=s.size:=by omega
   have hnx:∀ ty,(Instr.next (.pointer (some ⟨w.heap.size,0,none⟩)) true ty).run P wr=_:=λty=>Lib.run_next_end_at wr w.heap.size s s.size ty hit (by omega)
   go_wp2
   go_ret
   exact⟨by rw[Lib.indexAny_none (by rw[<- Lib.size_eq]; exact HN.out)]; rfl,Mp⟩
theorem Any.ni(L:Lays.n153 P ρ)(hv116:∀ w,(zeroValue (ρ.t 116)).run P w=.ok (.agg (Array.replicate 256 (.bool false))) w)(z8K:(P.info? (ρ.t 116)).map (·.size)=some 256)(s chars:ByteArray)(w:World)(h2:2<=chars.size)(hs:s.size<4294967281)(ZF:chars.size<4294967281)
  (hac:∀ b∈chars.data.toList,b.toNat<128) :
  Calls P (ρ.f 153) #[.string s,.string chars] w λe w'=>e=.returned (.int .i64 (Lib.indexAny s.data.toList chars.data.toList))/\Below w.heap.size w w':=by
 by_cases h8:s.size<=8
 ·exact Any.fq L s chars w h2 h8 ZF hac
 ·refine(Any.strings_IndexAny_long L hv116 z8K s chars w (by omega) (by omega) hs ZF λj b h=>hac b (List.mem_of_getElem? h)).mono λe w' ⟨h1,h2⟩=>⟨h1,?_⟩
  rw[h2]
  exact((Below.refl _ _).alloc (Nat.le_refl _) _).alloc (by simp) _
end Go.Proofs