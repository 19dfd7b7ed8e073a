/-
  The abstract machine, part E: texts of our own, the same for each claim.
-/
import Derived.Test.YthhgaidlooddpaaGreatDoorAmD
import Derived.Below
import Derived.Lib.Repeat
import Derived.Lib.ItoaNum
import Derived.Lib.IndexMore
import Derived.Lib.AsciiSet
import Derived.Lib.Strings
import Derived.Sort.Grow
import Derived.Deep.Draws
import Derived.Test.YthhgaidlooddpaaGreatDoorAmA
import Derived.Lib.Builder
import Derived.Recover
import Derived.Lib.Split
import Derived.Lib.SplitLaws
import Derived.Lib.FieldsP
import Derived.Lib.IndexAny
import Derived.Laws.RangeAny
import Derived.Lib.RuneCount
import Derived.Laws.AppendOwn
import Derived.Shelf.Strings.IndexAnyAll
import Derived.Laws.Runes
import Derived.Shelf.Small.Utf8
import Derived.WalkMore
import Derived.Handy
import Derived.Shelf.RegionOpenPlain
import Derived.WalkSmall
import Derived.Lib.OthersKept
set_option linter.unusedVariables false
namespace Go.AM
set_option linter.unusedSectionVars false
variable [vi]
open Go.RowKit
theorem dW{P:Program}{g:Nat}{fn:Func}{args:Array Value}(hf:P.funcs[g]? = some fn) (hn:(fn.name == "runtime.NumGoroutine")=false) (hb:fn.body.isNone=false) (w:World) :
  (callFunc g args).run P w=.ok (.enter g args) w:=wc hf hn hb w
def KS.grown(κ:KS)(w':World):KS:={ κ with w:=w',ok:=λk=>κ.ok k\/(κ.w.heap.size<=k/\k<w'.heap.size) }
theorem wi{P:Program}{g:Nat}{fn:Func}{d:Ur}(hf:P.funcs[g]? = some fn) (hn:(fn.name == "runtime.NumGoroutine")=false) (hb:fn.body.isNone=false)
  (H:∀ (κ:KS) (x:yi d.ps) (zn:List Value) (y:Gy d.rs),(d.F x).leads y->Inv κ->qj κ (pB d.ps x) zn ->
   Calls P g zn.toArray κ.w λe w'=>Below κ.w.heap.size κ.w w'/\(Ext κ (κ.grown w')->xR (κ.grown w') (.ret (nZ d.rs y)) e)):zT P g d:=by
 intro κ x zn y xm hy hI ha
 refine .inl ⟨dW hf hn hb κ.w,(H κ x zn y hy hI ha).mono ?_⟩
 rintro e w' ⟨hB,he⟩
 have X0:κ.ph=[]:=List.eq_nil_of_length_eq_zero (by rw[hI.len,xm]; rfl)
 have hx:Ext κ (κ.grown w'):=⟨hB.os,hB.tape,hB.output,hB.size,λk hk=>⟨.inl hk,hB.block k (hI.jN k hk)⟩,λk hk=>hk.elim .inl λh=>.inr (.inl h.1),λ_ _ _ h=>.inl h,λb d h=>by grind,
   λb v0 e xs h=>by grind,λb h=>by grind,Nat.le_refl _,λk hk _=>hB.block k hk⟩
 refine⟨κ.grown w',rfl,xm,⟨hI.len,λk hk=>hk.elim (λh=>Nat.lt_of_lt_of_le (hI.jN k h) hB.size) (·.2),λb blk n hb => ?_,hI.inj,λb x hb => ?_,hI.gl.mono hx.same⟩,hx,he hx⟩
 ·have:κ.ph[b]? = some (some (blk,n)):=hb
  grind
 ·have:κ.st[b]? = some x:=hb
  grind
theorem HB(u:Nat):Lib.decDigits u=Q7 u:=by
 induction u using Nat.strongRecOn with
 | _ u ih =>
  rw[Lib.decDigits,Q7]
  grind
theorem Il(n:Int):Lib.itoa n=nP n:=by
 unfold Lib.itoa nP
 rw[HB,HB]
theorem G8(w:World)(k:Nat)(os:Array Obj):RowKit.Below w.heap.size w (Go.Sort.grow (w.drewN k) os):=by
 refine⟨rfl,rfl,rfl,?_,λb hb => ?_⟩
 ·simp
 ·show(w.heap++os)[b]? = w.heap[b]?
  grind
theorem below_drewN(w:World)(k:Nat):RowKit.Below w.heap.size w (w.drewN k):=⟨rfl,rfl,rfl,Nat.le_refl _,λ_ _=>rfl⟩
theorem lZ(w:World):RowKit.Below w.heap.size w w:=⟨rfl,rfl,rfl,Nat.le_refl _,λ_ _=>rfl⟩
theorem rT(w:World)(o:Obj):RowKit.Below w.heap.size w (w.alloc o):=by
 refine⟨rfl,rfl,rfl,?_,λb hb => ?_⟩
 ·simp
 ·show(w.heap.push o)[b]? = w.heap[b]?
  grind
theorem Gm(s sub:zf):Lib.index s sub=gK s sub:=by
 induction s with
 | nil=>rfl
 | cons b l ih=>simp only[Lib.index,gK,ih]
theorem LX(s:zf)(c:UInt8):Lib.indexByte s c=eK s c:=by
 induction s with
 | nil=>rfl
 | cons b l ih=>simp only[Lib.indexByte,eK,ih]
theorem En(s sep:zf):Lib.cut s sep=wm s sep:=by
 unfold Lib.cut wm
 rw[Gm]
theorem HX{w:World}{ok:Nat->Prop}(f:Nat->Bool):∀ (n k:Nat),Rc w ok (gA .bool n) (BM (e:=.bool) f n k) ((List.range' k n).map λj=>Value.bool (f j))
 | 0,_=>.nil
 | n+1,k=>by
  exact Rc.cons .bool (gA .bool n) (f k) (BM (e:=.bool) f n (k+1)) [Value.bool (f k)] _ (.bool _) (HX f n (k+1))
theorem Fm{κ:KS}(s:zf):RD κ (.zx (gA .bool 256) (yZ s)) (.agg (Lib.setCells s)):=by
 have h:=RD.zx (κ:=κ) (gA .bool 256) (yZ s) _ (HX (λj=>s.contains (UInt8.ofNat j)) 256 0)
 have e:pk (gA .bool 256) ((List.range' 0 256).map λj=>Value.bool (s.contains (UInt8.ofNat j)))=.agg (Lib.setCells s):=by
  unfold pk
  rw[show(gA .bool 256).isAgg=true from rfl,Lib.setCells_eq]
  show Value.agg (List.toArray _)=_
  congr 1
  apply Array.ext'
  rw[Array.toList_map,Array.toList_range,List.range_eq_range']
 grind
theorem RD.z27{κ:KS}{a b:D}{u v:Value}(h:RD κ a u)(k:RD κ b v):RD κ (.jW [a,b]) (.tuple #[u,v]):=by
 have:=qj.cons h (qj.cons k qj.nil)
 exact .jW [a,b] [u,v] this.1 this.2
theorem RD.z4j{κ:KS}{a b c:D}{u v z:Value}(h:RD κ a u)(k:RD κ b v)(l:RD κ c z):RD κ (.jW [a,b,c]) (.tuple #[u,v,z]):=by
 have:=qj.cons h (qj.cons k (qj.cons l qj.nil))
 exact .jW [a,b,c] [u,v,z] this.1 this.2
theorem HL(l:List UInt8):∀ c,Lib.repeatL l c=bB l c
 | 0=>rfl
 | c+1=>by simp[Lib.repeatL,bB,HL l c]
end Go.AM
namespace Go.AM
set_option linter.unusedSectionVars false
variable [vi]
open Go.RowKit
theorem VY{w:World}{blk:Nat}{cs:Array Value}{t:TypeId}{fz:Nat×Nat}{v:Value}(h:w.heap[blk]? = some (.cells cs t fz)):w.setCell ⟨blk,0,none⟩ v=w.setRow blk (cs.setIfInBounds 0 v):=by
 unfold World.setCell World.setRow
 congr 1
 grind
def Y6(t:Nat):List It:=[.v (.st [.op 0 t,.row 1 (.int .u8)]),.a (.int .u8)]
def FE(t:Nat):List Bk:=[.var (.st [.op 0 t,.row 1 (.int .u8)]),.arr (.int .u8)]
def ccD(t:Nat):j3:=⟨[.ptr],⟨Y6 t,[(0,.ptr 0 0)],FE t⟩,[],⟨Y6 t,[],FE t⟩,0,λx=>.ret x⟩
theorem Vm{P:Program}{g t:Nat}(tX:∀ args w,(callFunc g args).run P w=.ok (.enter g args) w)
  (z2x:∀ (b:Nat) (w:World),w.cell? ⟨b,0,none⟩=some (.pointer (some ⟨b,0,none⟩))->Calls P g #[.pointer (some ⟨b,0,none⟩)] w λe w'=>e=.returned (.tuple #[])/\w'=w)
  (Rg:∀ (b:Nat) (w:World),w.cell? ⟨b,0,none⟩=some (.pointer none)->w.shape? b=some (t,2)->w.frozen? ⟨b,0,none⟩=false ->
   Calls P g #[.pointer (some ⟨b,0,none⟩)] w λe w'=>e=.returned (.tuple #[])/\w'=w.setCell ⟨b,0,none⟩ (.pointer (some ⟨b,0,none⟩))):xA P g (ccD t):=by
 intro κ x zn y xm hy hI hlen hR
 cases hy
 have h0:κ.st[0]? = some (.var (.agg [.jr 0 t,.ms 1 (List.length x.2) (.int .u8) 0 (List.length x.2)])):=by rw[xm]; rfl
 obtain⟨blk,n,cs,t',p1,p2,p3,p4,p5⟩:=hI.blk 0 _ h0
 obtain rfl:t'=t:=p5.2 t rfl
 obtain⟨v0,hv0,L1⟩:=hR.get 0 (.ptr 0 0) rfl
 have hv:v0=.pointer (some ⟨blk,0,none⟩):=by
  cases L1 with
  | ptr _ _ cC n' d hd hp=>grind
 have yk:zn.toArray = #[.pointer (some ⟨blk,0,none⟩)]:=by
  match zn,hlen with
  | [a],_ =>
   grind
 obtain⟨pv,us,pj,g1,g2⟩:=qj.cons_inv p4
 obtain⟨bv,us',OL,g3,g4⟩:=qj.cons_inv g2
 have:=g4.zN
 subst this
 subst OL
 have Qk:cs = #[pv,bv]:=by rw[<- Array.toArray_toList (xs:=cs),pj]
 subst Qk
 have By:∀ κ':KS,xR κ' (.ret []) (.returned (.tuple #[])):=λκ'=>⟨.tuple #[],rfl,.jW [] [] rfl (λi h=>absurd h (Nat.not_lt_zero i))⟩
 refine .inl ⟨tX _ _,?_⟩
 rw[yk]
 have used:pv=.pointer (some ⟨blk,0,none⟩)->Calls P g #[.pointer (some ⟨blk,0,none⟩)] κ.w λe w'=>∃ (κ':KS) (ds:List D),κ'.w=w'/\κ'.st=(ccD t').out.st x/\Inv κ'/\Ext κ κ'/\ku 0 ((ccD t').out.fr x)=some ds/\xR κ' (.ret ds) e:=by
  intro LD
  refine(z2x blk κ.w (by rw[Lib.cell_of_heap p2,LD]; rfl)).mono ?_
  rintro e w' ⟨rfl,rfl⟩
  exact⟨κ,[],rfl,xm,hI,Ext.refl κ,rfl,By κ⟩
 cases g1 with
 | yF _ _ cC n' d hd hp=>rw[p1]at hp; cases hp; exact used rfl
 | yG _ _ d hd =>
  refine(Rg blk κ.w (by rw[Lib.cell_of_heap p2]; rfl) (by simp[World.shape?,p2]) (by simp[World.frozen?,p2])).mono ?_
  rintro e w' ⟨rfl,rfl⟩
  rw[VY p2]
  have hex:=dq (cs := #[.pointer (some ⟨blk,0,none⟩),bv]) (x:=.var (.agg [.jr 0 t',.ms 1 (List.length x.2) (.int .u8) 0 (List.length x.2)])) hI p1 h0 trivial
  refine⟨κ.VG 0 blk #[.pointer (some ⟨blk,0,none⟩),bv] (.var (.agg [.jr 0 t',.ms 1 (List.length x.2) (.int .u8) 0 (List.length x.2)])),[],rfl,?_,nu hI p1 h0 trivial ?_,hex,rfl,By _⟩
  ·show κ.st.set 0 _=_
   rw[Q0 h0]; exact xm
  ·refine⟨blk,n,_,t',p1,setRow_heap _ _ _ _ _ _ p2,p3,?_,p5⟩
   refine .cons (.yF 0 t' blk n _ (by show(κ.st.set 0 _)[0]? = _; rw[Q0 h0]; exact h0) p1) (.cons (g3.mono hex) .nil)
def Fx(t:Nat):j3:=⟨[.ptr],⟨Y6 t,[(0,.ptr 0 0)],FE t⟩,[],⟨[.s 0 (.zx .str),.v (.st [.op 0 t,.un])],[],[.var (.st [.op 0 t,.un]),.dead]⟩,1,
 λx=>On x.2⟩
theorem Ij{κ:KS}{w':World}{t:Nat}{xs:List Int}(xm:κ.st=[.var (.agg [.jr 0 t,.ms 1 xs.length (.int .u8) 0 xs.length]),.arr xs.length (.int .u8) xs])(hI:Inv κ)
  (h1:w'.os=κ.w.os) (h2:w'.tape=κ.w.tape) (h3:w'.output=κ.w.output) (h4:κ.w.heap.size<=w'.heap.size)
  (h5:∀ k,k<κ.w.heap.size->(∀ n:Nat,κ.ph[1]? ≠ some (some (k,n)))->w'.heap[k]? = κ.w.heap[k]?) :
  ∃ κ':KS,κ'.w=w'/\κ'.st=[.var (.agg [.jr 0 t,.lI]),.dead]/\Inv κ'/\Ext κ κ':=by
 have b0:κ.st[0]? = some (.var (.agg [.jr 0 t,.ms 1 xs.length (.int .u8) 0 xs.length])):=by rw[xm]; rfl
 have b1:κ.st[1]? = some (.arr xs.length (.int .u8) xs):=by rw[xm]; rfl
 have hlen:κ.st.length=2:=by rw[xm]; rfl
 let κ':KS:={ κ with w:=w',st:=[.var (.agg [.jr 0 t,.lI]),.dead] }
 have hk:∀ k,κ.ok k->w'.heap[k]? = κ.w.heap[k]? := λk hk=>h5 k (hI.jN k hk) λn h=>(hI.apart 1 k n h).2 hk
 have rk:Yf κ.w w' κ.ok κ.ok:=λk h=>⟨h,hk k h⟩
 have hx:Ext κ κ':=by
  refine⟨h1,h2,h3,h4,rk,λk h=>.inl h,λ_ _ _ h=>.inl h,λb d h=>⟨?_,rfl⟩,λb v0 e mc h=>.inl ?_,λb h => ?_,by show κ.st.length<=2; omega,λk hk hn=>h5 k hk (hn 1)⟩
  ·grind
  ·grind
  ·grind
 refine⟨κ',rfl,rfl,⟨by show κ.ph.length=2; rw[hI.len,hlen],λk h=>Nat.lt_of_lt_of_le (hI.jN k h) h4,λb blk n h=>⟨Nat.lt_of_lt_of_le (hI.apart b blk n h).1 h4,(hI.apart b blk n h).2⟩,hI.inj,λb y hb => ?_,hI.gl.mono rk⟩,hx⟩
 match b,hb with
 | 0,hb =>
  cases hb
  obtain⟨blk,n,cs,t',p1,p2,p3,p4,p5⟩:=hI.blk 0 _ b0
  have vP:∀ m:Nat,κ.ph[1]? ≠ some (some (blk,m)):=λm h=>by
   have:=hI.inj 0 1 blk n m p1 h
   omega
  refine⟨blk,n,cs,t',p1,(h5 blk (hI.apart 0 blk n p1).1 vP).trans p2,p3,?_,?_,λT hT=>p5.2 T hT⟩
  ·obtain⟨pv,us,pj,g1,g2⟩:=qj.cons_inv p4
   obtain⟨bv,us',OL,g3,g4⟩:=qj.cons_inv g2
   have:=g4.zN
   subst this
   subst OL
   rw[pj]
   refine .cons (g1.mono hx) (.cons (.lI bv (g3.sD rfl)) .nil)
  ·intro x JA
   simp only[zR,List.mem_cons,List.not_mem_nil,or_false]at JA
   rcases JA with rfl | rfl<;>rfl
 | 1,hb=>cases hb; trivial
 | b+2,hb=>simp[κ']at hb
theorem C0{n:Int}(h0:0<=n)(h1:n<256):(((byteOf n).toNat:Nat):Int)=n:=by
 unfold byteOf
 have:(UInt8.ofNat n.toNat).toNat=n.toNat:=by
  rw[UInt8.toNat_ofNat']
  omega
 grind
theorem KQ{P:Program}{g t:Nat}(tX:∀ args w,(callFunc g args).run P w=.ok (.enter g args) w)
  (ZL:∀ (b:Nat) (p:Value) (w:World),w.heap[b]? = some (.cells #[p,.slice none 0 0] t (0,0))->Calls P g #[.pointer (some ⟨b,0,none⟩)] w λe w'=>e=.returned (.string ⟨#[]⟩)/\w'=w.drew)
  (ez:∀ (b g' o cap:Nat) (p:Value) (w:World),cap≠0->w.heap[b]? = some (.cells #[p,.slice (some ⟨g',o,none⟩) 0 cap] t (0,0))->Calls P g #[.pointer (some ⟨b,0,none⟩)] w λe w'=>e=.returned (.string ⟨#[]⟩)/\w'=w.drew)
  (DX:∀ (b g' cap:Nat) (p:Value) (cur:Array Value) (l:List UInt8) (w:World),l≠[]->l.length<=cap->l.length<=140737488355328->w.heap[b]? = some (.cells #[p,.slice (some ⟨g',0,none⟩) l.length cap] t (0,0)) ->
   w.heap[g']? = some (.cells cur lE.u8 (0,0))->l.length<=cur.size->(∀ j x,l[j]? = some x->w.cell? ⟨g',j,none⟩=some (.int .u8 x.toNat)) ->
   Calls P g #[.pointer (some ⟨b,0,none⟩)] w λe w'=>e=.returned (.string ⟨l.toArray⟩)/\w'=w.drew.freeze ⟨g',0,none⟩ l.length)
  (WV:∀ (b g' o:Nat) (p:Value) (cur:Array Value) (w:World),w.heap[b]? = some (.cells #[p,.slice (some ⟨g',o,none⟩) 0 0] t (0,0))->w.heap[g']? = some (.cells cur lE.u8 (0,0)) ->
   Calls P g #[.pointer (some ⟨b,0,none⟩)] w λe w'=>e=.returned (.string ⟨#[]⟩)/\w'=w.drew.alloc (.view ⟨g',o,none⟩ lE.u8)) 
  {κ:KS} {zn:List Value} {xs:List Int} (R5:κ.st=[.var (.agg [.jr 0 t,.ms 1 xs.length (.int .u8) 0 xs.length]),.arr xs.length (.int .u8) xs])
  (K2:∀ n∈xs,(0:Int)<=n/\n<256) (Nz:xs.length<=140737488355328) (hI:Inv κ) (hlen:zn.length=1) (hd:∃ v,zn.toArray[0]? = some v/\RD κ (.ptr 0 0) v) :
  vL P g zn.toArray κ.w λe w'=>∃ (κ':KS) (ds:List D),κ'.w=w'/\κ'.st=(Fx t).out.st (xy xs,())/\Inv κ'/\Ext κ κ'/\ku 1 ((Fx t).out.fr (xy xs,()))=some ds/\xR κ' (.ret ds) e:=by
 have h0:κ.st[0]? = some (.var (.agg [.jr 0 t,.ms 1 (xs.length) (.int .u8) 0 (xs.length)])):=by rw[R5]; rfl
 have h1:κ.st[1]? = some (.arr (xs.length) (.int .u8) xs):=by rw[R5]; rfl
 obtain⟨blk,n,cs,t',p1,p2,p3,p4,p5⟩:=hI.blk 0 _ h0
 obtain rfl:t'=t:=p5.2 t rfl
 obtain⟨v0,hv0,L1⟩:=hd
 have hv:v0=.pointer (some ⟨blk,0,none⟩):=by
  cases L1 with
  | ptr _ _ cC n' d hd hp=>grind
 have yk:zn.toArray = #[.pointer (some ⟨blk,0,none⟩)]:=by
  grind
 obtain⟨pv,us,pj,g1,g2⟩:=qj.cons_inv p4
 obtain⟨bv,us',OL,g3,g4⟩:=qj.cons_inv g2
 have:=g4.zN
 subst this
 subst OL
 have Qk:cs = #[pv,bv]:=by rw[<- Array.toArray_toList (xs:=cs),pj]
 subst Qk
 refine .inl ⟨tX _ _,?_⟩
 rw[yk]
 have fin:∀ (w':World) (s:zf),s=xy xs->w'.os=κ.w.os->w'.tape=κ.w.tape->w'.output=κ.w.output->κ.w.heap.size<=w'.heap.size ->
   (∀ k,k<κ.w.heap.size->(∀ n:Nat,κ.ph[1]? ≠ some (some (k,n)))->w'.heap[k]? = κ.w.heap[k]?) ->
   ∃ (κ':KS) (ds:List D),κ'.w=w'/\κ'.st=(Fx t').out.st (xy xs,())/\Inv κ'/\Ext κ κ'/\ku 1 ((Fx t').out.fr (xy xs,()))=some ds/\xR κ' (.ret ds) (.returned (.string ⟨s.toArray⟩)):=by
  intro w' s hs q1 q2 q3 q4 q5
  subst hs
  obtain⟨κ',k1,k2,k3,k4⟩:=Ij R5 hI q1 q2 q3 q4 q5
  exact⟨κ',[.zx .str (xy xs)],k1,k2,k3,k4,rfl,_,rfl,RD.str⟩
 have SI:(xy xs).length=xs.length:=List.length_map _
 cases g3 with
 | ms _ _ _ _ _ cap a hb wD ha fI hm =>
  obtain⟨hle,hm⟩:=hm xs h1
  rcases hm with⟨hz,_,Pd,hp⟩ | ⟨Nk,n1,o,Kf,hp,Pd,z1T,vV,ho⟩
  ·rw[Pd]at p2
   have sI:xs=[]:=List.eq_nil_of_length_eq_zero hz
   refine(ZL blk pv κ.w p2).mono ?_
   rintro e w' ⟨rfl,rfl⟩
   exact fin _ [] (by rw[sI]; rfl) rfl rfl rfl (Nat.le_refl _) (λ_ _ _=>rfl)
  ·cases Pd
   obtain⟨_,⟨G1,hpn⟩ | ⟨z6d,n2,cs2,T2,r1,r2,r3,r4,r5,f,r6⟩⟩:=hI.blk 1 _ h1
   ·grind
   ·rw[hp]at r1
    cases r1
    have hT:=r5 rfl
    subst hT
    by_cases NP:cap=0
    ·subst NP
     have hz:xs.length=0:=by omega
     have sI:xs=[]:=List.eq_nil_of_length_eq_zero hz
     rw[hz]at p2
     refine(WV blk Nk o pv cs2 κ.w p2 r2).mono ?_
     rintro e w' ⟨rfl,rfl⟩
     refine fin _ [] (by rw[sI]; rfl) rfl rfl rfl (by simp) (λk hk _ => ?_)
     exact Lib.alloc_old κ.w.drew _ k hk
    ·by_cases hz:xs.length=0
     ·have sI:xs=[]:=List.eq_nil_of_length_eq_zero hz
      rw[hz]at p2
      refine(ez blk Nk o cap pv κ.w NP p2).mono ?_
      rintro e w' ⟨rfl,rfl⟩
      exact fin _ [] (by rw[sI]; rfl) rfl rfl rfl (Nat.le_refl _) (λ_ _ _=>rfl)
     ·have P2:o=0:=by
       rcases ho with ho | ho
       ·exact absurd ho NP
       ·simpa using ho
      subst P2
      have vP:xy xs≠[]:=λe=>hz (by rw[<- SI,e]; rfl)
      have Py:xs.length<=cs2.size:=by
       have:=r4
       simp only[Ty.size,Nat.mul_one]at this
       omega
      refine(DX blk Nk cap pv cs2 (xy xs) κ.w vP (by rw[SI]; exact wD) (by rw[SI]; exact Nz) (by rw[SI]; exact p2) r2 (by rw[SI]; exact Py) ?_).mono ?_
      ·intro j c hj
       have RG:j<xs.length:=by rw[<- SI]; exact(List.getElem?_eq_some_iff.1 hj).1
       obtain⟨q1,q2⟩:=r6 j RG
       have:=q2 0 (.int .u8 xs[j]) (by rw[q1.jJ]; rfl)
       simp only[Ty.size,Nat.mul_one,Nat.add_zero]at this
       have hc:c=byteOf xs[j]:=by
        unfold xy at hj
        rw[List.getElem?_map,List.getElem?_eq_getElem RG]at hj
        exact(Option.some.inj hj).symm
       obtain⟨b0,b1⟩:=K2 xs[j] (List.getElem_mem RG)
       rw[Lib.cell_of_heap r2,hc,C0 b0 b1]
       exact this
      ·rintro e w' ⟨rfl,rfl⟩
       refine fin _ _ rfl ?_ ?_ ?_ ?_ ?_
       ·unfold World.freeze; split<;>rfl
       ·unfold World.freeze; split<;>rfl
       ·unfold World.freeze; split<;>rfl
       ·unfold World.freeze
        split
        ·exact Nat.le_refl _
        ·show κ.w.heap.size<=(Array.modify _ _ _).size
         rw[Array.size_modify]; exact Nat.le_refl _
       ·intro k hk hn
        have z5x:k≠Nk:=λe=>hn n1 (e▸hp)
        unfold World.freeze
        split
        ·rfl
        ·show(Array.modify _ _ _)[k]? = _
         rw[Array.getElem?_modify,if_neg (λe=>z5x e.symm)]
         rfl
theorem Cp{P:Program}{g t:Nat}(tX:∀ args w,(callFunc g args).run P w=.ok (.enter g args) w)
  (ZL:∀ (b:Nat) (p:Value) (w:World),w.heap[b]? = some (.cells #[p,.slice none 0 0] t (0,0))->Calls P g #[.pointer (some ⟨b,0,none⟩)] w λe w'=>e=.returned (.string ⟨#[]⟩)/\w'=w.drew)
  (ez:∀ (b g' o cap:Nat) (p:Value) (w:World),cap≠0->w.heap[b]? = some (.cells #[p,.slice (some ⟨g',o,none⟩) 0 cap] t (0,0))->Calls P g #[.pointer (some ⟨b,0,none⟩)] w λe w'=>e=.returned (.string ⟨#[]⟩)/\w'=w.drew)
  (DX:∀ (b g' cap:Nat) (p:Value) (cur:Array Value) (l:List UInt8) (w:World),l≠[]->l.length<=cap->l.length<=140737488355328->w.heap[b]? = some (.cells #[p,.slice (some ⟨g',0,none⟩) l.length cap] t (0,0)) ->
   w.heap[g']? = some (.cells cur lE.u8 (0,0))->l.length<=cur.size->(∀ j x,l[j]? = some x->w.cell? ⟨g',j,none⟩=some (.int .u8 x.toNat)) ->
   Calls P g #[.pointer (some ⟨b,0,none⟩)] w λe w'=>e=.returned (.string ⟨l.toArray⟩)/\w'=w.drew.freeze ⟨g',0,none⟩ l.length)
  (WV:∀ (b g' o:Nat) (p:Value) (cur:Array Value) (w:World),w.heap[b]? = some (.cells #[p,.slice (some ⟨g',o,none⟩) 0 0] t (0,0))->w.heap[g']? = some (.cells cur lE.u8 (0,0)) ->
   Calls P g #[.pointer (some ⟨b,0,none⟩)] w λe w'=>e=.returned (.string ⟨#[]⟩)/\w'=w.drew.alloc (.view ⟨g',o,none⟩ lE.u8)):xA P g (Fx t):=by
 intro κ x zn y xm hy hI hlen hR
 obtain⟨⟨K2,Nz⟩,hy⟩:=(show(On x.2).leads y from hy)
 have NZ:(xy x.2,())=y:=hy
 subst NZ
 exact KQ tX ZL ez DX WV (xs:=x.2) xm K2 Nz hI hlen (hR.get 0 (.ptr 0 0) rfl)
end Go.AM
namespace Go.AM
set_option linter.unusedSectionVars false
variable [vi]
open Go.RowKit
def Dl(P:Program):IJ:=λg args w R=>(callFunc g args).run P w=.ok (.enter g args) w/\CallsD P g args .returning w λe u' w'=>settle u'=.returning/\R e w'
def Da(P:Program)(t:Nat):IJ:=λg args w R=>∀ (zs:List Value) (v:Value),args=(zs++[v]).toArray->(callFunc g zs.toArray).run P w=.ok (.enter g zs.toArray) w /\
 CallsD P g zs.toArray (.panicking [{ v:=.iface t v,recovered:=false }]) w λe u' w'=>settle u'=.returning/\R e w'
theorem Dl.mono{P:Program}{g:Nat}{a:Array Value}{w:World}{R R':Ending->World->Prop}(h:Dl P g a w R)(hr:∀ e w',R e w'->R' e w'):Dl P g a w R' :=
 ⟨h.1,h.2.mono λe u' w' hh=>⟨hh.1,hr e w' hh.2⟩⟩
theorem Da.mono{P:Program}{t g:Nat}{a:Array Value}{w:World}{R R':Ending->World->Prop}(h:Da P t g a w R)(hr:∀ e w',R e w'->R' e w'):Da P t g a w R' :=
 λzs v e=>⟨(h zs v e).1,(h zs v e).2.mono λe u' w' hh=>⟨hh.1,hr e w' hh.2⟩⟩
def tC(ops:Array Oper):Option (Nat×Nat):=match ops.toList with
 | [o1,o2]=>match o1.dst,o1.op,o1.guard with
  | some t1,.call ⟨.builtin .recover,_,_⟩,none=>match o2.dst,o2.op,o2.guard with
   | some t2,.assign (.tmp t),none=>bif Nat.beq t t1 then some (t1,t2)else none
   | _,_,_=>none
  | _,_,_=>none
 | _=>none
def z14(t:Option Nat)(n:Nat):Nat:=match t with | none=>n | some _=>n+1
def RM(t:Option Nat)(n:Nat)(fr:Fr):Option D:=match t with
 | none=>some .qB
 | some t=>match fr.get n with | some p=>some (.iface t p) | none=>none
section
variable (c:Ctx) (tab:gH)
def se(fn:Func)(out:vY)(nr:Nat)(fr:Fr)(st:St):T out.den :=
 (ym c fr st fn.results.toList).bind λds=>bif Nat.beq ds.length nr then(out.un (xN ds 0) st).bind λy=>bif (ku nr (out.fr y)).isSome then .ret y else .fail else .fail
def SU(H:Hints)(fn:Func)(ops:Array Oper)(b:Code)(d:j3)(n:Nat)(t:Option Nat)(x:d.sh.den):T d.out.den :=
 bif Nat.ble n fn.ntmps&&Nat.ble d.sh.bs.length d.out.bs.length&&Nat.beq d.ks.length (z14 t n)then match tC ops,RM t n (d.sh.fr x)with
  | some (t1,t2),some rc=>bif Nat.blt t1 fn.ntmps&&Nat.blt t2 fn.ntmps then
    mY c tab fn.ntmps H b ((t2,some rc)::(t1,some rc)::(n,none)::d.sh.fr x) [] (d.sh.st x) λo=>match o.ex with
     | .normal=>se c fn d.out d.nr o.fr o.st
     | .ret=>se c fn d.out d.nr o.fr o.st
     | _=>.fail
   else .fail
  | _,_=>.fail
 else .fail
def oL:List Oper->Option (List Oper×Operand×List Operand)
 | []=>none
 | [o]=>match o.op,o.guard,o.dst with
  | .defer ⟨.value f,args,_⟩,none,none=>some ([],f,args.toList)
  | _,_,_=>none
 | o::r=>match oL r with | some (l,z)=>some (o::l,z) | none=>none
structure Dfd where
 g:Nat
 d0:j3
 pt:Nat
 d1:j3
def SY(n:Nat)(H:Hints)(h:Dfd)(fn:Func)(out:vY)(nr:Nat):Code->Fr->Kn->St->T out.den
 | .seq a b,fr,kn,st=>match opsOf a with
  | some ops=>match oL ops.toList with
   | some (pre,f,args)=>sj c tab n ops pre ⟨fr,kn,st,[],[]⟩ (λs=>match vN s.fr f,vJ (args.map (vN s.fr))with
     | some (.qE g caps),some l=>bif Nat.beq (jM g) h.g then
       mY c tab n H b s.fr s.kn s.st λo=>match o.ex with
        | .normal=>h.d0.K (ux g l caps) o.st λ_ zl=>se c fn out nr (o.fr++(gq (zY b)++s.fr)) zl
        | .ret=>h.d0.K (ux g l caps) o.st λ_ zl=>se c fn out nr (o.fr++(gq (zY b)++s.fr)) zl
        | .jg (.iface t p)=>bif Nat.beq t h.pt then h.d1.K (ux g l caps++[p]) o.st λ_ zl=>se c fn out nr (o.fr++(gq (zY b)++s.fr)) zl else .fail
        | _=>.fail
      else .fail
     | _,_=>.fail) (λ_ _=>.fail)
   | none=>mY c tab n H a fr kn st λr=>match r.ex with
    | .normal=>SY n H h fn out nr b r.fr r.kn r.st
    | .ret=>se c fn out nr r.fr r.st
    | _=>.fail
  | none=>mY c tab n H a fr kn st λr=>match r.ex with
   | .normal=>SY n H h fn out nr b r.fr r.kn r.st
   | .ret=>se c fn out nr r.fr r.st
   | _=>.fail
 | _,_,_,_=>.fail
def Ea(H:Hints)(h:Dfd)(fn:Func)(code:Code)(d:j3)(x:d.sh.den):T d.out.den :=
 bif Nat.ble d.ks.length fn.ntmps&&Nat.ble d.sh.bs.length d.out.bs.length then SY c tab fn.ntmps H h fn d.out d.nr code (d.sh.fr x) [] (d.sh.st x)else .fail
end
section
variable {P:Program} {xid:Nat} {tab:gH} {ro:Nat->Bool} {n:Nat} {H:Hints}
theorem YM{ops:Array Oper}{t1 t2:Nat}(hr:tC ops=some (t1,t2)){Q:Exit->Act->List Frame->World->Prop}{a:Act}{cs:List Frame}{w:World}{id:Nat}(h1:t1<a.tmps.size)
  (h:Q .normal ((a.put (some t1) ((recoverD cs).elim .nilIface (·.1))).put (some t2) ((recoverD cs).elim .nilIface (·.1))) ((recoverD cs).elim cs (·.2)) w):(Code.region id ops false).wpS P Q a cs w:=by
 unfold tC at hr
 split at hr
 ·rename_i o1 o2 hops
  split at hr
  ·rename_i t1' args eH C8 I2 hg1
   split at hr
   ·rename_i t2' t OD Lp SX
    cases hb:Nat.beq t t1' with
    | false=>grind
    | true =>
     rw[hb,cond_true]at hr
     cases hr
     have:=Nat.eq_of_beq_eq_true hb
     subst this
     obtain⟨d1,op1,ty1,Sz,Sx,g1⟩:=o1
     obtain⟨d2,op2,W6,Nj,Rb,g2⟩:=o2
     subst C8 I2 hg1 OD Lp SX
     have vV:ops.size=2:=by rw[<- Array.length_toList,hops]; rfl
     have e0:ops[0]? = some ⟨some t,.call ⟨.builtin .recover,args,eH⟩,ty1,Sz,Sx,none⟩:=by rw[<- Array.getElem?_toList,hops]; rfl
     have e1:ops[1]? = some ⟨some t2,.assign (.tmp t),W6,Nj,Rb,none⟩:=by rw[<- Array.getElem?_toList,hops]; rfl
     have Sa:List.range 2=[0,1]:=rfl
     have ev1:∀ v,((a.put (some t) v).eval (.tmp t))=v:=λv=>by simp[Act.eval,Act.put,h1]
     refine wpS_region ?_
     rw[vV,Sa]
     simp only[wpOpsS,e0,e1]
     cases Q6:recoverD cs with
     | none =>
      rw[Q6]at h
      simp only[execOp,ev1]
      exact h
     | some z =>
      rw[Q6]at h
      simp only[execOp,ev1]
      exact h
   ·cases hr
  ·cases hr
 ·cases hr
theorem Fg(hm:(vw P xid tab ro).P.follows .mixedOrders=true)(hT:jE P tab){f:Nat}{fn:Func}{id:Nat}{ops:Array Oper}{b:Code}(hf:P.funcs[f]? = some fn)(hb:fn.body=some (.seq (.region id ops false) b))
  (hL:vr P fn.ntmps H b) {d:j3} {k:Nat} {t:Option Nat} {x:d.sh.den} {y:d.out.den} (hy:(SU (vw P xid tab ro) tab H fn ops b d k t x).leads y) {κ:KS} (xm:κ.st=d.sh.st x) (hI:Inv κ)
  {zs:List Value} (hk:zs.length=k) {u:FrameMode} {rv:Value} (hrv:∀ rc,RM t k (d.sh.fr x)=some rc->RD κ rc rv)
  (hu:∀ (c₀:Frame) (cs:List Frame),c₀.mode=u->(recoverD (c₀::cs)).elim .nilIface (·.1)=rv/\∃ u',(recoverD (c₀::cs)).elim (c₀::cs) (·.2)={ c₀ with mode:=u' }::cs/\settle u'=.returning)
  (hR:∀ s dd,(d.sh.fr x).get s=some dd->s≠k->∃ v,zs[s]? = some v/\RD κ dd v) :
  CallsD P f zs.toArray u κ.w λe u' w'=>settle u'=.returning/\∃ (κ':KS) (ds:List D),κ'.w=w'/\κ'.st=d.out.st y/\Inv κ'/\Ext κ κ'/\ku d.nr (d.out.fr y)=some ds/\xR κ' (.ret ds) e:=by
 unfold SU at hy
 cases hc:Nat.ble k fn.ntmps&&Nat.ble d.sh.bs.length d.out.bs.length&&Nat.beq d.ks.length (z14 t k)with
 | false=>rw[hc]at hy; exact False.elim hy
 | true =>
 rw[hc,cond_true]at hy
 simp only[Bool.and_eq_true]at hc
 have CD:=Nat.le_of_ble_eq_true hc.1.1
 have I9:=Nat.le_of_ble_eq_true hc.1.2
 split at hy
 ·rename_i t1 t2 rc hrs K1
  cases hcc:Nat.blt t1 fn.ntmps&&Nat.blt t2 fn.ntmps with
  | false=>rw[hcc]at hy; exact False.elim hy
  | true =>
  rw[hcc,cond_true]at hy
  simp only[Bool.and_eq_true]at hcc
  have TI:=hrv rc K1
  refine callsD_of_wpS hf hb λc₀ cs hc₀ => ?_
  obtain⟨hv,u',pj,yU⟩:=hu c₀ cs hc₀
  have h1:t1<fn.ntmps:=Nat.le_of_ble_eq_true hcc.1
  have h2:t2<fn.ntmps:=Nat.le_of_ble_eq_true hcc.2
  have IF:zs.length+(fn.ntmps-zs.length)=fn.ntmps:=by omega
  let a0:Act:={ tmps:=zs.toArray++Array.replicate (fn.ntmps-zs.toArray.size) undef,defers:=[] }
  have Ir:Rel κ fn.ntmps (Fr.get ((k,none)::d.sh.fr x)) a0:=by
   refine⟨by simp[a0]; omega,rfl,λs dd hs => ?_⟩
   simp only[Fr.get]at hs
   cases hks:Nat.beq k s with
   | true=>grind
   | false =>
    rw[hks,cond_false]at hs
    obtain⟨v,g1,g2⟩:=hR s dd hs (λe=>by subst e; simp at hks)
    grind
  have X7:Rel κ fn.ntmps (Fr.get ((t2,some rc)::(t1,some rc)::(k,none)::d.sh.fr x)) ((a0.put (some t1) rv).put (some t2) rv):=by
   have g1:=Ir.put (dst:=some t1) (d:=some rc) (v:=rv) hcc.1 (λd' jR=>by cases jR; exact TI)
   have g2:=g1.put (dst:=some t2) (d:=some rc) (v:=rv) hcc.2 (λd' jR=>by cases jR; exact TI)
   have e1:=dt ((k,none)::d.sh.fr x) (some t1) (some rc)
   have e2:=dt ((t1,some rc)::(k,none)::d.sh.fr x) (some t2) (some rc)
   rw[<- e1]at g2
   have g3:Rel κ fn.ntmps (j8 (Fr.get ((t1,some rc)::(k,none)::d.sh.fr x)) (some t2) (some rc)) ((a0.put (some t1) rv).put (some t2) rv):=g2
   rw[<- e2]at g3
   exact g3
  refine wpS_seq (YM hrs (by simp; omega) ?_)
  rw[hv,pj]
  show b.wpS P _ _ _ _
  refine wpS_of_wp ?_
  rw[<- xm]at hy
  refine fS hm hT b hL (κ:=κ) hy hI X7 (yH _) _ λo bK a' κe e0 e1 e2 e3 e4 _ _ _ e6 => ?_
  have fin:(bK=.normal\/bK=.ret)->(se (vw P xid tab ro) fn d.out d.nr o.fr o.st).leads y ->
    bodyPostS P fn c₀ cs (λe u' w'=>settle u'=.returning/\∃ (κ':KS) (ds:List D),κ'.w=w'/\κ'.st=d.out.st y/\Inv κ'/\Ext κ κ'/\ku d.nr (d.out.fr y)=some ds/\xR κ' (.ret ds) e) bK a' ({ c₀ with mode:=u' }::cs) κe.w:=by
   intro hex Rd
   obtain⟨v,k1,κ',ds,q1,q2,q3,q4,q5,q6⟩:=Yy e1 e2 e3 e4 (by rw[xm]; exact Nat.le_trans (vY.mS _ _) I9) Rd
   have iu:a'.defers=[]/\∃ u'',({ c₀ with mode:=u' }::cs:List Frame)={ c₀ with mode:=u'' }::cs/\∃ v,(results fn a'.tmps).run P κe.w=.ok v κe.w/\settle u''=.returning /\
     ∃ (κ':KS) (ds:List D),κ'.w=κe.w/\κ'.st=d.out.st y/\Inv κ'/\Ext κ κ'/\ku d.nr (d.out.fr y)=some ds/\xR κ' (.ret ds) (.returned v) :=
    ⟨e4.defers,u',rfl,v,k1,yU,κ',ds,q1,q2,q3,q4,q5,q6⟩
   rcases hex with rfl | rfl
   ·exact iu
   ·exact iu
  cases hox:o.ex<;>rw[hox]at e0 e6<;>simp only at e0
  ·exact fin (.inl e6) e0
  ·exact False.elim e0
  ·exact fin (.inr e6) e0
  ·exact False.elim e0
 ·exact False.elim hy
theorem N1(hm:(vw P xid tab ro).P.follows .mixedOrders=true)(hT:jE P tab){f:Nat}{fn:Func}{id:Nat}{ops:Array Oper}{b:Code}(hf:P.funcs[f]? = some fn)(hb:fn.body=some (.seq (.region id ops false) b))
  (hn:(fn.name == "runtime.NumGoroutine")=false) (hL:vr P fn.ntmps H b) {d:j3} (h:∀ x,SU (vw P xid tab ro) tab H fn ops b d d.ks.length none x=d.F x):jL (Dl P) f d:=by
 intro κ x zn y xm hy hI hlen hR
 rw[<- h]at hy
 refine⟨wc hf hn (by grind) κ.w,Fg hm hT hf hb hL hy xm hI hlen (u:=.returning) (rv:=.nilIface) (λrc K1=>by cases K1; exact .qB) (λc₀ cs hc => ?_) λs dd hs _ => ?_⟩
 ·have:recoverD (c₀::cs)=none:=by simp only[recoverD,hc]
  rw[this]
  exact⟨rfl,.returning,by rw[<- hc]; rfl,rfl⟩
 ·obtain⟨v,h1,h2⟩:=hR.get s dd hs
  grind
theorem N6(hm:(vw P xid tab ro).P.follows .mixedOrders=true)(hT:jE P tab){f:Nat}{fn:Func}{id:Nat}{ops:Array Oper}{b:Code}(hf:P.funcs[f]? = some fn)(hb:fn.body=some (.seq (.region id ops false) b))
  (hn:(fn.name == "runtime.NumGoroutine")=false) (hL:vr P fn.ntmps H b) {d:j3} {k t:Nat} (hk:d.ks.length=k+1) (h:∀ x,SU (vw P xid tab ro) tab H fn ops b d k (some t) x=d.F x):jL (Da P t) f d:=by
 intro κ x zn y xm hy hI hlen hR zs v hc
 have hc:zn=zs++[v]:=by simpa using hc
 subst hc
 rw[<- h]at hy
 have WG:zs.length=k:=by simp at hlen; omega
 refine⟨wc hf hn (by grind) κ.w,Fg hm hT hf hb hL hy xm hI WG (rv:=.iface t v) (λrc K1 => ?_) (λc₀ cs hc => ?_) λs dd hs hsk => ?_⟩
 ·simp only[RM]at K1
  split at K1
  ·rename_i p hp
   cases K1
   obtain⟨u,h1,h2⟩:=hR.get k p hp
   have:u=v:=by
    grind
   subst this
   exact .iface t p u h2
  ·cases K1
 ·have:recoverD (c₀::cs)=some (.iface t v,{ c₀ with mode:=.panicking [{ v:=.iface t v,recovered:=true }] }::cs):=by simp only[recoverD,hc]
  rw[this]
  exact⟨rfl,_,rfl,rfl⟩
 ·obtain⟨u,h1,h2⟩:=hR.get s dd hs
  grind
theorem J4{p:Value}{g:Nat}{us vs:List Value}{w:World}(U2:p=eM g us):∃ (fv:Fn) (cap zs:Array Value),(Deferred.ofValue p vs.toArray).run P w=.ok ⟨.fn fv cap,zs⟩ w /\
  (invoke (.fn fv cap) zs).run P w=(callFunc (jM g) (ux g vs us).toArray).run P w/\∀ w',(invoke (.fn fv cap) zs).run P w'=(callFunc (jM g) (ux g vs us).toArray).run P w':=by
 subst U2
 unfold eM jM ux
 cases hb:Nat.ble 1000000 g with
 | true =>
  have key:∀ w',(invoke (.fn (.func (g % 1000000)) #[]) (us.toArray++vs.toArray)).run P w'=(callFunc (g % 1000000) (us++vs).toArray).run P w':=λw'=>by simp[invoke]
  exact⟨.func (g % 1000000),#[],us.toArray++vs.toArray,by rfl,key w,key⟩
 | false =>
  have key:∀ w',(invoke (.fn (.func g) us.toArray) vs.toArray).run P w'=(callFunc g (vs++us).toArray).run P w':=λw'=>by simp[invoke]
  exact⟨.func g,us.toArray,vs.toArray,by simp[Deferred.ofValue],key w,key⟩
theorem ft:∀ {l:List Oper} {pre:List Oper} {f:Operand} {args:List Operand},oL l=some (pre,f,args)->∃ o zs eH,l=pre++[o]/\o.op=.defer ⟨.value f,zs,eH⟩/\zs.toList=args/\o.guard=none/\o.dst=none
 | [],pre,f,args,h=>by cases h
 | [o],pre,f,args,h=>by
  simp only[oL]at h
  grind
 | o::p::r,pre,f,args,h=>by
  simp only[oL]at h
  split at h
  ·rename_i l z hz
   obtain⟨o',zs,eH,e,g1,g2,g3,g4⟩:=ft hz
   grind
  ·cases h
theorem UO{c:Ctx}{κ:KS}{a:Act}{id:Nat}{ops:Array Oper}{pre:List Oper}{f:Operand}{args:List Operand}{fr:Fr}{kn:Kn}{s1:gz}{g:Nat}{caps l:List D}(hC:∀ g,VJ c.P g (c.fn g))(hI:Inv κ)(hR:Rel κ n fr.get a)(hk:wP kn fr.get)
  (hd:oL ops.toList=some (pre,f,args)) (wO:(cd c n ops pre ⟨fr,kn,κ.st,[],[]⟩).leads s1) (hf:vN s1.fr f=some (.qE g caps)) (hl:vJ (args.map (vN s1.fr))=some l) {Q:Exit->Act->World->Prop}
  (hQ:∀ (a':Act) (κ':KS) (fv:Fn) (cap zs:Array Value) (zn:List Value),κ'.st=s1.st->Inv κ'->Ext κ κ'->Rel κ' n s1.fr.get a'->wP s1.kn s1.fr.get->b7 ops a a'->qj κ' (ux g l caps) zn ->
   (∀ w',(invoke (.fn fv cap) zs).run c.P w'=(callFunc (jM g) zn.toArray).run c.P w')->Q .normal { a' with defers:=⟨.fn fv cap,zs⟩::a'.defers } κ'.w):(Code.region id ops false).wp c.P Q a κ.w:=by
 obtain⟨o,Si,eH,e,ho,yk,hg,NU⟩:=ft hd
 have CX:∀ j:Nat,ops[j]? = (pre++[o])[j]? := λj=>by rw[<- e]; simp
 obtain⟨ks,g1,g2,_⟩:=bw pre 0 ⟨fr,kn,κ.st,[],[]⟩ s1 (λj=>by
  by_cases hj:j<pre.length
  ·grind
  ·right; omega) hk wO
 have vV:List.range ops.size=List.range' 0 pre.length++[pre.length]:=by
  have:ops.size=pre.length+1:=by rw[<- Array.length_toList,e]; simp
  rw[this,List.range_eq_range',<- List.range'_append_1,Nat.zero_add]; rfl
 refine wp_region ?_
 rw[vV]
 refine pC hC _ _ hI hR rfl g1 λa' κ' e1 e2 e3 e4 e5 => ?_
 rw[wpOps_cons]
 unfold wpOp
 have hoi:ops[pre.length]? = some o:=by rw[CX]; simp
 rw[hoi]
 obtain⟨dst,op,ty,pos,after,guard⟩:=o
 simp only at ho hg NU
 subst ho hg NU
 simp only[Region.wanted,if_true]
 have bD:∀ (x:Operand) (z:D),vN s1.fr x=some z->RD κ' z (a'.eval x):=λx z hz=>e4.eval (by rw[<- kv]; exact hz)
 have LD:=bD f _ hf
 have hr:=k9 (κ:=κ') (vs:=Si.toList.map a'.eval) hl (by simp[<- yk]) (λi d v hd hv=>by
      rw[<- yk]at hd
      simp only[List.getElem?_map]at hd hv
      cases hi:Si.toList[i]? with
      | none=>grind
      | some x=>rw[hi]at hd hv; simp at hd hv; subst hv; exact bD x d hd)
 generalize U2:a'.eval f=pv at LD
 cases LD with
 | qE _ _ us dF hh2 =>
  obtain⟨fv,cap,zs,k1,k2,k3⟩:=J4 (P:=c.P) (vs:=Si.toList.map a'.eval) (w:=κ'.w) (rfl:eM g us=eM g us)
  refine .inl ?_
  unfold Oper.wp
  have hx:(execOp a'.eval ⟨none,.defer ⟨.value f,Si,eH⟩,ty,pos,after,none⟩).run c.P κ'.w=.ok (.defer ⟨.fn fv cap,zs⟩) κ'.w:=by
   have e9:Si.map a'.eval=(Si.toList.map a'.eval).toArray:=by apply Array.ext'; simp
   simp only[execOp,resolve,U2,e9,Sem.run_bind,k1,Result.andThen_ok,Sem.run_pure]
  rw[hx]
  exact hQ a' κ' fv cap zs _ e1 e2 e3 e4 g2 e5 (Zo g hr (⟨dF,hh2⟩:qj κ' caps us)) k3
def Gl(κ0:KS)(out:vY)(nr:Nat)(y:out.den):Ending->World->Prop:=λe w'=>∃ (κ':KS) (ds:List D),κ'.w=w'/\κ'.st=out.st y/\Inv κ'/\Ext κ0 κ'/\ku nr (out.fr y)=some ds/\xR κ' (.ret ds) e
theorem mH{κ0 κ2:KS}{fn:Func}{out:vY}{nr:Nat}{y:out.den}{fr:Fr}{zl:St}{tm:Array Value}(e1:κ2.st=zl)(e2:Inv κ2)(e3:Ext κ0 κ2)(e4:Rel κ2 fn.ntmps fr.get { tmps:=tm,defers:=[] })(hlen:κ0.st.length<=out.bs.length)
  (h:(se (vw P xid tab ro) fn out nr fr zl).leads y):Leaves P fn tm (Gl κ0 out nr y) [] .returning κ2.w:=by
 obtain⟨v,k1,κ',ds,q1,q2,q3,q4,q5,q6⟩:=Yy (o:=⟨.ret,fr,[],zl,false⟩) e1 e2 e3 e4 hlen h
 exact⟨v,k1,κ',ds,q1,q2,q3,q4,q5,q6⟩
theorem sL{code:Code}(h:qU code=[])[Qg]:vr P n H code:=λp hp=>by rw[h]at hp; cases hp
theorem Iy{κ:KS}{f:F}{a:Act}(D:Qg)(h : @Rel D κ n f a) : @Rel Zz κ n f { tmps:=a.tmps,defers:=[] } := @Rel.mk Zz κ n f _ (@Rel.size D κ n f a h) rfl (@Rel.get D κ n f a h)
theorem QJ{κ κ':KS}{f:F}{a:Act}(x:Ext κ κ')(h : @Rel Zz κ n f a) : @Rel Zz κ' n f a:=h.mono x
theorem S1{κ:KS}{f:F}{a:Act}(h : @Rel Zz κ n f a)(l:List Deferred) : @Rel ⟨l⟩ κ n f { a with defers:=l } := @Rel.mk ⟨l⟩ κ n f _ h.size rfl h.get
theorem Se(hm:(vw P xid tab ro).P.follows .mixedOrders=true)(hT:jE P tab){h:Dfd}(h0:jL (Dl P) h.g h.d0)(h1:jL (Da P h.pt) h.g h.d1){fn:Func}{out:vY}{nr:Nat}{y:out.den}{κ0:KS}(hlen:κ0.st.length<=out.bs.length) :
  ∀ (code:Code),qU code=[]->∀ {fr:Fr} {kn:Kn} {κ:KS} {a:Act},(SY (vw P xid tab ro) tab fn.ntmps H h fn out nr code fr kn κ.st).leads y->Inv κ->Ext κ0 κ->Rel κ fn.ntmps fr.get a->wP kn fr.get ->
   code.wp P (bodyPostD P fn (Gl κ0 out nr y)) a κ.w:=by
 intro code
 induction code with
 | seq x b ix ib =>
  intro hl fr kn κ a hy hI hx hR hk
  have Lt:qU x=[]:=by simp only[qU,List.append_eq_nil_iff]at hl; exact hl.1
  have hlb:qU b=[]:=by simp only[qU,List.append_eq_nil_iff]at hl; exact hl.2
  have plain:(mY (vw P xid tab ro) tab fn.ntmps H x fr kn κ.st λr=>match r.ex with
    | .normal=>SY (vw P xid tab ro) tab fn.ntmps H h fn out nr b r.fr r.kn r.st
    | .ret=>se (vw P xid tab ro) fn out nr r.fr r.st
    | _=>.fail).leads y->(Code.seq x b).wp P (bodyPostD P fn (Gl κ0 out nr y)) a κ.w:=by
   intro hy
   refine wp_seq (fS hm hT x (sL Lt) (κ:=κ) hy hI hR hk _ λo bK a' κ' e0 e1 e2 e3 e4 De _ _ e6 => ?_)
   cases hex:o.ex<;>rw[hex]at e0 e6<;>simp only at e0
   ·cases e6
    exact ib hlb (κ:=κ') (e1▸e0) e2 (hx.trans e3) e4 De
   ·exact e0.elim
   ·cases e6
    show Leaves P fn a'.tmps _ a'.defers .returning κ'.w
    rw[show a'.defers=[]from e4.defers]
    exact mH e1 e2 (hx.trans e3) (Iy Zz e4) hlen e0
   ·exact e0.elim
  simp only[SY]at hy
  split at hy
  ·rename_i ops hops
   obtain⟨id,rfl⟩:∃ id,x=.region id ops false:=by
    cases x with
    | region id ops' draw =>
     cases draw with
     | true=>cases hops
     | false=>cases hops; exact⟨id,rfl⟩
    | _=>cases hops
   split at hy
   ·rename_i pre f args hd
    have o9:∀ o∈pre,∃ i:Nat,ops[i]? = some o:=λo ho=>by
     obtain⟨o',Si,eH,e,_⟩:=ft hd
     have:o∈ops.toList:=by rw[e]; exact List.mem_append_left _ ho
     obtain⟨i,hi,he⟩:=List.getElem_of_mem this
     exact⟨i,by rw[<- he]; simp at hi; simp[hi]⟩
    rcases mf pre hk o9 hy with⟨s1,wO,hy⟩ | ⟨_,_,_,hy⟩
    rotate_left
    ·exact hy.elim
    split at hy
    ·rename_i g caps l hf hl
     cases hg:Nat.beq (jM g) h.g with
     | false=>rw[hg]at hy; exact hy.elim
     | true =>
     rw[hg,cond_true]at hy
     have hgg:=Nat.eq_of_beq_eq_true hg
     refine wp_seq (UO (c:=vw P xid tab ro) (Vz hT) hI hR hk hd wO hf hl λa' κ1 fv cap zs zn e1 e2 e3 e4 De e5 e6 e7 => ?_)
     show b.wp P _ _ κ1.w
     have hdf:a'.defers=[]:=e4.defers
     rw[hdf]
     let D:Qg:=⟨[⟨.fn fv cap,zs⟩]⟩
     have hRD : @Rel D κ1 fn.ntmps s1.fr.get { a' with defers:=[⟨.fn fv cap,zs⟩] }:=S1 e4 _
     rw[<- e1]at hy
     refine @fS _ D P xid tab ro fn.ntmps H hm hT b (@sL _ P fn.ntmps H b hlb D) s1.fr s1.kn κ1 _ _ _ y hy e2 hRD De _ λo bK a2 κe f0 f1 f2 f3 f4 W4 f5 _ f6 => ?_
     have TQ:a2.defers=[⟨.fn fv cap,zs⟩] := @Rel.defers D κe fn.ntmps _ a2 f4
     have hRa : @Rel Zz κe fn.ntmps (Fr.get (o.fr++(gq (zY b)++s1.fr))) { tmps:=a2.tmps,defers:=[] }:=Iy D (@lh _ D fn.ntmps κ1 κe s1.fr o.fr _ a2 (zY b) hRD f3 f4 f5)
     have Dx:qj κe (ux g l caps) zn:=qj.mono f3 e6
     have Tf:∀ (cs:Array Value) (w':World),cs=zn.toArray->(callFunc h.g cs).run P w'=.ok (.enter h.g cs) w'->(invoke (.fn fv cap) zs).run P w'=.ok (.enter h.g cs) w':=λcs w' pj hc=>by
      refine(e7 w').trans ?_
      rw[hgg,<- pj]; exact hc
     have z0p:(h.d0.K (ux g l caps) o.st λ_ zl=>se (vw P xid tab ro) fn out nr (o.fr++(gq (zY b)++s1.fr)) zl).leads y->Leaves P fn a2.tmps (Gl κ0 out nr y) a2.defers .returning κe.w:=by
      intro hK
      obtain⟨ds,zl,k1,k2⟩:=j3.F9 hK
      rw[<- f1]at k1
      obtain⟨d1,d2⟩:=j3.Rw (Dr:=Dl P) Dl.mono h0 κe _ zn _ _ k1 f2 Dx
      rw[TQ]
      refine leaves_cons (by nofun) (Tf _ _ rfl d1) (d2.mono ?_)
      rintro e u' w' ⟨yU,κ2,rfl,g2,g3,g4,v,rfl,_⟩
      show Leaves P fn a2.tmps _ [] (settle u') κ2.w
      rw[yU]
      exact mH g2 g3 ((hx.trans (e3.trans f3)).trans g4) (QJ g4 hRa) hlen k2
     cases hox:o.ex<;>rw[hox]at f0 f6
     ·cases f6; exact z0p f0
     ·exact f0.elim
     ·cases f6; exact z0p f0
     ·rename_i pd
      obtain⟨v,rfl,hv⟩:=f6
      cases pd<;>first | exact False.elim f0 | skip
      rename_i t p
      have f00:(bif Nat.beq t h.pt then h.d1.K (ux g l caps++[p]) o.st λ_ zl=>se (vw P xid tab ro) fn out nr (o.fr++(gq (zY b)++s1.fr)) zl else .fail).leads y:=f0
      clear f0
      cases ht:Nat.beq t h.pt with
      | false=>rw[ht]at f00; exact f00.elim
      | true =>
      rw[ht,cond_true]at f00
      have:=Nat.eq_of_beq_eq_true ht
      subst this
      cases hv with
      | iface _ _ u hu =>
       obtain⟨ds,zl,k1,k2⟩:=j3.F9 f00
       rw[<- f1]at k1
       obtain⟨d1,d2⟩:=j3.Rw (Dr:=Da P h.pt) Da.mono h1 κe _ (zn++[u]) _ _ k1 f2 (Dx.append (qj.cons hu qj.nil)) zn u rfl
       show Leaves P fn a2.tmps _ a2.defers _ κe.w
       rw[TQ]
       refine leaves_cons (by nofun) (Tf _ _ rfl d1) (d2.mono ?_)
       rintro e u' w' ⟨yU,κ2,rfl,g2,g3,g4,v,rfl,_⟩
       show Leaves P fn a2.tmps _ [] (settle u') κ2.w
       rw[yU]
       exact mH g2 g3 ((hx.trans (e3.trans f3)).trans g4) (QJ g4 hRa) hlen k2
    ·exact hy.elim
   ·exact plain hy
  ·exact plain hy
 | _=>intro _ fr kn κ a hy; exact hy.elim
theorem R8(hm:(vw P xid tab ro).P.follows .mixedOrders=true)(hT:jE P tab){h:Dfd}(h0:jL (Dl P) h.g h.d0)(h1:jL (Da P h.pt) h.g h.d1){f:Nat}{fn:Func}{code:Code}(hf:P.funcs[f]? = some fn)(hb:fn.body=some code)
  (hn:(fn.name == "runtime.NumGoroutine")=false) (hL:qU code=[]) {d:j3} (he:∀ x,Ea (vw P xid tab ro) tab H h fn code d x=d.F x):xA P f d:=by
 intro κ x zn y xm hy hI hlen Ir
 rw[<- he]at hy
 unfold Ea at hy
 cases hle:Nat.ble d.ks.length fn.ntmps&&Nat.ble d.sh.bs.length d.out.bs.length with
 | false=>rw[hle]at hy; exact hy.elim
 | true =>
  rw[hle,cond_true]at hy
  simp only[Bool.and_eq_true]at hle
  have Br:=Nat.le_of_ble_eq_true hle.1
  have EV:=Nat.le_of_ble_eq_true hle.2
  refine .inl ⟨wc hf hn (by grind) κ.w,calls_of_wp_defers hf hb ?_⟩
  have hR:Rel κ fn.ntmps (d.sh.fr x).get { tmps:=zn.toArray++Array.replicate (fn.ntmps-zn.toArray.size) undef,defers:=[] }:=by
   refine⟨by grind,rfl,λs e hs => ?_⟩
   obtain⟨v,h1,h2⟩:=Ir.get s e hs
   grind
  exact Se hm hT h0 h1 (κ0:=κ) (by rw[xm]; exact Nat.le_trans (vY.mS _ _) EV) code hL (κ:=κ) (by rw[xm]; exact hy) hI (Ext.refl κ) hR (yH _)
end
end Go.AM
namespace Go.AM
theorem oQ(c b:UInt8)(l:List UInt8):Lib.index (b::l) [c]=if b=c then 0 else if Lib.index l [c] == -1 then -1 else Lib.index l [c]+1:=by
 show(if[c].isPrefixOf (b::l)then _ else _)=_
 by_cases h:b=c
 ·rw[if_pos h,if_pos (by subst h; simp[List.isPrefixOf])]
 ·rw[if_neg h,if_neg (by simp[List.isPrefixOf]; exact λe=>h e.symm)]
theorem Uv(c:UInt8):∀ l:List UInt8,Lib.splitK [c] 0 (Lib.count l [c]) l=uK c l
 | []=>rfl
 | b::l=>by
  have ih:=Uv c l
  by_cases h:b=c
  ·have hi:Lib.index (b::l) [c]=((0:Nat):Int):=by rw[oQ,if_pos h]; rfl
   have hc:=Lib.count_hit (s:=b::l) (sub:=[c]) (by simp) hi
   rw[hc,show 1+Lib.count ((b::l).drop (0+[c].length)) [c]=Lib.count l [c]+1 from Nat.add_comm 1 _]
   unfold Lib.splitK
   rw[if_neg (by rw[hi]; decide),hi]
   show[]::Lib.splitK [c] 0 (Lib.count l [c]) l=(if b=c then[]::uK c l else _)
   rw[if_pos h,ih]
  ·by_cases hm:Lib.index l [c] = -1
   ·have hi:Lib.index (b::l) [c] = -1:=by rw[oQ,if_neg h,hm]; rfl
    rw[Lib.count_miss hi]
    rw[Lib.count_miss hm]at ih
    show[b::l]=(if b=c then _ else CI b (uK c l))
    rw[if_neg h,<- ih]
    rfl
   ·have hge:=Lib.index_ge l [c]
    obtain⟨i,hi⟩:∃ i:Nat,Lib.index l [c]=(i:Int):=⟨(Lib.index l [c]).toNat,by omega⟩
    have X4:Lib.index (b::l) [c]=((i+1:Nat):Int):=by
     rw[oQ,if_neg h,hi,if_neg (by rw[beq_iff_eq]; omega)]; omega
    have c1:=Lib.count_hit (s:=l) (sub:=[c]) (by simp) hi
    have c2:=Lib.count_hit (s:=b::l) (sub:=[c]) (by simp) X4
    have e:(b::l).drop (i+1+[c].length)=l.drop (i+[c].length):=rfl
    rw[e]at c2
    rw[c1,Nat.add_comm]at ih
    rw[c2,Nat.add_comm]
    unfold Lib.splitK at ih ⊢
    rw[if_neg (by rw[hi,beq_iff_eq]; omega),hi]at ih
    rw[if_neg (by rw[X4,beq_iff_eq]; omega),X4]
    show(b::l.take i)::Lib.splitK [c] 0 _ (l.drop (i+1))=(if b=c then _ else CI b (uK c l))
    rw[if_neg h,<- ih]
    rfl
theorem XV(s:ByteArray)(pos:Nat)(h:pos<s.size):pos+(Utf8.decode s pos).2<=s.size/\∀ j,1<=j->j<(Utf8.decode s pos).2->128<=(s.get! (pos+j)).toNat:=by
 unfold Utf8.decode
 simp only
 repeat' split
 all_goals simp only[Bool.and_eq_true,decide_eq_true_eq,beq_iff_eq]at *
 all_goals refine⟨by omega,λj h1 h2 => ?_⟩
 all_goals (rcases(by omega:j=1\/j=2\/j=3)with rfl | rfl | rfl<;>omega)
theorem ot(s:ByteArray)(i:Nat)(h:i<s.size):s.data.toList[i]? = some (s.get! i):=by
 have h':i<s.data.toList.length:=h
 rw[List.getElem?_eq_getElem h']
 have:=get_at s i h
 rw[Nat.add_zero]at this
 rw[this]
 rfl
theorem GL(c:UInt8):∀ (l cur r:zf),(∀ b∈l,b≠c)->w7 c cur (l++r)=w7 c (cur++l) r
 | [],cur,r,_=>by rw[List.append_nil]; rfl
 | b::l,cur,r,h=>by
  show(if b=c then _ else w7 c (cur++[b]) (l++r))=_
  rw[if_neg (h b List.mem_cons_self),GL c l _ r (λx hx=>h x (List.mem_cons_of_mem _ hx)),List.append_assoc]
  rfl
def vO(l:zf)(a b:Nat):zf:=(l.drop a).take (b-a)
theorem Bw(l:zf){a b:Nat}(n:Nat)(h:a<=b)(hl:b+n<=l.length):vO l a (b+n)=vO l a b++(l.drop b).take n:=by
 unfold vO
 rw[show b+n-a=(b-a)+n by omega,List.take_add,List.drop_drop,show a+(b-a)=b by omega]
def rh(l:zf)(st:Option Nat)(pos:Nat):zf:=match st with | some a=>vO l a pos | none=>[]
theorem UW(s:ByteArray):∀ (f pos:Nat) (st:Option Nat) (acc:List (Nat×Nat)),pos<=s.size->s.size<=pos+f->(∀ a,st=some a->a<pos) ->
  (Lib.closeSpans s (Lib.spansFromP (λn=>n==32) s f pos st acc)).map (λx=>vO s.data.toList x.1 x.2)=acc.map (λx=>vO s.data.toList x.1 x.2)++w7 32 (rh s.data.toList st pos) (s.data.toList.drop pos):=by
 have hlen:s.data.toList.length=s.size:=rfl
 intro f
 induction f with
 | zero =>
  intro pos st acc h1 h2 h3
  have:pos=s.size:=by omega
  subst this
  rw[List.drop_of_length_le (by omega)]
  show(Lib.closeSpans s (acc,st)).map _=_
  cases st with
  | none=>unfold Lib.closeSpans rh w7; simp
  | some a =>
   have ha:=h3 a rfl
   have vP:vO s.data.toList a s.size≠[]:=λe=>by
    have:=congrArg List.length e
    unfold vO at this
    simp only[List.length_take,List.length_drop,List.length_nil]at this
    omega
   unfold Lib.closeSpans rh w7
   simp[vP]
 | succ f ih =>
  intro pos st acc h1 h2 h3
  by_cases hp:pos<s.size
  ·have hx:=ot s pos hp
   have qc:pos<s.data.toList.length:=hp
   obtain⟨db1,db2⟩:=XV s pos hp
   have hw:1<=(Utf8.decode s pos).2:=Lib.decode_width_pos s pos hp
   have hd:s.data.toList.drop pos=s.get! pos::s.data.toList.drop (pos+1):=by
    rw[List.drop_eq_getElem_cons qc]
    rw[List.getElem?_eq_getElem qc]at hx
    injection hx with hx
    rw[hx]
   unfold Lib.spansFromP
   rw[if_pos hp]
   by_cases SH:s.get! pos=32
   ·have Nn:Utf8.decode s pos=(32,1):=by
     have h0:(s[pos]'hp).toNat=32:=by rw[<- get_at s pos hp,Nat.add_zero,SH]; rfl
     rw[decode_ascii s pos hp (by omega),h0]
    rw[Nn]
    simp only[beq_self_eq_true,if_true]
    rw[hd,SH]
    cases st with
    | none =>
     simp only
     rw[ih (pos+1) none acc (by omega) (by omega) (λa h=>by cases h)]
     show _=acc.map _++(if(32:UInt8)=32 then(if([]:zf)=[]then w7 32 [] _ else _)else _)
     rw[if_pos rfl,if_pos rfl]
     rfl
    | some a =>
     have ha:=h3 a rfl
     have vP:vO s.data.toList a pos≠[]:=λe=>by
      have:=congrArg List.length e
      unfold vO at this
      simp only[List.length_take,List.length_drop,List.length_nil]at this
      omega
     simp only
     rw[ih (pos+1) none _ (by omega) (by omega) (λa h=>by cases h)]
     show _=acc.map _++(if(32:UInt8)=32 then(if vO s.data.toList a pos=[]then _ else vO s.data.toList a pos::w7 32 [] _)else _)
     rw[if_pos rfl,if_neg vP,List.map_append,List.append_assoc]
     rfl
   ·have z63:((Utf8.decode s pos).1==32)=false:=by
     rw[beq_eq_false_iff_ne]
     by_cases h128:(s[pos]'hp).toNat<128
     ·rw[decode_ascii s pos hp h128]
      intro e
      apply SH
      have h0:(s.get! pos).toNat=(s[pos]'hp).toNat:=by rw[<- get_at s pos hp,Nat.add_zero]
      exact UInt8.toNat_inj.1 (by rw[h0]; exact e)
     ·have:=(decode_high s pos hp (by omega)).1
      omega
    rw[z63]
    simp only[Bool.false_eq_true,if_false]
    generalize (Utf8.decode s pos).2=n at *
    have hch:s.data.toList.drop pos=(s.data.toList.drop pos).take n++s.data.toList.drop (pos+n):=by
     rw[<- List.drop_drop,List.take_append_drop]
    have ya:∀ b∈(s.data.toList.drop pos).take n,b≠32:=λb hb=>by
     obtain⟨j,hj,ej⟩:=List.getElem_of_mem hb
     simp only[List.length_take,List.length_drop]at hj
     rw[List.getElem_take,List.getElem_drop]at ej
     have hg:=ot s (pos+j) (by omega)
     rw[List.getElem?_eq_getElem (by omega)]at hg
     injection hg with hg
     rw[hg]at ej
     rw[<- ej]
     by_cases j0:j=0
     ·subst j0; exact SH
     ·have:=db2 j (by omega) (by omega)
      intro e
      rw[e]at this
      exact absurd this (by decide)
    have fin:∀ a,a<=pos->vO s.data.toList a pos=rh s.data.toList st pos->(Lib.closeSpans s (Lib.spansFromP (λn=>n==32) s f (pos+n) (some a) acc)).map (λx=>vO s.data.toList x.1 x.2)=acc.map (λx=>vO s.data.toList x.1 x.2)++w7 32 (rh s.data.toList st pos) (s.data.toList.drop pos):=by
     intro a ha e
     rw[ih (pos+n) (some a) acc (by omega) (by omega) (λx hx=>by cases hx; omega),hch,GL 32 _ _ _ ya]
     show _++w7 32 (vO s.data.toList a (pos+n)) _=_
     rw[Bw _ n ha (by omega),e]
    cases st with
    | none=>exact fin pos (Nat.le_refl _) (by unfold vO rh; rw[Nat.sub_self,List.take_zero])
    | some a=>exact fin a (Nat.le_of_lt (h3 a rfl)) rfl
  ·have:pos=s.size:=by omega
   subst this
   rw[Lib.spansFromP_end _ _ _ _ _ _ (by omega),List.drop_of_length_le (by omega)]
   cases st with
   | none=>unfold Lib.closeSpans rh w7; simp
   | some a =>
    have ha:=h3 a rfl
    have vP:vO s.data.toList a s.size≠[]:=λe=>by
     have:=congrArg List.length e
     unfold vO at this
     simp only[List.length_take,List.length_drop,List.length_nil]at this
     omega
    unfold Lib.closeSpans rh w7
    simp[vP]
theorem Cx(s:ByteArray):(Lib.goFieldsP (λn=>n==32) s).map (·.data.toList)=w7 32 [] s.data.toList:=by
 have h:=UW s s.size 0 none [] (Nat.zero_le _) (by omega) (λa h=>by cases h)
 unfold Lib.goFieldsP Lib.spansOfP
 rw[List.map_map]
 refine Eq.trans (List.map_congr_left λx _ => ?_) (h.trans (by rw[List.drop_zero]; rfl))
 show(s.extract x.1 x.2).data.toList=vO s.data.toList x.1 x.2
 rw[Lib.extract_data]
 rfl
theorem QL(chars:zf):∀ l:zf,Lib.indexAny l chars=kG l chars
 | []=>rfl
 | b::l=>by simp only[Lib.indexAny,kG,QL chars l]
end Go.AM
namespace Go.AM
set_option linter.unusedSectionVars false
variable [vi]
theorem contains_eq(s sub:zf):Lib.contains s sub=decide ((0:Int)<=gK s sub):=by
 unfold Lib.contains
 rw[Gm]
theorem RD.I3{κ:KS}{f:Nat}{v:Value}(h:RD κ (.qE f []) v)(hf:Nat.blt f 1000000=true):v=.func (.func f) #[] #[]:=by
 cases h with
 | qE _ _ vs hl _ =>
  have:vs=[]:=List.eq_nil_of_length_eq_zero hl.symm
  subst this
  exact Vv hf []
theorem HI{κ:KS}{w':World}{A cap:Nat}{t:TypeId}{cur:Array Value}{fz:Nat×Nat}{xs:List zf}(h0:κ.w.heap.size<=A)(h1:A<w'.heap.size)(hh:w'.heap[A]? = some (.cells cur t fz))(wD:xs.length<=cap)
  (hc:∀ i (hi:i<xs.length),cur[i]? = some (.string ⟨xs[i].toArray⟩)):RD (κ.grown w') (.zx (.sl .str) xs) (.slice (some ⟨A,0,none⟩) xs.length cap):=by
 refine RD.zx (.sl .str) xs [.slice (some ⟨A,0,none⟩) xs.length cap] ?_
 have hf:∀ i,i<xs.length->∃ s,xs.getD i []=s/\cur[i]? = some (.string ⟨s.toArray⟩):=λi hi=>⟨_,rfl,by
  rw[List.getD_eq_getElem?_getD,List.getElem?_eq_getElem hi]; exact hc i hi⟩
 refine Rc.sl .str xs A 0 cap (λi=>[.string ⟨(xs.getD i []).toArray⟩]) (.inr ⟨h0,h1⟩) wD (λi hi => ?_) (λi hi j v hv => ?_)
 ·show Rc _ _ .str xs[i] [.string ⟨(xs.getD i []).toArray⟩]
  rw[List.getD_eq_getElem?_getD,List.getElem?_eq_getElem hi]
  exact Rc.str _
 ·obtain⟨s,e1,e2⟩:=hf i hi
  cases j with
  | succ j=>cases hv
  | zero =>
   have hv:some (Value.string ⟨(xs.getD i []).toArray⟩)=some v:=hv
   injection hv with hv
   rw[e1]at hv
   subst hv
   show w'.cell? ⟨A,0+i*Ty.size .str+0,none⟩=_
   rw[show 0+i*Ty.size .str+0=i from by show 0+i*1+0=i; omega]
   simp[World.cell?,hh,e2]
theorem E5{κ:KS}(s sep:zf)(h1:sep.length=1)(t:TypeId) :
  RD (κ.grown (κ.w.alloc (.cells ((Lib.splitB ⟨sep.toArray⟩ 0 (Lib.countB ⟨s.toArray⟩ ⟨sep.toArray⟩) ⟨s.toArray⟩).map Value.string).toArray t))) (.zx (.sl .str) (uK (sep.headD 0) s))
   (.slice (some ⟨κ.w.heap.size,0,none⟩) (Lib.countB ⟨s.toArray⟩ ⟨sep.toArray⟩+1) (Lib.countB ⟨s.toArray⟩ ⟨sep.toArray⟩+1)):=by
 obtain⟨c,rfl⟩:∃ c,sep=[c]:=by
  match sep,h1 with
  | [c],_=>exact⟨c,rfl⟩
 have hd:=Lib.splitB_data ⟨[c].toArray⟩ 0 (Lib.countB ⟨s.toArray⟩ ⟨[c].toArray⟩) ⟨s.toArray⟩
 have he:Lib.splitK [c] 0 (Lib.count s [c]) s=uK c s:=Uv c s
 have hd:(Lib.splitB ⟨[c].toArray⟩ 0 (Lib.countB ⟨s.toArray⟩ ⟨[c].toArray⟩) ⟨s.toArray⟩).map (·.data.toList)=uK c s:=hd.trans he
 have hlen:=Lib.splitB_all ⟨[c].toArray⟩ (Nat.le_refl 1) 0 (Lib.countB ⟨s.toArray⟩ ⟨[c].toArray⟩) ⟨s.toArray⟩ rfl
 generalize Lib.splitB ⟨[c].toArray⟩ 0 (Lib.countB ⟨s.toArray⟩ ⟨[c].toArray⟩) ⟨s.toArray⟩=bs at *
 rw[<- hlen]
 show RD _ (.zx (.sl .str) (uK c s)) _
 rw[<- hd,show bs.length=(bs.map (·.data.toList)).length from(List.length_map ..).symm]
 refine HI (cur:=(bs.map Value.string).toArray) (t:=t) (fz:=(0,0)) (Nat.le_refl _) (by show κ.w.heap.size<(κ.w.heap.push _).size; rw[Array.size_push]; omega) (by show(κ.w.heap.push _)[κ.w.heap.size]? = _; rw[Array.getElem?_push,if_pos rfl]) (Nat.le_refl _) (λi hi => ?_)
 rw[List.length_map]at hi
 rw[List.getElem?_toArray,List.getElem?_map,List.getElem?_eq_getElem hi,List.getElem_map]
 rfl
theorem BB{κ:KS}{w':World}{A:Nat}{t:TypeId}(s:zf)(ho:w'.ownsRow κ.w.heap.size t 1 (.slice (some ⟨A,0,none⟩) (Lib.goFieldsP (λn=>n==32) ⟨s.toArray⟩).length (Lib.goFieldsP (λn=>n==32) ⟨s.toArray⟩).length) (Lib.goFieldsP (λn=>n==32) ⟨s.toArray⟩).length ((Lib.goFieldsP (λn=>n==32) ⟨s.toArray⟩).map Value.string)) :
  RD (κ.grown w') (.zx (.sl .str) (w7 32 [] s)) (.slice (some ⟨A,0,none⟩) (Lib.goFieldsP (λn=>n==32) ⟨s.toArray⟩).length (Lib.goFieldsP (λn=>n==32) ⟨s.toArray⟩).length):=by
 have he:(Lib.goFieldsP (λn=>n==32) ⟨s.toArray⟩).map (·.data.toList)=w7 32 [] s:=Cx ⟨s.toArray⟩
 generalize Lib.goFieldsP (λn=>n==32) ⟨s.toArray⟩=bs at *
 rw[<- he]
 obtain⟨-,⟨h,-⟩ | ⟨g,cap,cur,hv,hg,hh,hn,wD,vV,El⟩⟩:=ho
 ·cases h
 ·have e1:A=g:=by injection hv with a b c; injection a with a; injection a with a
  have e2:bs.length=cap:=by injection hv
  subst e1
  have qc:A<w'.heap.size:=(Array.getElem?_eq_some_iff.1 hh).1
  have:=HI (κ:=κ) (xs:=bs.map (·.data.toList)) (cap:=bs.length) hg qc hh (by rw[List.length_map]; exact Nat.le_refl _) (λi hi=>by
   rw[List.length_map]at hi
   have h2:(cur.toList.take (bs.length*1))[i]? = (bs.map Value.string)[i]? := congrArg (λl=>l[i]?) El
   rw[List.getElem?_take,if_pos (by omega),List.getElem?_map,List.getElem?_eq_getElem hi]at h2
   rw[<- Array.getElem?_toList,h2,List.getElem_map]
   rfl)
  rwa [List.length_map]at this
end Go.AM
namespace Go.Proofs
open Go.Shelf Go.RowKit Go.Lib
variable {P:Program} {ρ:Ren}
set_option maxHeartbeats 8000000 in
set_option maxRecDepth 1000000 in
theorem Any.cZ(L:Lays.n152 P ρ)(s:ByteArray)(r:Int)(w:World)(hs:∀ b∈s.data.toList,b.toNat<128)(h1:128<=r)(h2:r<=2147483647)(h63:s.size<4294967281) :
  Calls P (ρ.f 152) #[.string s,.int .i32 r] w λe w'=>e=.returned (.int .i64 (-1))/\Below w.heap.size w w':=by
 have mixed:=L.mixed
 have t3:=L.t3; have a3:=L.a3; have z3:=L.z3; have v3:=L.v3
 have t4:=L.t4; have a4:=L.a4; have z4:=L.z4; have v4:=L.v4
 have t5:=L.t5; have a5:=L.a5; have z5:=L.z5; have v5:=L.v5
 have t9:=L.t9; have a9:=L.a9; have z9:=L.z9; have v9:=L.v9
 have t21:=L.t21; have a21:=L.a21; have z21:=L.z21; have v21:=L.v21
 have z8J:∀ args w,(callFunc (ρ.f 137) args).run P w=.ok (.enter (ρ.f 137) args) w:=enters_of L.f137 (by kernel_rfl) rfl
 have z8u:∀ args w,(callFunc (ρ.f 119) args).run P w=.ok (.enter (ρ.f 119) args) w:=enters_of L.f119 (by kernel_rfl) rfl
 have HS:Aside (∀ b∈s.data.toList,b.toNat<128):=hs
 clear hs
 by_cases hE:r=65533
 ·subst hE
  go_enter L.f152,Body.n152_ntmps ρ
  go_wp2
  go_loopg [5,6] s.size (λg _ _ wx=>∃ i:Nat,i+g=s.size/\wx=w.iter s i)
  case atStart=>exact⟨0,by omega,rfl⟩
  case round =>
   obtain⟨i,hig,rfl⟩:=hrel
   cases gk with
   | zero =>
    obtain rfl:i=s.size:=by omega
    have Ly:=run_next_end (P:=P) w s s.size
    go_wp2
    go_ret
    exact⟨rfl,(Below.refl _ _).alloc (Nat.le_refl _) _⟩
   | succ g =>
    have hi:i<s.size:=by omega
    obtain⟨x,hx⟩:∃ x:UInt8,s[i]'hi=x:=⟨_,rfl⟩
    have U7:s.data.toList[i]? = some x:=by rw[<- hx]; exact Lib.data_getElem? s i hi
    have OU:x.toNat<128:=HS.out x (List.mem_of_getElem? U7)
    have Ly:=λty=>run_next_ascii (P:=P) w s i ty hi (by rw[hx]; exact OU)
    rw[hx]at Ly
    have vP:((x.toNat:Int)==65533)=false:=beq_eq_false_iff_ne.2 (by omega)
    clear U7 hx
    go_wp2
    go_roundg g
    case measure=>omega
    case rel=>exact⟨i+1,by omega,rfl⟩
 ·have vP:(r==65533)=false:=beq_eq_false_iff_ne.2 hE
  have c0:decide ((0:Int)<=r)=true:=decide_eq_true (by omega)
  have c1:decide (r<128)=false:=decide_eq_false (by omega)
  cases hv:Lib.validRune r
  ·go_enter L.f152,Body.n152_ntmps ρ
   go_wp2_with (go_at_fn (ρ.f 119); refine(Any.utf8_ValidRune { L with } _ _).mono ?_; rintro e w' ⟨rfl,hw⟩; rw[hw,hv])
   go_ret
   exact⟨rfl,Below.refl _ _⟩
  ·obtain⟨g1,g2,g3⟩:=encode_facts r (by rw[validRune_eq]; exact hv) h1
   have hu:(P.underlying (ρ.t 21)).isSome=true:=by rw[t21]; rfl
   have u21:=run_underlying L.t21; have u9:=run_underlying L.t9; have u3:=run_underlying L.t3
   go_enter L.f152,Body.n152_ntmps ρ
   go_wp2_with (go_at_fn (ρ.f 119); refine(Any.utf8_ValidRune { L with } _ _).mono ?_; rintro e w' ⟨rfl,hw⟩; rw[hw,hv])
   clear hw
   go_step3
   go_wp2
   obtain⟨m,hm⟩:∃ m:Nat,(Utf8.encode r).size=m+1:=⟨(Utf8.encode r).size-1,by omega⟩
   have vV:((Utf8.encode r).size:Int)-1=(m:Int):=by omega
   simp only[vV]
   by_cases qc:m<s.size
   ·have hl:decide ((m:Int)<(s.size:Int))=true:=decide_eq_true (by omega)
    obtain⟨x,hx⟩:∃ x:UInt8,s[m]'qc=x:=⟨_,rfl⟩
    obtain⟨y,hy⟩:∃ y:UInt8,(Utf8.encode r)[m]'(by omega)=y:=⟨_,rfl⟩
    have OU:x.toNat<128:=HS.out x (by rw[<- hx]; exact List.mem_of_getElem? (Lib.data_getElem? s m qc))
    have z7m:128<=y.toNat:=by rw[<- hy]; have:=g3 (by omega); simpa[hm]using this
    have VZ:(0:Int)<=(m:Int)+1:=by omega
    have GW:(m:Int)+1<=(s.size:Int):=by omega
    have Dc:¬ ((m:Int)+1<0):=by omega
    have J5:¬ ((s.size:Int)<(m:Int)+1):=by omega
    have hxy:((x.toNat:Int)==(y.toNat:Int))=false:=beq_eq_false_iff_ne.2 (by omega)
    have hwr:IntKind.i64.wrap ((m:Int)+1)=(m:Int)+1:=wrap_small _ (by omega) (by omega)
    have HF:((y.toNat:Int)).toNat.toUInt8=y:=by simp
    have z8O:Lib.indexByte (List.take (s.size-(m+1)) (List.drop (m+1) s.data.toList)) y<0:=by
     have Vn:=Lib.contains_iff_indexByte (List.take (s.size-(m+1)) (List.drop (m+1) s.data.toList)) y
     have hc:(List.take (s.size-(m+1)) (List.drop (m+1) s.data.toList)).contains y=false:=by
      rw[List.contains_eq_mem,decide_eq_false_iff_not]
      intro hm
      have:=HS.out y (List.mem_of_mem_drop (List.mem_of_mem_take hm))
      omega
     rw[hc]at Vn
     have:=of_decide_eq_false Vn.symm
     omega
    have hsl:∀ W:World,(Instr.slice (ρ.t 9) (.string s) (some (.int .i64 ((m:Int)+1))) none none).run P W=.ok (.string (s.extract (m+1) s.size)) W:=λW=>by rw[run_slice_string_from_if W _ _ _ _ t9,if_pos ⟨VZ,GW⟩]; rfl
    go_rounds 1
    go_step3
    go_wp2
    go_region_o
    all_goals go_wp2
    all_goals go_region_with_o ((go_at_fn (ρ.f 137); refine(Any.strings_IndexByte { L with } _ _ _).mono ?_; rintro e w' ⟨rfl,hw⟩; rw[hw,HF]))
    all_goals go_wp2
    change Exit.inBlock 2 _ Exit.ret _ _
    go_wp2
    change Exit.inBlock 0 _ Exit.ret _ _
    go_ret
    exact⟨rfl,⟨rfl,rfl,rfl,Nat.le_refl _,λ_ _=>rfl⟩⟩
   ·have hl:decide ((m:Int)<(s.size:Int))=false:=decide_eq_false (by omega)
    go_rounds 1
    change Exit.inBlock 0 _ Exit.ret _ _
    go_ret
    exact⟨rfl,Below.refl _ _⟩
set_option maxHeartbeats 8000000 in
set_option maxRecDepth 1000000 in
theorem Any.cE(L:Lays.n153 P ρ)(s chars:ByteArray)(w:World)(h2:2<=chars.size)(h8:s.size<=8)(pj:chars.size<4294967281)(hac:∀ b∈chars.data.toList,b.toNat<128) :
  Calls P (ρ.f 153) #[.string s,.string chars] w λe w'=>e=.returned (.int .i64 (Lib.indexAny s.data.toList chars.data.toList))/\Below w.heap.size w w':=by
 have HC:Aside (∀ b∈chars.data.toList,b.toNat<128):=hac
 clear hac
 have z8w:chars.toList.isEmpty=false:=by
  rw[Lib.toList_data]
  cases h:chars.data.toList with
  | nil=>have:=Lib.size_eq chars; rw[h,List.length_nil]at this; omega
  | cons _ _=>rfl
 have J5:((chars.size:Int)==1)=false:=beq_eq_false_iff_ne.2 (by omega)
 have h8z:decide ((8:Int)<(s.size:Int))=false:=decide_eq_false (by omega)
 have t3:=L.t3; have a3:=L.a3; have z3:=L.z3; have v3:=L.v3
 have t4:=L.t4; have a4:=L.a4; have z4:=L.z4; have v4:=L.v4
 have t5:=L.t5; have a5:=L.a5; have z5:=L.z5; have v5:=L.v5
 have t9:=L.t9; have a9:=L.a9; have z9:=L.z9; have v9:=L.v9
 have t21:=L.t21; have a21:=L.a21; have z21:=L.z21; have v21:=L.v21
 have z8i:∀ args w,(callFunc (ρ.f 152) args).run P w=.ok (.enter (ρ.f 152) args) w:=enters_of L.f152 (by kernel_rfl) rfl
 have z8b:∀ args w,(callFunc (ρ.f 226) args).run P w=.ok (.enter (ρ.f 226) args) w:=enters_of L.f226 (by kernel_rfl) rfl
 go_enter L.f153,Body.n153_ntmps ρ
 go_wp2_with (go_at_fn (ρ.f 226); refine(Any.strings_shouldUseASCIISet { L with } _ _).mono ?_; rintro e w' ⟨rfl,hw⟩; rw[hw,h8z])
 go_loopw [9,10] (λ_ _ wr=>∃ pos:Nat,wr.heap[w.heap.size]? = some (.stringIter s pos)/\Below w.heap.size w wr/\pos<=s.size/\Lib.NoAny s.data.toList chars.data.toList pos) (λ_ _ wr=>s.size-wr.iterPos w.heap.size)
 case atStart=>exact⟨0,World.iter_heap w s 0,(Below.refl _ w).alloc (Nat.le_refl _) _,Nat.zero_le _,Lib.NoAny.zero _ _⟩
 case round =>
  obtain⟨pos,hit,Dj,hps,ya⟩:=hrel
  have HN:Aside (Lib.NoAny s.data.toList chars.data.toList pos):=ya
  clear ya
  have PA:=iterPos_of hit
  by_cases hp:pos<s.size
  ·have Ly:∀ ty,(Instr.next (.pointer (some ⟨w.heap.size,0,none⟩)) true ty).run P wr=_:=λty=>Lib.run_next_any_at wr w.heap.size s pos ty hit hp
   have KK:=Lib.iterAt_heap wr w.heap.size s pos (pos+(Utf8.decode s pos).2) hit
   have IE:=Lib.below_iterAt Dj (k:=w.heap.size) (Nat.le_refl _) s (pos+(Utf8.decode s pos).2)
   obtain⟨W1,hW1⟩:∃ W1,W1=wr.iterAt w.heap.size s (pos+(Utf8.decode s pos).2):=⟨_,rfl⟩
   rw[<- hW1]at Ly KK IE
   have z0Q:=lt_of_block KK
   have hwd:=Lib.decode_width_pos s pos hp
   obtain⟨db1,db2⟩:=Go.AM.XV s pos hp
   have U7:=Go.AM.ot s pos hp
   clear hW1 hit Dj
   by_cases h128:(s[pos]'hp).toNat<128
   ·have Nn:=decode_ascii s pos hp h128
    rw[Nn]at Ly KK hwd
    have sI:s.get! pos=s[pos]'hp:=by rw[<- get_at s pos hp,Nat.add_zero]
    rw[sI]at U7
    generalize s[pos]'hp=x at *
    have Vn:=Lib.contains_iff_indexByte chars.data.toList x
    have HF:((x.toNat:Int)).toNat.toUInt8=x:=by simp
    have Hx:Aside (s.data.toList[pos]? = some x):=U7
    clear U7 Nn db2 sI
    cases tb:chars.data.toList.contains x
    ·rw[tb]at Vn
     have qc:¬ ((0:Int)<=Lib.indexByte chars.data.toList x):=of_decide_eq_false Vn.symm
     clear Vn
     go_wp2_with (go_at_fn (ρ.f 152); refine(Any.strings_IndexRune_ascii { L with } _ _ _ (by omega) (by omega)).mono ?_; rintro e w' ⟨rfl,hw⟩; rw[hw,HF])
     go_roundw
     case rel=>exact⟨pos+1,KK,IE,by omega,HN.out.succ Hx.out tb⟩
     case measure=>rw[iterPos_of KK,PA]; omega
    ·rw[tb]at Vn
     have hge:(0:Int)<=Lib.indexByte chars.data.toList x:=of_decide_eq_true Vn.symm
     clear Vn
     go_wp2_with (go_at_fn (ρ.f 152); refine(Any.strings_IndexRune_ascii { L with } _ _ _ (by omega) (by omega)).mono ?_; rintro e w' ⟨rfl,hw⟩; rw[hw,HF])
     go_ret
     exact⟨by rw[Lib.indexAny_hit HN.out Hx.out tb]; rfl,IE⟩
   ·have hr1:(128:Int)<=((Utf8.decode s pos).1:Int):=by have:=(decode_high s pos hp (by omega)).1; omega
    have Tu:((Utf8.decode s pos).1:Int)<=2147483647:=by have:=decode_le s pos; omega
    have HN2:Aside (Lib.NoAny s.data.toList chars.data.toList (pos+(Utf8.decode s pos).2)):=λj b hj hb=>by
     by_cases h:j<pos
     ·exact HN.out j b h hb
     ·have hg:=Go.AM.ot s j (by omega)
      rw[hg]at hb
      injection hb with hb
      have z6O:128<=b.toNat:=by
       rw[<- hb]
       by_cases h0:j=pos
       ·subst h0
        have sI:s.get! j=s[j]'hp:=by rw[<- get_at s j hp,Nat.add_zero]
        rw[sI]; omega
       ·have:=db2 (j-pos) (by omega) (by omega)
        rwa [show pos+(j-pos)=j by omega]at this
      rw[List.contains_eq_mem,decide_eq_false_iff_not]
      intro hm
      have:=HC.out b hm
      omega
    clear U7 db2 HN
    generalize (Utf8.decode s pos).1=r at *
    generalize (Utf8.decode s pos).2=n at *
    go_wp2_with (go_at_fn (ρ.f 152); refine(Any.cZ { L with } _ _ _ HC.out hr1 Tu pj).mono ?_; rintro e w' ⟨rfl,hB⟩)
    go_roundw
    case rel=>exact⟨pos+n,by rw[hB.block _ z0Q]; exact KK,IE.trans (hB.mono IE.size),by omega,HN2.out⟩
    case measure=>rw[iterPos_of ((hB.block _ z0Q).trans KK),PA]; omega
  ·obtain rfl:pos=s.size:=by omega
   have Ly:∀ ty,(Instr.next (.pointer (some ⟨w.heap.size,0,none⟩)) true ty).run P wr=_:=λty=>Lib.run_next_end_at wr w.heap.size s s.size ty hit (by omega)
   go_wp2
   go_ret
   exact⟨by rw[Lib.indexAny_none (by rw[<- Lib.size_eq]; exact HN.out)]; rfl,Dj⟩
theorem Any.eV(L:Lays.n153 P ρ)(hv116:∀ w,(zeroValue (ρ.t 116)).run P w=.ok (.agg (Array.replicate 256 (.bool false))) w)(Ta:(P.info? (ρ.t 116)).map (·.size)=some 256)(s chars:ByteArray)(w:World)(h2:2<=chars.size)(hs:s.size<4294967281)(pj:chars.size<4294967281)
  (hac:∀ b∈chars.data.toList,b.toNat<128) :
  Calls P (ρ.f 153) #[.string s,.string chars] w λe w'=>e=.returned (.int .i64 (Lib.indexAny s.data.toList chars.data.toList))/\Below w.heap.size w w':=by
 by_cases h8:s.size<=8
 ·exact Any.cE L s chars w h2 h8 pj hac
 ·refine(Any.strings_IndexAny_long L hv116 Ta s chars w (by omega) (by omega) hs pj λj b h=>hac b (List.mem_of_getElem? h)).mono λe w' ⟨h1,h2⟩=>⟨h1,?_⟩
  rw[h2]
  exact((Below.refl _ _).alloc (Nat.le_refl _) _).alloc (by simp) _
end Go.Proofs