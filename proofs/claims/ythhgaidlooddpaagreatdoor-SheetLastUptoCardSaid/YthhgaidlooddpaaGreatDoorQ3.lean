/-
  Plain laws of the lifted program, part 3.
-/
import Derived.Test.YthhgaidlooddpaaGreatDoorLf0
import Derived.Test.YthhgaidlooddpaaGreatDoorAmA
import Derived.Test.YthhgaidlooddpaaGreatDoorAmD
import Derived.Test.YthhgaidlooddpaaGreatDoorQ0
import Derived.Test.YthhgaidlooddpaaGreatDoorQ1
import Derived.Test.YthhgaidlooddpaaGreatDoorQ2
set_option linter.unusedVariables false
open Go.AM.T (EI z6 z7 z7L z8 za zb zg zj)
namespace Go.AM.Lf
open PL
theorem kU(w r:ze)(h0:w≠[])(h:(32:UInt8) ∉ w):xC 32 [] (w++32::r)=w::xC 32 [] r:=by
 rw[Xa 32 w [] (32::r) λb hb e=>h (e▸hb),List.nil_append]
 conv=>lhs; unfold xC
 rw[if_pos rfl,if_neg h0]
theorem Jg(w:ze)(h0:w≠[])(h:(32:UInt8) ∉ w):xC 32 [] w=[w]:=by
 have:=Xa 32 w [] [] λb hb e=>h (e▸hb)
 rw[List.append_nil,List.nil_append]at this
 rw[this]
 unfold xC
 rw[if_neg h0]
theorem jm{s:ze}(h:zG s=true)(c:UInt8)(hc:wW c=false):c ∉ s:=Zp (kz h).2.1 c hc
theorem n7{s:ze}(h:zG s=true):s≠[]:=by
 obtain⟨_,_,c,r,rfl,_⟩:=kz h
 exact List.cons_ne_nil _ _
def CQ(c:UInt8):Bool := !(c==10||(c==60||c==61))
theorem Su{c:UInt8}(h:wW c=true):CQ c=true:=by
 unfold CQ
 by_cases h1:c=10
 ·subst h1; exact absurd h (by decide)
 by_cases h2:c=60
 ·subst h2; exact absurd h (by decide)
 by_cases h3:c=61
 ·subst h3; exact absurd h (by decide)
 simp[h1,h2,h3]
theorem z7d{s:ze}(h:s.all wW=true):s.all CQ=true:=by
 rw[List.all_eq_true]at h ⊢
 exact λc hc=>Su (h c hc)
theorem VI{s:ze}(h:qS s=true):s.all CQ=true:=by
 unfold qS at h
 rw[List.all_eq_true]at h ⊢
 exact λc hc=>Su (R4 (h c hc))
theorem TC{n:Rat}(hn:uK n)(h:wY n=true):(dN n).all CQ=true:=by
 obtain⟨_,_,w,h1,_,h3 | ⟨p,h4,_,h5⟩⟩:=mF hn h
 ·rw[h3]; exact VI h1
 ·rw[h5,List.all_append,VI h1,List.all_cons,VI h4]; rfl
theorem VS(b:Bool){s:ze}(h:s.all CQ=true):(vO b s).all CQ=true:=by
 unfold vO
 split
 ·simp only[List.all_append,h]; rfl
 ·exact h
theorem Nd(k:Int):(ta k).all CQ=true:=by unfold ta; (repeat' split)<;>rfl
theorem z1J:∀ (m:Nat) (e:Expr) (d:Nat),xk e<=m->xB d e=true->allOk e->(prE e).all CQ=true:=by
 intro m
 induction m with
 | zero=>intro e d hm; cases e; unfold xk at hm; omega
 | succ m ih =>
  intro e d hm ho ha
  cases e with | mk k n s l =>
  obtain⟨hk,hl⟩:=lM ho
  obtain⟨hn,cT⟩:=ha
  have Du:xk (.mk k n s l)=1+wz l:=rfl
  rw[Du]at hm
  have FM:(decide (d<32)&&(vR (.mk k n s l)&&ub (d+1) l))=true:=ho
  simp only[Bool.and_eq_true]at FM
  rw[Gv]
  by_cases h1:k=1
  ·subst h1
   have h9:((((Expr.mk 1 n s l).kids.length:Int)==dW 1)&&(wY n&&zh s []))=true:=FM.2.1
   simp only[Bool.and_eq_true]at h9
   rw[if_pos rfl]
   exact TC hn h9.2.1
  ·rw[if_neg h1]
   by_cases h2:k=2
   ·subst h2
    have h9:((((Expr.mk 2 n s l).kids.length:Int)==dW 2)&&(xD n&&zG s))=true:=FM.2.1
    simp only[Bool.and_eq_true]at h9
    rw[if_pos rfl]
    exact z7d (kz h9.2.2).2.1
   ·rw[if_neg h2]
    match l,hl,cT,hm with
    | [],_,_,_=>show(gD k []).all CQ=true; unfold gD; rfl
    | [a],hl,cT,hm =>
     have Rn:xB (d+1) a=true:=by
      have:(xB (d+1) a&&ub (d+1) [])=true:=hl
      simp only[Bool.and_eq_true]at this; exact this.1
     have:=ih a (d+1) (by have:wz [a]=xk a+0:=rfl; omega) Rn cT.1
     show([45]++vO (decide (zr a.kind<3)) (prE a)).all CQ=true
     rw[List.all_append,VS _ this]; rfl
    | [a,b],hl,cT,hm =>
     have QQ:xB (d+1) a=true/\xB (d+1) b=true:=by
      have:(xB (d+1) a&&(xB (d+1) b&&ub (d+1) []))=true:=hl
      simp only[Bool.and_eq_true]at this; exact⟨this.1,this.2.1⟩
     have e0:wz [a,b]=xk a+(xk b+0):=rfl
     have h3:=ih a (d+1) (by omega) QQ.1 cT.1
     have h4:=ih b (d+1) (by omega) QQ.2 cT.2.1
     show(vO (decide (zr a.kind<zr k)) (prE a)++ta k++vO (decide (zr b.kind<zr k+1)) (prE b)).all CQ=true
     rw[List.all_append,List.all_append,VS _ h3,VS _ h4,Nd]; rfl
    | a::b::c::r,_,_,_=>show(gD k _).all CQ=true; unfold prL prL prL gD; rfl
theorem E2{e:Expr}(h:xB 0 e=true)(ha:w6 e):(prE e).all CQ=true:=z1J (xk e) e 0 (Nat.le_refl _) h ha.2.2
theorem z7G{e:Expr}(h:xB 0 e=true)(ha:w6 e):Gb e=true:=by
 unfold Gb
 rw[h,decide_eq_true (Hj ha)]; rfl
theorem Y1{e:Expr}(h:xB 0 e=true)(ha:w6 e)(m n:Nat):qy (iN m++(prE e++iN n))=(canE e,((0:Int),(0:Int))):=by
 have NP:yg (iN n)=[]:=by have:=EP n []; rw[List.append_nil]at this; exact this
 have zfd:o9 (iN n)=true:=by have:=z3R n (r:=[]) rfl; rwa [List.append_nil]at this
 have h1:=(rdE e 0 h ha.2.2).sum (iN n) false (.ok (canE e) [] false) zfd (by unfold xT; rw[NP]) (by
  have:=V8 (d:=0) (e:=canE e) (r:=iN n) (l:=false) (by unfold xT; rw[NP])
  rwa [NP]at this)
 have hs:=z9S h1 (s':=iN m++(prE e++iN n)) (EP m _)
 unfold qy
 rw[Tf hs]
 unfold CR oo
 dsimp only
 rw[if_neg (by decide),z1N (z7G h ha) ha.2.2,if_neg (by simp)]
theorem JU{l r:Expr}(h1:xB 0 l=true)(h2:xB 0 r=true)(e1:w6 l)(e2:w6 r)(n:Int)(h0:0<=n)(hn:n<=2):qO ([32]++prE l++[32]++ju n++[32]++prE r)=(canE l,(canE r,(n,(0:Int)))):=by
 have p1:=Y1 h1 e1 1 1
 have p2:=Y1 h2 e2 1 0
 rw[show iN 0=[]from rfl,List.append_nil]at p2
 have kK:∀ b∈iN 1++(prE l++iN 1),b≠60/\b≠61:=λb hb=>by
  have ha:(iN 1++(prE l++iN 1)).all CQ=true:=by rw[List.all_append,List.all_append,E2 h1 e1]; rfl
  have:=List.all_eq_true.1 ha b hb
  unfold CQ at this
  simp only[Bool.not_eq_true',Bool.or_eq_false_iff,beq_eq_false_iff_ne]at this
  exact this.2
 have hc:yH (ju n++([32]++prE r))=some ([],n,iN 1++prE r):=by
  have:n=0\/n=1\/n=2:=by omega
  rcases this with rfl | rfl | rfl<;>rfl
 have hq:=Xj (ju n++([32]++prE r)) kK
 rw[hc]at hq
 dsimp only at hq
 unfold qO
 rw[show[32]++prE l++[32]++ju n++[32]++prE r=iN 1++(prE l++iN 1)++(ju n++([32]++prE r)) by simp[iN],hq]
 dsimp only
 rw[List.append_nil,p1,p2,if_neg (λh=>h rfl)]
def Rd(S:gA)(u:ze)(S':gA):Prop:=∀ t k,∃ k',ur (jv 10 (u++t)) S k=ur (jv 10 t) S' k'
theorem Rd.nil(S:gA):Rd S [] S:=λ_ k=>⟨k,rfl⟩
theorem Rd.app{S S' S'':gA}{u v:ze}(h:Rd S u S')(h':Rd S' v S''):Rd S (u++v) S'':=λt k=>by
 obtain⟨k',e⟩:=h (v++t) k
 obtain⟨k'',e'⟩:=h' t k'
 exact⟨k'',by rw[List.append_assoc,e,e']⟩
theorem Rd.line{S:gA}{l:ze}{D:gA}(h:(10:UInt8) ∉ l)(hl:wB S.2.2.1.length l=(0,D)):Rd S (l++[10]) (bm S D):=λt k=>by
 refine⟨k+1,?_⟩
 rw[List.append_assoc,List.singleton_append,z0R 10 l t λb hb e=>h (e▸hb),Fm,hl,if_pos rfl]
theorem Rd.flat{α:Type}(m:Nat)(f:α->ze)(g:gA->α->gA)(l:List α)(h:∀ S,∀ x∈l,S.2.2.1.length=m->Rd S (f x) (g S x)/\(g S x).2.2.1.length=m):∀ S:gA,S.2.2.1.length=m->Rd S (l.flatMap f) (l.foldl g S):=by
 induction l with
 | nil=>exact λS _=>Rd.nil S
 | cons x r ih =>
  intro S hS
  obtain⟨h1,h2⟩:=h S x List.mem_cons_self hS
  rw[List.flatMap_cons,List.foldl_cons]
  exact h1.app (ih (λS y hy=>h S y (List.mem_cons_of_mem _ hy)) _ h2)
theorem Rd.Tp{α:Type}(f:α->ze)(g:gA->α->gA)(l:List α)(h:∀ S,∀ x∈l,Rd S (f x) (g S x)):∀ S:gA,Rd S (l.flatMap f) (l.foldl g S):=by
 induction l with
 | nil=>exact λS=>Rd.nil S
 | cons x r ih =>
  intro S
  rw[List.flatMap_cons,List.foldl_cons]
  exact(h S x List.mem_cons_self).app (ih (λS y hy=>h S y (List.mem_cons_of_mem _ hy)) _)
theorem nw{np:Nat}{s:ze}{x:ze}{w:List ze}(h:xC 32 [] s=x::w)(hh:ZO x=false):wB np s=Pt np s (x::w):=by
 rw[z06 np s x w h,hh,if_neg (by decide)]
theorem xV{c:UInt8}{a b:ze}(h1:c ∉ a)(h2:c ∉ b):c ∉ a++b:=λh=>(List.mem_append.1 h).elim h1 h2
theorem z1n(x:Switch)(h:zG x.1=true)(S:gA):Rd S (YZ x) (bm S ([x],[],[],[],[],[])):=by
 obtain⟨n,b,u⟩:=x
 have e:YZ (n,(b,u))=([115,119,105,116,99,104]++32::(n++32::(bif b then[111,110]else[111,102,102])))++[10]:=by
  unfold YZ; cases b<;>simp
 rw[e]
 have hw:xC 32 [] ([115,119,105,116,99,104]++32::(n++32::(bif b then[111,110]else[111,102,102])))=[[115,119,105,116,99,104],n,bif b then[111,110]else[111,102,102]]:=by
  rw[kU _ _ (by decide) (by decide),kU _ _ (n7 h) (jm h 32 (by decide)),Jg _ (by cases b<;>decide) (by cases b<;>decide)]
 refine Rd.line (xV (by decide) (List.not_mem_cons_of_ne_of_not_mem (by decide) (xV (jm h 10 (by decide)) (List.not_mem_cons_of_ne_of_not_mem (by decide) (by cases b<;>decide))))) ?_
 rw[nw hw rfl,dM,if_pos (qq _)]
 unfold Ya
 rw[if_pos ⟨rfl,h,by cases b; exact .inr (qq _); exact .inl (qq _)⟩]
 cases b<;>rfl
theorem z2h{r:Rat}(hr:wh 100 r)(h1:ep r=true)(h2:um r=false):tp (vg (norm r))=some r/\norm r=r:=by
 have e:=(Jk r hr.1 hr.2.1).1 h1
 unfold um at h2
 rw[Bool.or_eq_false_iff,decide_eq_false_iff_not,decide_eq_false_iff_not]at h2
 have l1:=Vn (nv (norm r).2.1) 16 (by omega) (by have:=zw (ki (k:=100) (by omega) hr).1; omega)
 have l2:=Vn (nv (norm r).2.2.1) 16 (by omega) (by have:=zw (ki (k:=100) (by omega) hr).2.1; omega)
 have hp:=CJ r (MD hr) (by omega)
 have hl:(vg (norm r)).length<=1000000000:=by
  have:=Sj (([]:ze),(r,())) hr
  unfold JW wPa at this
  simp only[List.length_append,List.length_cons,List.length_nil]at this
  have:=hr.2.2.1
  have:=hr.2.2.2
  omega
 obtain⟨q,e2,g1,g2⟩:=Zr (vg (norm r)) hl
 rw[hp]at g1
 cases g1
 refine⟨?_,e⟩
 cases hd:tp (vg (norm r))with
 | none=>rw[hd]at g2; exact absurd rfl g2
 | some z=>rw[hd]at g2; rw[<- g2.1,e]
theorem z2c(x:Param)(h:fU x=false)(hr:wh 100 x.2.1)(S:gA):Rd S (JW x) (bm S ([],[x],[],[],[],[])):=by
 obtain⟨n,r,u⟩:=x
 unfold fU at h
 simp only[Bool.or_eq_false_iff,Bool.not_eq_false']at h
 obtain⟨h,h1,h2⟩:=h
 obtain⟨hd,_⟩:=z2h hr h1 h2
 have no:∀ c,uO c=false->c≠46->c≠47->c≠45->c ∉ vg (norm r):=λc a1 a2 a3 a4=>IM a1 a2 a3 a4 hd
 have ne:vg (norm r)≠[]:=λe=>by rw[e,show tp []=none from rfl]at hd; cases hd
 have e:JW (n,(r,u))=([112,97,114,97,109]++32::(n++32::vg (norm r)))++[10]:=by unfold JW; simp
 rw[e]
 have hw:xC 32 [] ([112,97,114,97,109]++32::(n++32::vg (norm r)))=[[112,97,114,97,109],n,vg (norm r)]:=by
  rw[kU _ _ (by decide) (by decide),kU _ _ (n7 h) (jm h 32 (by decide)),Jg _ ne (no 32 (by decide) (by decide) (by decide) (by decide))]
 refine Rd.line (xV (by decide) (List.not_mem_cons_of_ne_of_not_mem (by decide) (xV (jm h 10 (by decide)) (List.not_mem_cons_of_ne_of_not_mem (by decide) (no 10 (by decide) (by decide) (by decide) (by decide)))))) ?_
 rw[nw hw rfl,dM,if_neg (by decide),if_pos (qq _)]
 unfold WN
 rw[if_pos ⟨rfl,h⟩,show wd [[112,97,114,97,109],n,vg (norm r)] 2=vg (norm r)from rfl,hd]
 rfl
theorem N0{a:List ze}(w:ze)(h:yy w=true)(n:Nat)(hn:a.length=n):UF (a++(if w=[]then[]else[[119,104,101,110],w])) n=(w,true):=by
 unfold UF
 by_cases c:w=[]
 ·subst c
  rw[if_pos rfl,List.append_nil,if_pos hn]
 ·unfold yy at h
  rw[xP,decide_eq_false c,Bool.false_or]at h
  have l:(a++[[119,104,101,110],w]).length=n+2:=by simp[hn]
  have n1:nth (a++[[119,104,101,110],w]) (n:Int) (zk .str)=[119,104,101,110]:=by simp[nth,<- hn]
  have n2:nth (a++[[119,104,101,110],w]) ((n+1:Nat):Int) (zk .str)=w:=by simp[nth,<- hn]
  rw[if_neg c,if_neg (by omega),n1,n2,if_pos ⟨l,qq _,h⟩]
theorem Jv{w:ze}(h:yy w=true)(c:UInt8)(hc:wW c=false):c ∉ w:=by
 unfold yy at h
 rw[xP,Bool.or_eq_true,decide_eq_true_eq]at h
 rcases h with rfl | h
 ·exact List.not_mem_nil
 ·exact jm h c hc
theorem z1A{a w:ze}(ha:a≠[])(h3:(32:UInt8) ∉ a)(h:yy w=true):xC 32 [] (a++Kk w)=a::(if w=[]then[]else[[119,104,101,110],w]):=by
 unfold Kk
 by_cases c:w=[]
 ·rw[if_pos c,if_pos c,List.append_nil,Jg a ha h3]
 ·rw[if_neg c,if_neg c,show a++([32,119,104,101,110,32]++w)=a++32::([119,104,101,110]++32::w) by simp,kU a _ ha h3,kU _ _ (by decide) (by decide),Jg w c (Jv h 32 (by decide))]
theorem IX{w:ze}(h:yy w=true)(c:UInt8)(hc:wW c=false)(h2:c≠32):c ∉ Kk w:=by
 unfold Kk
 split
 ·exact List.not_mem_nil
 ·refine xV ?_ (Jv h c hc)
  intro hm
  simp only[List.mem_cons,List.not_mem_nil,or_false]at hm
  rcases hm with rfl | rfl | rfl | rfl | rfl | rfl<;>first | exact h2 rfl | exact absurd hc (by decide)
theorem z2p(x:xj)(h:WJ x=false)(S:gA):Rd S (E8 x) (bm S ([],[],[x],[],[],[])):=by
 obtain⟨n,w,u⟩:=x
 unfold WJ at h
 simp only[Bool.or_eq_false_iff,Bool.not_eq_false']at h
 obtain⟨h,hg⟩:=h
 have e:E8 (n,(w,u))=([112,97,103,101]++32::(n++Kk w))++[10]:=by unfold E8; simp
 rw[e]
 have hw:xC 32 [] ([112,97,103,101]++32::(n++Kk w))=[112,97,103,101]::(n::if w=[]then[]else[[119,104,101,110],w]):=by
  rw[kU _ _ (by decide) (by decide),z1A (n7 h) (jm h 32 (by decide)) hg]
 refine Rd.line (xV (by decide) (List.not_mem_cons_of_ne_of_not_mem (by decide) (xV (jm h 10 (by decide)) (IX hg 10 (by decide) (by decide))))) ?_
 rw[nw hw rfl,dM,if_neg (by decide),if_neg (by decide),if_pos (qq _)]
 have hb:=N0 (a:=[[112,97,103,101],n]) w hg 2 rfl
 have hb:UF ([112,97,103,101]::(n::if w=[]then[]else[[119,104,101,110],w])) 2=(w,true):=hb
 unfold Vc
 rw[hb,if_pos ⟨by simp,h,rfl⟩]
 rfl
def ZB(x:Check):Check:=(x.1,(x.2.1,(x.2.2.1,(canE x.2.2.2.1,(canE x.2.2.2.2.1,())))))
def eF(x:qH):qH:=(x.1,(x.2.1,(x.2.2.1,(canE x.2.2.2.1,(canE x.2.2.2.2.1,())))))
theorem Pu{n:Int}(h:0<n)(h9:n<=9):∃ c:UInt8,cQ n=[c]/\48<=c.toNat/\c.toNat<=57/\(c.toNat:Int)-48=n/\c≠32/\c≠10:=by
 have:n=1\/n=2\/n=3\/n=4\/n=5\/n=6\/n=7\/n=8\/n=9:=by omega
 rcases this with rfl | rfl | rfl | rfl | rfl | rfl | rfl | rfl | rfl<;>exact⟨_,(Z4 _ (by decide) (by decide)).symm,by decide,by decide,by decide,by decide,by decide⟩
theorem z2r(x:Field)(i:Nat)(hx:x.2.1=(i:Int))(h:zG x.1=true)(h0:ss 0 x.2.2.2.1)(h9:ss x.2.2.2.1 9)(S:gA)(hS:S.2.2.1.length=i+1):Rd S (Ph x) (bm S ([],[],[],[x],[],[])):=by
 obtain⟨n,p,m,k,u⟩:=x
 have hx:p=(i:Int):=hx
 subst hx
 have h0:0<=k:=h0
 have h9:k<=9:=h9
 let W:List ze:=(if m=true then[[109,117,115,116]]else[])++(if 0<k then[[115,99,97,108,101],cQ k]else[])
 let T:ze:=(if m=true then[32,109,117,115,116]else[])++(if 0<k then[32,115,99,97,108,101,32]++cQ k else[])
 have e:Ph (n,((i:Int),(m,(k,u))))=([102,105,101,108,100]++32::(n++T))++[10]:=by
  unfold Ph fhS
  dsimp only[T]
  by_cases c:0<k<;>cases m<;>simp[c]
 have hT:∀ a:ze,a≠[]->(32:UInt8) ∉ a->xC 32 [] (a++T)=a::W:=by
  intro a a0 a1
  dsimp only[T,W]
  by_cases c:0<k
  ·obtain⟨b,hb,_,_,_,b3,_⟩:=Pu c h9
   rw[if_pos c,if_pos c,hb]
   have hs:xC 32 [] (([115,99,97,108,101]:ze)++32::[b])=[[115,99,97,108,101],[b]]:=by rw[kU _ _ (by decide) (by decide),Jg _ (by simp) (by simpa using λh=>b3 h.symm)]
   cases m with
   | false =>
    rw[if_neg (by decide),if_neg (by decide),show a++(([]:ze)++([32,115,99,97,108,101,32]++[b]))=a++32::([115,99,97,108,101]++32::[b]) by simp,kU a _ a0 a1,hs]; rfl
   | true =>
    rw[if_pos rfl,if_pos rfl,show a++(([32,109,117,115,116]:ze)++([32,115,99,97,108,101,32]++[b]))=a++32::([109,117,115,116]++32::([115,99,97,108,101]++32::[b])) by simp,kU a _ a0 a1,kU _ _ (by decide) (by decide),hs]; rfl
  ·rw[if_neg c,if_neg c]
   cases m with
   | false=>rw[if_neg (by decide),if_neg (by decide),List.append_nil,List.append_nil,Jg a a0 a1]; rfl
   | true=>rw[if_pos rfl,if_pos rfl,show a++(([32,109,117,115,116]:ze)++[])=a++32::[109,117,115,116] by simp,kU a _ a0 a1,Jg _ (by decide) (by decide)]; rfl
 have zhl:(10:UInt8) ∉ T:=by
  dsimp only[T]
  refine xV (by cases m<;>decide) ?_
  by_cases c:0<k
  ·obtain⟨b,hb,_,_,_,_,b4⟩:=Pu c h9
   rw[if_pos c,hb]
   simpa using λh=>b4 h.symm
  ·rw[if_neg c]; exact List.not_mem_nil
 rw[e]
 have hw:xC 32 [] ([102,105,101,108,100]++32::(n++T))=[102,105,101,108,100]::(n::W):=by
  rw[kU _ _ (by decide) (by decide),hT n (n7 h) (jm h 32 (by decide))]
 refine Rd.line (xV (by decide) (List.not_mem_cons_of_ne_of_not_mem (by decide) (xV (jm h 10 (by decide)) zhl))) ?_
 rw[nw hw rfl,dM,if_neg (by decide),if_neg (by decide),if_neg (by decide),if_pos (qq _),hS]
 have hm:dZ W=m/\iJ (if dZ W=true then W.drop 1 else W)=some k:=by
  by_cases c:0<k
  ·obtain⟨b,hb,b1,b2,b5,_,_⟩:=Pu c h9
   have hW:W=(if m=true then[[109,117,115,116]]else[])++[[115,99,97,108,101],[b]]:=by dsimp only[W]; rw[if_pos c,hb]
   have hs:iJ [[115,99,97,108,101],[b]]=some k:=by
    show(if zh [115,99,97,108,101] [115,99,97,108,101]=true/\48<=b.toNat/\b.toNat<=57 then some ((b.toNat:Int)-48)else none)=_
    rw[if_pos ⟨qq _,b1,b2⟩,b5]
   generalize W=V at hW ⊢
   subst hW
   cases m<;>exact⟨rfl,hs⟩
  ·have:k=0:=Int.le_antisymm (Int.not_lt.1 c) h0
   subst this
   cases m<;>exact⟨rfl,rfl⟩
 have hr:ye ([102,105,101,108,100]::(n::W))=if dZ W=true then W.drop 1 else W:=rfl
 unfold Ji
 rw[if_pos ⟨by simp,h,by omega⟩,hr,hm.2]
 show(0,_)=_
 rw[show dZ (List.drop 2 ([102,105,101,108,100]::(n::W)))=dZ W from rfl,hm.1,show(((i+1:Nat):Int)-1)=(i:Int) by omega]
 rfl
theorem J8{np:Nat}{a b:ze}{x:ze}{w:List ze}(h:(58:UInt8) ∉ a)(hw:xC 32 [] a=x::w):wB np (a++58::b)=ll np (x::w) b true:=by
 unfold wB
 rw[pX 58 a b h,hw]
theorem z5P{s:ze}(h:s.all CQ=true):(10:UInt8) ∉ s:=Zp h 10 (by decide)
theorem z5h{l r:Expr}(h1:xB 0 l=true)(h2:xB 0 r=true)(e1:w6 l)(e2:w6 r){sg:ze}(h:(10:UInt8) ∉ sg):(10:UInt8) ∉ [32]++prE l++[32]++sg++[32]++prE r :=
 xV (xV (xV (xV (xV (by decide) (z5P (E2 h1 e1))) (by decide)) h) (by decide)) (z5P (E2 h2 e2))
theorem z4r(x:Check)(i:Nat)(hx:x.2.1=(i:Int))(h:zG x.1=true)(h0:ss 0 x.2.2.1)(h2:ss x.2.2.1 2)(o1:xB 0 x.2.2.2.1=true)(o2:xB 0 x.2.2.2.2.1=true)(e1:w6 x.2.2.2.1)(e2:w6 x.2.2.2.2.1)(S:gA)(hS:S.2.2.1.length=i+1):Rd S (Sw x) (bm S ([],[],[],[],[],[ZB x])):=by
 obtain⟨n,p,c,l,r,u⟩:=x
 have hx:p=(i:Int):=hx
 subst hx
 have e:Sw (n,((i:Int),(c,(l,(r,u)))))=(([99,104,101,99,107]++32::(n++[32]))++58::([32]++prE l++[32]++ju c++[32]++prE r))++[10]:=by unfold Sw Be; simp
 rw[e]
 have hw:xC 32 [] ([99,104,101,99,107]++32::(n++[32]))=[[99,104,101,99,107],n]:=by
  rw[kU _ _ (by decide) (by decide),kU n [] (n7 h) (jm h 32 (by decide))]; rfl
 have ns:∀ q:UInt8,wW q=false->q≠32->q ∉ ([99,104,101,99,107]:ze)->q ∉ ([99,104,101,99,107]:ze)++32::(n++[32]):=λq a b d=>xV d (List.not_mem_cons_of_ne_of_not_mem b (xV (jm h q a) (by simpa using b)))
 refine Rd.line (xV (ns 10 (by decide) (by decide) (by decide)) (List.not_mem_cons_of_ne_of_not_mem (by decide) (z5h o1 o2 e1 e2 ?_))) ?_
 ·unfold ju; (repeat' split)<;>decide
 ·rw[J8 (ns 58 (by decide) (by decide) (by decide)) hw,wy,if_neg (by decide),if_pos rfl,if_pos (qq _),hS]
  unfold DR
  rw[if_pos ⟨rfl,h,by omega⟩,JU o1 o2 e1 e2 c h0 h2,show(((i+1:Nat):Int)-1)=(i:Int) by omega]
  rfl
theorem z2e(x:qH)(h:iQ x=false)(e1:w6 x.2.2.2.1)(e2:w6 x.2.2.2.2.1)(S:gA):Rd S (Z8 x) (bm S ([],[],[],[],[eF x],[])):=by
 obtain⟨n,s,w,l,r,u⟩:=x
 unfold iQ at h
 simp only[Bool.or_eq_false_iff,Bool.not_eq_false',decide_eq_false_iff_not]at h
 obtain⟨h,hg,s0,s3,o1,o2⟩:=h
 have s0:0<=s:=Int.not_lt.1 s0
 have s3:s<=3:=Int.not_lt.1 s3
 have st:GZ (cH s)=s/\cH s≠[]/\(32:UInt8) ∉ cH s/\(58:UInt8) ∉ cH s/\(10:UInt8) ∉ cH s:=by
  have key:∀ z:Int,0<=z->z<=3->z=0\/z=1\/z=2\/z=3:=by intros; omega
  rcases key s s0 s3 with rfl | rfl | rfl | rfl<;>exact⟨by decide,by decide,by decide,by decide,by decide⟩
 have e:Z8 (n,(s,(w,(l,(r,u)))))=(([114,117,108,101]++32::(cH s++32::((n++Kk w)++[32])))++58::([32]++prE l++[32]++ju 0++[32]++prE r))++[10]:=by unfold Z8 Be; simp[ju]
 rw[e]
 have hn:xC 32 [] ((n++Kk w)++[32])=n::(if w=[]then[]else[[119,104,101,110],w]):=by
  unfold Kk
  by_cases c:w=[]
  ·rw[if_pos c,if_pos c,List.append_nil,kU n [] (n7 h) (jm h 32 (by decide))]; rfl
  ·rw[if_neg c,if_neg c,show n++([32,119,104,101,110,32]++w)++[32]=n++32::([119,104,101,110]++32::(w++32::[])) by simp,kU n _ (n7 h) (jm h 32 (by decide)),kU _ _ (by decide) (by decide),kU w [] c (Jv hg 32 (by decide))]; rfl
 have hw:xC 32 [] ([114,117,108,101]++32::(cH s++32::((n++Kk w)++[32])))=[114,117,108,101]::(cH s::(n::(if w=[]then[]else[[119,104,101,110],w]))):=by
  rw[kU _ _ (by decide) (by decide),kU _ _ st.2.1 st.2.2.1,hn]
 have ns:∀ q:UInt8,wW q=false->q≠32->q ∉ ([114,117,108,101]:ze)->q ∉ cH s->q ∉ ([114,117,108,101]:ze)++32::(cH s++32::((n++Kk w)++[32])):=λq a b d d2=>xV d (List.not_mem_cons_of_ne_of_not_mem b (xV d2 (List.not_mem_cons_of_ne_of_not_mem b (xV (xV (jm h q a) (IX hg q a b)) (by simpa using b)))))
 refine Rd.line (xV (ns 10 (by decide) (by decide) (by decide) st.2.2.2.2) (List.not_mem_cons_of_ne_of_not_mem (by decide) (z5h o1 o2 e1 e2 (by decide)))) ?_
 rw[J8 (ns 58 (by decide) (by decide) (by decide) st.2.2.2.1) hw,wy,if_neg (by decide),if_pos rfl,if_neg (by decide),if_pos (qq _)]
 have hb:UF ([114,117,108,101]::(cH s::(n::(if w=[]then[]else[[119,104,101,110],w])))) 3=(w,true):=N0 (a:=[[114,117,108,101],cH s,n]) w hg 3 rfl
 unfold K5
 rw[hb,if_pos ⟨by simp,by show 0<=GZ (cH s); rw[st.1]; exact s0,h,rfl⟩,JU o1 o2 e1 e2 0 (by decide) (by decide)]
 dsimp only
 rw[if_neg (λh=>h.2 rfl)]
 show(0,_)=_
 rw[show wd ([114,117,108,101]::(cH s::(n::(if w=[]then[]else[[119,104,101,110],w])))) 1=cH s from rfl,st.1]
 rfl
theorem Uq{α:Type}{bad:Int->α->Bool}{nx:α->Int}(hb:∀ b x,bad b x=false->b<=nx x):∀ {l:List α} {at_:Int},nN bad nx at_ l=true->l.Pairwise (λx y=>nx x<=nx y)/\∀ x∈l,at_<=nx x
 | [],_,_=>⟨.nil,λ_ h=>by cases h⟩
 | x::r,at_,h=>by
  rw[nh,Bool.and_eq_true,Bool.not_eq_true']at h
  obtain⟨h1,h2⟩:=Uq hb h.2
  have:=hb _ _ h.1
  refine⟨.cons h2 h1,λy hy => ?_⟩
  rcases List.mem_cons.1 hy with rfl | hy
  ·exact this
  ·exact Int.le_trans this (h2 y hy)
theorem Uz{α:Type}(p:α->Int)(n:Int):∀ {l:List α},l.Pairwise (λx y=>p x<=p y)->l.filter (λx=>decide (p x<n))++l.filter (λx=>p x==n)=l.filter (λx=>decide (p x<n+1))
 | [],_=>rfl
 | x::r,h=>by
  have ih:=Uz p n (List.pairwise_cons.1 h).2
  have hx:=(List.pairwise_cons.1 h).1
  by_cases c:p x<n
  ·rw[List.filter_cons_of_pos (by simpa using c),List.filter_cons_of_neg (by simp; omega),List.filter_cons_of_pos (by simp; omega),List.cons_append,ih]
  ·have e:r.filter (λx=>decide (p x<n))=[]:=List.filter_eq_nil_iff.2 λy hy=>by have:=hx y hy; simp; omega
   rw[e,List.nil_append]at ih
   rw[List.filter_cons_of_neg (by simpa using c),e,List.nil_append]
   by_cases c2:p x=n
   ·rw[List.filter_cons_of_pos (by simpa using c2),List.filter_cons_of_pos (by simp; omega),ih]
   ·rw[List.filter_cons_of_neg (by simpa using c2),List.filter_cons_of_neg (by simp; omega),ih]
theorem z1q(l:List Switch):∀ S:gA,l.foldl (λS x=>bm S ([x],[],[],[],[],[])) S=(S.1++l,S.2):=by
 induction l with
 | nil=>intro S; simp
 | cons x r ih=>intro S; rw[List.foldl_cons,ih]; simp[fG]
theorem z4p(l:List Param):∀ S:gA,l.foldl (λS x=>bm S ([],[x],[],[],[],[])) S=(S.1,S.2.1++l,S.2.2):=by
 induction l with
 | nil=>intro S; simp
 | cons x r ih=>intro S; rw[List.foldl_cons,ih]; simp[fG]
theorem z4c(l:List qH):∀ S:gA,l.foldl (λS x=>bm S ([],[],[],[],[eF x],[])) S=(S.1,S.2.1,S.2.2.1,S.2.2.2.1,S.2.2.2.2.1++l.map eF,S.2.2.2.2.2):=by
 induction l with
 | nil=>intro S; simp
 | cons x r ih=>intro S; rw[List.foldl_cons,ih]; simp[fG]
theorem z29(i:Int)(l:List Field):∀ S:gA,l.foldl (λS x=>if x.2.1=i then bm S ([],[],[],[x],[],[])else S) S=(S.1,S.2.1,S.2.2.1,S.2.2.2.1++l.filter (λx=>x.2.1==i),S.2.2.2.2):=by
 induction l with
 | nil=>intro S; simp
 | cons x r ih =>
  intro S
  rw[List.foldl_cons,ih]
  by_cases c:x.2.1=i
  ·rw[if_pos c,List.filter_cons_of_pos (by simpa using c)]; simp[fG]
  ·rw[if_neg c,List.filter_cons_of_neg (by simpa using c)]
theorem z4v(i:Int)(l:List Check):∀ S:gA,l.foldl (λS x=>if x.2.1=i then bm S ([],[],[],[],[],[ZB x])else S) S=(S.1,S.2.1,S.2.2.1,S.2.2.2.1,S.2.2.2.2.1,S.2.2.2.2.2++(l.filter (λx=>x.2.1==i)).map ZB):=by
 induction l with
 | nil=>intro S; simp
 | cons x r ih =>
  intro S
  rw[List.foldl_cons,ih]
  by_cases c:x.2.1=i
  ·rw[if_pos c,List.filter_cons_of_pos (by simpa using c)]; simp[fG]
  ·rw[if_neg c,List.filter_cons_of_neg (by simpa using c)]
def stF(f:Form):gA:=(f.1,f.2.1,f.2.2.1,f.2.2.2.1,f.2.2.2.2.1.map eF,f.2.2.2.2.2.1.map ZB)
def Pd(f:Form)(n:Nat):gA:=(f.1,f.2.1,f.2.2.1.take n,f.2.2.2.1.filter (λx=>decide (x.2.1<(n:Int))),[],(f.2.2.2.2.2.1.filter (λx=>decide (x.2.1<(n:Int)))).map ZB)
theorem Nl{f:Form}(hF:FS f)(h1:a1 f=true)(h2:a2 f=true)(h3:a3 f=true)(h4:a4 f=true)(h5:a5 f=true)(h6:a6 f=true):Rd xE (Gw f) (stF f):=by
 unfold a1 at h1; unfold a2 at h2; unfold a3 at h3; unfold a6 at h6
 rw[Bool.not_eq_true',List.any_eq_false]at h1 h2 h3 h6
 have bF:∀ b x,Xe (f.2.2.1.length:Int) b x=false->(b<=x.2.1/\x.2.1<(f.2.2.1.length:Int))/\zG x.1=true/\ss 0 x.2.2.2.1/\ss x.2.2.2.1 9:=λb x hb=>by
  unfold Xe at hb
  simp only[Bool.or_eq_false_iff,decide_eq_false_iff_not,Bool.not_eq_false']at hb
  exact⟨⟨Int.not_lt.1 hb.1,Int.not_le.1 hb.2.1⟩,hb.2.2.1,Int.not_lt.1 hb.2.2.2.1,Int.not_lt.1 hb.2.2.2.2⟩
 have bC:∀ b x,Qk (f.2.2.1.length:Int) b x=false->(b<=x.2.1/\x.2.1<(f.2.2.1.length:Int))/\zG x.1=true/\ss 0 x.2.2.1/\ss x.2.2.1 2/\xB 0 x.2.2.2.1=true/\xB 0 x.2.2.2.2.1=true:=λb x hb=>by
  unfold Qk at hb
  simp only[Bool.or_eq_false_iff,decide_eq_false_iff_not,Bool.not_eq_false']at hb
  exact⟨⟨Int.not_lt.1 hb.1,Int.not_le.1 hb.2.1⟩,hb.2.2.1,Int.not_lt.1 hb.2.2.2.1,Int.not_lt.1 hb.2.2.2.2.1,hb.2.2.2.2.2⟩
 obtain⟨f1,f2⟩:=Uq (λb x hb=>(bF b x hb).1.1) h4
 obtain⟨c1,c2⟩:=Uq (λb x hb=>(bC b x hb).1.1) h5
 have f3:∀ x∈f.2.2.2.1,x.2.1<(f.2.2.1.length:Int)/\zG x.1=true/\ss 0 x.2.2.2.1/\ss x.2.2.2.1 9:=λx hx=>(lJ h4 x hx).elim λb hb=>⟨(bF b x hb).1.2,(bF b x hb).2⟩
 have c3:∀ x∈f.2.2.2.2.2.1,x.2.1<(f.2.2.1.length:Int)/\zG x.1=true/\ss 0 x.2.2.1/\ss x.2.2.1 2/\xB 0 x.2.2.2.1=true/\xB 0 x.2.2.2.2.1=true:=λx hx=>(lJ h5 x hx).elim λb hb=>⟨(bC b x hb).1.2,(bC b x hb).2⟩
 have s1:=Rd.Tp YZ _ f.1 (λS x hx=>z1n x (by have:=h1 x hx; unfold Ua at this; simpa using this) S) xE
 rw[z1q]at s1
 have s2:=Rd.Tp JW _ f.2.1 (λS x hx=>z2c x (by simpa using h2 x hx) (hF.p x hx).2 S) (f.1,xE.2)
 rw[z4p]at s2
 have s3:∀ n,n<=f.2.2.1.length->Rd (Pd f 0) ((List.range n).flatMap (JX f)) (Pd f n):=by
  intro n
  induction n with
  | zero=>exact λ_=>Rd.nil _
  | succ n ih =>
   intro hn
   rw[List.range_succ,List.flatMap_append,List.flatMap_singleton]
   refine(ih (by omega)).app ?_
   have hl:n<f.2.2.1.length:=hn
   unfold JX
   rw[kO hl]
   have g1:=z2p f.2.2.1[n] (by simpa using h3 _ (List.getElem_mem hl)) (Pd f n)
   have hlen:(bm (Pd f n) ([],[],[f.2.2.1[n]],[],[],[])).2.2.1.length=n+1:=by simp[fG,Pd]; omega
   have g2:=Rd.flat (n+1) (Gp n) (λS x=>if x.2.1=(n:Int)then bm S ([],[],[],[x],[],[])else S) f.2.2.2.1 (λS x hx hS=>by
    unfold Gp
    obtain⟨_,q2,q3,q4⟩:=f3 x hx
    by_cases c:x.2.1=(n:Int)
    ·rw[if_pos (by simpa using c),if_pos c]
     exact⟨z2r x n c q2 q3 q4 S hS,by simp[fG,hS]⟩
    ·rw[if_neg (by simpa using c),if_neg c]
     exact⟨Rd.nil S,hS⟩) _ hlen
   rw[z29]at g2
   have g:=(g1.app g2).app (Rd.flat (n+1) (HG n) (λS x=>if x.2.1=(n:Int)then bm S ([],[],[],[],[],[ZB x])else S) f.2.2.2.2.2.1 (λS x hx hS=>by
    unfold HG
    obtain⟨_,q2,q3,q4,q5,q6⟩:=c3 x hx
    obtain⟨_,e1,e2⟩:=hF.c x hx
    by_cases c:x.2.1=(n:Int)
    ·rw[if_pos (by simpa using c),if_pos c]
     exact⟨z4r x n c q2 q3 q4 q5 q6 e1 e2 S hS,by simp[fG,hS]⟩
    ·rw[if_neg (by simpa using c),if_neg c]
     exact⟨Rd.nil S,hS⟩) _ hlen)
   rw[z4v]at g
   refine Eq.mp (congrArg (Rd (Pd f n) _) ?_) g
   have k1:=Uz (λx:Field=>x.2.1) (n:Int) f1
   have k2:=Uz (λx:Check=>x.2.1) (n:Int) c1
   unfold Pd
   rw[show((n+1:Nat):Int)=(n:Int)+1 by omega,<- k1,<- k2,List.take_succ_eq_append_getElem hl]
   simp[fG]
 have s4:=Rd.Tp Z8 _ f.2.2.2.2.1 (λS x hx=>z2e x (by simpa using h6 x hx) (hF.r x hx).2.2.1 (hF.r x hx).2.2.2 S) (Pd f f.2.2.1.length)
 rw[z4c]at s4
 have e0:Pd f 0=(f.1,f.2.1,xE.2.2):=by
  unfold Pd
  rw[List.filter_eq_nil_iff.2 (λx hx=>by have:=f2 x hx; simp; omega),List.filter_eq_nil_iff.2 (λx hx=>by have:=c2 x hx; simp; omega)]
  rfl
 have e1:Pd f f.2.2.1.length=(f.1,f.2.1,f.2.2.1,f.2.2.2.1,[],f.2.2.2.2.2.1.map ZB):=by
  unfold Pd
  rw[List.filter_eq_self.2 (λx hx=>by have:=(f3 x hx).1; simpa using this),List.filter_eq_self.2 (λx hx=>by have:=(c3 x hx).1; simpa using this),List.take_length]
 have s3:=s3 _ (Nat.le_refl _)
 rw[e0]at s3
 unfold Gw
 rw[e1]at s3 s4
 exact((s1.app s2).app s3).app s4
abbrev lR(f:Form):Form:=Ie (stF f)
theorem kM{e:Expr}(h:xB 0 e=true)(ha:w6 e):w6 (canE e)/\xB 0 (canE e)=true/\prE (canE e)=prE e/\sameE e (canE e)=true:=by
 have c:=LC e 0 h ha.2.2
 exact⟨⟨Nat.le_trans c.sz ha.1,by rw[c.nd]; exact ha.2.1,c.cj.1⟩,c.ok,c.pr,c.same⟩
theorem TB{f:Form}(h:CC f):FS (lR f):=by
 refine⟨?_,h.s,h.p,h.g,h.d,λx hx => ?_,λx hx => ?_⟩
 ·have:=h.n
  show _+_+_+_+(f.2.2.2.2.1.map eF).length+(f.2.2.2.2.2.1.map ZB).length<=601
  rw[List.length_map,List.length_map]; exact this
 ·obtain⟨y,hy,rfl⟩:=List.mem_map.1 hx
  obtain⟨a,b,c,d⟩:=h.r y hy
  obtain⟨_,_,o1,o2⟩:=h.r2 y hy
  exact⟨a,b,(kM o1 c).1,(kM o2 d).1⟩
 ·obtain⟨y,hy,rfl⟩:=List.mem_map.1 hx
  obtain⟨a,c,d⟩:=h.c y hy
  obtain⟨_,_,o1,o2⟩:=h.c2 y hy
  exact⟨a,(kM o1 c).1,(kM o2 d).1⟩
theorem Vx{α:Type}{f g:α->ze}:∀ {l:List α},(∀ x∈l,f x=g x)->l.flatMap f=l.flatMap g
 | [],_=>rfl
 | x::r,h=>by rw[List.flatMap_cons,List.flatMap_cons,h x List.mem_cons_self,Vx λy hy=>h y (List.mem_cons_of_mem _ hy)]
theorem z6k{f:Form}(h:CC f):Gw (lR f)=Gw f:=by
 have e1:∀ i,(f.2.2.2.2.2.1.map ZB).flatMap (HG i)=f.2.2.2.2.2.1.flatMap (HG i):=λi=>by
  rw[List.flatMap_map]
  refine Vx λx hx => ?_
  obtain⟨_,c,d⟩:=h.c x hx
  obtain⟨_,_,o1,o2⟩:=h.c2 x hx
  unfold HG Sw Be ZB
  dsimp only
  rw[(kM o1 c).2.2.1,(kM o2 d).2.2.1]
 have e2:(f.2.2.2.2.1.map eF).flatMap Z8=f.2.2.2.2.1.flatMap Z8:=by
  rw[List.flatMap_map]
  refine Vx λx hx => ?_
  obtain⟨_,_,c,d⟩:=h.r x hx
  obtain⟨_,_,o1,o2⟩:=h.r2 x hx
  unfold Z8 Be eF
  dsimp only
  rw[(kM o1 c).2.2.1,(kM o2 d).2.2.1]
 have e3:JX (lR f)=JX f:=by
  funext i
  show E8 (nth f.2.2.1 (i:Int) (zk zV))++f.2.2.2.1.flatMap (Gp i)++(f.2.2.2.2.2.1.map ZB).flatMap (HG i)=_
  rw[e1]; rfl
 show f.1.flatMap YZ++f.2.1.flatMap JW++(List.range f.2.2.1.length).flatMap (JX (lR f))++(f.2.2.2.2.1.map eF).flatMap Z8=_
 rw[e2,e3]; rfl
theorem D9{α:Type}{bad:Int->α->Bool}{nx:α->Int}{g:α->α}:∀ {l:List α} {at_:Int},(∀ x∈l,nx (g x)=nx x/\∀ b,bad b x=false->bad b (g x)=false)->nN bad nx at_ l=true->nN bad nx at_ (l.map g)=true
 | [],_,_,_=>rfl
 | x::r,at_,hg,h=>by
  rw[nh,Bool.and_eq_true,Bool.not_eq_true']at h
  obtain⟨g1,g2⟩:=hg x List.mem_cons_self
  rw[List.map_cons,nh,g2 _ h.1,g1,D9 (λy hy=>hg y (List.mem_cons_of_mem _ hy)) h.2]; rfl
theorem z6F{f:Form}(hF:FS f)(h:cY f=true):cY (lR f)=true:=by
 obtain⟨h1,h2,h3,h4,h5,h6⟩:=Jh h
 have hT:=UM hF h4 h5 h6
 have g1:a1 (lR f)=true:=h1
 have g2:a2 (lR f)=true:=h2
 have g3:a3 (lR f)=true:=h3
 have g4:a4 (lR f)=true:=h4
 have g5:a5 (lR f)=true:=by
  refine D9 (λx hx=>⟨rfl,λb hb => ?_⟩) h5
  obtain⟨_,c,d⟩:=hF.c x hx
  obtain⟨_,_,o1,o2⟩:=hT.c2 x hx
  unfold Qk ZB at *
  rw[o1,o2]at hb
  dsimp only
  rw[(kM o1 c).2.1,(kM o2 d).2.1]
  exact hb
 have g6:a6 (lR f)=true:=by
  unfold a6 at h6 ⊢
  rw[Bool.not_eq_true',List.any_eq_false]at h6 ⊢
  intro y hy
  obtain⟨x,hx,rfl⟩:=List.mem_map.1 hy
  have hb:=h6 x hx
  obtain⟨_,_,c,d⟩:=hF.r x hx
  obtain⟨_,_,o1,o2⟩:=hT.r2 x hx
  unfold iQ eF at *
  rw[o1,o2]at hb
  dsimp only
  rw[(kM o1 c).2.1,(kM o2 d).2.1]
  exact hb
 unfold cY at h ⊢
 rw[g1,g2,g3,g4,g5,g6,z6k hT]
 rw[h1,h2,h3,h4,h5,h6]at h
 exact h
theorem Vs{α:Type}{p:α->α->Bool}{g:α->α}:∀ {l:List α},(∀ x∈l,p x (g x)=true)->je p l (l.map g)=true
 | [],_=>rfl
 | x::r,h=>by
  show(p x (g x)&&je p r (r.map g))=true
  rw[h x List.mem_cons_self,Vs λy hy=>h y (List.mem_cons_of_mem _ hy)]; rfl
theorem SX{f:Form}(h:CC f):Y0 f (lR f)=true:=by
 have:=F5 f
 unfold Y0 at this ⊢
 simp only[Bool.and_eq_true]at this
 obtain⟨s1,s2,s3,s4,_,_⟩:=this
 show(je KF f.1 f.1&&(je Ut f.2.1 f.2.1&&(je Ku f.2.2.1 f.2.2.1&&(je Kz f.2.2.2.1 f.2.2.2.1&&(je QF f.2.2.2.2.1 (f.2.2.2.2.1.map eF)&&je X7 f.2.2.2.2.2.1 (f.2.2.2.2.2.1.map ZB))))))=true
 rw[s1,s2,s3,s4,Vs λx hx => ?_,Vs λx hx => ?_]
 ·rfl
 ·obtain⟨_,c,d⟩:=h.c x hx
  obtain⟨_,_,o1,o2⟩:=h.c2 x hx
  unfold X7 ZB
  dsimp only
  rw[qq,beq_self_eq_true,beq_self_eq_true,(kM o1 c).2.2.2,(kM o2 d).2.2.2]; rfl
 ·obtain⟨_,_,c,d⟩:=h.r x hx
  obtain⟨_,_,o1,o2⟩:=h.r2 x hx
  unfold QF eF
  dsimp only
  rw[qq,beq_self_eq_true,qq,(kM o1 c).2.2.2,(kM o2 d).2.2.2]; rfl
theorem FQ{f:Form}(hF:FS f)(h:cY f=true):(jA (Gw f)).run=some (lR f,((0:Int),(0:Int))):=by
 obtain⟨h1,h2,h3,h4,h5,h6⟩:=Jh h
 have hl:ur (jv 10 (Gw f)) xE 0=.inr (stF f):=by
  obtain⟨k,e⟩:=Nl hF h1 h2 h3 h4 h5 h6 [] 0
  rw[List.append_nil]at e
  rw[e,show jv 10 []=[[]]from rfl,N9 (λnp=>Ng np [] rfl)]
  rfl
 rw[nQ _ λS hS=>by rw[hl]at hS; cases hS; exact TB (UM hF h4 h5 h6)]
 unfold GX
 have hlen:(Gw f).length<=16384:=by
  unfold cY at h
  simp only[Bool.and_eq_true,decide_eq_true_eq]at h
  omega
 rw[if_neg (by omega),hl]
 dsimp only
 rw[z6F hF h,if_pos rfl]
abbrev R1:Rat:=(false,(([1]:List Int),(([1]:List Int),())))
def M6:Expr:=.mk 1 R1 [] []
theorem num_1:fB [49]=R1:=by
 have e:pn [49]=some (1,1):=by decide +kernel
 unfold fB
 rw[e]
 show wM _ 1 1=_
 unfold wM
 rw[if_neg (by decide),show 1 / Nat.gcd 1 1=1 from rfl,Bi]
 rfl
theorem SJ:norm R1=R1:=by
 have e:pn [49]=some (1,1):=by decide +kernel
 have:fB [49]=wM (List.isPrefixOf [45] [49]) 1 1:=by
  unfold fB
  rw[e]
  rfl
 rw[<- num_1,this]
 exact X9 _ _ _
theorem z3C:wY R1=true:=by
 unfold wY ep um trimB
 rw[SJ]
 show(((zu 1==[1])&&((zu 1==[1])&&_))&&_)=true
 rw[Bi]
 rfl
theorem PT:xB 0 M6=true:=by
 have h:vR (.mk 1 R1 [] [])=true:=by
  unfold vR
  show((((0:Nat):Int)==dW 1)&&(if(1:Int)=1 then wY R1&&zh [] []else _))=true
  rw[if_pos rfl,z3C]
  rfl
 show(decide (0<32)&&(vR (.mk 1 R1 [] [])&&ub 1 []))=true
 rw[h]; rfl
theorem z2v:prE M6=[49]:=by
 show(qs (norm R1).1 (nv (norm R1).2.1) (nv (norm R1).2.2.1) 0 61).1=[49]
 rw[SJ]
 show(qs false 1 1 0 61).1=[49]
 unfold qs
 rw[if_pos (by decide)]
 show QS false++UB (pr 1) 0=[49]
 unfold UB pr
 rw[if_pos rfl,if_neg (by decide),cX (by decide),show 1 / 10=0 from rfl,cf]
 rfl
theorem Lq(n:Int)(h:0<=n)(h2:n<4294967296):zm [n]:=by
 intro x hx
 rw[List.mem_singleton.1 hx]
 exact⟨h,h2⟩
theorem z1l:w6 M6:=⟨by decide,by decide,⟨⟨Lq 1 (by decide) (by decide),Lq 1 (by decide) (by decide),by decide,by decide⟩,trivial⟩⟩
theorem z1M:w6 cw:=by
 unfold cw
 rw[N2]
 exact⟨by decide,by decide,⟨⟨Lq 2 (by decide) (by decide),Lq 1 (by decide) (by decide),by decide,by decide⟩,trivial⟩⟩
def vP(s:Int):qH:=([108,97,115,116],(s,([],(M6,(cw,())))))
theorem Gk(s:Int):Z8 (vP s)=[114,117,108,101,32]++cH s++[32,108,97,115,116,32,58,32,49,32,61,32,50,10]:=by
 unfold Z8 Be vP
 dsimp only
 rw[z2v,IU,z3D]
 simp
abbrev tg(f:Form)(x:qH):Form:=(f.1,(f.2.1,(f.2.2.1,(f.2.2.2.1,(f.2.2.2.2.1++[x],(f.2.2.2.2.2.1,()))))))
theorem tF(f:Form)(s:Int)(hw:wf qc f)(hb:bk qc f<=1048576):(gi f s).run=some true:=by
 obtain⟨b1,r1,F⟩:=z3S f hw hb
 unfold gi
 dsimp only
 cases b1 with
 | true=>rw[z6 (a:=true) (by rw[z6 r1]; rfl),zj]; rfl
 | false =>
 obtain⟨hF,hwf⟩:=F rfl
 cases hI:cY f with
 | false=>rw[z6 (a:=true) (by rw[z6 r1,zg,z6 (p7 f hF),hI]; rfl),zj]; rfl
 | true =>
 rw[z6 (a := !(decide (0<=s)&&decide (s<=3))) (by
  rw[z6 r1,zg,z6 (p7 f hF),hI,z8 (by rfl)]
  by_cases c:s<0
  ·rw[za (by simpa using c),decide_eq_false (p:=0<=s) (by omega)]; rfl
  ·rw[z8 (by simpa using c),decide_eq_true (p:=0<=s) (by omega),z7]
   congr 1
   by_cases c2:s<=3<;>simp[c2]<;>omega)]
 by_cases c:¬ (0<=s/\s<=3)
 ·rw[za]
  ·rfl
  ·by_cases c1:0<=s
   ·have:¬ s<=3:=λh=>c ⟨c1,h⟩
    simp[this]
   ·simp[c1]
 obtain⟨s0,s3⟩:=Classical.not_not.1 c
 rw[decide_eq_true s0,decide_eq_true s3,z8 (by rfl)]
 obtain⟨h1,h2,h3,h4,h5,h6⟩:=Jh hI
 have hn:=hF.n
 have hN:nF f<=30:=by unfold wF at hwf; omega
 unfold nF at hN
 have hp:(eA f).run=some (Gw f):=by rw[Uh f hF]; unfold prF; rw[if_pos hI]
 have hlen:=z7C (UM hF h4 h5 h6)
 have hG:FS (tg f (vP s)):=by
  refine⟨?_,hF.s,hF.p,hF.g,hF.d,λy hy => ?_,hF.c⟩
  ·show _+_+_+_+(f.2.2.2.2.1++[vP s]).length+_<=601
   rw[List.length_append,List.length_singleton]
   show f.1.length+f.2.1.length+f.2.2.1.length+f.2.2.2.1.length+(f.2.2.2.2.1.length+1)+f.2.2.2.2.2.1.length<=601
   omega
  ·rcases List.mem_append.1 hy with hy | hy
   ·exact hF.r y hy
   ·rw[List.mem_singleton.1 hy]
    exact⟨show 4<=600 by decide,show 0<=600 by decide,z1l,z1M⟩
 have zeI:iQ (vP s)=false:=by
  unfold iQ vP
  dsimp only
  rw[PT,Jj 0 (by omega),decide_eq_false (p:=s<0) (by omega),decide_eq_false (p:=3<s) (by omega)]
  decide
 have ht:Gw (tg f (vP s))=Gw f++Z8 (vP s):=by
  show f.1.flatMap YZ++f.2.1.flatMap JW++(List.range f.2.2.1.length).flatMap (JX f)++(f.2.2.2.2.1++[vP s]).flatMap Z8=_
  rw[List.flatMap_append,List.flatMap_singleton,<- List.append_assoc]; rfl
 have hsl:=oS s
 have fy:(Z8 (vP s)).length<=40:=by rw[Gk]; simp; omega
 have hGI:cY (tg f (vP s))=true:=by
  have g6:a6 (tg f (vP s))=true:=by
   unfold a6 at h6
   rw[Bool.not_eq_true']at h6
   show(!(f.2.2.2.2.1++[vP s]).any iQ)=true
   rw[List.any_append,h6,List.any_cons,zeI]; rfl
  unfold cY
  rw[show a1 (tg f (vP s))=true from h1,show a2 (tg f (vP s))=true from h2,show a3 (tg f (vP s))=true from h3,show a4 (tg f (vP s))=true from h4,show a5 (tg f (vP s))=true from h5,g6]
  simp only[Bool.true_and]
  exact decide_eq_true (by rw[ht,List.length_append]; omega)
 have hpb:=FQ hG hGI
 rw[ht,Gk]at hpb
 rw[z6 hp,EI _ (by simp; omega),z6 (ZF s),EI _ (by rw[zS]; simp; omega),EI _ (by rw[zS,zS]; simp; omega)]
 rw[show cat (cat (cat (Gw f) [114,117,108,101,32]) (cH s)) [32,108,97,115,116,32,58,32,49,32,61,32,50,10]=Gw f++([114,117,108,101,32]++cH s++[32,108,97,115,116,32,58,32,49,32,61,32,50,10]) by simp[jc],z6 hpb]
 dsimp only
 have hT:=LD hF hI
 have hr:(lR (tg f (vP s))).2.2.2.2.1=f.2.2.2.2.1.map eF++[eF (vP s)]:=by
  show(f.2.2.2.2.1++[vP s]).map eF=_
  rw[List.map_append]; rfl
 have hrl:(f.2.2.2.2.1.map eF++[eF (vP s)]).length=f.2.2.2.2.1.length+1:=by simp
 rw[hr,z8 (by rw[hrl,iU f.2.2.2.2.1.length (f.2.2.2.2.1.length+1) (by omega) (by omega)]; simp),z7L _ (by omega) (by omega),zb (bZ.2 ⟨by omega,by omega,by omega⟩)]
 have tG:va (e:=q8) (0:Int) (f.2.2.2.2.1.length:Int) (f.2.2.2.2.1.map eF++[eF (vP s)])=f.2.2.2.2.1.map eF:=by
  unfold va
  simp
 have nO:(dH f (lR f)).run=some true:=by rw[K3 f _ hF (TB hT),SX hT]
 rw[tG]
 have nO:(dH f ((lR (tg f (vP s))).1,((lR (tg f (vP s))).2.1,((lR (tg f (vP s))).2.2.1,((lR (tg f (vP s))).2.2.2.1,(f.2.2.2.2.1.map eF,((lR (tg f (vP s))).2.2.2.2.2.1,()))))))).run=some true:=nO
 have hnt:nth (f.2.2.2.2.1.map eF++[eF (vP s)]) (f.2.2.2.2.1.length:Int) (zk q8)=eF (vP s):=by simp[nth]
 rw[z6 nO,zj,hnt,za (by exact qq _),za (by exact beq_self_eq_true _),za (by exact qq _),za (by rfl),z6 FU,z7]
theorem tM(x:KC [qc,i64])(hw:wfL [qc,i64] x)(hb:bkL [qc,i64] x<=1048576):(gi (OR [qc,i64] x).1 (OR [qc,i64] x).2).run=some true:=by
 have He:bk qc x.1+(1+0)<=1048576:=hb
 exact tF x.1 x.2.1 hw.1 (by omega)
end Go.AM.Lf
