/-
  Plain laws of the lifted program, part 3.
-/
import Derived.Test.YthhgaidlooddpaaGreatDoorLf0
import Derived.Test.YthhgaidlooddpaaGreatDoorAmA
import Derived.Test.YthhgaidlooddpaaGreatDoorAmD
import Derived.Test.YthhgaidlooddpaaGreatDoorQ0
import Derived.Test.YthhgaidlooddpaaGreatDoorQ1
import Derived.Test.YthhgaidlooddpaaGreatDoorQ2
set_option linter.unusedVariables false
open Go.AM.T (z6 z7 za zg zj)
namespace Go.AM.Lf
open PL
def Rd(S:gJ)(u:ze)(S':gJ):Prop:=∀ t k,∃ k',uf (js 10 (u++t)) S k=uf (js 10 t) S' k'
theorem Rd.nil(S:gJ):Rd S [] S:=λ_ k=>⟨k,rfl⟩
theorem Rd.app{S S' S'':gJ}{u v:ze}(h:Rd S u S')(h':Rd S' v S''):Rd S (u++v) S'':=λt k=>by
 obtain⟨k',e⟩:=h (v++t) k
 obtain⟨k'',e'⟩:=h' t k'
 exact⟨k'',by rw[List.append_assoc,e,e']⟩
theorem Rd.line{S:gJ}{l:ze}{D:gJ}(h:(10:UInt8) ∉ l)(hl:wz S.2.2.1.length l=(0,D)):Rd S (l++[10]) (bn S D):=λt k=>by
 refine⟨k+1,?_⟩
 rw[List.append_assoc,List.singleton_append,Rq 10 l t λb hb e=>h (e▸hb),Ed,hl,if_pos rfl]
theorem Rd.flat{α:Type}(m:Nat)(f:α->ze)(g:gJ->α->gJ)(l:List α)(h:∀ S,∀ x∈l,S.2.2.1.length=m->Rd S (f x) (g S x)/\(g S x).2.2.1.length=m):∀ S:gJ,S.2.2.1.length=m->Rd S (l.flatMap f) (l.foldl g S):=by
 induction l with
 | nil=>exact λS _=>Rd.nil S
 | cons x r ih =>
  intro S hS
  obtain⟨h1,h2⟩:=h S x List.mem_cons_self hS
  rw[List.flatMap_cons,List.foldl_cons]
  exact h1.app (ih (λS y hy=>h S y (List.mem_cons_of_mem _ hy)) _ h2)
theorem Rd.SO{α:Type}(f:α->ze)(g:gJ->α->gJ)(l:List α)(h:∀ S,∀ x∈l,Rd S (f x) (g S x)):∀ S:gJ,Rd S (l.flatMap f) (l.foldl g S):=by
 induction l with
 | nil=>exact λS=>Rd.nil S
 | cons x r ih =>
  intro S
  rw[List.flatMap_cons,List.foldl_cons]
  exact(h S x List.mem_cons_self).app (ih (λS y hy=>h S y (List.mem_cons_of_mem _ hy)) _)
theorem lM{np:Nat}{s:ze}{x:ze}{w:List ze}(h:xA 32 [] s=x::w)(hh:Qt x=false):wz np s=PN np s (x::w):=by
 rw[PI np s x w h,hh,if_neg (by decide)]
theorem xX{c:UInt8}{a b:ze}(h1:c ∉ a)(h2:c ∉ b):c ∉ a++b:=λh=>(List.mem_append.1 h).elim h1 h2
theorem z1P(x:Switch)(h:zG x.1=true)(S:gJ):Rd S (CS x) (bn S ([x],[],[],[],[],[])):=by
 obtain⟨n,b,u⟩:=x
 have e:CS (n,(b,u))=([115,119,105,116,99,104]++32::(n++32::(bif b then[111,110]else[111,102,102])))++[10]:=by
  unfold CS; cases b<;>simp
 rw[e]
 have hw:xA 32 [] ([115,119,105,116,99,104]++32::(n++32::(bif b then[111,110]else[111,102,102])))=[[115,119,105,116,99,104],n,bif b then[111,110]else[111,102,102]]:=by
  rw[y6 _ _ (by decide) (by decide),y6 _ _ (mP h) (jm h 32 (by decide)),Jh _ (by cases b<;>decide) (by cases b<;>decide)]
 refine Rd.line (xX (by decide) (List.not_mem_cons_of_ne_of_not_mem (by decide) (xX (jm h 10 (by decide)) (List.not_mem_cons_of_ne_of_not_mem (by decide) (by cases b<;>decide))))) ?_
 rw[lM hw rfl,dy,if_pos (qx _)]
 unfold YB
 rw[if_pos ⟨rfl,h,by cases b; exact .inr (qx _); exact .inl (qx _)⟩]
 cases b<;>rfl
theorem z3S{r:Rat}(hr:we 100 r)(h1:fc r=true)(h2:uM r=false):tb (vk (norm r))=some r/\norm r=r:=by
 have e:=(Un r hr.1 hr.2.1).1 h1
 unfold uM at h2
 rw[Bool.or_eq_false_iff,decide_eq_false_iff_not,decide_eq_false_iff_not]at h2
 have l1:=Vc (nv (norm r).2.1) 16 (by omega) (by have:=zy (yd (k:=100) (by omega) hr).1; omega)
 have l2:=Vc (nv (norm r).2.2.1) 16 (by omega) (by have:=zy (yd (k:=100) (by omega) hr).2.1; omega)
 have hp:=Br r (Lv hr) (by omega)
 have hl:(vk (norm r)).length<=1000000000:=by
  have:=z6f (([]:ze),(r,())) hr
  unfold YC wPa at this
  simp only[List.length_append,List.length_cons,List.length_nil]at this
  have:=hr.2.2.1
  have:=hr.2.2.2
  omega
 obtain⟨q,e2,g1,g2⟩:=Zy (vk (norm r)) hl
 rw[hp]at g1
 cases g1
 refine⟨?_,e⟩
 cases hd:tb (vk (norm r))with
 | none=>rw[hd]at g2; exact absurd rfl g2
 | some z=>rw[hd]at g2; rw[<- g2.1,e]
theorem z4g(x:Param)(h:fu x=false)(hr:we 100 x.2.1)(S:gJ):Rd S (YC x) (bn S ([],[x],[],[],[],[])):=by
 obtain⟨n,r,u⟩:=x
 unfold fu at h
 simp only[Bool.or_eq_false_iff,Bool.not_eq_false']at h
 obtain⟨h,h1,h2⟩:=h
 obtain⟨hd,_⟩:=z3S hr h1 h2
 have no:∀ c,uK c=false->c≠46->c≠47->c≠45->c ∉ vk (norm r):=λc a1 a2 a3 a4=>Iv a1 a2 a3 a4 hd
 have ne:vk (norm r)≠[]:=λe=>by rw[e,show tb []=none from rfl]at hd; cases hd
 have e:YC (n,(r,u))=([112,97,114,97,109]++32::(n++32::vk (norm r)))++[10]:=by unfold YC; simp
 rw[e]
 have hw:xA 32 [] ([112,97,114,97,109]++32::(n++32::vk (norm r)))=[[112,97,114,97,109],n,vk (norm r)]:=by
  rw[y6 _ _ (by decide) (by decide),y6 _ _ (mP h) (jm h 32 (by decide)),Jh _ ne (no 32 (by decide) (by decide) (by decide) (by decide))]
 refine Rd.line (xX (by decide) (List.not_mem_cons_of_ne_of_not_mem (by decide) (xX (jm h 10 (by decide)) (List.not_mem_cons_of_ne_of_not_mem (by decide) (no 10 (by decide) (by decide) (by decide) (by decide)))))) ?_
 rw[lM hw rfl,dy,if_neg (by decide),if_pos (qx _)]
 unfold WH
 rw[if_pos ⟨rfl,h⟩,show wd [[112,97,114,97,109],n,vk (norm r)] 2=vk (norm r)from rfl,hd]
 rfl
theorem I1{a:List ze}(w:ze)(h:yu w=true)(n:Nat)(hn:a.length=n):Vy (a++(if w=[]then[]else[[119,104,101,110],w])) n=(w,true):=by
 unfold Vy
 by_cases c:w=[]
 ·subst c
  rw[if_pos rfl,List.append_nil,if_pos hn]
 ·unfold yu at h
  rw[xP,decide_eq_false c,Bool.false_or]at h
  have l:(a++[[119,104,101,110],w]).length=n+2:=by simp[hn]
  have n1:nth (a++[[119,104,101,110],w]) (n:Int) (zk .str)=[119,104,101,110]:=by simp[nth,<- hn]
  have n2:nth (a++[[119,104,101,110],w]) ((n+1:Nat):Int) (zk .str)=w:=by simp[nth,<- hn]
  rw[if_neg c,if_neg (by omega),n1,n2,if_pos ⟨l,qx _,h⟩]
theorem UU{w:ze}(h:yu w=true)(c:UInt8)(hc:wX c=false):c ∉ w:=by
 unfold yu at h
 rw[xP,Bool.or_eq_true,decide_eq_true_eq]at h
 rcases h with rfl | h
 ·exact List.not_mem_nil
 ·exact jm h c hc
theorem z2E{a w:ze}(ha:a≠[])(h3:(32:UInt8) ∉ a)(h:yu w=true):xA 32 [] (a++Yk w)=a::(if w=[]then[]else[[119,104,101,110],w]):=by
 unfold Yk
 by_cases c:w=[]
 ·rw[if_pos c,if_pos c,List.append_nil,Jh a ha h3]
 ·rw[if_neg c,if_neg c,show a++([32,119,104,101,110,32]++w)=a++32::([119,104,101,110]++32::w) by simp,y6 a _ ha h3,y6 _ _ (by decide) (by decide),Jh w c (UU h 32 (by decide))]
theorem IL{w:ze}(h:yu w=true)(c:UInt8)(hc:wX c=false)(h2:c≠32):c ∉ Yk w:=by
 unfold Yk
 split
 ·exact List.not_mem_nil
 ·refine xX ?_ (UU h c hc)
  intro hm
  simp only[List.mem_cons,List.not_mem_nil,or_false]at hm
  rcases hm with rfl | rfl | rfl | rfl | rfl | rfl<;>first | exact h2 rfl | exact absurd hc (by decide)
theorem z3A(x:xm)(h:Wr x=false)(S:gJ):Rd S (phS x) (bn S ([],[],[x],[],[],[])):=by
 obtain⟨n,w,u⟩:=x
 unfold Wr at h
 simp only[Bool.or_eq_false_iff,Bool.not_eq_false']at h
 obtain⟨h,hg⟩:=h
 have e:phS (n,(w,u))=([112,97,103,101]++32::(n++Yk w))++[10]:=by unfold phS; simp
 rw[e]
 have hw:xA 32 [] ([112,97,103,101]++32::(n++Yk w))=[112,97,103,101]::(n::if w=[]then[]else[[119,104,101,110],w]):=by
  rw[y6 _ _ (by decide) (by decide),z2E (mP h) (jm h 32 (by decide)) hg]
 refine Rd.line (xX (by decide) (List.not_mem_cons_of_ne_of_not_mem (by decide) (xX (jm h 10 (by decide)) (IL hg 10 (by decide) (by decide))))) ?_
 rw[lM hw rfl,dy,if_neg (by decide),if_neg (by decide),if_pos (qx _)]
 have hb:=I1 (a:=[[112,97,103,101],n]) w hg 2 rfl
 have hb:Vy ([112,97,103,101]::(n::if w=[]then[]else[[119,104,101,110],w])) 2=(w,true):=hb
 unfold V6
 rw[hb,if_pos ⟨by simp,h,rfl⟩]
 rfl
def Zn(x:Check):Check:=(x.1,(x.2.1,(x.2.2.1,(canE x.2.2.2.1,(canE x.2.2.2.2.1,())))))
def UN(x:qI):qI:=(x.1,(x.2.1,(x.2.2.1,(canE x.2.2.2.1,(canE x.2.2.2.2.1,())))))
theorem OS{n:Int}(h:0<n)(h9:n<=9):∃ c:UInt8,en n=[c]/\48<=c.toNat/\c.toNat<=57/\(c.toNat:Int)-48=n/\c≠32/\c≠10:=by
 have:n=1\/n=2\/n=3\/n=4\/n=5\/n=6\/n=7\/n=8\/n=9:=by omega
 rcases this with rfl | rfl | rfl | rfl | rfl | rfl | rfl | rfl | rfl<;>exact⟨_,(JA _ (by decide) (by decide)).symm,by decide,by decide,by decide,by decide,by decide⟩
theorem z2l(x:Field)(i:Nat)(hx:x.2.1=(i:Int))(h:zG x.1=true)(h0:rZ 0 x.2.2.2.1)(h9:rZ x.2.2.2.1 9)(S:gJ)(hS:S.2.2.1.length=i+1):Rd S (Po x) (bn S ([],[],[],[x],[],[])):=by
 obtain⟨n,p,m,k,u⟩:=x
 have hx:p=(i:Int):=hx
 subst hx
 have h0:0<=k:=h0
 have h9:k<=9:=h9
 let W:List ze:=(if m=true then[[109,117,115,116]]else[])++(if 0<k then[[115,99,97,108,101],en k]else[])
 let T:ze:=(if m=true then[32,109,117,115,116]else[])++(if 0<k then[32,115,99,97,108,101,32]++en k else[])
 have e:Po (n,((i:Int),(m,(k,u))))=([102,105,101,108,100]++32::(n++T))++[10]:=by
  unfold Po fhS
  dsimp only[T]
  by_cases c:0<k<;>cases m<;>simp[c]
 have hT:∀ a:ze,a≠[]->(32:UInt8) ∉ a->xA 32 [] (a++T)=a::W:=by
  intro a a0 a1
  dsimp only[T,W]
  by_cases c:0<k
  ·obtain⟨b,hb,_,_,_,b3,_⟩:=OS c h9
   rw[if_pos c,if_pos c,hb]
   have hs:xA 32 [] (([115,99,97,108,101]:ze)++32::[b])=[[115,99,97,108,101],[b]]:=by rw[y6 _ _ (by decide) (by decide),Jh _ (by simp) (by simpa using λh=>b3 h.symm)]
   cases m with
   | false =>
    rw[if_neg (by decide),if_neg (by decide),show a++(([]:ze)++([32,115,99,97,108,101,32]++[b]))=a++32::([115,99,97,108,101]++32::[b]) by simp,y6 a _ a0 a1,hs]; rfl
   | true =>
    rw[if_pos rfl,if_pos rfl,show a++(([32,109,117,115,116]:ze)++([32,115,99,97,108,101,32]++[b]))=a++32::([109,117,115,116]++32::([115,99,97,108,101]++32::[b])) by simp,y6 a _ a0 a1,y6 _ _ (by decide) (by decide),hs]; rfl
  ·rw[if_neg c,if_neg c]
   cases m with
   | false=>rw[if_neg (by decide),if_neg (by decide),List.append_nil,List.append_nil,Jh a a0 a1]; rfl
   | true=>rw[if_pos rfl,if_pos rfl,show a++(([32,109,117,115,116]:ze)++[])=a++32::[109,117,115,116] by simp,y6 a _ a0 a1,Jh _ (by decide) (by decide)]; rfl
 have zeA:(10:UInt8) ∉ T:=by
  dsimp only[T]
  refine xX (by cases m<;>decide) ?_
  by_cases c:0<k
  ·obtain⟨b,hb,_,_,_,_,b4⟩:=OS c h9
   rw[if_pos c,hb]
   simpa using λh=>b4 h.symm
  ·rw[if_neg c]; exact List.not_mem_nil
 rw[e]
 have hw:xA 32 [] ([102,105,101,108,100]++32::(n++T))=[102,105,101,108,100]::(n::W):=by
  rw[y6 _ _ (by decide) (by decide),hT n (mP h) (jm h 32 (by decide))]
 refine Rd.line (xX (by decide) (List.not_mem_cons_of_ne_of_not_mem (by decide) (xX (jm h 10 (by decide)) zeA))) ?_
 rw[lM hw rfl,dy,if_neg (by decide),if_neg (by decide),if_neg (by decide),if_pos (qx _),hS]
 have hm:eJ W=m/\iB (if eJ W=true then W.drop 1 else W)=some k:=by
  by_cases c:0<k
  ·obtain⟨b,hb,b1,b2,b5,_,_⟩:=OS c h9
   have hW:W=(if m=true then[[109,117,115,116]]else[])++[[115,99,97,108,101],[b]]:=by dsimp only[W]; rw[if_pos c,hb]
   have hs:iB [[115,99,97,108,101],[b]]=some k:=by
    show(if zi [115,99,97,108,101] [115,99,97,108,101]=true/\48<=b.toNat/\b.toNat<=57 then some ((b.toNat:Int)-48)else none)=_
    rw[if_pos ⟨qx _,b1,b2⟩,b5]
   generalize W=V at hW ⊢
   subst hW
   cases m<;>exact⟨rfl,hs⟩
  ·have:k=0:=Int.le_antisymm (Int.not_lt.1 c) h0
   subst this
   cases m<;>exact⟨rfl,rfl⟩
 have hr:yb ([102,105,101,108,100]::(n::W))=if eJ W=true then W.drop 1 else W:=rfl
 unfold Uz
 rw[if_pos ⟨by simp,h,by omega⟩,hr,hm.2]
 show(0,_)=_
 rw[show eJ (List.drop 2 ([102,105,101,108,100]::(n::W)))=eJ W from rfl,hm.1,show(((i+1:Nat):Int)-1)=(i:Int) by omega]
 rfl
theorem U2{np:Nat}{a b:ze}{x:ze}{w:List ze}(h:(58:UInt8) ∉ a)(hw:xA 32 [] a=x::w):wz np (a++58::b)=lF np (x::w) b true:=by
 unfold wz
 rw[pN 58 a b h,hw]
theorem z4X{s:ze}(h:s.all C2=true):(10:UInt8) ∉ s:=Zm h 10 (by decide)
theorem z4W{l r:Expr}(h1:xM 0 l=true)(h2:xM 0 r=true)(e1:wm l)(e2:wm r){sg:ze}(h:(10:UInt8) ∉ sg):(10:UInt8) ∉ [32]++prE l++[32]++sg++[32]++prE r :=
 xX (xX (xX (xX (xX (by decide) (z4X (E7 h1 e1))) (by decide)) h) (by decide)) (z4X (E7 h2 e2))
theorem z1z(x:Check)(i:Nat)(hx:x.2.1=(i:Int))(h:zG x.1=true)(h0:rZ 0 x.2.2.1)(h2:rZ x.2.2.1 2)(o1:xM 0 x.2.2.2.1=true)(o2:xM 0 x.2.2.2.2.1=true)(e1:wm x.2.2.2.1)(e2:wm x.2.2.2.2.1)(S:gJ)(hS:S.2.2.1.length=i+1):Rd S (ckS x) (bn S ([],[],[],[],[],[Zn x])):=by
 obtain⟨n,p,c,l,r,u⟩:=x
 have hx:p=(i:Int):=hx
 subst hx
 have e:ckS (n,((i:Int),(c,(l,(r,u)))))=(([99,104,101,99,107]++32::(n++[32]))++58::([32]++prE l++[32]++jt c++[32]++prE r))++[10]:=by unfold ckS Ez; simp
 rw[e]
 have hw:xA 32 [] ([99,104,101,99,107]++32::(n++[32]))=[[99,104,101,99,107],n]:=by
  rw[y6 _ _ (by decide) (by decide),y6 n [] (mP h) (jm h 32 (by decide))]; rfl
 have ns:∀ q:UInt8,wX q=false->q≠32->q ∉ ([99,104,101,99,107]:ze)->q ∉ ([99,104,101,99,107]:ze)++32::(n++[32]):=λq a b d=>xX d (List.not_mem_cons_of_ne_of_not_mem b (xX (jm h q a) (by simpa using b)))
 refine Rd.line (xX (ns 10 (by decide) (by decide) (by decide)) (List.not_mem_cons_of_ne_of_not_mem (by decide) (z4W o1 o2 e1 e2 ?_))) ?_
 ·unfold jt; (repeat' split)<;>decide
 ·rw[U2 (ns 58 (by decide) (by decide) (by decide)) hw,wu,if_neg (by decide),if_pos rfl,if_pos (qx _),hS]
  unfold DC
  rw[if_pos ⟨rfl,h,by omega⟩,VS o1 o2 e1 e2 c h0 h2,show(((i+1:Nat):Int)-1)=(i:Int) by omega]
  rfl
theorem z1Z(x:qI)(h:nM x=false)(e1:wm x.2.2.2.1)(e2:wm x.2.2.2.2.1)(S:gJ):Rd S (VN x) (bn S ([],[],[],[],[UN x],[])):=by
 obtain⟨n,s,w,l,r,u⟩:=x
 unfold nM at h
 simp only[Bool.or_eq_false_iff,Bool.not_eq_false',decide_eq_false_iff_not]at h
 obtain⟨h,hg,s0,s3,o1,o2⟩:=h
 have s0:0<=s:=Int.not_lt.1 s0
 have s3:s<=3:=Int.not_lt.1 s3
 have st:HP (fm s)=s/\fm s≠[]/\(32:UInt8) ∉ fm s/\(58:UInt8) ∉ fm s/\(10:UInt8) ∉ fm s:=by
  have key:∀ z:Int,0<=z->z<=3->z=0\/z=1\/z=2\/z=3:=by intros; omega
  rcases key s s0 s3 with rfl | rfl | rfl | rfl<;>exact⟨by decide,by decide,by decide,by decide,by decide⟩
 have e:VN (n,(s,(w,(l,(r,u)))))=(([114,117,108,101]++32::(fm s++32::((n++Yk w)++[32])))++58::([32]++prE l++[32]++jt 0++[32]++prE r))++[10]:=by unfold VN Ez; simp[jt]
 rw[e]
 have hn:xA 32 [] ((n++Yk w)++[32])=n::(if w=[]then[]else[[119,104,101,110],w]):=by
  unfold Yk
  by_cases c:w=[]
  ·rw[if_pos c,if_pos c,List.append_nil,y6 n [] (mP h) (jm h 32 (by decide))]; rfl
  ·rw[if_neg c,if_neg c,show n++([32,119,104,101,110,32]++w)++[32]=n++32::([119,104,101,110]++32::(w++32::[])) by simp,y6 n _ (mP h) (jm h 32 (by decide)),y6 _ _ (by decide) (by decide),y6 w [] c (UU hg 32 (by decide))]; rfl
 have hw:xA 32 [] ([114,117,108,101]++32::(fm s++32::((n++Yk w)++[32])))=[114,117,108,101]::(fm s::(n::(if w=[]then[]else[[119,104,101,110],w]))):=by
  rw[y6 _ _ (by decide) (by decide),y6 _ _ st.2.1 st.2.2.1,hn]
 have ns:∀ q:UInt8,wX q=false->q≠32->q ∉ ([114,117,108,101]:ze)->q ∉ fm s->q ∉ ([114,117,108,101]:ze)++32::(fm s++32::((n++Yk w)++[32])):=λq a b d d2=>xX d (List.not_mem_cons_of_ne_of_not_mem b (xX d2 (List.not_mem_cons_of_ne_of_not_mem b (xX (xX (jm h q a) (IL hg q a b)) (by simpa using b)))))
 refine Rd.line (xX (ns 10 (by decide) (by decide) (by decide) st.2.2.2.2) (List.not_mem_cons_of_ne_of_not_mem (by decide) (z4W o1 o2 e1 e2 (by decide)))) ?_
 rw[U2 (ns 58 (by decide) (by decide) (by decide) st.2.2.2.1) hw,wu,if_neg (by decide),if_pos rfl,if_neg (by decide),if_pos (qx _)]
 have hb:Vy ([114,117,108,101]::(fm s::(n::(if w=[]then[]else[[119,104,101,110],w])))) 3=(w,true):=I1 (a:=[[114,117,108,101],fm s,n]) w hg 3 rfl
 unfold K2
 rw[hb,if_pos ⟨by simp,by show 0<=HP (fm s); rw[st.1]; exact s0,h,rfl⟩,VS o1 o2 e1 e2 0 (by decide) (by decide)]
 dsimp only
 rw[if_neg (λh=>h.2 rfl)]
 show(0,_)=_
 rw[show wd ([114,117,108,101]::(fm s::(n::(if w=[]then[]else[[119,104,101,110],w])))) 1=fm s from rfl,st.1]
 rfl
theorem UY{α:Type}{bad:Int->α->Bool}{nx:α->Int}(hb:∀ b x,bad b x=false->b<=nx x):∀ {l:List α} {at_:Int},nD bad nx at_ l=true->l.Pairwise (λx y=>nx x<=nx y)/\∀ x∈l,at_<=nx x
 | [],_,_=>⟨.nil,λ_ h=>by cases h⟩
 | x::r,at_,h=>by
  rw[lX,Bool.and_eq_true,Bool.not_eq_true']at h
  obtain⟨h1,h2⟩:=UY hb h.2
  have:=hb _ _ h.1
  refine⟨.cons h2 h1,λy hy => ?_⟩
  rcases List.mem_cons.1 hy with rfl | hy
  ·exact this
  ·exact Int.le_trans this (h2 y hy)
theorem Jn{α:Type}(p:α->Int)(n:Int):∀ {l:List α},l.Pairwise (λx y=>p x<=p y)->l.filter (λx=>decide (p x<n))++l.filter (λx=>p x==n)=l.filter (λx=>decide (p x<n+1))
 | [],_=>rfl
 | x::r,h=>by
  have ih:=Jn p n (List.pairwise_cons.1 h).2
  have hx:=(List.pairwise_cons.1 h).1
  by_cases c:p x<n
  ·rw[List.filter_cons_of_pos (by simpa using c),List.filter_cons_of_neg (by simp; omega),List.filter_cons_of_pos (by simp; omega),List.cons_append,ih]
  ·have e:r.filter (λx=>decide (p x<n))=[]:=List.filter_eq_nil_iff.2 λy hy=>by have:=hx y hy; simp; omega
   rw[e,List.nil_append]at ih
   rw[List.filter_cons_of_neg (by simpa using c),e,List.nil_append]
   by_cases c2:p x=n
   ·rw[List.filter_cons_of_pos (by simpa using c2),List.filter_cons_of_pos (by simp; omega),ih]
   ·rw[List.filter_cons_of_neg (by simpa using c2),List.filter_cons_of_neg (by simp; omega),ih]
theorem z1R(l:List Switch):∀ S:gJ,l.foldl (λS x=>bn S ([x],[],[],[],[],[])) S=(S.1++l,S.2):=by
 induction l with
 | nil=>intro S; simp
 | cons x r ih=>intro S; rw[List.foldl_cons,ih]; simp[fh]
theorem z2b(l:List Param):∀ S:gJ,l.foldl (λS x=>bn S ([],[x],[],[],[],[])) S=(S.1,S.2.1++l,S.2.2):=by
 induction l with
 | nil=>intro S; simp
 | cons x r ih=>intro S; rw[List.foldl_cons,ih]; simp[fh]
theorem z3J(l:List qI):∀ S:gJ,l.foldl (λS x=>bn S ([],[],[],[],[UN x],[])) S=(S.1,S.2.1,S.2.2.1,S.2.2.2.1,S.2.2.2.2.1++l.map UN,S.2.2.2.2.2):=by
 induction l with
 | nil=>intro S; simp
 | cons x r ih=>intro S; rw[List.foldl_cons,ih]; simp[fh]
theorem z0N(i:Int)(l:List Field):∀ S:gJ,l.foldl (λS x=>if x.2.1=i then bn S ([],[],[],[x],[],[])else S) S=(S.1,S.2.1,S.2.2.1,S.2.2.2.1++l.filter (λx=>x.2.1==i),S.2.2.2.2):=by
 induction l with
 | nil=>intro S; simp
 | cons x r ih =>
  intro S
  rw[List.foldl_cons,ih]
  by_cases c:x.2.1=i
  ·rw[if_pos c,List.filter_cons_of_pos (by simpa using c)]; simp[fh]
  ·rw[if_neg c,List.filter_cons_of_neg (by simpa using c)]
theorem z0O(i:Int)(l:List Check):∀ S:gJ,l.foldl (λS x=>if x.2.1=i then bn S ([],[],[],[],[],[Zn x])else S) S=(S.1,S.2.1,S.2.2.1,S.2.2.2.1,S.2.2.2.2.1,S.2.2.2.2.2++(l.filter (λx=>x.2.1==i)).map Zn):=by
 induction l with
 | nil=>intro S; simp
 | cons x r ih =>
  intro S
  rw[List.foldl_cons,ih]
  by_cases c:x.2.1=i
  ·rw[if_pos c,List.filter_cons_of_pos (by simpa using c)]; simp[fh]
  ·rw[if_neg c,List.filter_cons_of_neg (by simpa using c)]
def stF(f:Form):gJ:=(f.1,f.2.1,f.2.2.1,f.2.2.2.1,f.2.2.2.2.1.map UN,f.2.2.2.2.2.1.map Zn)
def OI(f:Form)(n:Nat):gJ:=(f.1,f.2.1,f.2.2.1.take n,f.2.2.2.1.filter (λx=>decide (x.2.1<(n:Int))),[],(f.2.2.2.2.2.1.filter (λx=>decide (x.2.1<(n:Int)))).map Zn)
theorem Nd{f:Form}(hF:FS f)(h1:a1 f=true)(h2:a2 f=true)(h3:a3 f=true)(h4:a4 f=true)(h5:a5 f=true)(h6:a6 f=true):Rd xD (Nx f) (stF f):=by
 unfold a1 at h1; unfold a2 at h2; unfold a3 at h3; unfold a6 at h6
 rw[Bool.not_eq_true',List.any_eq_false]at h1 h2 h3 h6
 have bF:∀ b x,X5 (f.2.2.1.length:Int) b x=false->(b<=x.2.1/\x.2.1<(f.2.2.1.length:Int))/\zG x.1=true/\rZ 0 x.2.2.2.1/\rZ x.2.2.2.1 9:=λb x hb=>by
  unfold X5 at hb
  simp only[Bool.or_eq_false_iff,decide_eq_false_iff_not,Bool.not_eq_false']at hb
  exact⟨⟨Int.not_lt.1 hb.1,Int.not_le.1 hb.2.1⟩,hb.2.2.1,Int.not_lt.1 hb.2.2.2.1,Int.not_lt.1 hb.2.2.2.2⟩
 have bC:∀ b x,ZO (f.2.2.1.length:Int) b x=false->(b<=x.2.1/\x.2.1<(f.2.2.1.length:Int))/\zG x.1=true/\rZ 0 x.2.2.1/\rZ x.2.2.1 2/\xM 0 x.2.2.2.1=true/\xM 0 x.2.2.2.2.1=true:=λb x hb=>by
  unfold ZO at hb
  simp only[Bool.or_eq_false_iff,decide_eq_false_iff_not,Bool.not_eq_false']at hb
  exact⟨⟨Int.not_lt.1 hb.1,Int.not_le.1 hb.2.1⟩,hb.2.2.1,Int.not_lt.1 hb.2.2.2.1,Int.not_lt.1 hb.2.2.2.2.1,hb.2.2.2.2.2⟩
 obtain⟨f1,f2⟩:=UY (λb x hb=>(bF b x hb).1.1) h4
 obtain⟨c1,c2⟩:=UY (λb x hb=>(bC b x hb).1.1) h5
 have f3:∀ x∈f.2.2.2.1,x.2.1<(f.2.2.1.length:Int)/\zG x.1=true/\rZ 0 x.2.2.2.1/\rZ x.2.2.2.1 9:=λx hx=>(lH h4 x hx).elim λb hb=>⟨(bF b x hb).1.2,(bF b x hb).2⟩
 have c3:∀ x∈f.2.2.2.2.2.1,x.2.1<(f.2.2.1.length:Int)/\zG x.1=true/\rZ 0 x.2.2.1/\rZ x.2.2.1 2/\xM 0 x.2.2.2.1=true/\xM 0 x.2.2.2.2.1=true:=λx hx=>(lH h5 x hx).elim λb hb=>⟨(bC b x hb).1.2,(bC b x hb).2⟩
 have s1:=Rd.SO CS _ f.1 (λS x hx=>z1P x (by have:=h1 x hx; unfold Uc at this; simpa using this) S) xD
 rw[z1R]at s1
 have s2:=Rd.SO YC _ f.2.1 (λS x hx=>z4g x (by simpa using h2 x hx) (hF.p x hx).2 S) (f.1,xD.2)
 rw[z2b]at s2
 have s3:∀ n,n<=f.2.2.1.length->Rd (OI f 0) ((List.range n).flatMap (HW f)) (OI f n):=by
  intro n
  induction n with
  | zero=>exact λ_=>Rd.nil _
  | succ n ih =>
   intro hn
   rw[List.range_succ,List.flatMap_append,List.flatMap_singleton]
   refine(ih (by omega)).app ?_
   have hl:n<f.2.2.1.length:=hn
   unfold HW
   rw[kO hl]
   have g1:=z3A f.2.2.1[n] (by simpa using h3 _ (List.getElem_mem hl)) (OI f n)
   have hlen:(bn (OI f n) ([],[],[f.2.2.1[n]],[],[],[])).2.2.1.length=n+1:=by simp[fh,OI]; omega
   have g2:=Rd.flat (n+1) (FK n) (λS x=>if x.2.1=(n:Int)then bn S ([],[],[],[x],[],[])else S) f.2.2.2.1 (λS x hx hS=>by
    unfold FK
    obtain⟨_,q2,q3,q4⟩:=f3 x hx
    by_cases c:x.2.1=(n:Int)
    ·rw[if_pos (by simpa using c),if_pos c]
     exact⟨z2l x n c q2 q3 q4 S hS,by simp[fh,hS]⟩
    ·rw[if_neg (by simpa using c),if_neg c]
     exact⟨Rd.nil S,hS⟩) _ hlen
   rw[z0N]at g2
   have g:=(g1.app g2).app (Rd.flat (n+1) (DI n) (λS x=>if x.2.1=(n:Int)then bn S ([],[],[],[],[],[Zn x])else S) f.2.2.2.2.2.1 (λS x hx hS=>by
    unfold DI
    obtain⟨_,q2,q3,q4,q5,q6⟩:=c3 x hx
    obtain⟨_,e1,e2⟩:=hF.c x hx
    by_cases c:x.2.1=(n:Int)
    ·rw[if_pos (by simpa using c),if_pos c]
     exact⟨z1z x n c q2 q3 q4 q5 q6 e1 e2 S hS,by simp[fh,hS]⟩
    ·rw[if_neg (by simpa using c),if_neg c]
     exact⟨Rd.nil S,hS⟩) _ hlen)
   rw[z0O]at g
   refine Eq.mp (congrArg (Rd (OI f n) _) ?_) g
   have k1:=Jn (λx:Field=>x.2.1) (n:Int) f1
   have k2:=Jn (λx:Check=>x.2.1) (n:Int) c1
   unfold OI
   rw[show((n+1:Nat):Int)=(n:Int)+1 by omega,<- k1,<- k2,List.take_succ_eq_append_getElem hl]
   simp[fh]
 have s4:=Rd.SO VN _ f.2.2.2.2.1 (λS x hx=>z1Z x (by simpa using h6 x hx) (hF.r x hx).2.2.1 (hF.r x hx).2.2.2 S) (OI f f.2.2.1.length)
 rw[z3J]at s4
 have e0:OI f 0=(f.1,f.2.1,xD.2.2):=by
  unfold OI
  rw[List.filter_eq_nil_iff.2 (λx hx=>by have:=f2 x hx; simp; omega),List.filter_eq_nil_iff.2 (λx hx=>by have:=c2 x hx; simp; omega)]
  rfl
 have e1:OI f f.2.2.1.length=(f.1,f.2.1,f.2.2.1,f.2.2.2.1,[],f.2.2.2.2.2.1.map Zn):=by
  unfold OI
  rw[List.filter_eq_self.2 (λx hx=>by have:=(f3 x hx).1; simpa using this),List.filter_eq_self.2 (λx hx=>by have:=(c3 x hx).1; simpa using this),List.take_length]
 have s3:=s3 _ (Nat.le_refl _)
 rw[e0]at s3
 unfold Nx
 rw[e1]at s3 s4
 exact((s1.app s2).app s3).app s4
abbrev QZ(f:Form):Form:=Ew (stF f)
theorem kI{e:Expr}(h:xM 0 e=true)(ha:wm e):wm (canE e)/\xM 0 (canE e)=true/\prE (canE e)=prE e/\sameE e (canE e)=true:=by
 have c:=Iz e 0 h ha.2.2
 exact⟨⟨Nat.le_trans c.sz ha.1,by rw[c.nd]; exact ha.2.1,c.cr.1⟩,c.ok,c.pr,c.same⟩
theorem z0h{f:Form}(h:DB f):FS (QZ f):=by
 refine⟨?_,h.s,h.p,h.g,h.d,λx hx => ?_,λx hx => ?_⟩
 ·have:=h.n
  show _+_+_+_+(f.2.2.2.2.1.map UN).length+(f.2.2.2.2.2.1.map Zn).length<=601
  rw[List.length_map,List.length_map]; exact this
 ·obtain⟨y,hy,rfl⟩:=List.mem_map.1 hx
  obtain⟨a,b,c,d⟩:=h.r y hy
  obtain⟨_,_,o1,o2⟩:=h.r2 y hy
  exact⟨a,b,(kI o1 c).1,(kI o2 d).1⟩
 ·obtain⟨y,hy,rfl⟩:=List.mem_map.1 hx
  obtain⟨a,c,d⟩:=h.c y hy
  obtain⟨_,_,o1,o2⟩:=h.c2 y hy
  exact⟨a,(kI o1 c).1,(kI o2 d).1⟩
theorem Jg{α:Type}{f g:α->ze}:∀ {l:List α},(∀ x∈l,f x=g x)->l.flatMap f=l.flatMap g
 | [],_=>rfl
 | x::r,h=>by rw[List.flatMap_cons,List.flatMap_cons,h x List.mem_cons_self,Jg λy hy=>h y (List.mem_cons_of_mem _ hy)]
theorem z5S{f:Form}(h:DB f):Nx (QZ f)=Nx f:=by
 have e1:∀ i,(f.2.2.2.2.2.1.map Zn).flatMap (DI i)=f.2.2.2.2.2.1.flatMap (DI i):=λi=>by
  rw[List.flatMap_map]
  refine Jg λx hx => ?_
  obtain⟨_,c,d⟩:=h.c x hx
  obtain⟨_,_,o1,o2⟩:=h.c2 x hx
  unfold DI ckS Ez Zn
  dsimp only
  rw[(kI o1 c).2.2.1,(kI o2 d).2.2.1]
 have e2:(f.2.2.2.2.1.map UN).flatMap VN=f.2.2.2.2.1.flatMap VN:=by
  rw[List.flatMap_map]
  refine Jg λx hx => ?_
  obtain⟨_,_,c,d⟩:=h.r x hx
  obtain⟨_,_,o1,o2⟩:=h.r2 x hx
  unfold VN Ez UN
  dsimp only
  rw[(kI o1 c).2.2.1,(kI o2 d).2.2.1]
 have e3:HW (QZ f)=HW f:=by
  funext i
  show phS (nth f.2.2.1 (i:Int) (zk zY))++f.2.2.2.1.flatMap (FK i)++(f.2.2.2.2.2.1.map Zn).flatMap (DI i)=_
  rw[e1]; rfl
 show f.1.flatMap CS++f.2.1.flatMap YC++(List.range f.2.2.1.length).flatMap (HW (QZ f))++(f.2.2.2.2.1.map UN).flatMap VN=_
 rw[e2,e3]; rfl
theorem C1{α:Type}{bad:Int->α->Bool}{nx:α->Int}{g:α->α}:∀ {l:List α} {at_:Int},(∀ x∈l,nx (g x)=nx x/\∀ b,bad b x=false->bad b (g x)=false)->nD bad nx at_ l=true->nD bad nx at_ (l.map g)=true
 | [],_,_,_=>rfl
 | x::r,at_,hg,h=>by
  rw[lX,Bool.and_eq_true,Bool.not_eq_true']at h
  obtain⟨g1,g2⟩:=hg x List.mem_cons_self
  rw[List.map_cons,lX,g2 _ h.1,g1,C1 (λy hy=>hg y (List.mem_cons_of_mem _ hy)) h.2]; rfl
theorem z7d{f:Form}(hF:FS f)(h:ff f=true):ff (QZ f)=true:=by
 obtain⟨h1,h2,h3,h4,h5,h6⟩:=Bc h
 have hT:=G6 hF h4 h5 h6
 have g1:a1 (QZ f)=true:=h1
 have g2:a2 (QZ f)=true:=h2
 have g3:a3 (QZ f)=true:=h3
 have g4:a4 (QZ f)=true:=h4
 have g5:a5 (QZ f)=true:=by
  refine C1 (λx hx=>⟨rfl,λb hb => ?_⟩) h5
  obtain⟨_,c,d⟩:=hF.c x hx
  obtain⟨_,_,o1,o2⟩:=hT.c2 x hx
  unfold ZO Zn at *
  rw[o1,o2]at hb
  dsimp only
  rw[(kI o1 c).2.1,(kI o2 d).2.1]
  exact hb
 have g6:a6 (QZ f)=true:=by
  unfold a6 at h6 ⊢
  rw[Bool.not_eq_true',List.any_eq_false]at h6 ⊢
  intro y hy
  obtain⟨x,hx,rfl⟩:=List.mem_map.1 hy
  have hb:=h6 x hx
  obtain⟨_,_,c,d⟩:=hF.r x hx
  obtain⟨_,_,o1,o2⟩:=hT.r2 x hx
  unfold nM UN at *
  rw[o1,o2]at hb
  dsimp only
  rw[(kI o1 c).2.1,(kI o2 d).2.1]
  exact hb
 unfold ff at h ⊢
 rw[g1,g2,g3,g4,g5,g6,z5S hT]
 rw[h1,h2,h3,h4,h5,h6]at h
 exact h
theorem Vj{α:Type}{p:α->α->Bool}{g:α->α}:∀ {l:List α},(∀ x∈l,p x (g x)=true)->jc p l (l.map g)=true
 | [],_=>rfl
 | x::r,h=>by
  show(p x (g x)&&jc p r (r.map g))=true
  rw[h x List.mem_cons_self,Vj λy hy=>h y (List.mem_cons_of_mem _ hy)]; rfl
theorem R9{f:Form}(h:DB f):Yd f (QZ f)=true:=by
 have:=DK f
 unfold Yd at this ⊢
 simp only[Bool.and_eq_true]at this
 obtain⟨s1,s2,s3,s4,_,_⟩:=this
 show(jc JQ f.1 f.1&&(jc J4 f.2.1 f.2.1&&(jc Kk f.2.2.1 f.2.2.1&&(jc JY f.2.2.2.1 f.2.2.2.1&&(jc ZS f.2.2.2.2.1 (f.2.2.2.2.1.map UN)&&jc Xc f.2.2.2.2.2.1 (f.2.2.2.2.2.1.map Zn))))))=true
 rw[s1,s2,s3,s4,Vj λx hx => ?_,Vj λx hx => ?_]
 ·rfl
 ·obtain⟨_,c,d⟩:=h.c x hx
  obtain⟨_,_,o1,o2⟩:=h.c2 x hx
  unfold Xc Zn
  dsimp only
  rw[qx,beq_self_eq_true,beq_self_eq_true,(kI o1 c).2.2.2,(kI o2 d).2.2.2]; rfl
 ·obtain⟨_,_,c,d⟩:=h.r x hx
  obtain⟨_,_,o1,o2⟩:=h.r2 x hx
  unfold ZS UN
  dsimp only
  rw[qx,beq_self_eq_true,qx,(kI o1 c).2.2.2,(kI o2 d).2.2.2]; rfl
theorem Ep{f:Form}(hF:FS f)(h:ff f=true):(jE (Nx f)).run=some (QZ f,((0:Int),(0:Int))):=by
 obtain⟨h1,h2,h3,h4,h5,h6⟩:=Bc h
 have hl:uf (js 10 (Nx f)) xD 0=.inr (stF f):=by
  obtain⟨k,e⟩:=Nd hF h1 h2 h3 h4 h5 h6 [] 0
  rw[List.append_nil]at e
  rw[e,show js 10 []=[[]]from rfl,Nu (λnp=>MJ np [] rfl)]
  rfl
 rw[nn _ λS hS=>by rw[hl]at hS; cases hS; exact z0h (G6 hF h4 h5 h6)]
 unfold Ga
 have hlen:(Nx f).length<=16384:=by
  unfold ff at h
  simp only[Bool.and_eq_true,decide_eq_true_eq]at h
  omega
 rw[if_neg (by omega),hl]
 dsimp only
 rw[z7d hF h,if_pos rfl]
theorem tg(x:K3 [qc])(hw:wfL [qc] x)(hb:bkL [qc] x<=1048576):(gL (T5 [qc] x)).run=some true:=by
 obtain⟨f,u⟩:=x
 have Hs:bk qc f+0<=1048576:=hb
 obtain⟨b1,r1,F⟩:=z2Q f hw.1 (by omega)
 show(gL f).run=some true
 unfold gL
 cases b1 with
 | true=>rw[z6 (a:=true) (by rw[z6 r1]; rfl),zj]; rfl
 | false =>
 have hF:=(F rfl).1
 cases hI:ff f with
 | false=>rw[z6 (a:=true) (by rw[z6 r1,zg,z6 (Xr f hF),hI]; rfl),zj]; rfl
 | true =>
 have hp:(uH f).run=some (Nx f):=by rw[Wv f hF]; unfold prF; rw[if_pos hI]
 rw[z6 (a:=false) (by rw[z6 r1,zg,z6 (Xr f hF),hI]; rfl),zg,z6 hp,z6 (Ep hF hI)]
 dsimp only
 rw[za (by rfl),za (by rfl),z6 (JS _ _ hF (z0h (Gi hF hI))),R9 (Gi hF hI),zj,z6 Fx,z7]
end Go.AM.Lf
