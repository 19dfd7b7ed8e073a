/-
  Plain laws of the lifted program, part 2.
-/
import Derived.Test.YthhgaidlooddpaaGreatDoorLf0
import Derived.Test.YthhgaidlooddpaaGreatDoorAmA
import Derived.Test.YthhgaidlooddpaaGreatDoorAmD
import Derived.Test.YthhgaidlooddpaaGreatDoorQ0
import Derived.Test.YthhgaidlooddpaaGreatDoorQ1
set_option linter.unusedVariables false
open Go.AM.T (j6 xw z6 z7 za zc zd)
namespace Go.AM.Lf
open PL
theorem Wm{p:UInt8->Bool}{s:zf}(h:s.all p=true)(c:UInt8)(hc:p c=false):c ∉ s:=λhm=>by
 have:=List.all_eq_true.1 h c hm
 rw[hc]at this
 cases this
theorem iI{s:zf}(h:zJ s=true):(58:UInt8) ∉ s:=Wm (dm h).2 58 (by decide)
theorem GH{c:UInt8}(h1:uN c=false)(h2:c≠46)(h3:c≠47){t:zf}{p:Nat×Nat}(h:ZN t=some p):c ∉ t:=by
 intro hm
 rw[<- List.takeWhile_append_dropWhile (p:=uN) (l:=t)]at hm
 rcases List.mem_append.1 hm with hm | hm
 ·have eG:(t.takeWhile uN).all uN=true:=List.all_takeWhile
  exact Wm eG c h1 hm
 ·unfold ZN at h
  split at h
  ·cases h
  ·split at h
   ·rename_i q; rw[q]at hm; cases hm
   ·rename_i b q hq
    rw[hq]at hm
    split at h
    ·cases h
    ·rename_i hd
     have hdq:qT q=true:=by
      cases hx:qT q with
      | true=>rfl
      | false=>exact absurd (.inr hx) hd
     rcases List.mem_cons.1 hm with rfl | hm
     ·rw[if_neg h2,if_neg h3]at h; cases h
     ·exact Wm hdq c h1 hm
theorem Nt{c:UInt8}(h1:uN c=false)(h2:c≠46)(h3:c≠47)(h4:c≠45){s:zf}{p:Nat×Nat}(h:oF s=some p):c ∉ s:=by
 unfold oF cP at h
 intro hm
 split at h
 ·rename_i hp
  cases s with
  | nil=>cases hm
  | cons b r =>
   have hb:b=45:=by
    have hp:((45:UInt8)==b&&([]:zf).isPrefixOf r)=true:=hp
    rw[Bool.and_eq_true,beq_iff_eq]at hp
    exact hp.1.symm
   rcases List.mem_cons.1 hm with e | hm
   ·exact h4 (e.trans hb)
   ·exact GH h1 h2 h3 h hm
 ·exact GH h1 h2 h3 h hm
theorem Nb{c:UInt8}(h1:uN c=false)(h2:c≠46)(h3:c≠47)(h4:c≠45){s:zf}{r:Rat}(h:rZ s=some r):c ∉ s:=by
 unfold rZ at h
 split at h
 ·cases h
 ·cases q:oF s with
  | none=>rw[q]at h; cases h
  | some p=>exact Nt h1 h2 h3 h4 q
theorem gu{x k:zf}(h:zk x k=true){c:UInt8}(hk:c ∉ k):c ∉ x:=by
 rw[wu,decide_eq_true_eq]at h
 rw[h]; exact hk
theorem ns(c:UInt8)(hc:c≠32):∀ (s cur:zf),c∈cur\/c∈s->∃ x∈w7 32 cur s,c∈x
 | [],cur,h=>by
  rcases h with h | h
  ·unfold w7
   rw[if_neg (λe=>by rw[e]at h; cases h)]
   exact⟨cur,List.mem_singleton.2 rfl,h⟩
  ·cases h
 | b::r,cur,h=>by
  unfold w7
  by_cases hb:b=32
  ·rw[if_pos hb]
   have h:c∈cur\/c∈r:=h.elim .inl λh=>(List.mem_cons.1 h).elim (λe=>absurd (e.trans hb) hc) .inr
   by_cases e:cur=[]
   ·rw[if_pos e]
    refine ns c hc r [] (.inr (h.elim (λh => ?_) id))
    rw[e]at h; cases h
   ·rw[if_neg e]
    rcases h with h | h
    ·exact⟨cur,List.mem_cons_self,h⟩
    ·obtain⟨x,h1,h2⟩:=ns c hc r [] (.inr h)
     exact⟨x,List.mem_cons_of_mem _ h1,h2⟩
  ·rw[if_neg hb]
   refine ns c hc r (cur++[b]) (h.elim (λh=>.inl (List.mem_append_left _ h)) λh=>(List.mem_cons.1 h).elim (λe=>.inl (by rw[e]; simp)) .inr)
theorem QP:∀ (s cur:zf),cur≠[]->∃ z w,w7 32 cur s=(cur++z)::w
 | [],cur,h=>⟨[],[],by unfold w7; rw[if_neg h,List.append_nil]⟩
 | b::r,cur,h=>by
  unfold w7
  by_cases hb:b=32
  ·rw[if_pos hb,if_neg h]
   exact⟨[],_,by rw[List.append_nil]⟩
  ·rw[if_neg hb]
   obtain⟨z,w,e⟩:=QP r (cur++[b]) (by simp)
   exact⟨b::z,w,by rw[e,List.append_assoc]; rfl⟩
theorem VD(r:zf):∀ (h cur:zf),∃ x w,w7 32 cur (h++58::r)=x::w/\((w7 32 cur h=[]/\∃ z,x=58::z)\/∃ a l,w7 32 cur h=a::l/\(x=a\/(l=[]/\∃ z,x=a++58::z)))
 | [],cur=>by
  obtain⟨z,w,e⟩:=QP r (cur++[58]) (by simp)
  refine⟨(cur++[58])++z,w,?_,?_⟩
  ·show w7 32 cur (58::r)=_
   rw[<- e]
   exact if_neg (by decide)
  ·unfold w7
   by_cases c:cur=[]
   ·exact .inl ⟨if_pos c,z,by rw[c]; rfl⟩
   ·exact .inr ⟨cur,[],if_neg c,.inr ⟨rfl,z,by rw[List.append_assoc]; rfl⟩⟩
 | b::h,cur=>by
  show ∃ x w,w7 32 cur (b::(h++58::r))=_/\_
  unfold w7
  by_cases hb:b=32
  ·rw[if_pos hb,if_pos hb]
   by_cases c:cur=[]
   ·rw[if_pos c,if_pos c]
    exact VD r h []
   ·rw[if_neg c,if_neg c]
    exact⟨cur,_,rfl,.inr ⟨cur,_,rfl,.inl rfl⟩⟩
  ·rw[if_neg hb,if_neg hb]
   exact VD r h (cur++[b])
theorem z0I{w:List zf}(h0:(Wx w).1=0)(h:zk (wd w 0) [115,119,105,116,99,104]=true):∀ x∈w,(58:UInt8) ∉ x:=by
 unfold Wx at h0
 split at h0
 ·rename_i c
  obtain⟨c1,c2,c3⟩:=c
  match w,c1 with
  | [a,b,d],_ =>
   intro x hx
   simp only[List.mem_cons,List.not_mem_nil,or_false]at hx
   rcases hx with rfl | rfl | rfl
   ·exact gu h (by decide)
   ·exact iI c2
   ·rcases c3 with c3 | c3
    ·exact gu c3 (by decide)
    ·exact gu c3 (by decide)
 ·exact absurd h0 (by decide)
theorem T8{w:List zf}(h0:(ZF w).1=0)(h:zk (wd w 0) [112,97,114,97,109]=true):∀ x∈w,(58:UInt8) ∉ x:=by
 unfold ZF at h0
 split at h0
 ·rename_i c
  obtain⟨c1,c2⟩:=c
  match w,c1 with
  | [a,b,d],_ =>
   cases hd:rZ (wd [a,b,d] 2)with
   | none=>rw[hd]at h0; exact absurd h0 (show ¬ (2:Int)=0 by decide)
   | some v =>
    intro x hx
    simp only[List.mem_cons,List.not_mem_nil,or_false]at hx
    rcases hx with rfl | rfl | rfl
    ·exact gu h (by decide)
    ·exact iI c2
    ·exact Nb (by decide) (by decide) (by decide) (by decide) hd
 ·exact absurd h0 (by decide)
theorem z0a{w:List zf}(h0:(sS w).1=0)(h:zk (wd w 0) [112,97,103,101]=true):∀ x∈w,(58:UInt8) ∉ x:=by
 unfold sS at h0
 split at h0
 ·rename_i c
  obtain⟨c1,c2,c3⟩:=c
  unfold Wn at c3
  split at c3
  ·rename_i d
   match w,d with
   | [a,b],_ =>
    intro x hx
    simp only[List.mem_cons,List.not_mem_nil,or_false]at hx
    rcases hx with rfl | rfl
    ·exact gu h (by decide)
    ·exact iI c2
  ·split at c3
   ·rename_i d
    obtain⟨d1,d2,d3⟩:=d
    match w,d1 with
    | [a,b,e,f],_ =>
     intro x hx
     simp only[List.mem_cons,List.not_mem_nil,or_false]at hx
     rcases hx with rfl | rfl | rfl | rfl
     ·exact gu h (by decide)
     ·exact iI c2
     ·exact gu (x:=x) d2 (by decide)
     ·exact iI d3
   ·cases c3
 ·exact absurd h0 (by decide)
theorem F8{w:List zf}{k:Int}(h:il w=some k):∀ x∈w,(58:UInt8) ∉ x:=by
 unfold il at h
 split at h
 ·intro x hx; cases hx
 ·rename_i a c
  split at h
  ·rename_i d
   intro x hx
   simp only[List.mem_cons,List.not_mem_nil,or_false]at hx
   rcases hx with rfl | rfl
   ·exact gu d.1 (by decide)
   ·intro hm
    have:=List.mem_singleton.1 hm
    subst this
    exact absurd d.2.2 (by decide)
  ·cases h
 ·cases h
theorem z2p{np:Nat}{w:List zf}(h0:(Q3 np w).1=0)(h:zk (wd w 0) [102,105,101,108,100]=true):∀ x∈w,(58:UInt8) ∉ x:=by
 unfold Q3 at h0
 split at h0
 ·rename_i c
  obtain⟨c1,c2,c3⟩:=c
  cases hd:il (kl w)with
  | none=>rw[hd]at h0; exact absurd h0 (show ¬ (2:Int)=0 by decide)
  | some v =>
   have hs:=F8 hd
   match w,c1 with
   | a::b::t,_ =>
    intro x hx
    rcases List.mem_cons.1 hx with rfl | hx
    ·exact gu h (by decide)
    ·rcases List.mem_cons.1 hx with rfl | hx
     ·exact iI c2
     ·unfold kl at hs
      rw[show List.drop 2 (a::b::t)=t from rfl]at hs
      cases t with
      | nil=>cases hx
      | cons y t =>
       cases q:lL (y::t)with
       | true =>
        rw[q,if_pos rfl]at hs
        rcases List.mem_cons.1 hx with rfl | hx
        ·exact gu (show zk x [109,117,115,116]=true from q) (by decide)
        ·exact hs x hx
       | false =>
        rw[q,if_neg (by decide)]at hs
        exact hs x hx
 ·exact absurd h0 (by decide)
theorem Rl(w:List zf):(Wx w).1≠0->Wx w=(2,xj):=by unfold Wx; split; exact λh=>absurd rfl h; exact λ_=>rfl
theorem RA(w:List zf):(ZF w).1≠0->ZF w=(2,xj):=by
 unfold ZF; split
 ·split
  ·exact λh=>absurd rfl h
  ·exact λ_=>rfl
 ·exact λ_=>rfl
theorem RN(w:List zf):(sS w).1≠0->sS w=(2,xj):=by unfold sS; split; exact λh=>absurd rfl h; exact λ_=>rfl
theorem RB(np:Nat)(w:List zf):(Q3 np w).1≠0->Q3 np w=(2,xj):=by
 unfold Q3; split
 ·split
  ·exact λh=>absurd rfl h
  ·exact λ_=>rfl
 ·exact λ_=>rfl
def NT(np:Nat)(s:zf):Int×fa:=if(wm s [58]).2.2=true then(if zk (wd (w7 32 [] (wm s [58]).1) 0) [99,104,101,99,107]=true then YK np (w7 32 [] (wm s [58]).1) (wm s [58]).2.1
  else if zk (wd (w7 32 [] (wm s [58]).1) 0) [114,117,108,101]=true then Xp (w7 32 [] (wm s [58]).1) (wm s [58]).2.1 else(2,xj))else(2,xj)
def FO(np:Nat)(s:zf)(w:List zf):Int×fa:=if zk (wd w 0) [115,119,105,116,99,104]=true then Wx w else if zk (wd w 0) [112,97,114,97,109]=true then ZF w
 else if zk (wd w 0) [112,97,103,101]=true then sS w else if zk (wd w 0) [102,105,101,108,100]=true then Q3 np w
 else if zk (wd w 0) [99,104,101,99,107]=true\/zk (wd w 0) [114,117,108,101]=true then NT np s else(2,xj)
theorem F1(np:Nat)(a:zf)(rest:zf):YK np [a] rest=(2,xj):=by unfold YK; exact if_neg (λh=>absurd h.1 (by simp))
theorem EP(a:zf)(rest:zf):Xp [a] rest=(2,xj):=by unfold Xp; exact if_neg (λh=>absurd h.1 (by simp))
theorem CF(np:Nat)(s:zf)(h:w7 32 [] s=[]):wq np s=(0,xj):=by
 have h58:(58:UInt8) ∉ s:=λhm=>by
  obtain⟨x,hx,_⟩:=ns 58 (by decide) s [] (.inr hm)
  rw[h]at hx; cases hx
 unfold wq
 rw[ba 58 s h58,h]
 rfl
theorem XC(np:Nat)(s:zf)(x:zf)(w:List zf):FO np s (x::w)=if zk x [115,119,105,116,99,104]=true then Wx (x::w)else if zk x [112,97,114,97,109]=true then ZF (x::w)
 else if zk x [112,97,103,101]=true then sS (x::w)else if zk x [102,105,101,108,100]=true then Q3 np (x::w)
 else if zk x [99,104,101,99,107]=true\/zk x [114,117,108,101]=true then NT np s else(2,xj):=rfl
theorem Um(np:Nat)(s:zf)(x:zf)(w:List zf)(h:(58:UInt8)∈x):FO np s (x::w)=(2,xj):=by
 rw[XC,if_neg (λk=>gu k (by decide) h),if_neg (λk=>gu k (by decide) h),if_neg (λk=>gu k (by decide) h),if_neg (λk=>gu k (by decide) h),
  if_neg (λk=>k.elim (λk=>gu k (by decide) h) (λk=>gu k (by decide) h))]
theorem yJ{x a b:zf}(h:zk x a=true)(Uj:a≠b):¬ (zk x b=true):=λk=>by
 rw[wu,decide_eq_true_eq]at h k
 exact Uj (h.symm.trans k)
theorem FC(np:Nat)(s:zf)(x:zf)(w:List zf)(h:w7 32 [] s=x::w):wq np s=if pR x=true then(0,xj)else FO np s (x::w):=by
 by_cases h58:(58:UInt8)∈s
 ·obtain⟨a,b,rfl,ha⟩:=List.eq_append_cons_of_mem h58
  have oB:=nc 58 a b ha
  have hl:wq np (a++58::b)=ek np (w7 32 [] a) b true:=by unfold wq; rw[oB]
  obtain⟨x',w',e,hc⟩:=VD b a []
  rw[h]at e
  injection e with e1 e2
  subst e1 e2
  obtain⟨y,hy,Yp⟩:=ns 58 (by decide) (a++58::b) [] (.inr (by simp))
  rw[h]at hy
  rw[hl]
  rcases hc with⟨c1,z,rfl⟩ | ⟨a0,l,c1,c2⟩
  ·rw[c1,if_neg (show ¬ (pR (58::z)=true) by simp[pR]),Um _ _ _ _ (by simp)]
   rfl
  ·have vP:a0≠[]:=(o6 32 a [] a0 (by rw[c1]; exact List.mem_cons_self)).1
   rw[c1,wV,if_pos rfl]
   rcases c2 with rfl | ⟨rfl,z,rfl⟩
   ·split
    ·rfl
    ·rw[XC]
     by_cases k1:zk x [115,119,105,116,99,104]=true
     ·rw[if_pos k1,if_neg (yJ k1 (by decide)),if_neg (yJ k1 (by decide)),Rl (x::w) λh0=>z0I (w:=x::w) h0 k1 y hy Yp]
     ·rw[if_neg k1]
      by_cases k2:zk x [112,97,114,97,109]=true
      ·rw[if_pos k2,if_neg (yJ k2 (by decide)),if_neg (yJ k2 (by decide)),RA (x::w) λh0=>T8 (w:=x::w) h0 k2 y hy Yp]
      ·rw[if_neg k2]
       by_cases k3:zk x [112,97,103,101]=true
       ·rw[if_pos k3,if_neg (yJ k3 (by decide)),if_neg (yJ k3 (by decide)),RN (x::w) λh0=>z0a (w:=x::w) h0 k3 y hy Yp]
       ·rw[if_neg k3]
        by_cases k4:zk x [102,105,101,108,100]=true
        ·rw[if_pos k4,if_neg (yJ k4 (by decide)),if_neg (yJ k4 (by decide)),RB np (x::w) λh0=>z2p (w:=x::w) h0 k4 y hy Yp]
        ·rw[if_neg k4]
         unfold NT
         rw[oB]
         dsimp only
         rw[if_pos rfl,c1]
         show _=if zk x _=true\/_ then(if zk x _=true then _ else if zk x _=true then _ else _)else _
         by_cases k5:zk x [99,104,101,99,107]=true
         ·rw[if_pos k5,if_pos (.inl k5)]
         ·rw[if_neg k5]
          by_cases k6:zk x [114,117,108,101]=true
          ·rw[if_pos k6,if_pos (.inr k6)]
          ·rw[if_neg k6,if_neg (λk=>k.elim k5 k6)]
   ·have hh:pR (a0++58::z)=pR a0:=by
     cases a0 with
     | nil=>exact absurd rfl vP
     | cons=>rfl
    rw[hh,Um _ _ _ _ (by simp),F1,EP]
    split
    ·rfl
    ·split
     ·rfl
     ·split<;>rfl
 ·unfold wq FO NT
  rw[ba 58 s h58]
  dsimp only
  rw[h,wV,if_neg (show ¬ (false=true) by decide),if_neg (show ¬ (false=true) by decide)]
  split
  ·rfl
  ·show _=(if zk x _=true then _ else if zk x _=true then _ else if zk x _=true then _ else if zk x _=true then _ else _)
   split
   ·rfl
   ·split
    ·rfl
    ·split
     ·rfl
     ·split
      ·rfl
      ·split<;>rfl
theorem pK(c b:UInt8)(r:zf):uK c (b::r)=if b=c then[]::uK c r else CI b (uK c r):=rfl
theorem Dq(c:UInt8):∀ (l r:zf),(∀ b∈l,b≠c)->uK c (l++c::r)=l::uK c r
 | [],r,_=>by
  show uK c (c::r)=_
  rw[pK,if_pos rfl]
 | b::l,r,h=>by
  show uK c (b::(l++c::r))=_
  rw[pK,if_neg (h b List.mem_cons_self),Dq c l r λx hx=>h x (List.mem_cons_of_mem _ hx)]
  rfl
def sgC(p s:Bool):UInt8:=bif p then(bif s then 47 else 42)else(bif s then 45 else 43)
def sgK(p s:Bool):Int:=bif p then(bif s then 6 else 5)else(bif s then 4 else 3)
def Df(p:Bool):List Bool->zf
 | []=>[]
 | s::r=>sgC p s::98::Df p r
def Oi(p:Bool):Expr->List Bool->Expr
 | e,[]=>e
 | e,s::r=>Oi p (lN (sgK p s) [e,cr [98]]) r
theorem sP(p:Bool)(l:List Bool):FG (Df p l)=true:=by
 cases l with
 | nil=>rfl
 | cons s r=>cases p<;>cases s<;>rfl
theorem V1(c:UInt8)(hc:Q5 c=true)(d:Nat)(l:Bool)(q:zf)(hq:FG q=true):SF d l (c::q) (.ok (cr [c]) q l):=by
 have h:=Rs (d:=d) (l:=l) (RY (SB hc):eI (c::q)=c::q) hc
 have hn:zJ [c]=true:=by
  unfold zJ
  show(true&&(Q5 c&&(je c&&true)))=true
  rw[hc,Yg hc]; rfl
 have:=Cs hn l hq
 have e:KI (c::q) l=.ok (.mk 2 zK [c] []) q l:=this
 rw[e]at h
 exact h
theorem GP:∀ (l:List Bool) (e:Expr),RP 0 e (Df true l) false (.ok (Oi true e l) [] false)
 | [],e=>Vl rfl
 | s::r,e=>by
  have hsk:uY [42,47] (Df true (s::r))=some (sgC true s,98::Df true r):=by cases s<;>rfl
  refine Nh hsk (V1 98 (by decide) 0 false _ (sP true r)) ?_
  have:(if sgC true s=42 then(5:Int)else 6)=sgK true s:=by cases s<;>rfl
  rw[this]
  exact GP r _
theorem Dn:∀ (l:List Bool) (e:Expr),RS 0 e (Df false l) false (.ok (Oi false e l) [] false)
 | [],e=>Hu rfl
 | s::r,e=>by
  have hsk:uY [43,45] (Df false (s::r))=some (sgC false s,98::Df false r):=by cases s<;>rfl
  have ya:uY [42,47] (Df false r)=none:=by
   cases r with
   | nil=>rfl
   | cons t r=>cases t<;>rfl
  refine Nx hsk (Ep (V1 98 (by decide) 0 false _ (sP false r)) (Vl ya)) ?_
  have:(if sgC false s=43 then(3:Int)else 4)=sgK false s:=by cases s<;>rfl
  rw[this]
  exact OR (Dn r _)
theorem OE(c:UInt8)(hc:Q5 c=true)(d:Nat)(hd:d<32):uy d (cr [c])=true:=by
 refine IP hd ?_ rfl
 show(true&&(true&&(true&&(Q5 c&&(je c&&true)))))=true
 rw[hc,Yg hc]; rfl
theorem Io(p:Bool):∀ (l:List Bool) (e:Expr) (d:Nat),d+l.length<32->uy (d+l.length) e=true->uy d (Oi p e l)=true
 | [],_,_,_,h=>h
 | s::r,e,d,hd,h=>by
  simp only[List.length_cons]at hd h
  refine Io p r _ d (by omega) (IP (by omega) ?_ ?_)
  ·cases p<;>cases s<;>rfl
  ·show(uy (d+r.length+1) e&&(uy (d+r.length+1) (cr [98])&&true))=true
   rw[show d+r.length+1=d+(r.length+1) by omega,h,OE 98 (by decide) _ (by omega)]; rfl
theorem Fb(p:Bool):∀ (l:List Bool) (e:Expr),vR (Oi p e l)=vR e+2*l.length
 | [],_=>rfl
 | s::r,e=>by
  show vR (Oi p _ r)=_
  rw[Fb p r,nd2,show vR (cr [98])=1 from rfl,List.length_cons]; omega
theorem YZ(p:Bool)(l:List Bool)(hl:l.length<=28):qo (97::Df p l)=(Oi p (cr [97]) l,((0:Int),(0:Int))):=by
 have hs:SS 0 false (97::Df p l) (.ok (Oi p (cr [97]) l) [] false):=by
  cases p with
  | true=>exact PJ (Ep (V1 97 (by decide) 0 false _ (sP true l)) (GP l _)) (Hu rfl)
  | false =>
   have ya:uY [42,47] (Df false l)=none:=by
    cases l with
    | nil=>rfl
    | cons t r=>cases t<;>rfl
   exact PJ (Ep (V1 97 (by decide) 0 false _ (sP false l)) (Vl ya)) (OR (Dn l _))
 have hI:Y5 (Oi p (cr [97]) l)=true:=by
  unfold Y5
  rw[Fb,Io p l (cr [97]) 0 (by omega) (OE 97 (by decide) _ (by omega)),decide_eq_true (by rw[show vR (cr [97])=1 from rfl]; omega)]
  rfl
 unfold qo
 rw[Rx hs]
 unfold G5 lH
 dsimp only
 rw[if_neg (by decide),hI,if_neg (by simp)]
def bM:Expr:=.mk 1 (lF [50]) [] []
theorem UM(d:Nat)(hd:d<32):uy d bM=true:=by
 have h:jA (.mk 1 (lF [50]) [] [])=true:=by
  unfold jA
  show((((0:Nat):Int)==lX 1)&&(if(1:Int)=1 then gW (lF [50])&&zk [] []else _))=true
  rw[if_pos rfl,NB]
  rfl
 show(decide (d<32)&&(jA (.mk 1 (lF [50]) [] [])&&yT (d+1) []))=true
 rw[h,decide_eq_true hd]; rfl
theorem Fz:Y5 bM=true:=by
 unfold Y5
 rw[UM 0 (by decide)]
 rfl
theorem MB:prE bM=[50]:=by
 show(xV (norm (lF [50])).1 (nv (norm (lF [50])).2.1) (nv (norm (lF [50])).2.2.1) 0 61).1=[50]
 rw[DV,FI]
 show(xV false 2 1 0 61).1=[50]
 unfold xV
 rw[if_pos (by decide)]
 show DZ false++Le (pr 2) 0=[50]
 unfold Le pr
 rw[if_pos rfl,if_neg (by decide),sK (by decide),show 2 / 10=0 from rfl,nI]
 rfl
theorem O1:qo [97]=(cr [97],((0:Int),(0:Int))):=YZ true [] (by decide)
theorem NQ:qo [50]=(bM,((0:Int),(0:Int))):=by
 have h:dB zK [50]=.ok bM [] false:=by kernel_rfl
 unfold qo
 rw[h]
 unfold G5 lH
 dsimp only
 rw[if_neg (by decide),Fz,if_neg (by simp)]
theorem DM:qI [97,61,50]=(cr [97],(bM,((0:Int),(0:Int)))):=by
 have h:kA [97,61,50]=some ([97],0,[50]):=rfl
 unfold qI
 rw[h]
 dsimp only
 rw[O1,NQ]
 rfl
def SM:zf:=[112,97,103,101,32,112,10,102,105,101,108,100,32,32,97,32,109,117,115,116,10,114,117,108,101,32,119,101,97,107,32,114,58,97,61,50,10]
def PG:fa:=([],[],[([112],([],()))],[([97],(0,(true,(0,()))))],[([114],(3,([],(cr [97],(bM,())))))],[])
theorem VS:vE (uK 10 SM) xj 0=.inr PG:=by
 have e:uK 10 SM=[[112,97,103,101,32,112],[102,105,101,108,100,32,32,97,32,109,117,115,116],[114,117,108,101,32,119,101,97,107,32,114,58,97,61,50],[]]:=by decide +kernel
 have l1:wq 0 [112,97,103,101,32,112]=(0,[],[],[([112],([],()))],[],[],[]):=rfl
 have l2:wq 1 [102,105,101,108,100,32,32,97,32,109,117,115,116]=(0,[],[],[],[([97],(0,(true,(0,()))))],[],[]):=rfl
 have l3:wq 1 [114,117,108,101,32,119,101,97,107,32,114,58,97,61,50]=(0,[],[],[],[],[([114],(3,([],(cr [97],(bM,())))))],[]):=by
  have:wq 1 [114,117,108,101,32,119,101,97,107,32,114,58,97,61,50]=Xp [[114,117,108,101],[119,101,97,107],[114]] [97,61,50]:=rfl
  rw[this]
  unfold Xp
  rw[DM]
  rfl
 have l4:wq 1 []=(0,xj):=rfl
 rw[e]
 unfold vE
 rw[show wq xj.2.2.1.length [112,97,103,101,32,112]=_ from l1,if_pos rfl]
 unfold vE
 rw[show wq (sd xj (([],[],[([112],([],()))],[],[],[]):fa)).2.2.1.length [102,105,101,108,100,32,32,97,32,109,117,115,116]=_ from l2,if_pos rfl]
 unfold vE
 rw[show wq (sd (sd xj (([],[],[([112],([],()))],[],[],[]):fa)) (([],[],[],[([97],(0,(true,(0,()))))],[],[]):fa)).2.2.1.length [114,117,108,101,32,119,101,97,107,32,114,58,97,61,50]=_ from l3,if_pos rfl]
 rfl
theorem Uz{s:zf}(h:s.length<=600){S:fa}(hl:vE (uK 10 s) xj 0=.inr S):FS (H0 S):=by
 obtain⟨g,ht⟩:=sR _ _ _ _ hl OG
 have:=WX 10 s
 have h0:BO xj=0:=rfl
 exact⟨by rw[h0]at ht; unfold BO at ht; show S.1.length+S.2.1.length+S.2.2.1.length+S.2.2.2.1.length+S.2.2.2.2.1.length+S.2.2.2.2.2.length<=601; omega,g.s,g.p,g.g,g.d,g.r,g.c⟩
def knT:zf:=[112,97,103,101,32,112,10,102,105,101,108,100,32,97,32,109,117,115,116,10,114,117,108,101,32,119,101,97,107,32,114,32,58,32,97,32,61,32,50,10]
theorem GQ:frS (H0 PG)=knT:=by
 have h1:NA (cr [97]) [61] bM=[32,58,32,97,32,61,32,50,10]:=by
  unfold NA
  rw[MB]
  rfl
 have h2:Db ([114],(3,([],(cr [97],(bM,())))))=[114,117,108,101,32,119,101,97,107,32,114,32,58,32,97,32,61,32,50,10]:=by
  unfold Db
  dsimp only
  rw[h1]
  rfl
 show([]++[]++(List.range 1).flatMap (LA (H0 PG))++(Db ([114],(3,([],(cr [97],(bM,())))))++[]))=_
 rw[h2]
 rfl
theorem Dw:Jy (H0 PG)=true:=by
 have h6:a6 (H0 PG)=true:=by
  show(!(WE ([114],(3,([],(cr [97],(bM,())))))||false))=true
  have:WE ([114],(3,([],(cr [97],(bM,())))))=false:=by
   show(!(zJ [114])||(!(mK [])||(false||(false||(!(uy 0 (cr [97])) || !(uy 0 bM))))))=false
   rw[UM 0 (by decide)]
   rfl
  rw[this]; rfl
 unfold Jy
 rw[h6,GQ]
 rfl
theorem G0:dJ.run=some true:=by
 have hp:(ki SM).run=some (H0 PG,((0:Int),(0:Int))):=by
  rw[dT SM (λS h=>Uz (by decide) h)]
  unfold Wy
  rw[if_neg (by decide),VS]
  dsimp only
  rw[Dw]
  rfl
 have hF:FS (H0 PG):=Uz (s:=SM) (by decide) VS
 have hp2:(bX (H0 PG)).run=some knT:=by
  unfold bX
  rw[z6 (n0 _ hF),Dw,za (by rfl)]
  have h:=Dw
  unfold Jy at h
  simp only[Bool.and_eq_true]at h
  rw[z6 (ea _ (P1 hF h.2.2.2.1 h.2.2.2.2.1 h.2.2.2.2.2.1)),z7,GQ]
 unfold dJ
 rw[show([112,97,103,101,32,112,10,102,105,101,108,100,32,32,97,32,109,117,115,116,10,114,117,108,101,32,119,101,97,107,32,114,58,97,61,50,10]:zf)=SM from rfl,z6 hp]
 dsimp only
 rw[zc (by rfl),zc (by rfl),z6 hp2,z7]
 rfl
theorem YE(x:zf)(l:List zf)(S:fa)(k:Nat):vE (x::l) S k=if(wq S.2.2.1.length x).1=0 then vE l (sd S (wq S.2.2.1.length x).2) (k+1)else .inl (k+1,(wq S.2.2.1.length x).1):=rfl
theorem LK(S:fa):sd S xj=S:=oc S.1 S.2.1 S.2.2.1 S.2.2.2.1 S.2.2.2.2.1 S.2.2.2.2.2
theorem BP{line:zf}(h:∀ np,wq np line=(0,xj))(l:List zf)(S:fa)(k:Nat):vE (line::l) S k=vE l S (k+1):=by
 conv=>lhs; unfold vE
 rw[h,if_pos rfl,LK]
theorem z18(w r:zf)(h0:w≠[])(h:(32:UInt8) ∉ w):w7 32 [] (w++32::r)=w::w7 32 [] r:=by
 rw[Xf 32 w [] (32::r) λb hb e=>h (e▸hb),List.nil_append]
 conv=>lhs; unfold w7
 rw[if_pos rfl,if_neg h0]
def Y9:zf:=[110,111,116,104,105,110,103]
theorem Vw(np:Nat)(b:zf):wq np (Y9++32::b)=(2,xj):=by
 rw[FC np _ _ _ (z18 Y9 b (by decide) (by decide)),if_neg (by decide)]
 unfold FO
 rw[show wd (Y9::w7 32 [] b) 0=Y9 from rfl,if_neg (by decide),if_neg (by decide),if_neg (by decide),if_neg (by decide),if_neg (by decide)]
theorem Ns(b:zf):∀ x∈List.map lA b,x≠10:=λx hx=>by
 obtain⟨y,_,rfl⟩:=List.mem_map.1 hx
 unfold lA
 split
 ·decide
 ·assumption
def Cn(n:Nat):zf:=List.replicate n 10
theorem tc(t:zf)(hl:∀ np,wq np t=(2,xj))(ht:∀ x∈t,x≠10)(s:zf):∀ (n k:Nat) (S:fa),vE (uK 10 (Cn n++(t++10::s))) S k=.inl (k+n+1,2)
 | 0,k,S=>by
  show vE (uK 10 (t++10::s)) S k=_
  rw[Dq 10 t s ht,YE,hl,if_neg (by decide)]
 | n+1,k,S=>by
  show vE (uK 10 (10::(Cn n++(t++10::s)))) S k=_
  rw[pK,if_pos rfl,BP (λnp=>CF np [] rfl),tc t hl ht s n (k+1) S,show k+1+n=k+(n+1) by omega]
theorem Mg(s1 bad:zf)(c:Nat)(hc:c<=50):∀ (m k:Nat),k+m=c->(kQ s1 (c:Int) bad (Cn k,(k:Int))).run=some (Cn c):=by
 intro m
 induction m with
 | zero =>
  intro k hk
  refine xw ?_
  show(T.ite _ _ _).run=_
  rw[za (decide_eq_false (by omega)),z7,show k=c by omega]
 | succ m ih =>
  intro k hk
  refine(j6 (s':=(Cn (k+1),((k+1:Nat):Int))) ?_).trans (ih (k+1) (by omega))
  show(T.ite _ _ _).run=_
  have e:cat (Cn k) [10]=Cn (k+1):=List.replicate_succ'.symm
  have ln:(Cn k).length=k:=List.length_replicate
  rw[zc (decide_eq_true (by omega)),zd (by rw[ln]; simp; omega),z7,e,zI (by omega) (by omega)]
  rfl
theorem mQ(s:zf)(n:Int)(b:zf):(kY s n b).run=some true:=by
 unfold kY
 by_cases h:(decide ((600:Int)<(s.length:Int))||(decide (n<(0:Int))||(decide ((50:Int)<n)||decide ((60:Int)<(b.length:Int)))))=true
 ·rw[zc h,z7]
 rw[za (by simpa using h)]
 simp only[Bool.or_eq_true,decide_eq_true_eq,not_or,Int.not_lt]at h
 obtain⟨h1,h2,h3,h4⟩:=h
 obtain⟨c,rfl⟩:=Int.eq_ofNat_of_zero_le h2
 have hc:c<=50:=by omega
 have L:=Mg s b c hc c 0 (by omega)
 rw[z6 (show(kQ s (c:Int) b (([]:zf),(0:Int))).run=some (Cn c)from L)]
 have hb:(lp b).run=some (List.map lA b):=by
  unfold lp
  rw[zd (by omega),z7]
 have lb:(List.map lA b).length=b.length:=List.length_map _
 have ln:(Cn c).length=c:=List.length_replicate
 have e:cat (cat (cat (cat (Cn c) ([110,111,116,104,105,110,103,32]:zf)) (List.map lA b)) ([10]:zf)) s=Cn c++((Y9++32::List.map lA b)++10::s):=by
  unfold cat Y9; simp
 have hP:=tc (Y9++32::List.map lA b) (λnp=>Vw np _) (λx hx=>by
  rcases List.mem_append.1 hx with h | h
  ·exact λe=>by subst e; revert h; decide
  ·rcases List.mem_cons.1 h with rfl | h
   ·decide
   ·exact Ns b x h) s c 0 xj
 rw[<- e,Nat.zero_add]at hP
 have lt:(cat (cat (cat (cat (Cn c) ([110,111,116,104,105,110,103,32]:zf)) (List.map lA b)) ([10]:zf)) s).length<=16384:=by
  unfold cat; simp only[List.length_append,lb,ln,List.length_cons,List.length_nil]; omega
 have hQ:=dT _ (λS hS=>by rw[hP]at hS; cases hS)
 unfold Wy at hQ
 rw[if_neg (by omega),hP]at hQ
 dsimp only
 rw[zd (by simp only[ln,List.length_cons,List.length_nil]; omega),z6 hb,
  zd (by unfold cat; simp only[List.length_append,lb,ln,List.length_cons,List.length_nil]; omega),
  zd (by unfold cat; simp only[List.length_append,lb,ln,List.length_cons,List.length_nil]; omega),
  zd (by unfold cat; simp only[List.length_append,lb,ln,List.length_cons,List.length_nil]; omega),z6 hQ]
 dsimp only
 rw[zc (by rfl),zc (by rw[zI (by omega) (by omega)]; simp),z6 G0,z7]
theorem mE(x:QA [.str,i64,.str])(hw:wfL [.str,i64,.str] x)(hb:SR [.str,i64,.str] x<=1048576):(kY (YB [.str,i64,.str] x).1 (YB [.str,i64,.str] x).2.1 (YB [.str,i64,.str] x).2.2).run=some true:=mQ x.1 x.2.1 x.2.2.1
end Go.AM.Lf
