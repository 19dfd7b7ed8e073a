/-
  The walk, part 1: each function of the program is the tree that the lifted text says; printed by a program of ours.
-/
import Derived.Test.YtjklmealdnfhfaaGreatDoorWk0
set_option linter.unusedVariables false
set_option maxRecDepth 100000
noncomputable section
namespace Go.AM.Lf
open Go.Proofs Go.Proofs.Tryz
abbrev Y20:=dQ [.ty .expr,.ty i64]->T (Dl [i64])
abbrev H20(F:Y20):=q8 Pz 20 ⟨[.ty .expr,.ty i64],[i64],F⟩
def T20(tB:Y20)(Ep:H20 tB):Tb:=t344.d Ep
def z1n(tB:Y20):q9:=Lz [] [Mr 2 .expr] ⟨[Mi 1,Mi 5],[],[]⟩ [⟨.exit 0,⟨[Mi 1],[],[]⟩⟩] λp s=>eE (λy0 y1=>tB (y0,y1)) p s
def h20(tB:Y20):Hints:=Hz [(0,z1n tB)] [(0,3,.flat [Mb 32])] []
theorem zbY(tB:Y20)(Ep:H20 tB):LO Tryz.f20 (z1n tB) 0:=lk (T20 tB Ep) (rz [2]) (h20 tB) [] zf
theorem zcG(tB:Y20)(Ep:H20 tB):q8 Pz 20 ⟨[.ty .expr,.ty i64],[i64],λx=>dq (λy0 y1=>tB (y0,y1)) x.1 x.2⟩:=wo (T20 tB Ep) (rz [2]) (h20 tB) func20 [0] (qh rfl (zbY tB Ep) zf)
theorem znM:q8 Pz 20 ⟨[.ty .expr,.ty i64],[i64],λx=>bT x.1 x.2⟩:=Yf (λtB x=>dq (λy0 y1=>tB (y0,y1)) x.1 x.2) (λx=>rfl) (λtB Ep=>zcG tB Ep)
def t345:=t344.d znM
def z9O:q9:=Lz [] [Mr 1 qy] ⟨[Mi 3,Mi 4],[],[]⟩ [⟨.exit 0,GD⟩] λp s=>rm p s
def z9P:q9:=Lz [] [Mr 1 qy] ⟨[Mi 3,Mi 5],[],[]⟩ [⟨.exit 2,GD⟩] λp s=>rq p s
def z9Q:q9:=Lz [] [Mr 1 qy] ⟨[Mi 3,Mi 6],[],[]⟩ [⟨.exit 4,GD⟩] λp s=>ru p s
def z9R:q9:=Lz [] [Mr 1 qy] ⟨[Mi 3,Mi 7],[],[]⟩ [⟨.exit 6,GD⟩] λp s=>ry p s
def z9S:q9:=Lz [] [Mr 1 qy] ⟨[Mi 3,Mi 8],[],[]⟩ [⟨.exit 8,GD⟩] λp s=>rA p s
def z1R:q9:=Lz [] [Mr 1 qy] z4j [⟨.exit 10,GD⟩] λp s=>rB p s
def h7:Hints:=Hz [(0,z9O),(2,z9P),(4,z9Q),(6,z9R),(8,z9S),(10,z1R)] [(0,3,.flat [Mb 43]),(0,7,.flat [Mb 83]),(0,11,.flat [Mb 103]),(0,15,.flat [Mb 131]),(0,19,.flat [Mb 151]),(0,23,.flat [Mb 193])] []
theorem zgE:LO Tryz.f7 z9O 0:=lk t345 (rz [1]) h7 [] zf
theorem zgF:LO Tryz.f7 z9P 2:=lk t345 (rz [1]) h7 [] zf
theorem zgG:LO Tryz.f7 z9Q 4:=lk t345 (rz [1]) h7 [] zf
theorem zgH:LO Tryz.f7 z9R 6:=lk t345 (rz [1]) h7 [] zf
theorem zgI:LO Tryz.f7 z9S 8:=lk t345 (rz [1]) h7 [] zf
theorem zcs:LO Tryz.f7 z1R 10:=lk t345 (rz [1]) h7 [] zf
theorem ok7:q8 Pz 7 ⟨[.ty qy],[.bool],λx=>sH x⟩:=wo t345 (rz [1]) h7 func7 [0,2,4,6,8,10] (qh rfl zgE (qh rfl zgF (qh rfl zgG (qh rfl zgH (qh rfl zgI (qh rfl zcs zf))))))
def t346:=t345.d ok7
def z9T:q9:=Lz [] [Mm 0 (.sl fA)] GD [kN,PX] λp s=>tp p s
def h8:Hints:=Hz [(0,z9T)] [(0,2,.flat [Mb 11]),(0,4,.flat [Mb 40])] []
theorem zgJ:LO Tryz.f8 z9T 0:=lk t346 rn h8 [] zf
theorem ok8:q8 Pz 8 ⟨[.ty (.sl fA)],[.bool],λx=>ZM x⟩:=wo t346 rn h8 func8 [0] (qh rfl zgJ zf)
def t347:=t346.d ok8
theorem zol:q8 Pz 65 ⟨[.ty .str],[.str],λx=>pT x⟩:=wo t347 rn hN func65 [] zf
def t348:=t347.d zol
def z1G:q9:=Lz [] [Mm 15 (.sl .str),Mi 16] ⟨[Ms 5,Mi 17],[],[]⟩ [⟨.exit 0,⟨[Ms 5],[],[]⟩⟩] λp s=>Zu p.1 p.2 s
def h66:Hints:=Hz [(0,z1G)] [] []
theorem zch:LO Tryz.f66 z1G 0:=lk t348 rn h66 [] zf
theorem zom:q8 Pz 66 ⟨[.ty .str,.ty (.sl .str)],[.str],λx=>tO x.1 x.2⟩:=wo t348 rn h66 func66 [0] (qh rfl zch zf)
def t349:=t348.d zom
theorem znT:q8 Pz 31 ⟨[.ty WD],[.str],λx=>WS x⟩:=wo t349 (rz [1]) hN func31 [] zf
def t350:=t349.d znT
theorem znL:q8 Pz 18 ⟨[.rp qs],[.str],λx=>jR x⟩:=wo t350 rn hN func18 [] zf
def t351:=t350.d znL
def T5:Tb:=t351.s zh8
def z9N:q9:=Lz [] [Mm 1 (.sl fA)] ⟨[Mi 8,.v (.qi qs)],[(5,.ptr 0 0)],Zd⟩ [⟨.exit 0,⟨[.v (.qi qs)],[],Zd⟩⟩,⟨.ret,⟨[Mb 4,.v (.qi qs)],[],Zd⟩⟩] λp s=>cB p s
def h5:Hints:=Hz [(0,z9N)] [(0,1,.ways [z4q]),(0,7,.flat [Mb 37]),(0,11,.ways [⟨.normal,⟨[Mb 61,.v (.qi qs),.v (.qi wA)],[],[.var (.qi qs),.var (.qi wA)]⟩⟩])] []
theorem zgD:LO Tryz.f5 z9N 0:=lk T5 (rz [2]) h5 [] zf
theorem ok5:q8 Pz 5 ⟨[.ty qy,.ty (.sl fA)],[.bool],λx=>yI x.1 x.2⟩:=wo T5 (rz [2]) h5 func5 [0] (qh rfl zgD zf)
def t352:=t351.d ok5
end Go.AM.Lf
