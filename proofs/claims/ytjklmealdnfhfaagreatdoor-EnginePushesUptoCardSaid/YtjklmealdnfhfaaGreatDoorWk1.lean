/-
  The walk, part 1: each function of the program is the tree that the lifted text says; printed by a program of ours.
-/
import Derived.Test.YtjklmealdnfhfaaGreatDoorWk0
set_option linter.unusedVariables false
set_option maxRecDepth 100000
noncomputable section
namespace Go.AM.Lf
open Go.Proofs Go.Proofs.Tryz
abbrev Y20:=dT [.ty .expr,.ty i64]->T (Dj [i64])
abbrev H20(F:Y20):=q8 Pz 20 ⟨[.ty .expr,.ty i64],[i64],F⟩
def T20(tF:Y20)(En:H20 tF):Tb:=t344.d En
def z1m(tF:Y20):q9:=Lz [] [Mr 2 .expr] ⟨[Mi 1,Mi 5],[],[]⟩ [⟨.exit 0,⟨[Mi 1],[],[]⟩⟩] λp s=>eH (λy0 y1=>tF (y0,y1)) p s
def h20(tF:Y20):Hints:=Hz [(0,z1m tF)] [(0,3,.flat [Mb 32])] []
theorem zc1(tF:Y20)(En:H20 tF):LO Tryz.f20 (z1m tF) 0:=lk (T20 tF En) (rz [2]) (h20 tF) [] zg
theorem zcJ(tF:Y20)(En:H20 tF):q8 Pz 20 ⟨[.ty .expr,.ty i64],[i64],λx=>dt (λy0 y1=>tF (y0,y1)) x.1 x.2⟩:=wq (T20 tF En) (rz [2]) (h20 tF) func20 [0] (qh rfl (zc1 tF En) zg)
theorem znQ:q8 Pz 20 ⟨[.ty .expr,.ty i64],[i64],λx=>bW x.1 x.2⟩:=Yd (λtF x=>dt (λy0 y1=>tF (y0,y1)) x.1 x.2) (λx=>rfl) (λtF En=>zcJ tF En)
def t345:=t344.d znQ
def z9R:q9:=Lz [] [Mr 1 qy] ⟨[Mi 3,Mi 4],[],[]⟩ [⟨.exit 0,GB⟩] λp s=>rA p s
def z9S:q9:=Lz [] [Mr 1 qy] ⟨[Mi 3,Mi 5],[],[]⟩ [⟨.exit 2,GB⟩] λp s=>rB p s
def z9T:q9:=Lz [] [Mr 1 qy] ⟨[Mi 3,Mi 6],[],[]⟩ [⟨.exit 4,GB⟩] λp s=>rC p s
def z9U:q9:=Lz [] [Mr 1 qy] ⟨[Mi 3,Mi 7],[],[]⟩ [⟨.exit 6,GB⟩] λp s=>rD p s
def z9V:q9:=Lz [] [Mr 1 qy] ⟨[Mi 3,Mi 8],[],[]⟩ [⟨.exit 8,GB⟩] λp s=>rE p s
def z1Q:q9:=Lz [] [Mr 1 qy] z4l [⟨.exit 10,GB⟩] λp s=>rF p s
def h7:Hints:=Hz [(0,z9R),(2,z9S),(4,z9T),(6,z9U),(8,z9V),(10,z1Q)] [(0,3,.flat [Mb 43]),(0,7,.flat [Mb 83]),(0,11,.flat [Mb 103]),(0,15,.flat [Mb 131]),(0,19,.flat [Mb 151]),(0,23,.flat [Mb 193])] []
theorem zgH:LO Tryz.f7 z9R 0:=lk t345 (rz [1]) h7 [] zg
theorem zgI:LO Tryz.f7 z9S 2:=lk t345 (rz [1]) h7 [] zg
theorem zgJ:LO Tryz.f7 z9T 4:=lk t345 (rz [1]) h7 [] zg
theorem zgK:LO Tryz.f7 z9U 6:=lk t345 (rz [1]) h7 [] zg
theorem zgL:LO Tryz.f7 z9V 8:=lk t345 (rz [1]) h7 [] zg
theorem zcv:LO Tryz.f7 z1Q 10:=lk t345 (rz [1]) h7 [] zg
theorem ok7:q8 Pz 7 ⟨[.ty qy],[.bool],λx=>nf x⟩:=wq t345 (rz [1]) h7 func7 [0,2,4,6,8,10] (qh rfl zgH (qh rfl zgI (qh rfl zgJ (qh rfl zgK (qh rfl zgL (qh rfl zcv zg))))))
def t346:=t345.d ok7
def z9W:q9:=Lz [] [Mm 0 (.sl bK)] GB [kN,PX] λp s=>tx p s
def h8:Hints:=Hz [(0,z9W)] [(0,2,.flat [Mb 11]),(0,4,.flat [Mb 40])] []
theorem zgM:LO Tryz.f8 z9W 0:=lk t346 rn h8 [] zg
theorem ok8:q8 Pz 8 ⟨[.ty (.sl bK)],[.bool],λx=>rG x⟩:=wq t346 rn h8 func8 [0] (qh rfl zgM zg)
def t347:=t346.d ok8
theorem znO:xr Pz 11 ⟨[.ptr],z3U,[],⟨[.s 0 (.st [.row 1 .str,.row 2 .str]),.v (.qj qw),.a .str,.a .str],[],[.var (.qj qw),.arr .str,.arr .str]⟩,1,λx=>vD x⟩:=ef t347 rn hN func11 [] zg
def t348:=t347.s znO
def z1t:q9:=Lz [] [Mm 0 (.sl .str),Mm 1 (.sl .str)] z47 [kN,FP] λp s=>dy p.1 p.2 s
def h27:Hints:=Hz [(0,z1t)] [] []
theorem zc8:LO Tryz.f27 z1t 0:=lk t348 rn h27 [] zg
theorem znW:q8 Pz 27 ⟨[.ty (.sl .str),.ty (.sl .str)],[.bool],λx=>bN x.1 x.2⟩:=wq t348 rn h27 func27 [0] (qh rfl zc8 zg)
def t349:=t348.d znW
theorem znP:q8 Pz 13 ⟨[.ty jx,.ty jx],[.bool],λx=>ml x.1 x.2⟩:=wq t349 (rz [2,3]) hN func13 [] zg
def t350:=t349.d znP
def T3:Tb:=t350.s zhb
def z9Q:q9:=Lz [] [Mm 1 (.sl bK)] ⟨[Mi 8,.v (.qj qw)],[(5,.ptr 0 0)],Zg⟩ [⟨.exit 0,⟨[.v (.qj qw)],[],Zg⟩⟩,⟨.ret,⟨[Mb 4,.v (.qj qw)],[],Zg⟩⟩] λp s=>jN p s
def h3:Hints:=Hz [(0,z9Q)] [(0,1,.ways [⟨.normal,⟨[Mb 18],[],[]⟩⟩]),(0,7,.flat [Mb 39]),(0,15,.flat [Mb 61]),(0,16,.flat [Mb 87]),(0,18,.flat [Mb 88]),(0,19,.flat [Mb 113]),(0,21,.flat [Mb 114]),(0,22,.flat [Mb 139])] []
theorem zgG:LO Tryz.f3 z9Q 0:=lk T3 (rz [2]) h3 [] zg
theorem ok3:q8 Pz 3 ⟨[.ty qy,.ty (.sl bK)],[.bool],λx=>jZ x.1 x.2⟩:=wq T3 (rz [2]) h3 func3 [0] (qh rfl zgG zg)
def t351:=t350.d ok3
end Go.AM.Lf
