/-
  The walk, part 1: each function of the program is the tree that the lifted text says; printed by a program of ours.
-/
import Derived.Test.YtbccccfmfeihfaaGreatDoorWk0
set_option linter.unusedVariables false
set_option maxRecDepth 100000
noncomputable section
namespace Go.AM.Lf
open Go.Proofs Go.Proofs.Tryz
abbrev Y14:=eo [.ty .expr,.ty i64]->T (Et [i64])
abbrev H14(F:Y14):=zy Pz 14 ⟨[.ty .expr,.ty i64],[i64],F⟩
def T14(Z4:Y14)(FB:H14 Z4):Tb:=t344.d FB
def z2K(Z4:Y14):q8:=Lz [] [Mr 2 .expr] ⟨[Mi 1,Mi 5],[],[]⟩ [⟨.exit 0,⟨[Mi 1],[],[]⟩⟩] λp s=>eS (λy0 y1=>Z4 (y0,y1)) p s
def h14(Z4:Y14):Hints:=Hz [(0,z2K Z4)] [(0,3,.flat [Mb 32])] []
theorem zdV(Z4:Y14)(FB:H14 Z4):LO Tryz.f14 (z2K Z4) 0:=lk (T14 Z4 FB) (rz [2]) (h14 Z4) [] zf
theorem zeG(Z4:Y14)(FB:H14 Z4):zy Pz 14 ⟨[.ty .expr,.ty i64],[i64],λx=>dE (λy0 y1=>Z4 (y0,y1)) x.1 x.2⟩:=wi (T14 Z4 FB) (rz [2]) (h14 Z4) func14 [0] (qe rfl (zdV Z4 FB) zf)
theorem zpU:zy Pz 14 ⟨[.ty .expr,.ty i64],[i64],λx=>cm x.1 x.2⟩:=Gd (λZ4 x=>dE (λy0 y1=>Z4 (y0,y1)) x.1 x.2) (λx=>rfl) (λZ4 FB=>zeG Z4 FB)
def t345:=t344.d zpU
def zbD:q8:=Lz [] [Mr 1 qz] ⟨[Mi 3,Mi 4],[],[]⟩ [⟨.exit 0,JM⟩] λp s=>rM p s
def zbE:q8:=Lz [] [Mr 1 qz] ⟨[Mi 3,Mi 5],[],[]⟩ [⟨.exit 2,JM⟩] λp s=>rN p s
def zbF:q8:=Lz [] [Mr 1 qz] ⟨[Mi 3,Mi 6],[],[]⟩ [⟨.exit 4,JM⟩] λp s=>rO p s
def zbG:q8:=Lz [] [Mr 1 qz] ⟨[Mi 3,Mi 7],[],[]⟩ [⟨.exit 6,JM⟩] λp s=>rP p s
def zbH:q8:=Lz [] [Mr 1 qz] ⟨[Mi 3,Mi 8],[],[]⟩ [⟨.exit 8,JM⟩] λp s=>rQ p s
def z3h:q8:=Lz [] [Mr 1 qz] z5X [⟨.exit 10,JM⟩] λp s=>rR p s
def h4:Hints:=Hz [(0,zbD),(2,zbE),(4,zbF),(6,zbG),(8,zbH),(10,z3h)] [(0,3,.flat [Mb 43]),(0,7,.flat [Mb 83]),(0,11,.flat [Mb 103]),(0,15,.flat [Mb 131]),(0,19,.flat [Mb 151]),(0,23,.flat [Mb 193])] []
theorem ziO:LO Tryz.f4 zbD 0:=lk t345 (rz [1]) h4 [] zf
theorem ziP:LO Tryz.f4 zbE 2:=lk t345 (rz [1]) h4 [] zf
theorem ziQ:LO Tryz.f4 zbF 4:=lk t345 (rz [1]) h4 [] zf
theorem ziR:LO Tryz.f4 zbG 6:=lk t345 (rz [1]) h4 [] zf
theorem ziS:LO Tryz.f4 zbH 8:=lk t345 (rz [1]) h4 [] zf
theorem zen:LO Tryz.f4 z3h 10:=lk t345 (rz [1]) h4 [] zf
theorem ok4:zy Pz 4 ⟨[.ty qz],[.bool],λx=>tn x⟩:=wi t345 (rz [1]) h4 func4 [0,2,4,6,8,10] (qe rfl ziO (qe rfl ziP (qe rfl ziQ (qe rfl ziR (qe rfl ziS (qe rfl zen zf))))))
def t346:=t345.d ok4
def zbI:q8:=Lz [] [Mm 0 (.sl gU)] JM [jF,Sr] λp s=>tT p s
def h5:Hints:=Hz [(0,zbI)] [(0,2,.flat [Mb 11]),(0,4,.flat [Mb 40])] []
theorem ziT:LO Tryz.f5 zbI 0:=lk t346 rn h5 [] zf
theorem ok5:zy Pz 5 ⟨[.ty (.sl gU)],[.bool],λx=>Qb x⟩:=wi t346 rn h5 func5 [0] (qe rfl ziT zf)
def t347:=t346.d ok5
theorem z3M:zy Pz 20 ⟨[.ty qg],[qg],λx=>Db x⟩:=wi ((t347.s zag).s ME) (rz [1]) hN func20 [] zf
def t348:=t347.d z3M
theorem zj2:xw Pz 10 ⟨[.ptr],No,[],⟨[Mm 0 qg,.v (.qs xa)],[],Wi⟩,1,λx=>ya x⟩:=dW (t348.d z3M) rn hN func10 [] zf
def t349:=t348.s zj2
def zbK:q8:=Lz [.cell 0 4 zk,.cell 1 4 zk] [Mr 1 qg] ⟨[Mi 4,.v z57,.v z5a,.a zk,.a zk],[(2,.ptr 0 0),(3,.ptr 1 0)],z4T⟩ [⟨.exit 0,⟨[.v z57,.v z5a,.a zk,.a zk],[],z4T⟩⟩] λp s=>rS p s
def h9:Hints:=Hz [(0,zbK)] [] []
theorem ziV:LO Tryz.f9 zbK 0:=lk t349 (rz [1]) h9 [] zf
theorem ok9:zy Pz 9 ⟨[.ty qg],[qg],λx=>dD x⟩:=wi t349 (rz [1]) h9 func9 [0] (qe rfl ziV zf)
def t350:=t349.d ok9
theorem zjb:xw Pz 11 ⟨[.ptr],No,[],⟨[.s 0 (.st [.row 1 .str,.row 2 .str]),.v (.qs xa),.a .str,.a .str],[],[.var (.qs xa),.arr .str,.arr .str]⟩,1,λx=>kE x⟩:=dW t350 rn hN func11 [] zf
def t351:=t350.s zjb
def z3o:q8:=Lz [] [Mm 0 (.sl u32)] JM [⟨.exit 0,JM⟩] λp s=>Qy p s
def h85:Hints:=Hz [(0,z3o)] [(0,2,.flat [Mb 15])] []
theorem zeu:LO Tryz.f85 z3o 0:=lk t351 rn h85 [] zf
theorem zqW:zy Pz 85 ⟨[.ty (.sl u32)],[(.sl u32)],λx=>ui x⟩:=wi t351 rn h85 func85 [0] (qe rfl zeu zf)
def t352:=t351.d zqW
def Oz:q8:=Lz [] [Mm 4 (.sl u32)] ⟨[Mm 5 (.int .u64),Mi 6],[],[]⟩ [⟨.exit 0,⟨[Mm 5 (.int .u64)],[],[]⟩⟩] λp s=>U6 p s
def zgw:Hints:=Hz [(0,Oz)] [] []
theorem z8r:LO Tryz.f150 Oz 0:=lk t352 rn zgw [] zf
theorem zjI:zy Pz 150 ⟨[.ty (.sl u32)],[(.int .u64),.bool],λx=>Jt x⟩:=wi t352 rn zgw func150 [0] (qe rfl z8r zf)
def t353:=t352.d zjI
theorem zjJ:zy Pz 151 ⟨[.ty (.int .u64)],[(.sl u32)],λx=>WR x⟩:=wi t353 rn hN func151 [] zf
def t354:=t353.d zjJ
def OA:q8:=Lz [] [Mm 0 (.sl u32),Mm 1 (.int .u64)] z5j [⟨.exit 0,⟨[Mm 7 (.int .u64),.a u32],[(6,.cur 0 u32)],gV⟩⟩] λp s=>tW p.1 p.2 s
def zgx:Hints:=Hz [(0,OA)] [] [(9,[6])]
theorem z8s:LO Tryz.f152 OA 0:=lk t354 rn zgx [] zf
theorem zjK:zy Pz 152 ⟨[.ty (.sl u32),.ty (.int .u64)],[(.sl u32),(.int .u64)],λx=>Qz x.1 x.2⟩:=wi t354 rn zgx func152 [0] (qe rfl z8s zf)
def t355:=t354.d zjK
theorem zkH:zy Pz 215 ⟨[.ty (.sl u32),.ty i64],[(.int .u64)],λx=>nc x.1 x.2⟩:=wi t355 rn hN func215 [] zf
def t356:=t355.d zkH
def OB:q8:=Lz [.slot 8 u32] [Mm 5 (.sl u32),Mm 7 (.int .u64)] ⟨[Mi 9,.a u32],[(8,.cur 0 u32)],gV⟩ [⟨.exit 0,⟨[.a u32],[(8,.cur 0 u32)],gV⟩⟩] λp s=>Vo p.1 p.2 s
def OC:q8:=Lz [] [Mm 5 (.sl u32),Mm 11 (.int .u64)] ⟨[Mm 12 (.int .u64),Mi 13,.a u32],[(10,.cur 0 u32)],gV⟩ [⟨.exit 2,⟨[.a u32],[(10,.cur 0 u32)],gV⟩⟩] λp s=>tV p.1 p.2 s
def zd7:Hints:=Hz [(0,OB),(2,OC)] [] [(14,[8]),(24,[10])]
theorem z8t:LO Tryz.f153 OB 0:=lk t356 rn zd7 [] zf
theorem z8u:LO Tryz.f153 OC 2:=lk t356 rn zd7 [] zf
theorem zjL:zy Pz 153 ⟨[.ty (.sl u32),.ty i64],[(.sl u32)],λx=>Qx x.1 x.2⟩:=wi t356 rn zd7 func153 [0,2] (qe rfl z8t (qe rfl z8u zf))
def t357:=t356.d zjL
def OD:q8:=Lz [.slot 5 u32] [Mm 0 (.sl u32),Mm 1 (.sl u32)] ⟨[Mm 6 (.int .u64),Mi 7,.a u32],[(5,.cur 0 u32)],gV⟩ [z65] λp s=>XX p.1 p.2 s
def zgy:Hints:=Hz [(0,OD)] [] [(9,[5])]
theorem z8v:LO Tryz.f154 OD 0:=lk t357 rn zgy [] zf
theorem zjM:zy Pz 154 ⟨[.ty (.sl u32),.ty (.sl u32)],[(.sl u32)],λx=>Jq x.1 x.2⟩:=wi t357 rn zgy func154 [0] (qe rfl z8v zf)
def t358:=t357.d zjM
def OE:q8:=Lz [] [Mm 5 (.sl u32),Mm 6 (.sl u32)] z5L [jF,nT] λp s=>nJ p.1 p.2 s
def zgz:Hints:=Hz [(0,OE)] [] []
theorem z8w:LO Tryz.f155 OE 0:=lk t358 rn zgz [] zf
theorem zjN:zy Pz 155 ⟨[.ty (.sl u32),.ty (.sl u32)],[i64],λx=>XY x.1 x.2⟩:=wi t358 rn zgz func155 [0] (qe rfl z8w zf)
def t359:=t358.d zjN
def OF:q8:=Lz [.slot 6 u32] [Mm 0 (.sl u32),Mm 1 (.sl u32)] z5j [z68] λp s=>W5 p.1 p.2 s
def zgA:Hints:=Hz [(0,OF)] [(3,10,.flat [Mm 7 (.int .u64),Mm 9 (.int .u64)])] [(14,[6])]
theorem z8x:LO Tryz.f156 OF 0:=lk t359 rn zgA [] zf
theorem zjO:zy Pz 156 ⟨[.ty (.sl u32),.ty (.sl u32)],[(.sl u32),.bool],λx=>Js x.1 x.2⟩:=wi t359 rn zgA func156 [0] (qe rfl z8x zf)
def t360:=t359.d zjO
def z3q:q8:=Lz [] [Mm 0 (.sl u32),Mm 1 (.sl u32)] ⟨[Mm 14 (.sl u32),Mi 15,.a u32],[(13,.cur 0 u32)],gV⟩ [⟨.exit 0,z5n⟩] λp s=>se p.1 p.2 s
def h87:Hints:=Hz [(0,z3q)] [(0,5,.flat [Mb 33]),(0,7,.flat [Mb 46]),(3,16,.ways [⟨.normal,z5n⟩])] [(21,[13])]
theorem zew:LO Tryz.f87 z3q 0:=lk t360 rn h87 [] zf
theorem zqY:zy Pz 87 ⟨[.ty (.sl u32),.ty (.sl u32)],[(.sl u32),(.sl u32),.bool],λx=>fO x.1 x.2⟩:=wi t360 rn h87 func87 [0] (qe rfl zew zf)
def t361:=t360.d zqY
def z3p:q8:=Lz [] [] ⟨[Mm 5 (.sl u32),Mm 6 (.sl u32)],[],[]⟩ [⟨.exit 0,⟨[Mm 5 (.sl u32)],[],[]⟩⟩] λp s=>W4  s
def h86:Hints:=Hz [(0,z3p)] [] []
theorem zev:LO Tryz.f86 z3p 0:=lk t361 rn h86 [] zf
theorem zqX:zy Pz 86 ⟨[.ty (.sl u32),.ty (.sl u32)],[(.sl u32)],λx=>Jr x.1 x.2⟩:=wi t361 rn h86 func86 [0] (qe rfl zev zf)
def t362:=t361.d zqX
def h44:Hints:=Hz [] [(0,2,.flat [Mb 19])] []
theorem zql:zy Pz 44 ⟨[.ty zm],[zm],λx=>pN x⟩:=wi t362 (rz [1]) h44 func44 [] zf
def t363:=t362.d zql
def z3a:q8:=Lz [] [Mm 0 (.sl u32),Mm 1 (.sl u32)] L8 [jF,Wm] λp s=>tX p.1 p.2 s
def h45:Hints:=Hz [(0,z3a)] [] []
theorem zeg:LO Tryz.f45 z3a 0:=lk t363 rn h45 [] zf
theorem zqm:zy Pz 45 ⟨[.ty (.sl u32),.ty (.sl u32)],[.bool],λx=>si x.1 x.2⟩:=wi t363 rn h45 func45 [0] (qe rfl zeg zf)
def t364:=t363.d zqm
theorem zq2:zy Pz 22 ⟨[.ty zm,.ty zm],[.bool],λx=>ZA x.1 x.2⟩:=wi t364 (rz [2,3]) hN func22 [] zf
def t365:=t364.d zq2
def z2R:q8:=Lz [] [Mm 0 (.sl zm),Mm 1 (.sl zm)] L8 [jF,Wm] λp s=>QA p.1 p.2 s
def h21:Hints:=Hz [(0,z2R)] [] []
theorem ze2:LO Tryz.f21 z2R 0:=lk t365 rn h21 [] zf
theorem zq1:zy Pz 21 ⟨[.ty (.sl zm),.ty (.sl zm)],[.bool],λx=>Zz x.1 x.2⟩:=wi t365 rn h21 func21 [0] (qe rfl ze2 zf)
def t366:=t365.d zq1
def z2G:q8:=Lz [] [Mr 2 qg,Mr 3 qg] L8 [jF,Wm] λp s=>mW p.1 p.2 s
def z2H:q8:=Lz [] [Mr 2 qg,Mr 3 qg] ⟨[Mi 6],[],[]⟩ [⟨.exit 2,Ko⟩,Wm] λp s=>mX p.1 p.2 s
def z2I:q8:=Lz [] [Mr 2 qg,Mr 3 qg] z5L [⟨.exit 4,Ko⟩,Wm] λp s=>mY p.1 p.2 s
def z2J:q8:=Lz [] [Mr 2 qg,Mr 3 qg] cF [⟨.exit 6,Ko⟩,Wm] λp s=>mZ p.1 p.2 s
def h12:Hints:=Hz [(0,z2G),(2,z2H),(4,z2I),(6,z2J)] [(0,1,.ways [⟨.normal,⟨[Mb 58],[],[]⟩⟩]),(0,16,.ways [⟨.normal,⟨[Mb 145],[],[]⟩⟩])] []
theorem zdR:LO Tryz.f12 z2G 0:=lk t366 (rz [2,3]) h12 [] zf
theorem zdS:LO Tryz.f12 z2H 2:=lk t366 (rz [2,3]) h12 [] zf
theorem zdT:LO Tryz.f12 z2I 4:=lk t366 (rz [2,3]) h12 [] zf
theorem zdU:LO Tryz.f12 z2J 6:=lk t366 (rz [2,3]) h12 [] zf
theorem zpS:zy Pz 12 ⟨[.ty qg,.ty qg],[.bool],λx=>sb x.1 x.2⟩:=wi t366 (rz [2,3]) h12 func12 [0,2,4,6] (qe rfl zdR (qe rfl zdS (qe rfl zdT (qe rfl zdU zf))))
def t367:=t366.d zpS
def z2S:q8:=Lz [] [Mm 0 (.sl .str),Mm 1 (.sl .str)] L8 [jF,Wm] λp s=>sd p.1 p.2 s
def h23:Hints:=Hz [(0,z2S)] [] []
theorem ze3:LO Tryz.f23 z2S 0:=lk t367 rn h23 [] zf
theorem zq3:zy Pz 23 ⟨[.ty (.sl .str),.ty (.sl .str)],[.bool],λx=>nI x.1 x.2⟩:=wi t367 rn h23 func23 [0] (qe rfl ze3 zf)
def t368:=t367.d zq3
theorem zpT:zy Pz 13 ⟨[.ty jD,.ty jD],[.bool],λx=>sc x.1 x.2⟩:=wi t368 (rz [2,3]) hN func13 [] zf
def t369:=t368.d zpT
theorem z3J:xw Pz 10 ⟨[.any],⟨[],[(0,.gx)],[]⟩,[],z5J,1,λ_=>cO⟩:=dW t369 rn hN func10 [] zf
def t370:=t369.s z3J
theorem z3K:xw Pz 11 ⟨[.any],⟨[],[(0,.gx)],[]⟩,[],⟨[Mm 0 jD],[],[]⟩,1,λ_=>ca⟩:=dW t370 rn hN func11 [] zf
def t371:=t370.s z3K
def h3:Hints:=Hz [] [(0,1,.ways [⟨.normal,⟨[Mb 22],[],[]⟩⟩])] []
theorem ok3:zy Pz 3 ⟨[.ty qz,.ty (.sl gU),.ty .str],[.bool],λx=>bG x.1 x.2.1 x.2.2⟩:=wi ((((((t371.s z3K).s z3J).s z3Z).s zjb).s zj2).s ok8) (rz [3]) h3 func3 [] zf
def t372:=t371.d ok3
end Go.AM.Lf
