/-
  The walk, part 1: each function of the program is the tree that the lifted text says; printed by a program of ours.
-/
import Derived.Test.YtgnfpdlhibjeeaaGreatDoorWk0
set_option linter.unusedVariables false
set_option maxRecDepth 100000
noncomputable section
namespace Go.AM.Lf
open Go.Proofs Go.Proofs.Tryz
def z3S:zy:=Lz [] [Mr 2 qv,Mr 3 xn,Mi 7,Mm 20 (.sl .bool),Mi 21,Mi 22,Mm 30 (.sl qq),Mi 31] ⟨[Mi 32,.v (.qj wM),.a .str],[(5,.cur 1 .str),(6,.ptr 0 0)],NM⟩ [⟨.exit 2,z6j⟩] λp s=>lE p.1 p.2.1 p.2.2.1 p.2.2.2.1 p.2.2.2.2.1 p.2.2.2.2.2.1 p.2.2.2.2.2.2.1 p.2.2.2.2.2.2.2 s
def z3T:zy:=Lz [] [Mr 2 qv,Mr 3 xn,Mi 7,Mm 20 (.sl .bool),Mi 21,Mi 22,Mm 67 (.sl xi),Mi 68] ⟨[Mi 69,.v (.qj wM),.a .str],[(5,.cur 1 .str),(6,.ptr 0 0)],NM⟩ [⟨.exit 4,z6j⟩] λp s=>lF p.1 p.2.1 p.2.2.1 p.2.2.2.1 p.2.2.2.2.1 p.2.2.2.2.2.1 p.2.2.2.2.2.2.1 p.2.2.2.2.2.2.2 s
def z3R:zy:=Lz [.slot 5 .str] [Mr 2 qv,Mr 3 xn,Mm 20 (.sl .bool),Mi 21] ⟨[Mi 22,.v (.qj wM),.a .str],[(5,.cur 1 .str),(6,.ptr 0 0)],NM⟩ [⟨.exit 0,z6j⟩] λp s=>lD p.1 p.2.1 p.2.2.1 p.2.2.2 s
def h97:Hints:=Hz [(2,z3S),(4,z3T),(0,z3R)] [(0,10,.flat [Mb 59]),(0,16,.ways [⟨.normal,⟨[Mb 83,.v (.qj wM),.a .str,.v (.qj xi)],[(5,.cur 1 .str)],[.var (.qj wM),.arr .str,.var (.qj xi)]⟩⟩])] []
theorem zeS:LO Tryz.f97 z3S 2:=lk t348 (rz [2,3]) h97 [] zg
theorem zeT:LO Tryz.f97 z3T 4:=lk t348 (rz [2,3]) h97 [] zg
theorem zeR:LO Tryz.f97 z3R 0:=lk t348 (rz [2,3]) h97 [2,4] (qc rfl zeS (qc rfl zeT zg))
theorem zrU:zw Pz 97 ⟨[.ty qv,.ty xn],[(.sl .str)],λx=>lA x.1 x.2⟩:=we t348 (rz [2,3]) h97 func97 [0] (qc rfl zeR zg)
def t349:=t348.d zrU
def z3V:zy:=Lz [.slot 6 qe] [Mr 3 xn,Mm 5 (.sl .bool),Mm 15 (.sl qq),Mi 16] ⟨[Mi 17,.a qe],[(6,.cur 0 qe)],[.arr qe]⟩ [⟨.exit 0,⟨[.a qe],[(6,.cur 0 qe)],[.arr qe]⟩⟩] λp s=>Qw p.1 p.2.1 p.2.2.1 p.2.2.2 s
def h99:Hints:=Hz [(0,z3V)] [(0,6,.flat [Mb 39]),(3,8,.ways [⟨.normal,⟨[.a qe,.v (.qj qq),.v (.qj zm)],[(6,.cur 0 qe)],[.arr qe,.var (.qj qq),.var (.qj zm)]⟩⟩])] []
theorem zeV:LO Tryz.f99 z3V 0:=lk t349 (rz [2,3]) h99 [] zg
theorem zrW:zw Pz 99 ⟨[.ty qv,.ty xn],[(.sl qe)],λx=>WM x.1 x.2⟩:=we t349 (rz [2,3]) h99 func99 [0] (qc rfl zeV zg)
def t350:=t349.d zrW
def z3U:zy:=Lz [.cell 0 1 (.int .u8)] [Mm 6 (.sl qe),Mi 7] ⟨[Mi 8,.v Kp,.a (.int .u8)],[(3,.ptr 0 0)],X4⟩ [NT] λp s=>mR p.1 p.2 s
def h98:Hints:=Hz [(0,z3U)] [] []
theorem zeU:LO Tryz.f98 z3U 0:=lk t350 rn h98 [] zg
theorem zrV:zw Pz 98 ⟨[.ty (.sl qe)],[.str],λx=>nw x⟩:=we t350 rn h98 func98 [0] (qc rfl zeU zg)
def t351:=t350.d zrV
theorem zrh:xw Pz 53 ⟨[.ptr],NO,[],JF,1,λx=>kW x⟩:=eZ t351 rn hN func53 [] zg
def t352:=t351.s zrh
def h19:Hints:=Hz [] [(3,4,.flat [Mb 27])] []
theorem zqL:xw Pz 19 ⟨ob,z5R,[],JF,1,λx=>gT x.1 x.2⟩:=eZ ((((t352.s z4l).s zng).s z4k).s znf) (rz [3]) h19 func19 [] zg
def t353:=t352.s zqL
theorem zag:cX (NV Pz) 18 ⟨[.ptr,.ptr,.ptr],⟨[.v (.qj qy),.v (.qj ed),.v (.qj qy)],[(0,.ptr 0 0),(1,.ptr 1 0),(2,.ptr 2 0)],[.var (.qj qy),.cvar (.ptr 3 0),.var (.qj ed),.var (.qj qy)]⟩,[],⟨[.v (.qj qy),.v (.qj ed),.v (.qj qy)],[],[.var (.qj qy),.cvar (.ptr 3 0),.var (.qj ed),.var (.qj qy)]⟩,0,λx=>cY x.1 x.2.1 x.2.2⟩:=fkr t353 rn hN Tryz.func18
theorem ok9:xw Pz 9 ⟨ob,z5R,[],JF,1,λx=>jb x.1 x.2⟩:=fkf t353 (rz [3]) hN (g:=18) (pt:=0) zag (zbi zag) Tryz.func9
def t354:=t353.s ok9
theorem z4j:zw Pz 26 ⟨[.ty xn],[xn],λx=>Oc x⟩:=we ((t354.s zas).s MX) (rz [1]) hN func26 [] zg
def t355:=t354.d z4j
theorem zk4:xw Pz 14 ⟨[.ptr],NO,[],⟨[Mm 0 xn,.v (.qj qy)],[],ZL⟩,1,λx=>eQ x⟩:=eZ (t355.d z4j) rn hN func14 [] zg
def t356:=t355.s zk4
def z3h:zy:=Lz [] [Mm 0 (.sl u32),Mm 1 (.sl u32)] NR [jW,JH] λp s=>Vk p.1 p.2 s
def h28:Hints:=Hz [(0,z3h)] [] []
theorem zeh:LO Tryz.f28 z3h 0:=lk t356 rn h28 [] zg
theorem zqU:zw Pz 28 ⟨[.ty (.sl u32),.ty (.sl u32)],[.bool],λx=>U4 x.1 x.2⟩:=we t356 rn h28 func28 [0] (qc rfl zeh zg)
def t357:=t356.d zqU
theorem zqI:zw Pz 15 ⟨[.ty zm,.ty zm],[.bool],λx=>ZC x.1 x.2⟩:=we t357 (rz [2,3]) hN func15 [] zg
def t358:=t357.d zqI
theorem zc7:xw Pz 9 ⟨[.any,.any],⟨[Mm 1 mU],[(0,.bq)],[]⟩,[],⟨[Mm 0 ed],[],[]⟩,1,λx=>dJ x⟩:=fkf t358 (rz [3]) hN (g:=18) (pt:=0) zag (zbi zag) Tryz.func9
def t359:=t358.s zc7
theorem z4i:xw Pz 14 ⟨[.any],⟨[],[(0,.bq)],[]⟩,[],z6d,1,λ_=>cZ⟩:=eZ t359 rn hN func14 [] zg
def t360:=t359.s z4i
def h7:Hints:=Hz [] [(0,3,.flat [Mb 23])] []
theorem ok7:zw Pz 7 ⟨[],[.bool],λ_=>yO⟩:=we ((((t360.s z4i).s zc7).s zk4).s ok9) rn h7 func7 [] zg
def t361:=t360.d ok7
abbrev Y11:=eJ [.ty .expr,.ty i64]->T (ED [i64])
abbrev H11(F:Y11):=zw Pz 11 ⟨[.ty .expr,.ty i64],[i64],F⟩
def T11(Z8:Y11)(FI:H11 Z8):Tb:=t361.d FI
def z3a(Z8:Y11):zy:=Lz [] [Mr 2 .expr] ⟨[Mi 1,Mi 5],[],[]⟩ [⟨.exit 0,⟨[Mi 1],[],[]⟩⟩] λp s=>cW (λy0 y1=>Z8 (y0,y1)) p s
def h11(Z8:Y11):Hints:=Hz [(0,z3a Z8)] [(0,3,.flat [Mb 32])] []
theorem zea(Z8:Y11)(FI:H11 Z8):LO Tryz.f11 (z3a Z8) 0:=lk (T11 Z8 FI) (rz [2]) (h11 Z8) [] zg
theorem zf4(Z8:Y11)(FI:H11 Z8):zw Pz 11 ⟨[.ty .expr,.ty i64],[i64],λx=>cI (λy0 y1=>Z8 (y0,y1)) x.1 x.2⟩:=we (T11 Z8 FI) (rz [2]) (h11 Z8) func11 [0] (qc rfl (zea Z8 FI) zg)
theorem zqF:zw Pz 11 ⟨[.ty .expr,.ty i64],[i64],λx=>yf x.1 x.2⟩:=Gl (λZ8 x=>cI (λy0 y1=>Z8 (y0,y1)) x.1 x.2) (λx=>rfl) (λZ8 FI=>zf4 Z8 FI)
def t362:=t361.d zqF
def zbS:zy:=Lz [] [Mr 1 qv] ⟨[Mi 3,Mi 4],[],[]⟩ [⟨.exit 0,JG⟩] λp s=>lP p s
def zbT:zy:=Lz [] [Mr 1 qv] ⟨[Mi 3,Mi 5],[],[]⟩ [⟨.exit 2,JG⟩] λp s=>lQ p s
def zbU:zy:=Lz [] [Mr 1 qv] ⟨[Mi 3,Mi 6],[],[]⟩ [⟨.exit 4,JG⟩] λp s=>lR p s
def zbV:zy:=Lz [] [Mr 1 qv] ⟨[Mi 3,Mi 7],[],[]⟩ [⟨.exit 6,JG⟩] λp s=>lS p s
def zbW:zy:=Lz [] [Mr 1 qv] ⟨[Mi 3,Mi 8],[],[]⟩ [⟨.exit 8,JG⟩] λp s=>lT p s
def z3o:zy:=Lz [] [Mr 1 qv] z6n [⟨.exit 10,JG⟩] λp s=>lU p s
def h4:Hints:=Hz [(0,zbS),(2,zbT),(4,zbU),(6,zbV),(8,zbW),(10,z3o)] [(0,3,.flat [Mb 43]),(0,7,.flat [Mb 83]),(0,11,.flat [Mb 103]),(0,15,.flat [Mb 131]),(0,19,.flat [Mb 151]),(0,23,.flat [Mb 193])] []
theorem zjg:LO Tryz.f4 zbS 0:=lk t362 (rz [1]) h4 [] zg
theorem zjh:LO Tryz.f4 zbT 2:=lk t362 (rz [1]) h4 [] zg
theorem zji:LO Tryz.f4 zbU 4:=lk t362 (rz [1]) h4 [] zg
theorem zjj:LO Tryz.f4 zbV 6:=lk t362 (rz [1]) h4 [] zg
theorem zjk:LO Tryz.f4 zbW 8:=lk t362 (rz [1]) h4 [] zg
theorem zeo:LO Tryz.f4 z3o 10:=lk t362 (rz [1]) h4 [] zg
theorem ok4:zw Pz 4 ⟨[.ty qv],[.bool],λx=>rA x⟩:=we t362 (rz [1]) h4 func4 [0,2,4,6,8,10] (qc rfl zjg (qc rfl zjh (qc rfl zji (qc rfl zjj (qc rfl zjk (qc rfl zeo zg))))))
def t363:=t362.d ok4
def zbX:zy:=Lz [] [Mm 0 (.sl mU)] JG [jW,SJ] λp s=>o9 p s
def h5:Hints:=Hz [(0,zbX)] [(0,2,.flat [Mb 11]),(0,4,.flat [Mb 40])] []
theorem zjl:LO Tryz.f5 zbX 0:=lk t363 rn h5 [] zg
theorem ok5:zw Pz 5 ⟨[.ty (.sl mU)],[.bool],λx=>ZH x⟩:=we t363 rn h5 func5 [0] (qc rfl zjl zg)
def t364:=t363.d ok5
theorem ok6:jx Pz 6 ⟨[.any],NS,[],NO,1,0,⟨[],[(0,.bq)],[]⟩,some 1,λx=>o8 x⟩:=Yg t364 (rz [1]) hN func6 [] zg
def t365:=t364.p ok6
theorem zqV:zw Pz 29 ⟨[.ty .str],[.str],λx=>dH x⟩:=we t365 rn hN func29 [] zg
def t366:=t365.d zqV
def z3i:zy:=Lz [] [Mm 15 (.sl .str),Mi 16] ⟨[Ms 5,Mi 17],[],[]⟩ [⟨.exit 0,⟨[Ms 5],[],[]⟩⟩] λp s=>iI p.1 p.2 s
def h30:Hints:=Hz [(0,z3i)] [] []
theorem zei:LO Tryz.f30 z3i 0:=lk t366 rn h30 [] zg
theorem zqW:zw Pz 30 ⟨[.ty .str,.ty (.sl .str)],[.str],λx=>fS x.1 x.2⟩:=we t366 rn h30 func30 [0] (qc rfl zei zg)
def t367:=t366.d zqW
theorem zqJ:zw Pz 16 ⟨[.ty ny],[.str],λx=>rX x⟩:=we t367 (rz [1]) hN func16 [] zg
def t368:=t367.d zqJ
theorem ok8:zw Pz 8 ⟨[.rp qy],[.str],λx=>vN x⟩:=we t368 rn hN func8 [] zg
def t369:=t368.d ok8
def z34:zy:=Lz [] [Ms 1,Mr 2 qv] NR [jW,JH] λp s=>pX p.1 p.2 s
def z36:zy:=Lz [] [Ms 1,Mr 2 qv] ⟨[Mi 6],[],[]⟩ [⟨.exit 2,Kq⟩,JH] λp s=>pY p.1 p.2 s
def z38:zy:=Lz [] [Ms 1,Mr 2 qv] z6a [⟨.exit 4,Kq⟩,JH] λp s=>pZ p.1 p.2 s
def z39:zy:=Lz [] [Ms 1,Mr 2 qv] cO [⟨.exit 6,Kq⟩,JH] λp s=>r7 p.1 p.2 s
def Om:Hints:=Hz [(0,z34),(2,z36),(4,z38),(6,z39)] [] []
theorem ze6:LO Tryz.f10 z34 0:=lk t369 (rz [2]) Om [] zg
theorem ze7:LO Tryz.f10 z36 2:=lk t369 (rz [2]) Om [] zg
theorem ze8:LO Tryz.f10 z38 4:=lk t369 (rz [2]) Om [] zg
theorem ze9:LO Tryz.f10 z39 6:=lk t369 (rz [2]) Om [] zg
theorem zqE:zw Pz 10 ⟨[.ty qv,.ty .str],[.bool],λx=>rB x.1 x.2⟩:=we t369 (rz [2]) Om func10 [0,2,4,6] (qc rfl ze6 (qc rfl ze7 (qc rfl ze8 (qc rfl ze9 zg))))
def t370:=t369.d zqE
def T3:Tb:=t370.s ok9
def zbR:zy:=Lz [] [Mm 1 (.sl mU),Mr 2 qv,Mi 6] ⟨[Mi 9,.v (.qj qy),.v (.qj ed)],[(5,.ptr 0 0),(8,.ptr 1 0)],NI⟩ [⟨.exit 2,⟨[.v (.qj qy),.v (.qj ed)],[],NI⟩⟩,⟨.ret,⟨[Mb 4,.v (.qj qy),.v (.qj ed)],[],NI⟩⟩] λp s=>hZ p.1 p.2.1 p.2.2 s
def zbQ:zy:=Lz [] [Mm 1 (.sl mU),Mr 2 qv] ⟨[Mi 6,.v (.qj qy)],[(5,.ptr 0 0)],ZL⟩ [⟨.exit 0,⟨[.v (.qj qy)],[],ZL⟩⟩,⟨.ret,⟨[Mb 4,.v (.qj qy)],[],ZL⟩⟩] λp s=>hJ p.1 p.2 s
def h3:Hints:=Hz [(2,zbR),(0,zbQ)] [(0,1,.ways [z6w]),(0,7,.flat [Mb 28])] []
theorem zjf:LO Tryz.f3 zbR 2:=lk T3 (rz [2]) h3 [] zg
theorem zje:LO Tryz.f3 zbQ 0:=lk T3 (rz [2]) h3 [2] (qc rfl zjf zg)
theorem ok3:zw Pz 3 ⟨[.ty qv,.ty (.sl mU)],[.bool],λx=>c8 x.1 x.2⟩:=we T3 (rz [2]) h3 func3 [0] (qc rfl zje zg)
def t371:=t370.d ok3
end Go.AM.Lf
