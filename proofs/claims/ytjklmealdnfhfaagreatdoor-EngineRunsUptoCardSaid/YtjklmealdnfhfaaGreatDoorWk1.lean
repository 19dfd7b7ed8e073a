/-
  The walk, part 1: each function of the program is the tree that the lifted text says; printed by a program of ours.
-/
import Derived.Test.YtjklmealdnfhfaaGreatDoorWk0
set_option linter.unusedVariables false
set_option maxRecDepth 100000
noncomputable section
namespace Go.AM.Lf
open Go.Proofs Go.Proofs.Tryz
abbrev Y20:=dV [.ty .expr,.ty i64]->T (Dq [i64])
abbrev H20(F:Y20):=q8 Pz 20 ⟨[.ty .expr,.ty i64],[i64],F⟩
def T20(tE:Y20)(Eu:H20 tE):Tb:=t344.d Eu
def z1u(tE:Y20):q9:=Lz [] [Mr 2 .expr] ⟨[Mi 1,Mi 5],[],[]⟩ [⟨.exit 0,⟨[Mi 1],[],[]⟩⟩] λp s=>eK (λy0 y1=>tE (y0,y1)) p s
def h20(tE:Y20):Hints:=Hz [(0,z1u tE)] [(0,3,.flat [Mb 32])] []
theorem zc8(tE:Y20)(Eu:H20 tE):LO Tryz.f20 (z1u tE) 0:=lk (T20 tE Eu) (rz [2]) (h20 tE) [] zf
theorem zcR(tE:Y20)(Eu:H20 tE):q8 Pz 20 ⟨[.ty .expr,.ty i64],[i64],λx=>dw (λy0 y1=>tE (y0,y1)) x.1 x.2⟩:=wq (T20 tE Eu) (rz [2]) (h20 tE) func20 [0] (qf rfl (zc8 tE Eu) zf)
theorem znZ:q8 Pz 20 ⟨[.ty .expr,.ty i64],[i64],λx=>bY x.1 x.2⟩:=Yi (λtE x=>dw (λy0 y1=>tE (y0,y1)) x.1 x.2) (λx=>rfl) (λtE Eu=>zcR tE Eu)
def t345:=t344.d znZ
def z9X:q9:=Lz [] [Mr 1 qy] ⟨[Mi 3,Mi 4],[],[]⟩ [⟨.exit 0,GH⟩] λp s=>ry p s
def z9Y:q9:=Lz [] [Mr 1 qy] ⟨[Mi 3,Mi 5],[],[]⟩ [⟨.exit 2,GH⟩] λp s=>rA p s
def z9Z:q9:=Lz [] [Mr 1 qy] ⟨[Mi 3,Mi 6],[],[]⟩ [⟨.exit 4,GH⟩] λp s=>rB p s
def za0:q9:=Lz [] [Mr 1 qy] ⟨[Mi 3,Mi 7],[],[]⟩ [⟨.exit 6,GH⟩] λp s=>rC p s
def za1:q9:=Lz [] [Mr 1 qy] ⟨[Mi 3,Mi 8],[],[]⟩ [⟨.exit 8,GH⟩] λp s=>rD p s
def z1Y:q9:=Lz [] [Mr 1 qy] z4s [⟨.exit 10,GH⟩] λp s=>rE p s
def h7:Hints:=Hz [(0,z9X),(2,z9Y),(4,z9Z),(6,za0),(8,za1),(10,z1Y)] [(0,3,.flat [Mb 43]),(0,7,.flat [Mb 83]),(0,11,.flat [Mb 103]),(0,15,.flat [Mb 131]),(0,19,.flat [Mb 151]),(0,23,.flat [Mb 193])] []
theorem zgS:LO Tryz.f7 z9X 0:=lk t345 (rz [1]) h7 [] zf
theorem zgT:LO Tryz.f7 z9Y 2:=lk t345 (rz [1]) h7 [] zf
theorem zgU:LO Tryz.f7 z9Z 4:=lk t345 (rz [1]) h7 [] zf
theorem zgV:LO Tryz.f7 za0 6:=lk t345 (rz [1]) h7 [] zf
theorem zgW:LO Tryz.f7 za1 8:=lk t345 (rz [1]) h7 [] zf
theorem zcC:LO Tryz.f7 z1Y 10:=lk t345 (rz [1]) h7 [] zf
theorem ok7:q8 Pz 7 ⟨[.ty qy],[.bool],λx=>sK x⟩:=wq t345 (rz [1]) h7 func7 [0,2,4,6,8,10] (qf rfl zgS (qf rfl zgT (qf rfl zgU (qf rfl zgV (qf rfl zgW (qf rfl zcC zf))))))
def t346:=t345.d ok7
def za2:q9:=Lz [] [Mm 0 (.sl cq)] GH [kL,R4] λp s=>tw p s
def h8:Hints:=Hz [(0,za2)] [(0,2,.flat [Mb 11]),(0,4,.flat [Mb 40])] []
theorem zgX:LO Tryz.f8 za2 0:=lk t346 rn h8 [] zf
theorem ok8:q8 Pz 8 ⟨[.ty (.sl cq)],[.bool],λx=>ZN x⟩:=wq t346 rn h8 func8 [0] (qf rfl zgX zf)
def t347:=t346.d ok8
def z1t:q9:=Lz [] [Mr 2 xv,Mr 3 xv] z4f [kL,FY] λp s=>lZ p.1 p.2 s
def h19:Hints:=Hz [(0,z1t)] [(0,1,.flat [Mb 26])] []
theorem zc7:LO Tryz.f19 z1t 0:=lk t347 (rz [2,3]) h19 [] zf
theorem znY:q8 Pz 19 ⟨[.ty xv,.ty xv],[.bool],λx=>mI x.1 x.2⟩:=wq t347 (rz [2,3]) h19 func19 [0] (qf rfl zc7 zf)
def t348:=t347.d znY
theorem zoy:q8 Pz 65 ⟨[.ty .str],[.str],λx=>pW x⟩:=wq t348 rn hN func65 [] zf
def t349:=t348.d zoy
def z1N:q9:=Lz [] [Mm 15 (.sl .str),Mi 16] ⟨[Ms 5,Mi 17],[],[]⟩ [⟨.exit 0,⟨[Ms 5],[],[]⟩⟩] λp s=>Zx p.1 p.2 s
def h66:Hints:=Hz [(0,z1N)] [] []
theorem zcr:LO Tryz.f66 z1N 0:=lk t349 rn h66 [] zf
theorem zoz:q8 Pz 66 ⟨[.ty .str,.ty (.sl .str)],[.str],λx=>tR x.1 x.2⟩:=wq t349 rn h66 func66 [0] (qf rfl zcr zf)
def t350:=t349.d zoz
theorem zo6:q8 Pz 31 ⟨[.ty WG],[.str],λx=>WV x⟩:=wq t350 (rz [1]) hN func31 [] zf
def t351:=t350.d zo6
theorem znX:q8 Pz 18 ⟨[.rp qm],[.str],λx=>jT x⟩:=wq t351 rn hN func18 [] zf
def t352:=t351.d znX
def T6:Tb:=((t352.s Lq).s zhm).s zcQ
def z9W:q9:=Lz [] [Mm 1 (.sl cq)] ⟨[Mi 12,.v (.qi qm),.v (.qi qm),.a xv],[(5,.ptr 0 0),(8,.ptr 1 0),(11,.cur 2 xv)],z3C⟩ [⟨.exit 0,⟨[.v (.qi qm),.v (.qi qm),.a xv],[],z3C⟩⟩,⟨.ret,⟨[Mb 4,.v (.qi qm),.v (.qi qm),.a xv],[],z3C⟩⟩] λp s=>ek p s
def h6:Hints:=Hz [(0,z9W)] [(0,1,.ways [⟨.normal,⟨[Mb 23],[],[]⟩⟩]),(0,5,.flat [Mb 45])] []
theorem zgR:LO Tryz.f6 z9W 0:=lk T6 (rz [2]) h6 [] zf
theorem ok6:q8 Pz 6 ⟨[.ty qy,.ty (.sl cq)],[.bool],λx=>bC x.1 x.2⟩:=wq T6 (rz [2]) h6 func6 [0] (qf rfl zgR zf)
def t353:=t352.d ok6
end Go.AM.Lf
