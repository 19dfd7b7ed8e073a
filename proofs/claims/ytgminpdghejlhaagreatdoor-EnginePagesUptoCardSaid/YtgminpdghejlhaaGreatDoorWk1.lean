/-
  The walk, part 1: each function of the program is the tree that the lifted text says; printed by a program of ours.
-/
import Derived.Test.YtgminpdghejlhaaGreatDoorWk0
set_option linter.unusedVariables false
set_option maxRecDepth 100000
noncomputable section
namespace Go.AM.Lf
open Go.Proofs Go.Proofs.Tryz
abbrev Y12:=eG [.ty .expr,.ty i64]->T (E9 [i64])
abbrev H12(F:Y12):=zy Pz 12 ⟨[.ty .expr,.ty i64],[i64],F⟩
def T12(Z1:Y12)(Fi:H12 Z1):Tb:=t344.d Fi
def z2m(Z1:Y12):q8:=Lz [] [Mr 2 .expr] ⟨[Mi 1,Mi 5],[],[]⟩ [⟨.exit 0,⟨[Mi 1],[],[]⟩⟩] λp s=>fj (λy0 y1=>Z1 (y0,y1)) p s
def h12(Z1:Y12):Hints:=Hz [(0,z2m Z1)] [(0,3,.flat [Mb 32])] []
theorem zdh(Z1:Y12)(Fi:H12 Z1):LO Tryz.f12 (z2m Z1) 0:=lk (T12 Z1 Fi) (rz [2]) (h12 Z1) [] zh
theorem ze9(Z1:Y12)(Fi:H12 Z1):zy Pz 12 ⟨[.ty .expr,.ty i64],[i64],λx=>dN (λy0 y1=>Z1 (y0,y1)) x.1 x.2⟩:=wv (T12 Z1 Fi) (rz [2]) (h12 Z1) func12 [0] (qf rfl (zdh Z1 Fi) zh)
theorem zpo:zy Pz 12 ⟨[.ty .expr,.ty i64],[i64],λx=>cE x.1 x.2⟩:=YT (λZ1 x=>dN (λy0 y1=>Z1 (y0,y1)) x.1 x.2) (λx=>rfl) (λZ1 Fi=>ze9 Z1 Fi)
def t345:=t344.d zpo
def zb7:q8:=Lz [] [Mr 1 qx] ⟨[Mi 3,Mi 4],[],[]⟩ [⟨.exit 0,Hi⟩] λp s=>rW p s
def zb8:q8:=Lz [] [Mr 1 qx] ⟨[Mi 3,Mi 5],[],[]⟩ [⟨.exit 2,Hi⟩] λp s=>rX p s
def zb9:q8:=Lz [] [Mr 1 qx] ⟨[Mi 3,Mi 6],[],[]⟩ [⟨.exit 4,Hi⟩] λp s=>rY p s
def zba:q8:=Lz [] [Mr 1 qx] ⟨[Mi 3,Mi 7],[],[]⟩ [⟨.exit 6,Hi⟩] λp s=>rZ p s
def zbb:q8:=Lz [] [Mr 1 qx] ⟨[Mi 3,Mi 8],[],[]⟩ [⟨.exit 8,Hi⟩] λp s=>s6 p s
def z2H:q8:=Lz [] [Mr 1 qx] z5B [⟨.exit 10,Hi⟩] λp s=>s7 p s
def h4:Hints:=Hz [(0,zb7),(2,zb8),(4,zb9),(6,zba),(8,zbb),(10,z2H)] [(0,3,.flat [Mb 43]),(0,7,.flat [Mb 83]),(0,11,.flat [Mb 103]),(0,15,.flat [Mb 131]),(0,19,.flat [Mb 151]),(0,23,.flat [Mb 193])] []
theorem zif:LO Tryz.f4 zb7 0:=lk t345 (rz [1]) h4 [] zh
theorem zig:LO Tryz.f4 zb8 2:=lk t345 (rz [1]) h4 [] zh
theorem zih:LO Tryz.f4 zb9 4:=lk t345 (rz [1]) h4 [] zh
theorem zii:LO Tryz.f4 zba 6:=lk t345 (rz [1]) h4 [] zh
theorem zij:LO Tryz.f4 zbb 8:=lk t345 (rz [1]) h4 [] zh
theorem zdC:LO Tryz.f4 z2H 10:=lk t345 (rz [1]) h4 [] zh
theorem ok4:zy Pz 4 ⟨[.ty qx],[.bool],λx=>nM x⟩:=wv t345 (rz [1]) h4 func4 [0,2,4,6,8,10] (qf rfl zif (qf rfl zig (qf rfl zih (qf rfl zii (qf rfl zij (qf rfl zdC zh))))))
def t346:=t345.d ok4
def zbc:q8:=Lz [] [Mm 0 (.sl fc)] Hi [kZ,RS] λp s=>tV p s
def h5:Hints:=Hz [(0,zbc)] [(0,2,.flat [Mb 11]),(0,4,.flat [Mb 40])] []
theorem zik:LO Tryz.f5 zbc 0:=lk t346 rn h5 [] zh
theorem ok5:zy Pz 5 ⟨[.ty (.sl fc)],[.bool],λx=>s9 x⟩:=wv t346 rn h5 func5 [0] (qf rfl zik zh)
def t347:=t346.d ok5
theorem z3t:zy Pz 20 ⟨[.ty xj],[xj],λx=>CP x⟩:=wv ((t347.s z9A).s Mu) (rz [1]) hN func20 [] zh
def t348:=t347.d z3t
theorem ok9:xx Pz 9 ⟨[.ptr],z5g,[],⟨[Mm 0 xj,.v (.qi qo)],[],tN⟩,1,λx=>yn x⟩:=eP (t348.d z3t) rn hN func9 [] zh
def t349:=t348.s ok9
def z2u:q8:=Lz [] [Mm 1 (.sl .bool),Ms 2,Mr 3 qx] ⟨[Mi 7],[],[]⟩ [kZ,z5H] λp s=>ct p.1 p.2.1 p.2.2 s
def h21:Hints:=Hz [(0,z2u)] [(0,5,.flat [Mb 6])] []
theorem zdp:LO Tryz.f21 z2u 0:=lk t349 (rz [3]) h21 [] zh
theorem zpv:zy Pz 21 ⟨[.ty qx,.ty (.sl .bool),.ty .str],[.bool],λx=>Zv x.1 x.2.1 x.2.2⟩:=wv t349 (rz [3]) h21 func21 [0] (qf rfl zdp zh)
def t350:=t349.d zpv
def z2l:q8:=Lz [.slot 5 .bool] [Mm 1 (.sl .bool),Mr 2 qx] ⟨[Mi 6,.a .bool],[(5,.cur 0 .bool)],[.arr .bool]⟩ [z5J] λp s=>jv p.1 p.2 s
def h10:Hints:=Hz [(0,z2l)] [] []
theorem zdg:LO Tryz.f10 z2l 0:=lk t350 (rz [2]) h10 [] zh
theorem zpm:zy Pz 10 ⟨[.ty qx,.ty (.sl .bool)],[(.sl .bool)],λx=>bV x.1 x.2⟩:=wv t350 (rz [2]) h10 func10 [0] (qf rfl zdg zh)
def t351:=t350.d zpm
theorem zpn:zy Pz 11 ⟨[.rp qo],[i64],λx=>vP x⟩:=wv t351 rn hN func11 [] zh
def t352:=t351.d zpn
def T3:Tb:=t352.s ok8
def zb6:q8:=Lz [] [Mm 1 (.sl fc),Mr 2 qx,Mi 8,Mm 10 (.sl .bool)] ⟨[Mb 11,Mi 12,.v (.qi qo),.v (.qi xj)],[(5,.ptr 0 0)],Na⟩ [⟨.exit 2,⟨[Mb 11,.v (.qi qo),.v (.qi xj)],[],Na⟩⟩] λp s=>kN p.1 p.2.1 p.2.2.1 p.2.2.2 s
def zb5:q8:=Lz [] [Mm 1 (.sl fc),Mr 2 qx] ⟨[Mi 8,.v (.qi qo)],[(5,.ptr 0 0)],tN⟩ [⟨.exit 0,⟨[.v (.qi qo)],[],tN⟩⟩,⟨.ret,⟨[Mb 4,.v (.qi qo)],[],tN⟩⟩] λp s=>kM p.1 p.2 s
def h3:Hints:=Hz [(2,zb6),(0,zb5)] [(0,1,.ways [⟨.normal,⟨[Mb 18],[],[]⟩⟩]),(0,7,.flat [Mb 39]),(0,17,.ways [⟨.normal,⟨[Mb 87,.v (.qi qo),.v (.qi xj)],[],Na⟩⟩])] []
theorem zie:LO Tryz.f3 zb6 2:=lk T3 (rz [2]) h3 [] zh
theorem zid:LO Tryz.f3 zb5 0:=lk T3 (rz [2]) h3 [2] (qf rfl zie zh)
theorem ok3:zy Pz 3 ⟨[.ty qx,.ty (.sl fc)],[.bool],λx=>y9 x.1 x.2⟩:=wv T3 (rz [2]) h3 func3 [0] (qf rfl zid zh)
def t353:=t352.d ok3
end Go.AM.Lf
