/- Texts F13, F14, Q3, Q4, F15, Q5, Q6 of one proof, one behind the other; what nothing here names is left out. -/
import Derived.Test.YtailjojebdmnnaaGreatZ6
import Derived.Test.YtailjojebdmnnaaGreatZ7
import Derived.Test.YtailjojebdmnnaaGreatZ3
import Derived.Test.YtailjojebdmnnaaGreatZ4
import Derived.IntWalk
import Derived.Shelf.SlicesQ.IndexFunc
import Derived.Test.YtailjojebdmnnaaGreatZ5
set_option maxRecDepth 100000
set_option maxHeartbeats 8000000
set_option linter.unusedVariables false
set_option linter.unusedSimpArgs false
namespace Go.Proofs.YtailjojebdmnnaaGreat
open Go.RowKit
attribute [local go_sem] vN bT bF rS vSg vPc vW vM vL vT2 vT3 vP vI execOp Act.eval evC bigF vB hi_zero lo_zero Tryz.underlying109 Tryz.underlying111 Tryz.underlying113 Tryz.underlying27 Tryz.underlying39
theorem RowU_le {w:World} {A:Option Addr} {n c k:Nat} {f:Nat→Value} (h:RowU w (.slice A n c) n k f):n≤9223372036854775807:=by obtain ⟨_,_,_,_,h,_⟩:=h;exact h
theorem sizes_any (w0:World) (A0:Option Addr) (c0:Nat) (l:List Sg) (hl:SegU w0 (.slice A0 l.length c0) l) (day off:Int) (hd0:-9223372036854775808≤day) (hd1:day < 9223372036854775808):Calls Tryz.prog 41 #[.slice A0 l.length c0,vI day,vI off] w0 fun e w'=>e = .returned (.bool (szL l day off))∧Below w0.heap.size w0 w':=by
 have hle:=RowU_le hl
 have hst:=St.start w0 (Θ:=fun _=>True) (fun _ _=>trivial)
 refine en_ Tryz.func41 hst 79 [(0,.slice A0 l.length c0),(1,vI day),(2,vI off)] (fun ac H_=>?_)
 refine gq0 H_ 0 [[0]] [_] (s:=mv3) (k:=fun E1 ac wd H_=>?_)
 cases hA:wthn (l.length:Int) 1 32
 refine gq1 H_ 24 (tri 16++[r_ 15++[16],r_ 15++[16,17],r_ 15++[16,17,18],r_ 20,r_ 21,r_ 22,r_ 15++[22],r_ 24,r_ 25]) [_,vN l.length,_,bT,_,_,_,_,bT,_,_,_,_,bT,_,_,_,_,_,_,_,_,_,_,bT] (fun _=>[(33,bT)]) (s:=⟨mv3,ln_ Tryz.underlying85 fun _ env _ wd hA=>(hl.grown hA.j.st.gr).els,cl3 Tryz.func72 (((rwithin_any (l.length:Int) 1 32).eq (congrArg Value.bool hA))),un3,mv3,off_,off_,off_,pk3,mv3,off_,off_,off_,pk3,mv3,off_,off_,off_,off_,off_,off_,off_,off_,off_,pk3⟩) (k:=fun E2 ac wd H_=>?_)
 refine cT3 H_ ?_
 refine gq1 H_ 0 [[0]] [_] (fun _=>[(6,bF)]) (s:=mv3) (k:=fun E3 ac wd H_=>?_)
 refine lvT3 Tryz.results41 H_ ?_
 have hres:szL l day off=false:=by simp [szL,szH,hA]
 exact ⟨by rw [hres],H_.st.below⟩
 cases hB:wthn day (-1048576) 1048576
 refine gq1 H_ 24 (tri 16++[r_ 15++[16],r_ 15++[16,17],r_ 15++[16,17,18],r_ 20,r_ 21,r_ 22,r_ 15++[22],r_ 24,r_ 25]) [_,vN l.length,_,bF,_,_,_,bT,bT,_,_,_,_,bT,_,_,_,_,_,_,_,_,_,_,bT] (fun _=>[(33,bT)]) (s:=⟨mv3,ln_ Tryz.underlying85 fun _ env _ wd hA=>(hl.grown hA.j.st.gr).els,cl3 Tryz.func72 (((rwithin_any (l.length:Int) 1 32).eq (congrArg Value.bool hA))),un3,mv3,gm3,cl3 Tryz.func72 (((rwithin_any day (-1048576) 1048576).eq (congrArg Value.bool hB))),un3,pk3,mv3,off_,off_,off_,pk3,mv3,off_,off_,off_,off_,off_,off_,off_,off_,off_,pk3⟩) (k:=fun E2 ac wd H_=>?_)
 refine cT3 H_ ?_
 refine gq1 H_ 0 [[0]] [_] (fun _=>[(6,bF)]) (s:=mv3) (k:=fun E3 ac wd H_=>?_)
 refine lvT3 Tryz.results41 H_ ?_
 have hres:szL l day off=false:=by simp [szL,szH,hA,hB]
 exact ⟨by rw [hres],H_.st.below⟩
 cases hC:wthn off 0 1000
 refine gq1 H_ 24 (tri 16++[r_ 15++[16],r_ 15++[16,17],r_ 15++[16,17,18],r_ 20,r_ 21,r_ 22,r_ 15++[22],r_ 24,r_ 25]) [_,vN l.length,_,bF,_,_,_,bF,bF,_,_,_,bT,bT,_,_,_,_,_,_,_,_,_,_,bT] (fun _=>[(33,bT)]) (s:=⟨mv3,ln_ Tryz.underlying85 fun _ env _ wd hA=>(hl.grown hA.j.st.gr).els,cl3 Tryz.func72 (((rwithin_any (l.length:Int) 1 32).eq (congrArg Value.bool hA))),un3,mv3,gm3,cl3 Tryz.func72 (((rwithin_any day (-1048576) 1048576).eq (congrArg Value.bool hB))),un3,pk3,mv3,gm3,cl3 Tryz.func72 (((rwithin_any off 0 1000).eq (congrArg Value.bool hC))),un3,pk3,mv3,off_,off_,off_,off_,off_,off_,off_,off_,off_,pk3⟩) (k:=fun E2 ac wd H_=>?_)
 refine cT3 H_ ?_
 refine gq1 H_ 0 [[0]] [_] (fun _=>[(6,bF)]) (s:=mv3) (k:=fun E3 ac wd H_=>?_)
 refine lvT3 Tryz.results41 H_ ?_
 have hres:szL l day off=false:=by simp [szL,szH,hA,hB,hC]
 exact ⟨by rw [hres],H_.st.below⟩
 have hn32:=wthn_iff.1 hA
 by_cases hD:day≤(sgi l (l.length-1)).d
 refine gq1 H_ 24 (tri 16++[r_ 15++[16],r_ 15++[16,17],r_ 15++[16,17,18],r_ 20,r_ 21,r_ 22,r_ 15++[22],r_ 24,r_ 25]) [_,vN l.length,_,bF,_,_,_,bF,bF,_,_,_,bF,bF,_,_,_,vN l.length,vI ((l.length:Int)-1),elt (.slice A0 l.length c0) ((l.length-1)*4),elt (.slice A0 l.length c0) ((l.length-1)*4),vI ((sgi l (l.length-1)).d),_,bT,bT] (fun _=>[(33,bT)]) (s:=⟨mv3,ln_ Tryz.underlying85 fun _ env _ wd hA=>(hl.grown hA.j.st.gr).els,cl3 Tryz.func72 (((rwithin_any (l.length:Int) 1 32).eq (congrArg Value.bool hA))),un3,mv3,gm3,cl3 Tryz.func72 (((rwithin_any day (-1048576) 1048576).eq (congrArg Value.bool hB))),un3,pk3,mv3,gm3,cl3 Tryz.func72 (((rwithin_any off 0 1000).eq (congrArg Value.bool hC))),un3,pk3,mv3,gm3,gm3,ln_ Tryz.underlying85 fun _ env _ wd hA=>(hl.grown hA.j.st.gr).els,bi3,ia_ Tryz.underlying85 sz111 (l.length-1) ((l.length-1)*4) ((l.length:Int)-1) (fun _ env _ wd hA=>(hl.grown hA.j.st.gr).els) (by omega) (by omega) rfl,s_fa rfl rfl rfl (fun hA=>hA.gy rfl rfl rfl) ((l.length-1)*4) 0 ((l.length-1)*4) rfl (s:=fun _=>.slice A0 l.length c0) rfl (fun _=>rfl) (fun {D env ac wd} hA=>(hl.grown hA.j.st.gr).els) (by omega) (fun b q w=>by simp [go_sem,Tryz.underlying111]),le_ ((l.length-1)*4) (fun _ env _ wd hA=>(hl.grown hA.j.st.gr).els) (by omega) (leG1 sh3 (by exact sgC_0 l (l.length-1))),gm3,bi3,pk3⟩) (k:=fun E2 ac wd H_=>?_)
 refine cT3 H_ ?_
 refine gq1 H_ 0 [[0]] [_] (fun _=>[(6,bF)]) (s:=mv3) (k:=fun E3 ac wd H_=>?_)
 refine lvT3 Tryz.results41 H_ ?_
 have hres:szL l day off=false:=by rw [szL,← szR_szA (day:=day) (by omega),decide_eq_false (by omega)];simp
 exact ⟨by rw [hres],H_.st.below⟩
 refine gq1 H_ 24 (tri 16++[r_ 15++[16],r_ 15++[16,17],r_ 15++[16,17,18],r_ 20,r_ 21,r_ 22,r_ 15++[22],r_ 24,r_ 25]) [_,vN l.length,_,bF,_,_,_,bF,bF,_,_,_,bF,bF,_,_,_,vN l.length,vI ((l.length:Int)-1),elt (.slice A0 l.length c0) ((l.length-1)*4),elt (.slice A0 l.length c0) ((l.length-1)*4),vI ((sgi l (l.length-1)).d),_,bF,bF] (fun _=>[(33,bF)]) (s:=⟨mv3,ln_ Tryz.underlying85 fun _ env _ wd hA=>(hl.grown hA.j.st.gr).els,cl3 Tryz.func72 (((rwithin_any (l.length:Int) 1 32).eq (congrArg Value.bool hA))),un3,mv3,gm3,cl3 Tryz.func72 (((rwithin_any day (-1048576) 1048576).eq (congrArg Value.bool hB))),un3,pk3,mv3,gm3,cl3 Tryz.func72 (((rwithin_any off 0 1000).eq (congrArg Value.bool hC))),un3,pk3,mv3,gm3,gm3,ln_ Tryz.underlying85 fun _ env _ wd hA=>(hl.grown hA.j.st.gr).els,bi3,ia_ Tryz.underlying85 sz111 (l.length-1) ((l.length-1)*4) ((l.length:Int)-1) (fun _ env _ wd hA=>(hl.grown hA.j.st.gr).els) (by omega) (by omega) rfl,s_fa rfl rfl rfl (fun hA=>hA.gy rfl rfl rfl) ((l.length-1)*4) 0 ((l.length-1)*4) rfl (s:=fun _=>.slice A0 l.length c0) rfl (fun _=>rfl) (fun {D env ac wd} hA=>(hl.grown hA.j.st.gr).els) (by omega) (fun b q w=>by simp [go_sem,Tryz.underlying111]),le_ ((l.length-1)*4) (fun _ env _ wd hA=>(hl.grown hA.j.st.gr).els) (by omega) (leG1 sh3 (by exact sgC_0 l (l.length-1))),gm3,bi3,pk3⟩) (k:=fun E2 ac wd H_=>?_)
 refine cF3 H_ ?_
 refine gq1 H_ 2 [[0],[0,1],[2]] [_,vN l.length,_] (fun _=>[(34,.slice A0 l.length c0),(35,vN l.length),(36,vI 0)]) (s:=⟨mv3,ln_ Tryz.underlying85 fun _ env _ wd hA=>(hl.grown hA.j.st.gr).els,mv3⟩) (k:=fun E3 ac wd H_=>?_)
 refine lp3 (fun ac wd=>∃ i:Nat,(i≤l.length∧∀ j,j < i→szR l j=true)∧Cur 79 w0 none none (fun _=>True) (fun _=>True) [(0,.slice A0 l.length c0),(34,.slice A0 l.length c0),(35,vN l.length),(36,vN i)] [] ac wd) (fun ac _=>((l.length:Int)-sI ac 36).toNat) ⟨0,⟨by omega,fun j hj=>by omega⟩,(H_.re rfl).th (fun _ h=>h)⟩ ?_
 rintro ac wd ⟨i,⟨hi1,hi2⟩,H_⟩
 have hmu:sI ac 36=((i:Nat):Int):=sI_eq (H_.g (t:=36) rfl)
 by_cases h1:i < l.length
 refine gq1 H_ 0 [[0]] [bT] (fun _=>[(37,bT)]) (s:=bi3) (k:=fun E5 ac wd H_=>?_)
 refine cT3 H_ ?_
 refine gq H_ 5 [[0],[1],[1,2],[3],r_ 5,r_ 6] [_,elt (.slice A0 l.length c0) (i*4),vSg (sgi l i),_,_,none] (fun E6=>[(7,vN i),(8,vP (pb E6 3) 0)]) (W:=[{ i:=3,T:=111,c0:=[vI 0,vI 0,vI 0,vI 0],s:=some 5,c1:=fun _=>[vI ((sgi l i).d),vI ((sgi l i).b),vI ((sgi l i).f),vI ((sgi l i).r)] }]) (s:=⟨mv3,ia_ Tryz.underlying85 sz111 i (i*4) ((i:Nat):Int) (fun _ env _ wd hA=>(hl.grown hA.j.st.gr).els) (rfl) (by omega) rfl,le_ (i*4) (fun _ env _ wd hA=>(hl.grown hA.j.st.gr).els) (by omega) (leGd sh111 (by exact sgC_0 l i) (by exact sgC_1 l i) (by exact sgC_2 l i) (by exact sgC_3 l i)),al_ 0,mv3,sw3 0 3 sh111⟩) (k:=fun E6 ac wd H_=>?_)
 cases gD:wthn (sgi l i).d (-1048576) 1048576
 refine gq1 H_ 36 (tri 27++[r_ 26++[27],r_ 26++[27,28],r_ 30,r_ 31,r_ 32,r_ 26++[32],r_ 26++[32,33],r_ 35,r_ 36,r_ 37]) (.append [_,_,_,bT,_,_,_,_,_,bT,_,_,_,_,_,bT,_,_,_,_,_,bT,_,_,_,_,_,_,_,_,_] [_,_,_,_,_,bT]) (fun _=>[(77,bT)]) (s:=⟨fa3 0,ld31 0 sh3,cl3 Tryz.func72 (((rwithin_any (sgi l i).d (-1048576) 1048576).eq (congrArg Value.bool gD))),un3,mv3,off_,off_,off_,off_,pk3,mv3,off_,off_,off_,off_,pk3,mv3,off_,off_,off_,off_,pk3,mv3,off_,off_,off_,off_,off_,off_,off_,off_,off_,off_,off_,off_,off_,pk3⟩) (k:=fun E7 ac wd H_=>?_)
 refine cT3 H_ ?_
 refine gq1 H_ 0 [[0]] [_] (fun _=>[(6,bF)]) (s:=mv3) (k:=fun E8 ac wd H_=>?_)
 refine lvT3 Tryz.results41 H_ ?_
 have hres:szL l day off=false:=by (have hq:szR l i=false:=(by simp [szR,szS,gD]));rw [szL,← szR_szA (day:=day) (by omega),all_no h1 hq];simp
 exact ⟨by rw [hres],H_.st.below⟩
 cases gB:wthn (sgi l i).b (-1000000000) 1000000000
 refine gq1 H_ 36 (tri 27++[r_ 26++[27],r_ 26++[27,28],r_ 30,r_ 31,r_ 32,r_ 26++[32],r_ 26++[32,33],r_ 35,r_ 36,r_ 37]) (.append [_,_,_,bF,_,_,_,_,bT,bT,_,_,_,_,_,bT,_,_,_,_,_,bT,_,_,_,_,_,_,_,_,_] [_,_,_,_,_,bT]) (fun _=>[(77,bT)]) (s:=⟨fa3 0,ld31 0 sh3,cl3 Tryz.func72 (((rwithin_any (sgi l i).d (-1048576) 1048576).eq (congrArg Value.bool gD))),un3,mv3,fa3 1,ld31 0 sh3,cl3 Tryz.func72 (((rwithin_any (sgi l i).b (-1000000000) 1000000000).eq (congrArg Value.bool gB))),un3,pk3,mv3,off_,off_,off_,off_,pk3,mv3,off_,off_,off_,off_,pk3,mv3,off_,off_,off_,off_,off_,off_,off_,off_,off_,off_,off_,off_,off_,pk3⟩) (k:=fun E7 ac wd H_=>?_)
 refine cT3 H_ ?_
 refine gq1 H_ 0 [[0]] [_] (fun _=>[(6,bF)]) (s:=mv3) (k:=fun E8 ac wd H_=>?_)
 refine lvT3 Tryz.results41 H_ ?_
 have hres:szL l day off=false:=by (have hq:szR l i=false:=(by simp [szR,szS,gD,gB]));rw [szL,← szR_szA (day:=day) (by omega),all_no h1 hq];simp
 exact ⟨by rw [hres],H_.st.below⟩
 cases gF:wthn (sgi l i).f (-1048576) 1048576
 refine gq1 H_ 36 (tri 27++[r_ 26++[27],r_ 26++[27,28],r_ 30,r_ 31,r_ 32,r_ 26++[32],r_ 26++[32,33],r_ 35,r_ 36,r_ 37]) (.append [_,_,_,bF,_,_,_,_,bF,bF,_,_,_,_,bT,bT,_,_,_,_,_,bT,_,_,_,_,_,_,_,_,_] [_,_,_,_,_,bT]) (fun _=>[(77,bT)]) (s:=⟨fa3 0,ld31 0 sh3,cl3 Tryz.func72 (((rwithin_any (sgi l i).d (-1048576) 1048576).eq (congrArg Value.bool gD))),un3,mv3,fa3 1,ld31 0 sh3,cl3 Tryz.func72 (((rwithin_any (sgi l i).b (-1000000000) 1000000000).eq (congrArg Value.bool gB))),un3,pk3,mv3,fa3 2,ld31 0 sh3,cl3 Tryz.func72 (((rwithin_any (sgi l i).f (-1048576) 1048576).eq (congrArg Value.bool gF))),un3,pk3,mv3,off_,off_,off_,off_,pk3,mv3,off_,off_,off_,off_,off_,off_,off_,off_,off_,off_,off_,off_,off_,pk3⟩) (k:=fun E7 ac wd H_=>?_)
 refine cT3 H_ ?_
 refine gq1 H_ 0 [[0]] [_] (fun _=>[(6,bF)]) (s:=mv3) (k:=fun E8 ac wd H_=>?_)
 refine lvT3 Tryz.results41 H_ ?_
 have hres:szL l day off=false:=by (have hq:szR l i=false:=(by simp [szR,szS,gD,gB,gF]));rw [szL,← szR_szA (day:=day) (by omega),all_no h1 hq];simp
 exact ⟨by rw [hres],H_.st.below⟩
 cases gR:wthn (sgi l i).r 0 1000000
 refine gq1 H_ 36 (tri 27++[r_ 26++[27],r_ 26++[27,28],r_ 30,r_ 31,r_ 32,r_ 26++[32],r_ 26++[32,33],r_ 35,r_ 36,r_ 37]) (.append [_,_,_,bF,_,_,_,_,bF,bF,_,_,_,_,bF,bF,_,_,_,_,bT,bT,_,_,_,_,_,_,_,_,_] [_,_,_,_,_,bT]) (fun _=>[(77,bT)]) (s:=⟨fa3 0,ld31 0 sh3,cl3 Tryz.func72 (((rwithin_any (sgi l i).d (-1048576) 1048576).eq (congrArg Value.bool gD))),un3,mv3,fa3 1,ld31 0 sh3,cl3 Tryz.func72 (((rwithin_any (sgi l i).b (-1000000000) 1000000000).eq (congrArg Value.bool gB))),un3,pk3,mv3,fa3 2,ld31 0 sh3,cl3 Tryz.func72 (((rwithin_any (sgi l i).f (-1048576) 1048576).eq (congrArg Value.bool gF))),un3,pk3,mv3,fa3 3,ld31 0 sh3,cl3 Tryz.func72 (((rwithin_any (sgi l i).r 0 1000000).eq (congrArg Value.bool gR))),un3,pk3,mv3,off_,off_,off_,off_,off_,off_,off_,off_,off_,off_,off_,off_,off_,pk3⟩) (k:=fun E7 ac wd H_=>?_)
 refine cT3 H_ ?_
 refine gq1 H_ 0 [[0]] [_] (fun _=>[(6,bF)]) (s:=mv3) (k:=fun E8 ac wd H_=>?_)
 refine lvT3 Tryz.results41 H_ ?_
 have hres:szL l day off=false:=by (have hq:szR l i=false:=(by simp [szR,szS,gD,gB,gF,gR]));rw [szL,← szR_szA (day:=day) (by omega),all_no h1 hq];simp
 exact ⟨by rw [hres],H_.st.below⟩
 by_cases g0:i=0
 refine gq1 H_ 36 (tri 27++[r_ 26++[27],r_ 26++[27,28],r_ 30,r_ 31,r_ 32,r_ 26++[32],r_ 26++[32,33],r_ 35,r_ 36,r_ 37]) (.append [_,_,_,bF,_,_,_,_,bF,bF,_,_,_,_,bF,bF,_,_,_,_,bF,bF,_,_,bF,_,_,_,_,_,_] [_,_,_,_,bF,bF]) (fun _=>[(77,bF)]) (s:=⟨fa3 0,ld31 0 sh3,cl3 Tryz.func72 (((rwithin_any (sgi l i).d (-1048576) 1048576).eq (congrArg Value.bool gD))),un3,mv3,fa3 1,ld31 0 sh3,cl3 Tryz.func72 (((rwithin_any (sgi l i).b (-1000000000) 1000000000).eq (congrArg Value.bool gB))),un3,pk3,mv3,fa3 2,ld31 0 sh3,cl3 Tryz.func72 (((rwithin_any (sgi l i).f (-1048576) 1048576).eq (congrArg Value.bool gF))),un3,pk3,mv3,fa3 3,ld31 0 sh3,cl3 Tryz.func72 (((rwithin_any (sgi l i).r 0 1000000).eq (congrArg Value.bool gR))),un3,pk3,mv3,gm3,bi3,gm3,off_,off_,off_,off_,off_,off_,off_,off_,off_,pk3,pk3⟩) (k:=fun E7 ac wd H_=>?_)
 refine cF3 H_ ?_
 refine gq1 H_ 1 [[0],[0,1]] [vI (((i:Nat):Int)+1),_] (fun _=>[(36,vI (((i:Nat):Int)+1))]) (s:=⟨bi3,mv3⟩) (k:=fun E8 ac wd H_=>?_)
 refine then_n ?_
 have hS:szS (sgi l i)=true:=by simp [szS,gD,gB,gF,gR]
 have hb:(Nat.beq i 0 || decide ((sgi l (i-1)).d < (sgi l i).d))=true:=by rw [g0];rfl
 have hq:szR l i=true:=by unfold szR;rw [hS,hb];rfl
 exact ⟨⟨i+1,⟨by omega,steps_snoc (p:=fun j=>szR l j=true) hi2 hq⟩,(H_.take (M1:=[]) rfl).re rfl⟩,by rw [sI_eq (H_.g (t:=36) rfl),hmu];omega⟩
 by_cases gP:(sgi l i).d≤(sgi l (i-1)).d
 refine gq1 H_ 36 (tri 27++[r_ 26++[27],r_ 26++[27,28],r_ 30,r_ 31,r_ 32,r_ 26++[32],r_ 26++[32,33],r_ 35,r_ 36,r_ 37]) (.append [_,_,_,bF,_,_,_,_,bF,bF,_,_,_,_,bF,bF,_,_,_,_,bF,bF,_,_,bT,_,_,_,vI (((i:Nat):Int)-1),elt (.slice A0 l.length c0) ((i-1)*4),elt (.slice A0 l.length c0) ((i-1)*4)] [vI ((sgi l (i-1)).d),_,_,bT,bT,bT]) (fun _=>[(77,bT)]) (s:=⟨fa3 0,ld31 0 sh3,cl3 Tryz.func72 (((rwithin_any (sgi l i).d (-1048576) 1048576).eq (congrArg Value.bool gD))),un3,mv3,fa3 1,ld31 0 sh3,cl3 Tryz.func72 (((rwithin_any (sgi l i).b (-1000000000) 1000000000).eq (congrArg Value.bool gB))),un3,pk3,mv3,fa3 2,ld31 0 sh3,cl3 Tryz.func72 (((rwithin_any (sgi l i).f (-1048576) 1048576).eq (congrArg Value.bool gF))),un3,pk3,mv3,fa3 3,ld31 0 sh3,cl3 Tryz.func72 (((rwithin_any (sgi l i).r 0 1000000).eq (congrArg Value.bool gR))),un3,pk3,mv3,gm3,bi3,gm3,gm3,gm3,bi3,ia_ Tryz.underlying85 sz111 (i-1) ((i-1)*4) (((i:Nat):Int)-1) (fun _ env _ wd hA=>(hl.grown hA.j.st.gr).els) (by omega) (by omega) rfl,s_fa rfl rfl rfl (fun hA=>hA.gy rfl rfl rfl) ((i-1)*4) 0 ((i-1)*4) rfl (s:=fun _=>.slice A0 l.length c0) rfl (fun _=>rfl) (fun {D env ac wd} hA=>(hl.grown hA.j.st.gr).els) (by omega) (fun b q w=>by simp [go_sem,Tryz.underlying111]),le_ ((i-1)*4) (fun _ env _ wd hA=>(hl.grown hA.j.st.gr).els) (by omega) (leG1 sh3 (by exact sgC_0 l (i-1))),fa3 0,ld31 0 sh3,bi3 (h:=by intro env w;simp [go_sem,gP]),pk3 (h:=by intro env w;simp [go_sem,gP]),pk3 (h:=by intro env w;simp [go_sem,gP])⟩) (k:=fun E7 ac wd H_=>?_)
 refine cT3 H_ ?_
 refine gq1 H_ 0 [[0]] [_] (fun _=>[(6,bF)]) (s:=mv3) (k:=fun E8 ac wd H_=>?_)
 refine lvT3 Tryz.results41 H_ ?_
 have hres:szL l day off=false:=by (have hS:szS (sgi l i)=true:=(by simp [szS,gD,gB,gF,gR]));(have hb:Nat.beq i 0=false:=(by cases h:Nat.beq i 0 with | false=>rfl | true=>exact absurd (Nat.eq_of_beq_eq_true h) g0));(have hq:szR l i=false:=(by unfold szR;rw [hS,hb,decide_eq_false (by omega)];rfl));rw [szL,← szR_szA (day:=day) (by omega),all_no h1 hq];simp
 exact ⟨by rw [hres],H_.st.below⟩
 refine gq1 H_ 36 (tri 27++[r_ 26++[27],r_ 26++[27,28],r_ 30,r_ 31,r_ 32,r_ 26++[32],r_ 26++[32,33],r_ 35,r_ 36,r_ 37]) (.append [_,_,_,bF,_,_,_,_,bF,bF,_,_,_,_,bF,bF,_,_,_,_,bF,bF,_,_,bT,_,_,_,vI (((i:Nat):Int)-1),elt (.slice A0 l.length c0) ((i-1)*4),elt (.slice A0 l.length c0) ((i-1)*4)] [vI ((sgi l (i-1)).d),_,_,bF,bF,bF]) (fun _=>[(77,bF)]) (s:=⟨fa3 0,ld31 0 sh3,cl3 Tryz.func72 (((rwithin_any (sgi l i).d (-1048576) 1048576).eq (congrArg Value.bool gD))),un3,mv3,fa3 1,ld31 0 sh3,cl3 Tryz.func72 (((rwithin_any (sgi l i).b (-1000000000) 1000000000).eq (congrArg Value.bool gB))),un3,pk3,mv3,fa3 2,ld31 0 sh3,cl3 Tryz.func72 (((rwithin_any (sgi l i).f (-1048576) 1048576).eq (congrArg Value.bool gF))),un3,pk3,mv3,fa3 3,ld31 0 sh3,cl3 Tryz.func72 (((rwithin_any (sgi l i).r 0 1000000).eq (congrArg Value.bool gR))),un3,pk3,mv3,gm3,bi3,gm3,gm3,gm3,bi3,ia_ Tryz.underlying85 sz111 (i-1) ((i-1)*4) (((i:Nat):Int)-1) (fun _ env _ wd hA=>(hl.grown hA.j.st.gr).els) (by omega) (by omega) rfl,s_fa rfl rfl rfl (fun hA=>hA.gy rfl rfl rfl) ((i-1)*4) 0 ((i-1)*4) rfl (s:=fun _=>.slice A0 l.length c0) rfl (fun _=>rfl) (fun {D env ac wd} hA=>(hl.grown hA.j.st.gr).els) (by omega) (fun b q w=>by simp [go_sem,Tryz.underlying111]),le_ ((i-1)*4) (fun _ env _ wd hA=>(hl.grown hA.j.st.gr).els) (by omega) (leG1 sh3 (by exact sgC_0 l (i-1))),fa3 0,ld31 0 sh3,bi3 (h:=by intro env w;simp [go_sem,gP]),pk3 (h:=by intro env w;simp [go_sem,gP]),pk3 (h:=by intro env w;simp [go_sem,gP])⟩) (k:=fun E7 ac wd H_=>?_)
 refine cF3 H_ ?_
 refine gq1 H_ 1 [[0],[0,1]] [vI (((i:Nat):Int)+1),_] (fun _=>[(36,vI (((i:Nat):Int)+1))]) (s:=⟨bi3,mv3⟩) (k:=fun E8 ac wd H_=>?_)
 refine then_n ?_
 have hS:szS (sgi l i)=true:=by simp [szS,gD,gB,gF,gR]
 have hb:(Nat.beq i 0 || decide ((sgi l (i-1)).d < (sgi l i).d))=true:=by rw [decide_eq_true (by omega)];simp
 have hq:szR l i=true:=by unfold szR;rw [hS,hb];rfl
 exact ⟨⟨i+1,⟨by omega,steps_snoc (p:=fun j=>szR l j=true) hi2 hq⟩,(H_.take (M1:=[]) rfl).re rfl⟩,by rw [sI_eq (H_.g (t:=36) rfl),hmu];omega⟩
 obtain rfl:i=l.length:=by omega
 refine gq1 H_ 0 [[0]] [bF] (fun _=>[(37,bF)]) (s:=bi3) (k:=fun E5 ac wd H_=>?_)
 refine cF3 H_ ?_
 refine gq1 H_ 0 [[0]] [_] (fun _=>[(6,bT)]) (s:=mv3) (k:=fun E6 ac wd H_=>?_)
 refine lvT3 Tryz.results41 H_ ?_
 have hres:szL l day off=true:=by rw [szL,← szR_szA (day:=day) (by omega),all_yes hi2,decide_eq_true (by omega)];simp [szH,hA,hB,hC]
 exact ⟨by rw [hres],H_.st.below⟩
theorem label_any (w0:World) (b g c:Nat) (l:List Sg) (day off:Int) (hR:RubA w0 b g c l day off) (hL:LOk l day off) (t:Int) (ht:InW t):Calls Tryz.prog 64 #[vP b 0,vW t] w0 fun e w'=>e = .returned (vT2 (vL (labD l day off t) (labS l day off t) (labA l day off t)) (vI (labE l day off t)))∧Below w0.heap.size w0 w':=by
 have n0:=hL.n0;have n1:=hL.n1;have y0:=hL.y0;have y1:=hL.y1;have o0:=hL.o0;have o1:=hL.o1
 have hs0:=hL.seg 0 n0;have f0:=hs0.d0;have f1:=hs0.d1;have hb0:=begS_bd hL n0
 have hn0:Near (jn (sgi l 0).d 0 0):=(cn_jn (by omega) (by omega) (by omega) (by omega) (by omega) (by omega)).near
 have hst:=St.start w0 (Θ:=fun _=>True) (fun _ _=>trivial)
 refine en_ Tryz.func64 hst 48 [(0,vP b 0),(1,vW t)] (fun ac H_=>?_)
 refine gq H_ 2 [[0],[1],[2]] [_,_,_] (fun E1=>[(3,vP (pb E1 0) 0),(4,vP (pb E1 1) 0)]) (W:=[{ i:=0,T:=27,c0:=[vI (hi (t)),.int .u64 (lo (t))] },{ i:=1,T:=39,c0:=[vI 0,vI 0,vI 0] }]) (s:=⟨bx3 0,al_ 1,mv3⟩) (k:=fun E1 ac wd H_=>?_)
 refine gq1 H_ 1 [[0],[0,1]] [_,bF] (fun _=>[(10,bF)]) (s:=⟨mv3,bi3⟩) (k:=fun E2 ac wd H_=>?_)
 refine cF3 H_ ?_
 refine gq H_ 7 (tri 6++[[6],r_ 8]) [_,_,_,K_ (.slice ((some ⟨g,0,none⟩)) l.length c),elt (.slice ((some ⟨g,0,none⟩)) l.length c) (0*14),vPc ((sgi l 0).d) ((sgi l 0).b*100000000000) (jn (sgi l 0).f 0 0) ((sgi l 0).r*100000000000) (endS l day off 0) (untS l day 0),_,none] (fun E3=>[(6,vP (pb E3 6) 0)]) (W:=[{ i:=6,T:=113,c0:=[vI 0,vI 0,.int .u64 0,vI 0,.int .u64 0,vI 0,.int .u64 0,vI 0,.int .u64 0,vI 0,.int .u64 0,vI 0,.int .u64 0,vI 0],s:=some 7,c1:=fun _=>[vI ((sgi l 0).d),vI (hi ((sgi l 0).b*100000000000)),.int .u64 (lo ((sgi l 0).b*100000000000)),vI (hi (jn (sgi l 0).f 0 0)),.int .u64 (lo (jn (sgi l 0).f 0 0)),vI (hi (dayA)),.int .u64 (lo (dayA)),vI (hi (dayA+(sgi l 0).r*100000000000)),.int .u64 (lo (dayA+(sgi l 0).r*100000000000)),vI (hi ((sgi l 0).r*100000000000)),.int .u64 (lo ((sgi l 0).r*100000000000)),vI (hi (endS l day off 0)),.int .u64 (lo (endS l day off 0)),vI (untS l day 0)] }]) (s:=⟨mv3,nc3,fa3 0,by refine s_v rfl rfl rfl rfl (fun {D env ac wd} hA=>?_);have e14:ac.tmps[14]? = some (vP b 0):=hA.g rfl;have hc:=(hR.grown hA.j.st.gr).cell;simp [go_sem,e14,hc],ia_ Tryz.underlying107 sz113 0 (0*14) 0 (fun _ env _ wd hA=>(hR.grown hA.j.st.gr).els) (rfl) (by omega) rfl,le_ (0*14) (fun _ env _ wd hA=>(hR.grown hA.j.st.gr).els) (by omega) (leGn sh113 (by exact pcC_at l day off 0 0 (by omega)) (by exact pcC_at l day off 0 1 (by omega)) (by exact pcC_at l day off 0 2 (by omega)) (by exact pcC_at l day off 0 3 (by omega)) (by exact pcC_at l day off 0 4 (by omega)) (by exact pcC_at l day off 0 5 (by omega)) (by exact pcC_at l day off 0 6 (by omega)) (by exact pcC_at l day off 0 7 (by omega)) (by exact pcC_at l day off 0 8 (by omega)) (by exact pcC_at l day off 0 9 (by omega)) (by exact pcC_at l day off 0 10 (by omega)) (by exact pcC_at l day off 0 11 (by omega)) (by exact pcC_at l day off 0 12 (by omega)) (by exact pcC_at l day off 0 13 (by omega))),al_ 2,sw3 2 6 sh113⟩) (k:=fun E3 ac wd H_=>?_)
 by_cases g1:t < begS l 0
 refine gq1 H_ 7 [[0],[1],[2],[2,3],[2,3,4],[1,2,3,4,5],r_ 7,r_ 8] [_,vPc ((sgi l 0).d) ((sgi l 0).b*100000000000) (jn (sgi l 0).f 0 0) ((sgi l 0).r*100000000000) (endS l day off 0) (untS l day 0),_,_,_,_,_,bT] (fun _=>[(25,bT)]) (s:=⟨ld3b 0 sh27,ld_ 2 (hrd:=by exact rd113 rfl rfl rfl rfl rfl rfl rfl rfl rfl rfl rfl rfl rfl rfl),fa3 0,ld31 2 sh3,cl3 Tryz.func44 ((begin_any (sgi l 0).d (by omega) (by omega))),cl3 Tryz.func43 ((pat_any (sgi l 0).d ((sgi l 0).b*100000000000) (jn (sgi l 0).f 0 0) ((sgi l 0).r*100000000000) (endS l day off 0) (untS l day 0) (jn (sgi l 0).d 0 0) hs0.pc hn0)),cl3 Tryz.func33 ((wcmpZ t (begS l 0) (by unfold InW at *;omega) (by unfold InW;omega))),bi3 (h:=by intro env w;(first | (simp [go_sem,cmpZ_le,cmpZ_lt,cmpZ_ge,cmpZ_gt,g1];done) | (simp [go_sem,cmpZ_le,cmpZ_lt,cmpZ_ge,cmpZ_gt];omega)))⟩) (k:=fun E4 ac wd H_=>?_)
 refine cT3 H_ ?_
 refine gq H_ 2 (tri 3) [vL 0 0 0,none,_] (fun _=>[(5,vI 8)]) (S:=[⟨1,1,fun _=>[vI 0,vI 0,vI 0]⟩]) (s:=⟨bd30,se3 1 sh39,mv3⟩) (k:=fun E5 ac wd H_=>?_)
 refine lvCT3 (v:=vL 0 0 0) Tryz.results64 H_ 1 (loadGc sh39 rfl ⟨rfl,rfl,rfl,trivial⟩) ?_
 obtain ⟨q1,q2,q3,q4⟩:=lab_early (day:=day) (off:=off) g1
 exact ⟨by rw [q1,q2,q3,q4],H_.st.below⟩
 refine gq1 H_ 7 [[0],[1],[2],[2,3],[2,3,4],[1,2,3,4,5],r_ 7,r_ 8] [_,vPc ((sgi l 0).d) ((sgi l 0).b*100000000000) (jn (sgi l 0).f 0 0) ((sgi l 0).r*100000000000) (endS l day off 0) (untS l day 0),_,_,_,_,_,bF] (fun _=>[(25,bF)]) (s:=⟨ld3b 0 sh27,ld_ 2 (hrd:=by exact rd113 rfl rfl rfl rfl rfl rfl rfl rfl rfl rfl rfl rfl rfl rfl),fa3 0,ld31 2 sh3,cl3 Tryz.func44 ((begin_any (sgi l 0).d (by omega) (by omega))),cl3 Tryz.func43 ((pat_any (sgi l 0).d ((sgi l 0).b*100000000000) (jn (sgi l 0).f 0 0) ((sgi l 0).r*100000000000) (endS l day off 0) (untS l day 0) (jn (sgi l 0).d 0 0) hs0.pc hn0)),cl3 Tryz.func33 ((wcmpZ t (begS l 0) (by unfold InW at *;omega) (by unfold InW;omega))),bi3 (h:=by intro env w;(first | (simp [go_sem,cmpZ_le,cmpZ_lt,cmpZ_ge,cmpZ_gt,g1];done) | (simp [go_sem,cmpZ_le,cmpZ_lt,cmpZ_ge,cmpZ_gt];omega)))⟩) (k:=fun E4 ac wd H_=>?_)
 refine cF3 H_ ?_
 refine gq1 H_ 5 (tri 5++[[5]]) [_,_,_,K_ (.slice ((some ⟨g,0,none⟩)) l.length c),vN l.length,_] (fun _=>[(30,.slice ((some ⟨g,0,none⟩)) l.length c),(31,vN l.length),(32,vI 0)]) (s:=⟨mv3,nc3,fa3 0,by refine s_v rfl rfl rfl rfl (fun {D env ac wd} hA=>?_);have e29:ac.tmps[29]? = some (vP b 0):=hA.g rfl;have hc:=(hR.grown hA.j.st.gr).cell;simp [go_sem,e29,hc],ln_ Tryz.underlying107 fun _ env _ wd hA=>(hR.grown hA.j.st.gr).els,mv3⟩) (k:=fun E5 ac wd H_=>?_)
 refine lp3 (fun ac wd=>∃ i:Nat,(i≤l.length∧∀ j,j < i→endS l day off j≤t)∧Cur 48 w0 none none (fun _=>True) (fun _=>True) [(3,vP (pb E1 0) 0),(4,vP (pb E1 1) 0),(30,.slice ((some ⟨g,0,none⟩)) l.length c),(31,vN l.length),(32,vN i)] [((pb E1 0),27,[vI (hi (t)),.int .u64 (lo (t))]),((pb E1 1),39,[vI 0,vI 0,vI 0]),((pb E3 6),113,[vI ((sgi l 0).d),vI (hi ((sgi l 0).b*100000000000)),.int .u64 (lo ((sgi l 0).b*100000000000)),vI (hi (jn (sgi l 0).f 0 0)),.int .u64 (lo (jn (sgi l 0).f 0 0)),vI (hi (dayA)),.int .u64 (lo (dayA)),vI (hi (dayA+(sgi l 0).r*100000000000)),.int .u64 (lo (dayA+(sgi l 0).r*100000000000)),vI (hi ((sgi l 0).r*100000000000)),.int .u64 (lo ((sgi l 0).r*100000000000)),vI (hi (endS l day off 0)),.int .u64 (lo (endS l day off 0)),vI (untS l day 0)])] ac wd) (fun ac _=>((l.length:Int)-sI ac 32).toNat) ⟨0,⟨by omega,fun j hj=>by omega⟩,(H_.re rfl).th (fun _ h=>h)⟩ ?_
 rintro ac wd ⟨i,⟨hi1,hi2⟩,H_⟩
 have hmu:sI ac 32=((i:Nat):Int):=sI_eq (H_.g (t:=32) rfl)
 by_cases h1:i < l.length
 have hs:=hL.seg i h1;have hE:=hL.end_bd h1;have hB:=begS_bd hL hL.n0;have hun:=hL.unt_day h1;have hun2:=hL.unt_ge h1
 refine gq1 H_ 0 [[0]] [bT] (fun _=>[(33,bT)]) (s:=bi3) (k:=fun E7 ac wd H_=>?_)
 refine cT3 H_ ?_
 refine gq H_ 3 [[0],[0,1],[2],r_ 4] [elt (.slice ((some ⟨g,0,none⟩)) l.length c) (i*14),vPc ((sgi l i).d) ((sgi l i).b*100000000000) (jn (sgi l i).f 0 0) ((sgi l i).r*100000000000) (endS l day off i) (untS l day i),_,none] (fun E8=>[(8,vP (pb E8 2) 0)]) (W:=[{ i:=2,T:=113,c0:=[vI 0,vI 0,.int .u64 0,vI 0,.int .u64 0,vI 0,.int .u64 0,vI 0,.int .u64 0,vI 0,.int .u64 0,vI 0,.int .u64 0,vI 0],s:=some 3,c1:=fun _=>[vI ((sgi l i).d),vI (hi ((sgi l i).b*100000000000)),.int .u64 (lo ((sgi l i).b*100000000000)),vI (hi (jn (sgi l i).f 0 0)),.int .u64 (lo (jn (sgi l i).f 0 0)),vI (hi (dayA)),.int .u64 (lo (dayA)),vI (hi (dayA+(sgi l i).r*100000000000)),.int .u64 (lo (dayA+(sgi l i).r*100000000000)),vI (hi ((sgi l i).r*100000000000)),.int .u64 (lo ((sgi l i).r*100000000000)),vI (hi (endS l day off i)),.int .u64 (lo (endS l day off i)),vI (untS l day i)] }]) (s:=⟨ia_ Tryz.underlying107 sz113 i (i*14) ((i:Nat):Int) (fun _ env _ wd hA=>(hR.grown hA.j.st.gr).els) (rfl) (by omega) rfl,le_ (i*14) (fun _ env _ wd hA=>(hR.grown hA.j.st.gr).els) (by omega) (leGn sh113 (by exact pcC_at l day off i 0 (by omega)) (by exact pcC_at l day off i 1 (by omega)) (by exact pcC_at l day off i 2 (by omega)) (by exact pcC_at l day off i 3 (by omega)) (by exact pcC_at l day off i 4 (by omega)) (by exact pcC_at l day off i 5 (by omega)) (by exact pcC_at l day off i 6 (by omega)) (by exact pcC_at l day off i 7 (by omega)) (by exact pcC_at l day off i 8 (by omega)) (by exact pcC_at l day off i 9 (by omega)) (by exact pcC_at l day off i 10 (by omega)) (by exact pcC_at l day off i 11 (by omega)) (by exact pcC_at l day off i 12 (by omega)) (by exact pcC_at l day off i 13 (by omega))),al_ 3,sw3 3 2 sh113⟩) (k:=fun E8 ac wd H_=>?_)
 by_cases hc:endS l day off i≤t
 refine gq1 H_ 4 [[0],[1],[1,2],r_ 4,r_ 5] [_,_,_,_,bF] (fun _=>[(40,bF)]) (s:=⟨ld3b 0 sh27,fa3 11,ld3b 3 sh27,cl3 Tryz.func33 ((wcmpZ t (endS l day off i) (by unfold InW at *;omega) (by unfold InW;omega))),bi3 (h:=by intro env w;(first | (simp [go_sem,cmpZ_le,cmpZ_lt,cmpZ_ge,cmpZ_gt,hc];done) | (simp [go_sem,cmpZ_le,cmpZ_lt,cmpZ_ge,cmpZ_gt];omega)))⟩) (k:=fun E9 ac wd H_=>?_)
 refine cF3 H_ ?_
 refine gq1 H_ 1 [[0],[0,1]] [vI (((i:Nat):Int)+1),_] (fun _=>[(32,vI (((i:Nat):Int)+1))]) (s:=⟨bi3,mv3⟩) (k:=fun E10 ac wd H_=>?_)
 refine then_n ?_
 exact ⟨⟨i+1,⟨by omega,steps_snoc (p:=fun j=>endS l day off j≤t) hi2 hc⟩,(H_.take (M1:=[_,_,_]) rfl).re rfl⟩,by rw [sI_eq (H_.g (t:=32) rfl),hmu];omega⟩
 have hG:=gS_bd hs (t:=t) (by omega) (by omega);have hnt:Near t:=(by unfold Near;omega);have hng:Near (gS (sgi l i) t):=(by unfold Near;omega)
 refine gq1 H_ 4 [[0],[1],[1,2],r_ 4,r_ 5] [_,_,_,_,bT] (fun _=>[(40,bT)]) (s:=⟨ld3b 0 sh27,fa3 11,ld3b 3 sh27,cl3 Tryz.func33 ((wcmpZ t (endS l day off i) (by unfold InW at *;omega) (by unfold InW;omega))),bi3 (h:=by intro env w;(first | (simp [go_sem,cmpZ_le,cmpZ_lt,cmpZ_ge,cmpZ_gt,hc];done) | (simp [go_sem,cmpZ_le,cmpZ_lt,cmpZ_ge,cmpZ_gt];omega)))⟩) (k:=fun E9 ac wd H_=>?_)
 refine cT3 H_ ?_
 refine gq H_ 6 [[0],[1],[2],[1,2,3],r_ 5,r_ 6,r_ 7] [vPc ((sgi l i).d) ((sgi l i).b*100000000000) (jn (sgi l i).f 0 0) ((sgi l i).r*100000000000) (endS l day off i) (untS l day i),vPc ((sgi l i).d) ((sgi l i).b*100000000000) (jn (sgi l i).f 0 0) ((sgi l i).r*100000000000) (endS l day off i) (untS l day i),_,_,_,none,_] (fun _=>[(5,vI 0)]) (S:=[⟨1,5,fun _=>[vI (lblD (untS l day i) (gS (sgi l i) t)),vI (lblS (untS l day i) (gS (sgi l i) t)),vI (splA (gS (sgi l i) t))]⟩]) (s:=⟨ld_ 3 (hrd:=by exact rd113 rfl rfl rfl rfl rfl rfl rfl rfl rfl rfl rfl rfl rfl rfl),ld_ 3 (hrd:=by exact rd113 rfl rfl rfl rfl rfl rfl rfl rfl rfl rfl rfl rfl rfl rfl),ld3b 0 sh27,cl3 Tryz.func96 ((back_any (sgi l i).d ((sgi l i).b*100000000000) (jn (sgi l i).f 0 0) ((sgi l i).r*100000000000) (endS l day off i) (untS l day i) t hs.pc hnt)),cl3 Tryz.func95 (((plabel_any (sgi l i).d ((sgi l i).b*100000000000) (jn (sgi l i).f 0 0) ((sgi l i).r*100000000000) (endS l day off i) (untS l day i) (gS (sgi l i) t) hng).eq (lbl_eq _ _))),se3 1 sh39,mv3⟩) (k:=fun E10 ac wd H_=>?_)
 refine lvCT3 (v:=vL (lblD (untS l day i) (gS (sgi l i) t)) (lblS (untS l day i) (gS (sgi l i) t)) (splA (gS (sgi l i) t))) Tryz.results64 H_ 1 (loadGc sh39 rfl ⟨rfl,rfl,rfl,trivial⟩) ?_
 obtain ⟨q1,q2,q3,q4⟩:=lab_in g1 h1 hi2 (by omega:t < endS l day off i)
 exact ⟨by rw [q1,q2,q3,q4],H_.st.below⟩
 obtain rfl:i=l.length:=by omega
 refine gq1 H_ 0 [[0]] [bF] (fun _=>[(33,bF)]) (s:=bi3) (k:=fun E7 ac wd H_=>?_)
 refine cF3 H_ ?_
 refine gq H_ 2 (tri 3) [vL 0 0 0,none,_] (fun _=>[(5,vI 9)]) (S:=[⟨1,1,fun _=>[vI 0,vI 0,vI 0]⟩]) (s:=⟨bd30,se3 1 sh39,mv3⟩) (k:=fun E8 ac wd H_=>?_)
 refine lvCT3 (v:=vL 0 0 0) Tryz.results64 H_ 1 (loadGc sh39 rfl ⟨rfl,rfl,rfl,trivial⟩) ?_
 obtain ⟨q1,q2,q3,q4⟩:=lab_late g1 hi2
 exact ⟨by rw [q1,q2,q3,q4],H_.st.below⟩
end Go.Proofs.YtailjojebdmnnaaGreat
namespace Go.Proofs.YtailjojebdmnnaaGreat
open Go.RowKit
attribute [local go_sem] vN bT bF rS vSg vPc vW vM vL vT2 vT3 vP vI execOp Act.eval evC bigF vB hi_zero lo_zero Tryz.underlying113 Tryz.underlying27 Tryz.underlying39
theorem step1_any (l:List Sg) (day off:Int) (i:Nat) (hL:LOk l day off) (h1:i < l.length):Ret 77 #[vPc ((sgi l i).d) ((sgi l i).b*100000000000) (jn (sgi l i).f 0 0) ((sgi l i).r*100000000000) (endS l day off i) (untS l day i)] (.bool (!stB l day off i)):=by
 have hs:=hL.seg i h1;have hE:=hL.end_bd h1;have q1:=hL.unt_day h1;have q2:=hL.unt_ge h1;have y0:=hL.y0;have y1:=hL.y1
 have c1:=cn_jn (d:=untS l day i-1) (s:=0) (a:=0) (by omega) (by omega) (by omega) (by omega) (by omega) (by omega)
 have c2:=cn_jn (d:=untS l day i) (s:=1) (a:=0) (by omega) (by omega) (by omega) (by omega) (by omega) (by omega)
 have hn1:=c1.near;have hn2:=c2.near;have b1:=fS_bd hs c1;have b2:=fS_bd hs c2;unfold Cn at c1 c2
 intro w0
 have hst:=St.start w0 (Θ:=fun _=>True) (fun _ _=>trivial)
 refine en_ Tryz.func77 hst 29 [(0,vPc ((sgi l i).d) ((sgi l i).b*100000000000) (jn (sgi l i).f 0 0) ((sgi l i).r*100000000000) (endS l day off i) (untS l day i))] (fun ac H_=>?_)
 refine gq H_ 1 [[0],[1]] [_,_] (fun E1=>[(1,vP (pb E1 0) 0)]) (W:=[{ i:=0,T:=113,c0:=[vI ((sgi l i).d),vI (hi ((sgi l i).b*100000000000)),.int .u64 (lo ((sgi l i).b*100000000000)),vI (hi (jn (sgi l i).f 0 0)),.int .u64 (lo (jn (sgi l i).f 0 0)),vI (hi (dayA)),.int .u64 (lo (dayA)),vI (hi (dayA+(sgi l i).r*100000000000)),.int .u64 (lo (dayA+(sgi l i).r*100000000000)),vI (hi ((sgi l i).r*100000000000)),.int .u64 (lo ((sgi l i).r*100000000000)),vI (hi (endS l day off i)),.int .u64 (lo (endS l day off i)),vI (untS l day i)] }]) (s:=⟨bx3 0,mv3⟩) (k:=fun E1 ac wd H_=>?_)
 refine gq H_ 7 [[0],[1],[1,2],[1,2,3],[1,2,3,4],r_ 6,[6],r_ 8] [vPc ((sgi l i).d) ((sgi l i).b*100000000000) (jn (sgi l i).f 0 0) ((sgi l i).r*100000000000) (endS l day off i) (untS l day i),_,_,vI ((untS l day i)-1),_,_,_,none] (fun E2=>[(3,vP (pb E2 6) 0)]) (W:=[{ i:=6,T:=27,c0:=[vI 0,.int .u64 0],s:=some 7,c1:=fun _=>[vI (hi (fS (sgi l i) (jn ((untS l day i)-1) 0 0))),.int .u64 (lo (fS (sgi l i) (jn ((untS l day i)-1) 0 0)))] }]) (s:=⟨ld_ 0 (hrd:=by exact rd113 rfl rfl rfl rfl rfl rfl rfl rfl rfl rfl rfl rfl rfl rfl),fa3 13,ld31 0 sh3,bi3,cl3 Tryz.func44 ((begin_any ((untS l day i)-1) (by omega) (by omega))),cl3 Tryz.func43 ((pat_any (sgi l i).d ((sgi l i).b*100000000000) (jn (sgi l i).f 0 0) ((sgi l i).r*100000000000) (endS l day off i) (untS l day i) (jn ((untS l day i)-1) 0 0) hs.pc hn1)),al_ 1,sw3 1 6 sh27⟩) (k:=fun E2 ac wd H_=>?_)
 refine gq H_ 7 [[0],[1],[1,2],[1,2,3],[1,2,3,4],r_ 6,[6],r_ 8] [vPc ((sgi l i).d) ((sgi l i).b*100000000000) (jn (sgi l i).f 0 0) ((sgi l i).r*100000000000) (endS l day off i) (untS l day i),_,_,vL (untS l day i) 1 0,_,_,_,none] (fun E3=>[(4,vP (pb E3 6) 0)]) (W:=[{ i:=6,T:=27,c0:=[vI 0,.int .u64 0],s:=some 7,c1:=fun _=>[vI (hi (fS (sgi l i) (jn (untS l day i) 1 0))),.int .u64 (lo (fS (sgi l i) (jn (untS l day i) 1 0)))] }]) (s:=⟨ld_ 0 (hrd:=by exact rd113 rfl rfl rfl rfl rfl rfl rfl rfl rfl rfl rfl rfl rfl rfl),fa3 13,ld31 0 sh3,bd32,cl3 Tryz.func45 ((rcount_any (untS l day i) 1 0 (by omega) (by omega) (by omega) (by omega) (by omega) (by omega))),cl3 Tryz.func43 ((pat_any (sgi l i).d ((sgi l i).b*100000000000) (jn (sgi l i).f 0 0) ((sgi l i).r*100000000000) (endS l day off i) (untS l day i) (jn (untS l day i) 1 0) hs.pc hn2)),al_ 2,sw3 2 6 sh27⟩) (k:=fun E3 ac wd H_=>?_)
 by_cases hV:endS l day off i≤fS (sgi l i) (jn (untS l day i-1) 0 0)
 refine gq1 H_ 12 [[0],[0,1],[2],r_ 4,r_ 5,r_ 6,r_ 7,r_ 8,r_ 6++[8],r_ 10,r_ 11,r_ 12,r_ 13] [_,_,_,_,bT,_,_,_,_,_,_,bT,_] (fun _=>[(2,bT)]) (s:=⟨fa3 11,ld3b 0 sh27,ld3b 1 sh27,cl3 Tryz.func33 ((wcmpZ (endS l day off i) (fS (sgi l i) (jn ((untS l day i)-1) 0 0)) (by unfold InW;omega) (by unfold InW;omega))),bi3 (h:=by intro env w;(first | (simp [go_sem,cmpZ_le,cmpZ_lt,cmpZ_ge,cmpZ_gt,hV];done) | (simp [go_sem,cmpZ_le,cmpZ_lt,cmpZ_ge,cmpZ_gt];omega))),mv3,off_,off_,off_,off_,off_,pk3,mv3⟩) (k:=fun E4 ac wd H_=>?_)
 refine lvT3 Tryz.results77 H_ ?_
 have hres:stB l day off i=false:=by simp [stB];omega
 exact ⟨by rw [hres];rfl,H_.st.below⟩
 by_cases hW:fS (sgi l i) (jn (untS l day i) 1 0) < endS l day off i
 refine gq1 H_ 12 [[0],[0,1],[2],r_ 4,r_ 5,r_ 6,r_ 7,r_ 8,r_ 6++[8],r_ 10,r_ 11,r_ 12,r_ 13] [_,_,_,_,bF,_,_,_,_,_,bT,bT,_] (fun _=>[(2,bT)]) (s:=⟨fa3 11,ld3b 0 sh27,ld3b 1 sh27,cl3 Tryz.func33 ((wcmpZ (endS l day off i) (fS (sgi l i) (jn ((untS l day i)-1) 0 0)) (by unfold InW;omega) (by unfold InW;omega))),bi3 (h:=by intro env w;(first | (simp [go_sem,cmpZ_le,cmpZ_lt,cmpZ_ge,cmpZ_gt,hV];done) | (simp [go_sem,cmpZ_le,cmpZ_lt,cmpZ_ge,cmpZ_gt];omega))),mv3,fa3 11,ld3b 0 sh27,ld3b 2 sh27,cl3 Tryz.func33 ((wcmpZ (endS l day off i) (fS (sgi l i) (jn (untS l day i) 1 0)) (by unfold InW;omega) (by unfold InW;omega))),bi3 (h:=by intro env w;(first | (simp [go_sem,cmpZ_le,cmpZ_lt,cmpZ_ge,cmpZ_gt,hW];done) | (simp [go_sem,cmpZ_le,cmpZ_lt,cmpZ_ge,cmpZ_gt];omega))),pk3 (h:=by intro env w;(first | (simp [go_sem,cmpZ_le,cmpZ_lt,cmpZ_ge,cmpZ_gt,hW];done) | (simp [go_sem,cmpZ_le,cmpZ_lt,cmpZ_ge,cmpZ_gt];omega))),mv3⟩) (k:=fun E4 ac wd H_=>?_)
 refine lvT3 Tryz.results77 H_ ?_
 have hres:stB l day off i=false:=by simp [stB];omega
 exact ⟨by rw [hres];rfl,H_.st.below⟩
 refine gq1 H_ 12 [[0],[0,1],[2],r_ 4,r_ 5,r_ 6,r_ 7,r_ 8,r_ 6++[8],r_ 10,r_ 11,r_ 12,r_ 13] [_,_,_,_,bF,_,_,_,_,_,bF,bF,_] (fun _=>[(2,bF)]) (s:=⟨fa3 11,ld3b 0 sh27,ld3b 1 sh27,cl3 Tryz.func33 ((wcmpZ (endS l day off i) (fS (sgi l i) (jn ((untS l day i)-1) 0 0)) (by unfold InW;omega) (by unfold InW;omega))),bi3 (h:=by intro env w;(first | (simp [go_sem,cmpZ_le,cmpZ_lt,cmpZ_ge,cmpZ_gt,hV];done) | (simp [go_sem,cmpZ_le,cmpZ_lt,cmpZ_ge,cmpZ_gt];omega))),mv3,fa3 11,ld3b 0 sh27,ld3b 2 sh27,cl3 Tryz.func33 ((wcmpZ (endS l day off i) (fS (sgi l i) (jn (untS l day i) 1 0)) (by unfold InW;omega) (by unfold InW;omega))),bi3 (h:=by intro env w;(first | (simp [go_sem,cmpZ_le,cmpZ_lt,cmpZ_ge,cmpZ_gt,hW];done) | (simp [go_sem,cmpZ_le,cmpZ_lt,cmpZ_ge,cmpZ_gt];omega))),pk3 (h:=by intro env w;(first | (simp [go_sem,cmpZ_le,cmpZ_lt,cmpZ_ge,cmpZ_gt,hW];done) | (simp [go_sem,cmpZ_le,cmpZ_lt,cmpZ_ge,cmpZ_gt];omega))),mv3⟩) (k:=fun E4 ac wd H_=>?_)
 refine lvT3 Tryz.results77 H_ ?_
 have hres:stB l day off i=true:=by simp [stB];omega
 exact ⟨by rw [hres];rfl,H_.st.below⟩
end Go.Proofs.YtailjojebdmnnaaGreat
namespace Go.Proofs.YtailjojebdmnnaaGreat
open Go.RowKit
def has_ren:Go.Shelf.Ren:=⟨fun | 6=>100 | 8=>76 | n=>n,fun | 0=>0 | 3=>3 | 4=>4 | 22=>107 | 23=>113 | 25=>144 | n=>n,fun n=>n⟩
theorem has_lays:SlLaysH0.n8 Tryz.prog has_ren:={ mixed:=by kernel_rfl,f6:=⟨Tryz.f100.name,by kernel_rfl,Tryz.func100.trans (congrArg some (by kernel_rfl))⟩,f8:=⟨Tryz.f76.name,by kernel_rfl,Tryz.func76.trans (congrArg some (by kernel_rfl))⟩,t0:=Tryz.underlying0,a0:=Tryz.isAgg0,z0:=Tryz.sizeOf0,v0:=Tryz.zeroValue0,t3:=Tryz.underlying3,a3:=Tryz.isAgg3,z3:=Tryz.sizeOf3,v3:=Tryz.zeroValue3,t4:=Tryz.underlying4,a4:=Tryz.isAgg4,z4:=Tryz.sizeOf4,v4:=Tryz.zeroValue4,t22:=Tryz.underlying107,a22:=Tryz.isAgg107,z22:=Tryz.sizeOf107,v22:=Tryz.zeroValue107,t25:=Tryz.underlying144,a25:=Tryz.isAgg144,z25:=Tryz.sizeOf144,v25:=Tryz.zeroValue144 }
theorem call_step1 (args:Array Value) (w:World):(callFunc 77 args).run Tryz.prog w = .ok (.enter 77 args) w:=enters' Tryz.func77 (by kernel_rfl) rfl args w
theorem any_fin {n:Nat} (p:Nat→Bool):((List.finRange n).take n).any (fun x=>!p x.1) = !(List.range n).all p:=by
  have e:(List.finRange n).take n=List.finRange n:=List.take_of_length_le (by simp)
  rw [e,Bool.eq_iff_iff]
  simp only [List.any_eq_true,Bool.not_eq_true',List.all_eq_false,List.mem_range]
  constructor
  · rintro ⟨x,_,h⟩;exact ⟨x.1,x.2,by simp [h]⟩
  · rintro ⟨x,hx,h⟩;exact ⟨⟨x,hx⟩,List.mem_finRange _,by simpa using h⟩
theorem contains_any (w0:World) (g c:Nat) (l:List Sg) (day off:Int) (hP:PcT w0 (.slice (some ⟨g,0,none⟩) l.length c) l day off) (hL:LOk l day off) :
    Calls Tryz.prog 76 #[.slice (some ⟨g,0,none⟩) l.length c,.func (.func 77) #[] #[]] w0 fun e w'=>e = .returned (.bool (!(List.range l.length).all (stB l day off)))∧Below w0.heap.size w0 w':=by
  have n0:=hL.n0
  have n1:=hL.n1
  haveI:Inhabited (Fin l.length):=⟨⟨0,n0⟩⟩
  obtain ⟨A',c',e,h1,h2,h3⟩:=hP
  simp only [Value.slice.injEq,true_and] at e
  obtain ⟨rfl,rfl⟩:=e
  rcases h3 with h3 | ⟨b,o,cur,fz,hA,hb,hc⟩
  · omega
  simp only [Option.some.injEq,Addr.mk.injEq,and_true] at hA
  obtain ⟨rfl,rfl⟩:=hA
  have h:=AnyQ.slices_ContainsFunc (α:=Fin l.length) has_lays 14 (fun w=>Tryz.isAgg113 w) (fun w=>Tryz.sizeOf113 w) (fun x=>pcL l day off x.1) (fun x=>rfl) (fun x=>!stB l day off x.1) 77 #[] call_step1 g 0 l.length c (List.finRange l.length) w0
    (fun W x hW=>by
      have:=step1_any l day off x.1 hL x.2 W
      exact this.mono (fun e w' ⟨h1,h2⟩=>⟨h1,below_to hW h2⟩))
    (by simp) (by omega) (lt_of_some hb)
    (fun j hj i v hv=>by
      have hjl:j < l.length:=by simpa using hj
      have e1:(List.finRange l.length)[j]! = ⟨j,hjl⟩:=by
        rw [List.getElem!_eq_getElem?_getD,List.getElem?_eq_getElem hj];simp
      rw [e1] at hv
      have hi:i < 14:=(List.getElem?_eq_some_iff.1 hv).1
      have hx:=hc (j*14+i) (by omega)
      have e2:pcC l day off (j*14+i)=v:=by
        rw [pcC_at l day off j i hi,List.getD_eq_getElem?_getD,hv];rfl
      rw [e2] at hx
      rw [Nat.zero_add] at hx
      simp [World.cell?,hb,hx])
  rw [any_fin] at h
  exact h
end Go.Proofs.YtailjojebdmnnaaGreat
namespace Go.Proofs.YtailjojebdmnnaaGreat
open Go.RowKit
theorem pc_info:(Tryz.prog.info? 113).map (fun i=>(i.zero,i.size,i.bytes))=some (some (.agg #[vI 0,vI 0,.int .u64 0,vI 0,.int .u64 0,vI 0,.int .u64 0,vI 0,.int .u64 0,vI 0,.int .u64 0,vI 0,.int .u64 0,vI 0]),14,112):=by kernel_rfl
def rawP (l:List Sg) (i:Nat):List Value:=
 [vI (sgi l i).d,vI (hi ((sgi l i).b*100000000000)),.int .u64 (lo ((sgi l i).b*100000000000)),vI (hi (jn (sgi l i).f 0 0)),.int .u64 (lo (jn (sgi l i).f 0 0)),vI (hi dayA),.int .u64 (lo dayA),vI (hi (dayA+(sgi l i).r*100000000000)),.int .u64 (lo (dayA+(sgi l i).r*100000000000)),vI (hi ((sgi l i).r*100000000000)),.int .u64 (lo ((sgi l i).r*100000000000)),vI (hi 0),.int .u64 (lo 0),vI 0]
def rawC (l:List Sg) (i:Nat):Value:=(rawP l (i / 14)).getD (i % 14) undef
theorem rawC_at (l:List Sg) (j q:Nat) (hq:q < 14):rawC l (j*14+q)=(rawP l j).getD q undef:=by
 unfold rawC;rw [show (j*14+q) / 14=j by omega,show (j*14+q) % 14=q by omega]
def rawL (l:List Sg) (i:Nat):List Value:=(List.range (i*14)).map (rawC l)
theorem rawL_succ (l:List Sg) (i:Nat):rawL l (i+1)=rawL l i ++ rawP l i:=by
 unfold rawL
 rw [show (i+1)*14=i*14+14 by omega,List.range_add,List.map_append,List.map_map]
 congr 1
 apply List.ext_getElem (by rfl)
 intro q h1 h2
 have hq:q < 14:=by simpa using h1
 simp only [List.getElem_map,List.getElem_range,Function.comp_apply]
 rw [rawC_at l i q hq,List.getD_eq_getElem?_getD,List.getElem?_eq_getElem h2]
 rfl
def cellS (l:List Sg) (day off:Int) (j q:Nat):Value:=if q / 14 < j then pcC l day off q else rawC l q
def pcS (l:List Sg) (day off:Int) (j:Nat):List Value:=(List.range (l.length*14)).map (cellS l day off j)
theorem pcS_len (l:List Sg) (day off:Int) (j:Nat):(pcS l day off j).length=l.length*14:=by simp [pcS]
theorem pcS_zero (l:List Sg) (day off:Int):pcS l day off 0=rawL l l.length:=by
 unfold pcS rawL
 apply List.map_congr_left
 intro q _
 simp [cellS]
theorem cellS_get (l:List Sg) (day off:Int) (j:Nat):∀ i,i < l.length*14→(pcS l day off j)[i]? = some (cellS l day off j i):=by
 intro i hi
 simp [pcS,hi]
theorem cellS_raw (l:List Sg) (day off:Int) {j i:Nat} (h:j≤i) (q:Nat) (hq:q < 14):cellS l day off j (i*14+q)=(rawP l i).getD q undef:=by
 unfold cellS
 rw [if_neg (by omega),rawC_at l i q hq]
theorem cellS_all (l:List Sg) (day off:Int):∀ i,i < l.length*14→(pcS l day off l.length)[i]? = some (pcC l day off i):=by
 intro i hi
 rw [cellS_get l day off _ i hi]
 unfold cellS
 rw [if_pos (by omega)]
theorem set_map {m:Nat} (f:Nat→Value) (q:Nat) (v:Value):((List.range m).map f).set q v=(List.range m).map (fun i=>if i=q then v else f i):=by
  apply List.ext_getElem (by simp)
  intro i h1 h2
  simp only [List.getElem_set,List.getElem_map,List.getElem_range]
  by_cases h:q=i
  · subst h;simp
  · rw [if_neg h,if_neg (Ne.symm h)]
theorem pcS_step (l:List Sg) (day off:Int) (j:Nat):(((pcS l day off j).set (0+(j*14+13)) (vI (untS l day j))).set (0+(j*14+11)) (vI (hi (endS l day off j)))).set (0+(j*14+11)+1) (.int .u64 (lo (endS l day off j)))=pcS l day off (j+1):=by
  unfold pcS
  rw [set_map,set_map,set_map]
  apply List.map_congr_left
  intro i _
  by_cases hj:i / 14=j
  · obtain ⟨q,hq,rfl⟩:∃ q,q < 14∧i=j*14+q:=⟨i % 14,by omega,by omega⟩
    have e1:cellS l day off (j+1) (j*14+q)=(pcL l day off j).getD q undef:=by
      unfold cellS;rw [if_pos (by omega),pcC_at l day off j q hq]
    rw [e1,cellS_raw l day off (Nat.le_refl j) q hq]
    match q,hq with
    | 0,_ | 1,_ | 2,_ | 3,_ | 4,_ | 5,_ | 6,_ | 7,_ | 8,_ | 9,_ | 10,_=>rw [if_neg (by omega),if_neg (by omega),if_neg (by omega)];rfl
    | 11,_=>rw [if_neg (by omega),if_pos (by omega)];rfl
    | 12,_=>rw [if_pos (by omega)];rfl
    | 13,_=>rw [if_neg (by omega),if_neg (by omega),if_pos (by omega)];rfl
  · rw [if_neg (by omega),if_neg (by omega),if_neg (by omega)]
    unfold cellS
    by_cases h:i / 14 < j
    · rw [if_pos h,if_pos (by omega)]
    · rw [if_neg h,if_neg (by omega)]
theorem OwnK.rowP {T:TypeId} {k:Nat} {w:World} {B:Nat} {v:Value} {n:Nat} {cs:List Value} {f:Nat→Value} (hf:∀ i,i < n*k→cs[i]? = some (f i)) (hn:n≤140737488351232) (h:OwnK T k w B v n cs):RowT T w v n k f:=h.rowT hn hf
theorem OwnK.some {T:TypeId} {k:Nat} {w:World} {B:Nat} {v:Value} {n:Nat} {cs:List Value} (h:OwnK T k w B v n cs) (hn:0 < n):∃ g c,v = .slice (some ⟨g,0,none⟩) n c∧B≤g:=by
  obtain ⟨_,h2⟩:=h
  rcases h2 with ⟨_,h2⟩ | ⟨g,cap,cur,rfl,hB,_⟩
  · omega
  · exact ⟨g,cap,rfl,hB⟩
theorem take_of {ds cs:List Value} {m:Nat} (hl:ds.length=m) (h:∀ (p:Nat) (u:Value),ds[p]? = some u→cs[p]? = some u):cs.take m=ds:=by
  apply List.ext_getElem?
  intro p
  rw [List.getElem?_take]
  by_cases hp:p < m
  · rw [if_pos hp]
    have:=h p ds[p] (List.getElem?_eq_getElem (by omega))
    rw [this,List.getElem?_eq_getElem (by omega)]
  · rw [if_neg hp,List.getElem?_eq_none (by omega)]
theorem stK_int {g q n k:Nat} {T:TypeId} {ds:List Value} (hl:ds.length=n*k) (hq:q < n*k) (z:Int):∀ (cs:List Value) (w:World),(∀ (p:Nat) (u:Value),ds[p]? = some u→cs[p]? = some u)→w.heap[g]? = some (.cells cs.toArray T (0,0)) →
    ∃ (cs':List Value) (w':World),(Instr.storeAt 3 (vP g q) (vI z)).run Tryz.prog w = .ok () w'∧Put w w' g (.cells cs'.toArray T (0,0))∧cs'.length=cs.length∧cs'.take (n*k)=ds.set q (vI z):=by
  intro cs w hp hh
  have ht:=take_of hl hp
  have hu:=hp q ds[q] (List.getElem?_eq_getElem (by omega))
  obtain ⟨w',hr,hput⟩:=st3 (b:=g) (off:=q) (T0:=T) (cs:=cs) (n0:=z) hu rfl hh
  exact ⟨_,w',hr,hput,by simp,by rw [List.take_set,ht]⟩
theorem stK_wide {g q n k:Nat} {T:TypeId} {ds:List Value} (hl:ds.length=n*k) (hq:q+1 < n*k) (z:Int):∀ (cs:List Value) (w:World),(∀ (p:Nat) (u:Value),ds[p]? = some u→cs[p]? = some u)→w.heap[g]? = some (.cells cs.toArray T (0,0)) →
    ∃ (cs':List Value) (w':World),(Instr.storeAt 27 (vP g q) (vW z)).run Tryz.prog w = .ok () w'∧Put w w' g (.cells cs'.toArray T (0,0))∧cs'.length=cs.length∧cs'.take (n*k)=(ds.set q (vI (hi z))).set (q+1) (.int .u64 (lo z)):=by
  intro cs w hp hh
  have ht:=take_of hl hp
  have hu:=hp q ds[q] (List.getElem?_eq_getElem (by omega))
  have hu2:=hp (q+1) ds[q+1] (List.getElem?_eq_getElem (by omega))
  obtain ⟨w',hr,hput⟩:=st27 (b:=g) (off:=q) (T0:=T) (cs:=cs) (n0:=hi z) (n1:=lo z) hu hu2 rfl hh
  exact ⟨_,w',hr,hput,by simp,by rw [List.take_set,List.take_set,ht]⟩
def IsRN (B:Nat) (w:World) (v:Value) (l:List Sg) (day off:Int):Prop:=∃ b g c,v=vP b 0∧RubA w b g c l day off∧B≤b∧B≤g
theorem IsRN.x {B:Nat} {w:World} {v:Value} {l:List Sg} {day off:Int} (h:IsRN B w v l day off) {ex:Option Nat} (hx:∀ k,ex=some k→k < B):IsR ex w v l day off:=by
 obtain ⟨b,g,c,e,h1,h2,h3⟩:=h
 exact ⟨b,g,c,e,h1,fun h=>by have:=hx b h;omega,fun h=>by have:=hx g h;omega⟩
end Go.Proofs.YtailjojebdmnnaaGreat
namespace Go.Proofs.YtailjojebdmnnaaGreat
open Go.RowKit
attribute [local go_sem] vN bT bF rS vSg vPc vW vM vL vT2 vT3 vP vI execOp Act.eval evC bigF vB hi_zero lo_zero elt Tryz.underlying109 Tryz.underlying111 Tryz.underlying113 Tryz.underlying39
theorem steps_any (w0:World) (b g c:Nat) (l:List Sg) (day off:Int) (hR:RubA w0 b g c l day off) (hL:LOk l day off):Calls Tryz.prog 46 #[vP b 0] w0 fun e w'=>e = .returned (.bool ((List.range l.length).all (stB l day off)))∧Below w0.heap.size w0 w':=by
 have hst:=St.start w0 (Θ:=fun _=>True) (fun _ _=>trivial)
 refine en_ Tryz.func46 hst 9 [(0,vP b 0)] (fun ac H_=>?_)
 refine gq0 H_ 0 [[0]] [_] (s:=mv3) (k:=fun E1 ac wd H_=>?_)
 refine gq1 H_ 6 (tri 7) [_,_,_,K_ (.slice ((some ⟨g,0,none⟩)) l.length c),K_ (.bool (!(List.range l.length).all (stB l day off))),K_ (.bool ((List.range l.length).all (stB l day off))),_] (fun _=>[(2,.bool ((List.range l.length).all (stB l day off)))]) (s:=⟨mv3,nc3,fa3 0,by refine s_v rfl rfl rfl rfl (fun {D env ac wd} hA=>?_);have e5:ac.tmps[5]? = some (vP b 0):=hA.g rfl;have hc:=(hR.grown hA.j.st.gr).cell;simp [go_sem,e5,hc],s_callw rfl rfl rfl Tryz.func76 (by kernel_rfl) rfl rfl (fun _=>wanted_none rfl _) (fun {D env ac wd} hA=>⟨_,(by have e6:ac.tmps[6]? = some (.slice ((some ⟨g,0,none⟩)) l.length c):=hA.g rfl;simp [Act.eval,e6]),contains_any wd g c l day off (hR.grown hA.j.st.gr).hp hL⟩),un3,mv3⟩) (k:=fun E2 ac wd H_=>?_)
 refine lvT3 Tryz.results46 H_ ?_
 exact ⟨rfl,H_.st.below⟩
theorem rNew_any (w0:World) (A0:Option Addr) (c0:Nat) (l:List Sg) (hl:SegU w0 (.slice A0 l.length c0) l) (day off:Int) (hd0:-9223372036854775808≤day) (hd1:day < 9223372036854775808):Calls Tryz.prog 19 #[.slice A0 l.length c0,vI day,vI off] w0 fun e w'=>∃ v x,e = .returned (.tuple #[v,vI x])∧Below w0.heap.size w0 w'∧(if mayS l day off=true then x=0∧IsRN w0.heap.size w' v l day off else x=10∧v = .pointer none):=by
  have hle:=RowU_le hl
  have hst:=St.start w0 (Θ:=fun _=>True) (fun _ _=>trivial)
  refine en_ Tryz.func19 hst 98 [(0,.slice A0 l.length c0),(1,vI day),(2,vI off)] (fun ac H_=>?_)
  replace H_:=H_.facts
  refine fq0 H_ 1 [[0],[0,1]] [_,_] (s:=⟨mv3,mv3⟩) (k:=fun E1 ac wd H_=>?_)
  cases hz:szL l day off
  refine fq1 H_ 4 [[0],[1],[2],r_ 4,r_ 5] [_,_,_,_,bT] (fun _=>[(18,bT)]) (s:=⟨mv3,mv3,mv3,cw3 Tryz.func41 fun wd hA=>((sizes_any wd A0 c0 l (hl.grown hA.j.st.gr) day off hd0 hd1).mono (fun e w' h=>by rw [hz] at h;exact h)),un3⟩) (k:=fun E2 ac wd H_=>?_)
  refine cT3 H_ ?_
  refine fq1 H_ 1 [[0],[0,1]] [_,_] (fun _=>[(6,.pointer none),(7,vI 10)]) (s:=⟨mv3,mv3⟩) (k:=fun E3 ac wd H_=>?_)
  refine then_n (wp_ret (then_ret ?_))
  have s6:=H_.g (t:=6) rfl
  have s7:=H_.g (t:=7) rfl
  refine leave (v:=vT2 (.pointer none) (vI 10)) H_.df (by simp [results,Tryz.results19,go_sem,Array.getD_eq_getD_getElem?,s6,s7]) ?_
  have hm:mayS l day off=false:=by simp [mayS,hz]
  exact ⟨_,_,rfl,H_.st.below,by rw [hm];exact ⟨rfl,rfl⟩⟩
  have hL:=szL_ok hz;have n0:=hL.n0;have n1:=hL.n1;have y0:=hL.y0;have y1:=hL.y1;have o0:=hL.o0;have o1:=hL.o1
  refine fq1 H_ 4 [[0],[1],[2],r_ 4,r_ 5] [_,_,_,_,bF] (fun _=>[(18,bF)]) (s:=⟨mv3,mv3,mv3,cw3 Tryz.func41 fun wd hA=>((sizes_any wd A0 c0 l (hl.grown hA.j.st.gr) day off hd0 hd1).mono (fun e w' h=>by rw [hz] at h;exact h)),un3⟩) (k:=fun E2 ac wd H_=>?_)
  refine cF3 H_ ?_
  refine fq H_ 2 (tri 3) [K_ (.agg #[.slice none 0 0]),_,_] (fun E3=>[(8,vP (pb E3 1) 0)]) (W:=[{ i:=1,T:=109,c0:=[.slice none 0 0] }]) (s:=⟨bd30,bx3 0,mv3⟩) (k:=fun E3 ac wd H_=>?_)
  refine fq1 H_ 2 [[0],[0,1],[2]] [_,vN l.length,_] (fun _=>[(21,.slice A0 l.length c0),(22,vN l.length),(23,vI 0)]) (s:=⟨mv3,ln_ Tryz.underlying85 fun _ env _ wd hA=>(hl.grown hA.j.st.gr).els,mv3⟩) (k:=fun E4 ac wd H_=>?_)
  refine lp3 (fun ac wd=>∃ (v:Value) (i:Nat),i≤l.length∧Cur 98 w0 none none (Facts []) (fun w=>OwnK 113 14 w w0.heap.size v i (rawL l i)) [(1,vI day),(2,vI off),(8,vP (pb E3 1) 0),(21,.slice A0 l.length c0),(22,vN l.length),(23,vN i)] [((pb E3 1),109,[v])] ac wd) (fun ac _=>((l.length:Int)-sI ac 23).toNat) ⟨.slice none 0 0,0,by omega,(H_.re rfl).th (fun w _=>OwnK.nil w _)⟩ ?_
  rintro ac wd ⟨v,i,hi1,H_⟩
  have hmu:sI ac 23=((i:Nat):Int):=sI_eq (H_.g (t:=23) rfl)
  by_cases h1:i < l.length
  have hs:=hL.seg i h1;have b0:=hs.b0;have b1:=hs.b1;have f0:=hs.f0;have f1:=hs.f1;have r0:=hs.r0;have r1:=hs.r1;have d0:=hs.d0;have d1:=hs.d1
  refine fq1 H_ 0 [[0]] [bT] (fun _=>[(24,bT)]) (s:=bi3) (k:=fun E6 ac wd H_=>?_)
  refine cT3 H_ ?_
  refine fq H_ 3 [[0],[0,1],[2],r_ 4] [elt (.slice A0 l.length c0) (i*4),vSg (sgi l i),_,none] (fun E7=>[(10,vP (pb E7 2) 0)]) (W:=[{ i:=2,T:=111,c0:=[vI 0,vI 0,vI 0,vI 0],s:=some 3,c1:=fun _=>[vI ((sgi l i).d),vI ((sgi l i).b),vI ((sgi l i).f),vI ((sgi l i).r)] }]) (s:=⟨ia_ Tryz.underlying85 sz111 i (i*4) ((i:Nat):Int) (fun _ env _ wd hA=>(hl.grown hA.j.st.gr).els) (rfl) (by omega) rfl,le_ (i*4) (fun _ env _ wd hA=>(hl.grown hA.j.st.gr).els) (by omega) (leGd sh111 (by exact sgC_0 l i) (by exact sgC_1 l i) (by exact sgC_2 l i) (by exact sgC_3 l i)),al_ 1,sw3 1 2 sh111⟩) (k:=fun E7 ac wd H_=>?_)
  refine fq H_ 11 [[0],[1],[1,2],[1,2,3],[1,2,3,4],[5],[5,6],[5,6,7],[1,2,3,4,5,6,7,8],r_ 10,r_ 11,r_ 12] [_,_,_,_,_,_,_,KE_ fun env=>.slice (some ⟨(pb env 7),0,none⟩) 1 1,KE_ fun env=>.slice (sA (env 8)) (i+1) (sC (env 8)),_,_,none] (fun _=>[]) (S:=[⟨0,11,fun env=>[.slice (sA (env 8)) (i+1) (sC (env 8))]⟩]) (W:=[{ i:=7,T:=113,c0:=[vI ((sgi l i).d),vI (hi ((sgi l i).b*100000000000)),.int .u64 (lo ((sgi l i).b*100000000000)),vI (hi (jn (sgi l i).f 0 0)),.int .u64 (lo (jn (sgi l i).f 0 0)),vI (hi (dayA)),.int .u64 (lo (dayA)),vI (hi (dayA+(sgi l i).r*100000000000)),.int .u64 (lo (dayA+(sgi l i).r*100000000000)),vI (hi ((sgi l i).r*100000000000)),.int .u64 (lo ((sgi l i).r*100000000000)),vI (hi (0)),.int .u64 (lo (0)),vI 0] }]) (th:=(some (8,fun env w=>OwnK 113 14 w w0.heap.size (.slice (sA (env 8)) (i+1) (sC (env 8))) (i+1) (rawL l i ++ [vI ((sgi l i).d),vI (hi ((sgi l i).b*100000000000)),.int .u64 (lo ((sgi l i).b*100000000000)),vI (hi (jn (sgi l i).f 0 0)),.int .u64 (lo (jn (sgi l i).f 0 0)),vI (hi (dayA)),.int .u64 (lo (dayA)),vI (hi (dayA+(sgi l i).r*100000000000)),.int .u64 (lo (dayA+(sgi l i).r*100000000000)),vI (hi ((sgi l i).r*100000000000)),.int .u64 (lo ((sgi l i).r*100000000000)),vI (hi (0)),.int .u64 (lo (0)),vI 0])))) (T:=fun E8=>fun w=>OwnK 113 14 w w0.heap.size (.slice (sA (E8 8)) (i+1) (sC (E8 8))) (i+1) (rawL l i ++ [vI ((sgi l i).d),vI (hi ((sgi l i).b*100000000000)),.int .u64 (lo ((sgi l i).b*100000000000)),vI (hi (jn (sgi l i).f 0 0)),.int .u64 (lo (jn (sgi l i).f 0 0)),vI (hi (dayA)),.int .u64 (lo (dayA)),vI (hi (dayA+(sgi l i).r*100000000000)),.int .u64 (lo (dayA+(sgi l i).r*100000000000)),vI (hi ((sgi l i).r*100000000000)),.int .u64 (lo ((sgi l i).r*100000000000)),vI (hi (0)),.int .u64 (lo (0)),vI 0])) (s:=⟨mv3,mv3,nc3,fa3 0,ld31 0 sh107,ld3d 1 sh111,cl3 Tryz.func42 ((cut_core (sgi l i).d (sgi l i).b (sgi l i).f (sgi l i).r d0 d1 b0 b1 f0 f1 r0 r1)),s_bsM rfl rfl 2 rfl rfl 1 rfl (fun {D env ac wd} hA=>by have e33:ac.tmps[33]? = some (vPc ((sgi l i).d) ((sgi l i).b*100000000000) (jn (sgi l i).f 0 0) ((sgi l i).r*100000000000) 0 0):=hA.g rfl;simp [go_sem,e33,Tryz.underlying107]),s_appS rfl rfl rfl rfl Tryz.underlying107 pc_info rfl (by omega) (by omega) rfl rfl (fun _ _ h=>by cases h) rfl (fun _ h=>h) [vI ((sgi l i).d),vI (hi ((sgi l i).b*100000000000)),.int .u64 (lo ((sgi l i).b*100000000000)),vI (hi (jn (sgi l i).f 0 0)),.int .u64 (lo (jn (sgi l i).f 0 0)),vI (hi (dayA)),.int .u64 (lo (dayA)),vI (hi (dayA+(sgi l i).r*100000000000)),.int .u64 (lo (dayA+(sgi l i).r*100000000000)),vI (hi ((sgi l i).r*100000000000)),.int .u64 (lo ((sgi l i).r*100000000000)),vI (hi (0)),.int .u64 (lo (0)),vI 0] rfl (by simp [Value.oneCell']) rfl (by omega) 7 2 rfl rfl rfl rfl rfl (fun _=>rfl) (fun hA=>hA.e rfl),nc3,fa3 0,se3 0 sh107⟩) (k:=fun E8 ac wd H_=>?_)
  refine fq1 H_ 1 [[0],[0,1]] [vI (((i:Nat):Int)+1),_] (fun _=>[(23,vI (((i:Nat):Int)+1))]) (s:=⟨bi3,mv3⟩) (k:=fun E9 ac wd H_=>?_)
  refine then_n ?_
  exact ⟨⟨.slice (sA (E8 8)) (i+1) (sC (E8 8)),i+1,by omega,((H_.take (M1:=[_]) rfl).re rfl).th (fun w hw=>by rw [rawL_succ];exact hw)⟩,by rw [sI_eq (H_.g (t:=23) rfl),hmu];omega⟩
  obtain rfl:i=l.length:=by omega
  refine fq1 H_ 0 [[0]] [bF] (fun _=>[(24,bF)]) (s:=bi3) (k:=fun E6 ac wd H_=>?_)
  refine cF3 H_ ?_
  obtain ⟨g,c,rfl,hgB⟩:=OwnK.some H_.st.nowT n0
  replace H_:=Cur.exInK H_ (fun _ h=>h)
  rw [← pcS_zero l day off] at H_
  refine fq1 H_ 5 (tri 5++[[5]]) [_,_,_,_,vN l.length,_] (fun _=>[(43,vN l.length),(44,vI 0)]) (s:=⟨mv3,nc3,fa3 0,ld31 0 sh107,ln_ Tryz.underlying107 fun _ env _ wd hA=>(OwnK.rowP (cellS_get l day off 0) (by omega) (hA.thO rfl)).els,mv3⟩) (k:=fun E7 ac wd H_=>?_)
  refine lp3 (fun ac wd=>∃ j:Nat,j≤l.length∧Cur 98 w0 none (some g) (Facts []) (fun w=>OwnK 113 14 w w0.heap.size (.slice (some ⟨g,0,none⟩) l.length c) l.length (pcS l day off j)) [(1,vI day),(2,vI off),(8,vP (pb E3 1) 0),(43,vN l.length),(44,vN j)] [((pb E3 1),109,[.slice ((some ⟨g,0,none⟩)) l.length c])] ac wd) (fun ac _=>((l.length:Int)-sI ac 44).toNat) ⟨0,by omega,(H_.re rfl).th (fun _ h=>h)⟩ ?_
  rintro ac wd ⟨j,hj1,H_⟩
  have hmu:sI ac 44=((j:Nat):Int):=sI_eq (H_.g (t:=44) rfl)
  by_cases h1:j < l.length
  refine fq1 H_ 0 [[0]] [bT] (fun _=>[(45,bT)]) (s:=bi3) (k:=fun E9 ac wd H_=>?_)
  refine cT3 H_ ?_
  refine fq1 H_ 1 [[0],[0,1]] [_,_] (fun _=>[(11,vN j)]) (s:=⟨mv3,mv3⟩) (k:=fun E10 ac wd H_=>?_)
  refine fq1 H_ 6 (tri 4++[[4],r_ 6,r_ 7]) [_,_,_,_,_,elt (.slice ((some ⟨g,0,none⟩)) l.length c) (j*14),_] (fun _=>[(12,elt (.slice ((some ⟨g,0,none⟩)) l.length c) (j*14))]) (s:=⟨mv3,nc3,fa3 0,ld31 0 sh107,mv3,ia_ Tryz.underlying107 sz113 j (j*14) ((j:Nat):Int) (fun _ env _ wd hA=>(OwnK.rowP (cellS_get l day off j) (by omega) (hA.thO rfl)).els) (rfl) (by omega) rfl,mv3⟩) (k:=fun E11 ac wd H_=>?_)
  by_cases h2:j+1 < l.length
  have hs:=hL.seg (j+1) h2;have d0:=hs.d0;have d1:=hs.d1;have hcn:Cn (jn (sgi l (j+1)).d 0 0):=cn_jn (by omega) (by omega) (by omega) (by omega) (by omega) (by omega);have hnr:=hcn.near;have eU:untS l day j=(sgi l (j+1)).d:=(by unfold untS;rw [if_pos h2]);have eE:endS l day off j=fS (sgi l (j+1)) (jn (sgi l (j+1)).d 0 0):=(by unfold endS;rw [if_pos h2])
  refine fq1 H_ 7 [[0],[0,1],[2],[2,3],[2,3,4],[2,3,4,5],[2,3,4,5,6],r_ 8] [_,vI (((j:Nat):Int)+1),_,_,_,_,vN l.length,bT] (fun _=>[(60,bT)]) (s:=⟨mv3,bi3,mv3,nc3,fa3 0,ld31 0 sh107,ln_ Tryz.underlying107 fun _ env _ wd hA=>(OwnK.rowP (cellS_get l day off j) (by omega) (hA.thO rfl)).els,bi3⟩) (k:=fun E12 ac wd H_=>?_)
  refine cT3 H_ ?_
  refine fq H_ 9 (tri 4++[[4],[4,5],r_ 7,r_ 8,[8],r_ 10]) [_,_,_,_,_,vI (((j:Nat):Int)+1),elt (.slice ((some ⟨g,0,none⟩)) l.length c) ((j+1)*14),vPc ((sgi l (j+1)).d) ((sgi l (j+1)).b*100000000000) (jn (sgi l (j+1)).f 0 0) ((sgi l (j+1)).r*100000000000) 0 0,_,none] (fun E13=>[(13,vP (pb E13 8) 0)]) (W:=[{ i:=8,T:=113,c0:=[vI 0,vI 0,.int .u64 0,vI 0,.int .u64 0,vI 0,.int .u64 0,vI 0,.int .u64 0,vI 0,.int .u64 0,vI 0,.int .u64 0,vI 0],s:=some 9,c1:=fun _=>[vI ((sgi l (j+1)).d),vI (hi ((sgi l (j+1)).b*100000000000)),.int .u64 (lo ((sgi l (j+1)).b*100000000000)),vI (hi (jn (sgi l (j+1)).f 0 0)),.int .u64 (lo (jn (sgi l (j+1)).f 0 0)),vI (hi (dayA)),.int .u64 (lo (dayA)),vI (hi (dayA+(sgi l (j+1)).r*100000000000)),.int .u64 (lo (dayA+(sgi l (j+1)).r*100000000000)),vI (hi ((sgi l (j+1)).r*100000000000)),.int .u64 (lo ((sgi l (j+1)).r*100000000000)),vI (hi (0)),.int .u64 (lo (0)),vI 0] }]) (s:=⟨mv3,nc3,fa3 0,ld31 0 sh107,mv3,bi3,ia_ Tryz.underlying107 sz113 (j+1) ((j+1)*14) (((j:Nat):Int)+1) (fun _ env _ wd hA=>(OwnK.rowP (cellS_get l day off j) (by omega) (hA.thO rfl)).els) (by omega) (by omega) rfl,le_ ((j+1)*14) (fun _ env _ wd hA=>(OwnK.rowP (cellS_get l day off j) (by omega) (hA.thO rfl)).els) (by omega) (leGn sh113 (by exact cellS_raw l day off (j:=j) (i:=(j+1)) (by omega) 0 (by omega)) (by exact cellS_raw l day off (j:=j) (i:=(j+1)) (by omega) 1 (by omega)) (by exact cellS_raw l day off (j:=j) (i:=(j+1)) (by omega) 2 (by omega)) (by exact cellS_raw l day off (j:=j) (i:=(j+1)) (by omega) 3 (by omega)) (by exact cellS_raw l day off (j:=j) (i:=(j+1)) (by omega) 4 (by omega)) (by exact cellS_raw l day off (j:=j) (i:=(j+1)) (by omega) 5 (by omega)) (by exact cellS_raw l day off (j:=j) (i:=(j+1)) (by omega) 6 (by omega)) (by exact cellS_raw l day off (j:=j) (i:=(j+1)) (by omega) 7 (by omega)) (by exact cellS_raw l day off (j:=j) (i:=(j+1)) (by omega) 8 (by omega)) (by exact cellS_raw l day off (j:=j) (i:=(j+1)) (by omega) 9 (by omega)) (by exact cellS_raw l day off (j:=j) (i:=(j+1)) (by omega) 10 (by omega)) (by exact cellS_raw l day off (j:=j) (i:=(j+1)) (by omega) 11 (by omega)) (by exact cellS_raw l day off (j:=j) (i:=(j+1)) (by omega) 12 (by omega)) (by exact cellS_raw l day off (j:=j) (i:=(j+1)) (by omega) 13 (by omega))),al_ 1,sw3 1 8 sh113⟩) (k:=fun E13 ac wd H_=>?_)
  refine then_n (wp_seq ?_)
  refine reg_cut mixed 12 [[0],[1],[2],[2,3],[4],[5],[5,6],[5,6,7],[4,5,6,7,8],[0,2,3,4,5,6,7,8,9],[0,2,3,4,5,6,7,8,9,10],[0,2,3,4,5,6,7,8,9,10,11],[0,1,2,3,4,5,6,7,8,9,10,11,12],[0,1,2,3,4,5,6,7,8,9,10,11,12,13],[0,1,2,3,4,5,6,7,8,9,10,11,12,13,14]] (by kernel_rfl) H_ [some 69,some 70,some 71,some 72,some 73,some 74,some 75,some 76,some 77,some 78,some 79,none] [[0],[1],[2],[2,3],[4],[5],[5,6],[5,6,7],[4,5,6,7,8],[0,2,3,4,5,6,7,8,9],[0,2,3,4,5,6,7,8,9,10],[0,2,3,4,5,6,7,8,9,10,11]] [] [] [some fun _=>elt (.slice ((some ⟨g,0,none⟩)) l.length c) (j*14),some fun _=>elt (.slice ((some ⟨g,0,none⟩)) l.length c) (j*14),some fun _=>vP (pb E13 8) 0,some fun _=>vI ((sgi l (j+1)).d),some fun _=>vPc ((sgi l (j+1)).d) ((sgi l (j+1)).b*100000000000) (jn (sgi l (j+1)).f 0 0) ((sgi l (j+1)).r*100000000000) 0 0,some fun _=>vP (pb E13 8) 0,some fun _=>vI ((sgi l (j+1)).d),some fun _=>vW (jn ((sgi l (j+1)).d) 0 0),some fun _=>vW (fS (sgi l (j+1)) (jn (sgi l (j+1)).d 0 0)),some fun _=>elt (.slice ((some ⟨g,0,none⟩)) l.length c) (j*14),some fun _=>elt (.slice ((some ⟨g,0,none⟩)) l.length c) (j*14+13),none] [] (some (11,fun _ w=>OwnK 113 14 w w0.heap.size (.slice ((some ⟨g,0,none⟩)) l.length c) l.length ((pcS l day off j).set (0+(j*14+13)) (vI ((sgi l (j+1)).d))))) rfl (by kernel_rfl) (by kernel_rfl) (sn (sn (sn (sn (sn (sn (sn (sn (sn (sn (sn (sn s0 ?_) ?_) ?_) ?_) ?_) ?_) ?_) ?_) ?_) ?_) ?_) ?_) ?_
  · exact mv3
  · exact mv3
  · exact (fa3 0)
  · exact (ld31 1 sh3)
  · exact (ld_ 1 (hrd:=by exact rd113 rfl rfl rfl rfl rfl rfl rfl rfl rfl rfl rfl rfl rfl rfl))
  · exact (fa3 0)
  · exact (ld31 1 sh3)
  · exact (cl3 Tryz.func44 ((begin_any ((sgi l (j+1)).d) (by omega) (by omega))))
  · exact (cl3 Tryz.func43 ((pat_any (sgi l (j+1)).d ((sgi l (j+1)).b*100000000000) (jn (sgi l (j+1)).f 0 0) ((sgi l (j+1)).r*100000000000) 0 0 (jn (sgi l (j+1)).d 0 0) hs.pc hnr)))
  · exact nc3
  · exact s_fa rfl rfl rfl (fun _=>wanted_none rfl _) (j*14) 13 (j*14+13) rfl (s:=fun _=>.slice ((some ⟨g,0,none⟩)) l.length c) rfl (fun _=>rfl) (fun {D env ac wd} hA=>OwnK.elsX (hA.thO rfl)) (by omega) (fun b q w=>by simp [go_sem,Tryz.underlying113])
  · exact s_srK rfl rfl rfl rfl rfl rfl rfl (fun _ h=>h) (0+(j*14+13)) rfl (fun _=>rfl) (fun _=>rfl) (by simp) (stK_int (by simp [pcS_len]) (by omega) ((sgi l (j+1)).d))
  intro E14 ac wd hJ
  have H_:Cur 98 w0 none (some g) (Facts []) (fun w=>OwnK 113 14 w w0.heap.size (.slice ((some ⟨g,0,none⟩)) l.length c) l.length ((pcS l day off j).set (0+(j*14+13)) (vI ((sgi l (j+1)).d)))) [(1,vI day),(2,vI off),(8,vP (pb E3 1) 0),(43,vI ((l.length:Int))),(44,vI (((j:Nat):Int))),(70,elt (.slice ((some ⟨g,0,none⟩)) l.length c) (j*14)),(77,vW (fS (sgi l (j+1)) (jn (sgi l (j+1)).d 0 0)))] [((pb E3 1),109,[.slice ((some ⟨g,0,none⟩)) l.length c]),((pb E13 8),113,[vI ((sgi l (j+1)).d),vI (hi ((sgi l (j+1)).b*100000000000)),.int .u64 (lo ((sgi l (j+1)).b*100000000000)),vI (hi (jn (sgi l (j+1)).f 0 0)),.int .u64 (lo (jn (sgi l (j+1)).f 0 0)),vI (hi (dayA)),.int .u64 (lo (dayA)),vI (hi (dayA+(sgi l (j+1)).r*100000000000)),.int .u64 (lo (dayA+(sgi l (j+1)).r*100000000000)),vI (hi ((sgi l (j+1)).r*100000000000)),.int .u64 (lo ((sgi l (j+1)).r*100000000000)),vI (hi (0)),.int .u64 (lo (0)),vI 0])] ac wd:=hJ.curF rfl rfl rfl (fun _ h=>h) rfl rfl rfl
  clear hJ
  refine reg_rest H_ [some 80,some 81,none] [[0],[0,1],[0,1,2]] [] [] [some fun _=>elt (.slice ((some ⟨g,0,none⟩)) l.length c) (j*14),some fun _=>elt (.slice ((some ⟨g,0,none⟩)) l.length c) (j*14+11),none] [] (some (2,fun _ w=>OwnK 113 14 w w0.heap.size (.slice ((some ⟨g,0,none⟩)) l.length c) l.length ((((pcS l day off j).set (0+(j*14+13)) (vI ((sgi l (j+1)).d))).set (0+(j*14+11)) (vI (hi (fS (sgi l (j+1)) (jn (sgi l (j+1)).d 0 0))))).set ((0+(j*14+11))+1) (.int .u64 (lo (fS (sgi l (j+1)) (jn (sgi l (j+1)).d 0 0))))))) rfl (by kernel_rfl) (by kernel_rfl) (by kernel_rfl) (sn (sn (sn s0 ?_) ?_) ?_) ?_
  · exact nc3
  · exact s_fa rfl rfl rfl (fun _=>wanted_none rfl _) (j*14) 11 (j*14+11) rfl (s:=fun _=>.slice ((some ⟨g,0,none⟩)) l.length c) rfl (fun _=>rfl) (fun {D env ac wd} hA=>OwnK.elsX (hA.thO rfl)) (by omega) (fun b q w=>by simp [go_sem,Tryz.underlying113])
  · exact s_srK rfl rfl rfl rfl rfl rfl rfl (fun _ h=>h) (0+(j*14+11)) rfl (fun _=>rfl) (fun _=>rfl) (by simp) (stK_wide (by simp [pcS_len]) (by omega) (fS (sgi l (j+1)) (jn (sgi l (j+1)).d 0 0)))
  intro E15 ac wd hJ
  have H_:Cur 98 w0 none (some g) (Facts []) (fun w=>OwnK 113 14 w w0.heap.size (.slice ((some ⟨g,0,none⟩)) l.length c) l.length ((((pcS l day off j).set (0+(j*14+13)) (vI ((sgi l (j+1)).d))).set (0+(j*14+11)) (vI (hi (fS (sgi l (j+1)) (jn (sgi l (j+1)).d 0 0))))).set ((0+(j*14+11))+1) (.int .u64 (lo (fS (sgi l (j+1)) (jn (sgi l (j+1)).d 0 0)))))) [(1,vI day),(2,vI off),(8,vP (pb E3 1) 0),(43,vI ((l.length:Int))),(44,vI (((j:Nat):Int)))] [((pb E3 1),109,[.slice ((some ⟨g,0,none⟩)) l.length c]),((pb E13 8),113,[vI ((sgi l (j+1)).d),vI (hi ((sgi l (j+1)).b*100000000000)),.int .u64 (lo ((sgi l (j+1)).b*100000000000)),vI (hi (jn (sgi l (j+1)).f 0 0)),.int .u64 (lo (jn (sgi l (j+1)).f 0 0)),vI (hi (dayA)),.int .u64 (lo (dayA)),vI (hi (dayA+(sgi l (j+1)).r*100000000000)),.int .u64 (lo (dayA+(sgi l (j+1)).r*100000000000)),vI (hi ((sgi l (j+1)).r*100000000000)),.int .u64 (lo ((sgi l (j+1)).r*100000000000)),vI (hi (0)),.int .u64 (lo (0)),vI 0])] ac wd:=hJ.curF rfl rfl rfl (fun _ h=>h) rfl rfl rfl
  clear hJ
  refine fq1 H_ 1 [[0],[0,1]] [vI (((j:Nat):Int)+1),_] (fun _=>[(44,vI (((j:Nat):Int)+1))]) (s:=⟨bi3,mv3⟩) (k:=fun E16 ac wd H_=>?_)
  refine then_n ?_
  exact ⟨⟨j+1,by omega,((H_.take (M1:=[_]) rfl).re rfl).th (fun w hw=>by rw [← pcS_step,eU,eE];exact hw)⟩,by rw [sI_eq (H_.g (t:=44) rfl),hmu];omega⟩
  have eU:untS l day j=day:=(by unfold untS;rw [if_neg h2]);have eE:endS l day off j=jn day off 0:=(by unfold endS;rw [if_neg h2])
  refine fq1 H_ 7 [[0],[0,1],[2],[2,3],[2,3,4],[2,3,4,5],[2,3,4,5,6],r_ 8] [_,vI (((j:Nat):Int)+1),_,_,_,_,vN l.length,bF] (fun _=>[(60,bF)]) (s:=⟨mv3,bi3,mv3,nc3,fa3 0,ld31 0 sh107,ln_ Tryz.underlying107 fun _ env _ wd hA=>(OwnK.rowP (cellS_get l day off j) (by omega) (hA.thO rfl)).els,bi3⟩) (k:=fun E12 ac wd H_=>?_)
  refine cF3 H_ ?_
  refine wp_skip (then_n ?_)
  refine reg_cut mixed 10 [[0],[1],[2],[3],[4],[3,4,5],[3,4,5,6],[0,2,3,4,5,6,7],[0,2,3,4,5,6,7,8],[0,2,3,4,5,6,7,8,9],[0,1,2,3,4,5,6,7,8,9,10],[0,1,2,3,4,5,6,7,8,9,10,11],[0,1,2,3,4,5,6,7,8,9,10,11,12]] (by kernel_rfl) H_ [some 82,some 83,some 84,some 85,some 86,some 87,some 88,some 89,some 90,none] [[0],[1],[2],[3],[4],[3,4,5],[3,4,5,6],[0,2,3,4,5,6,7],[0,2,3,4,5,6,7,8],[0,2,3,4,5,6,7,8,9]] [] [] [some fun _=>elt (.slice ((some ⟨g,0,none⟩)) l.length c) (j*14),some fun _=>elt (.slice ((some ⟨g,0,none⟩)) l.length c) (j*14),some fun _=>vI day,some fun _=>vI day,some fun _=>vI off,some fun _=>vL day off 0,some fun _=>vW (jn day off 0),some fun _=>elt (.slice ((some ⟨g,0,none⟩)) l.length c) (j*14),some fun _=>elt (.slice ((some ⟨g,0,none⟩)) l.length c) (j*14+13),none] [] (some (9,fun _ w=>OwnK 113 14 w w0.heap.size (.slice ((some ⟨g,0,none⟩)) l.length c) l.length ((pcS l day off j).set (0+(j*14+13)) (vI day)))) rfl (by kernel_rfl) (by kernel_rfl) (sn (sn (sn (sn (sn (sn (sn (sn (sn (sn s0 ?_) ?_) ?_) ?_) ?_) ?_) ?_) ?_) ?_) ?_) ?_
  · exact mv3
  · exact mv3
  · exact mv3
  · exact mv3
  · exact mv3
  · exact bd32
  · exact (cl3 Tryz.func45 ((rcount_any day off 0 (by omega) (by omega) (by omega) (by omega) (by omega) (by omega))))
  · exact nc3
  · exact s_fa rfl rfl rfl (fun _=>wanted_none rfl _) (j*14) 13 (j*14+13) rfl (s:=fun _=>.slice ((some ⟨g,0,none⟩)) l.length c) rfl (fun _=>rfl) (fun {D env ac wd} hA=>OwnK.elsX (hA.thO rfl)) (by omega) (fun b q w=>by simp [go_sem,Tryz.underlying113])
  · exact s_srK rfl rfl rfl rfl rfl rfl rfl (fun _ h=>h) (0+(j*14+13)) rfl (fun _=>rfl) (fun _=>rfl) (by simp) (stK_int (by simp [pcS_len]) (by omega) day)
  intro E13 ac wd hJ
  have H_:Cur 98 w0 none (some g) (Facts []) (fun w=>OwnK 113 14 w w0.heap.size (.slice ((some ⟨g,0,none⟩)) l.length c) l.length ((pcS l day off j).set (0+(j*14+13)) (vI day))) [(1,vI day),(2,vI off),(8,vP (pb E3 1) 0),(43,vI ((l.length:Int))),(44,vI (((j:Nat):Int))),(83,elt (.slice ((some ⟨g,0,none⟩)) l.length c) (j*14)),(88,vW (jn day off 0))] [((pb E3 1),109,[.slice ((some ⟨g,0,none⟩)) l.length c])] ac wd:=hJ.curF rfl rfl rfl (fun _ h=>h) rfl rfl rfl
  clear hJ
  refine reg_rest H_ [some 91,some 92,none] [[0],[0,1],[0,1,2]] [] [] [some fun _=>elt (.slice ((some ⟨g,0,none⟩)) l.length c) (j*14),some fun _=>elt (.slice ((some ⟨g,0,none⟩)) l.length c) (j*14+11),none] [] (some (2,fun _ w=>OwnK 113 14 w w0.heap.size (.slice ((some ⟨g,0,none⟩)) l.length c) l.length ((((pcS l day off j).set (0+(j*14+13)) (vI day)).set (0+(j*14+11)) (vI (hi (jn day off 0)))).set ((0+(j*14+11))+1) (.int .u64 (lo (jn day off 0)))))) rfl (by kernel_rfl) (by kernel_rfl) (by kernel_rfl) (sn (sn (sn s0 ?_) ?_) ?_) ?_
  · exact nc3
  · exact s_fa rfl rfl rfl (fun _=>wanted_none rfl _) (j*14) 11 (j*14+11) rfl (s:=fun _=>.slice ((some ⟨g,0,none⟩)) l.length c) rfl (fun _=>rfl) (fun {D env ac wd} hA=>OwnK.elsX (hA.thO rfl)) (by omega) (fun b q w=>by simp [go_sem,Tryz.underlying113])
  · exact s_srK rfl rfl rfl rfl rfl rfl rfl (fun _ h=>h) (0+(j*14+11)) rfl (fun _=>rfl) (fun _=>rfl) (by simp) (stK_wide (by simp [pcS_len]) (by omega) (jn day off 0))
  intro E14 ac wd hJ
  have H_:Cur 98 w0 none (some g) (Facts []) (fun w=>OwnK 113 14 w w0.heap.size (.slice ((some ⟨g,0,none⟩)) l.length c) l.length ((((pcS l day off j).set (0+(j*14+13)) (vI day)).set (0+(j*14+11)) (vI (hi (jn day off 0)))).set ((0+(j*14+11))+1) (.int .u64 (lo (jn day off 0))))) [(1,vI day),(2,vI off),(8,vP (pb E3 1) 0),(43,vI ((l.length:Int))),(44,vI (((j:Nat):Int)))] [((pb E3 1),109,[.slice ((some ⟨g,0,none⟩)) l.length c])] ac wd:=hJ.curF rfl rfl rfl (fun _ h=>h) rfl rfl rfl
  clear hJ
  refine fq1 H_ 1 [[0],[0,1]] [vI (((j:Nat):Int)+1),_] (fun _=>[(44,vI (((j:Nat):Int)+1))]) (s:=⟨bi3,mv3⟩) (k:=fun E15 ac wd H_=>?_)
  refine then_n ?_
  exact ⟨⟨j+1,by omega,((H_.take (M1:=[_]) rfl).re rfl).th (fun w hw=>by rw [← pcS_step,eU,eE];exact hw)⟩,by rw [sI_eq (H_.g (t:=44) rfl),hmu];omega⟩
  obtain rfl:j=l.length:=by omega
  refine fq1 H_ 0 [[0]] [bF] (fun _=>[(45,bF)]) (s:=bi3) (k:=fun E9 ac wd H_=>?_)
  refine cF3 H_ ?_
  cases hst2:(List.range l.length).all (stB l day off)
  refine fq1 H_ 2 (tri 3) [_,_,bT] (fun _=>[(96,bT)]) (s:=⟨mv3,cw3 Tryz.func46 fun wd hA=>((steps_any wd (pb E3 1) g c l day off ⟨hA.own 0 rfl rfl trivial,OwnK.rowP (cellS_all l day off) (by omega) (hA.thO rfl)⟩ hL).mono (fun e w' h=>by rw [hst2] at h;exact h)),un3⟩) (k:=fun E10 ac wd H_=>?_)
  refine cT3 H_ ?_
  refine fq1 H_ 1 [[0],[0,1]] [_,_] (fun _=>[(6,.pointer none),(7,vI 10)]) (s:=⟨mv3,mv3⟩) (k:=fun E11 ac wd H_=>?_)
  refine then_n (wp_ret (then_ret ?_))
  have s6:=H_.g (t:=6) rfl
  have s7:=H_.g (t:=7) rfl
  refine leave (v:=vT2 (.pointer none) (vI 10)) H_.df (by simp [results,Tryz.results19,go_sem,Array.getD_eq_getD_getElem?,s6,s7]) ?_
  have hm:mayS l day off=false:=by simp [mayS,hst2]
  exact ⟨_,_,rfl,H_.st.below,by rw [hm];exact ⟨rfl,rfl⟩⟩
  refine fq1 H_ 2 (tri 3) [_,_,bF] (fun _=>[(96,bF)]) (s:=⟨mv3,cw3 Tryz.func46 fun wd hA=>((steps_any wd (pb E3 1) g c l day off ⟨hA.own 0 rfl rfl trivial,OwnK.rowP (cellS_all l day off) (by omega) (hA.thO rfl)⟩ hL).mono (fun e w' h=>by rw [hst2] at h;exact h)),un3⟩) (k:=fun E10 ac wd H_=>?_)
  refine cF3 H_ ?_
  refine fq1 H_ 2 (tri 3) [_,_,_] (fun _=>[(6,vP (pb E3 1) 0),(7,vI 0)]) (s:=⟨mv3,mv3,mv3⟩) (k:=fun E11 ac wd H_=>?_)
  refine then_n (wp_ret ?_)
  have s6:=H_.g (t:=6) rfl
  have s7:=H_.g (t:=7) rfl
  refine leave (v:=vT2 (vP (pb E3 1) 0) (vI 0)) H_.df (by simp [results,Tryz.results19,go_sem,Array.getD_eq_getD_getElem?,s6,s7]) ?_
  have hm:mayS l day off=true:=by simp [mayS,hz,hst2]
  exact ⟨_,_,rfl,H_.st.below,by rw [hm];exact ⟨rfl,_,g,c,rfl,⟨(H_.st.own 0 _ rfl).2,OwnK.rowP (cellS_all l day off) (by omega) H_.st.nowT⟩,(H_.st.own 0 _ rfl).1,hgB⟩⟩
end Go.Proofs.YtailjojebdmnnaaGreat
namespace Go.Proofs.YtailjojebdmnnaaGreat
open Go.RowKit
def NewX (ex:Option Nat) (w:World) (v:Value) (l:List Sg) (day off:Int):Prop:=v = .tuple #[tp v 0,vI 0]∧IsR ex w (tp v 0) l day off
def newF (v:Value):Value:=.tuple #[vP (ptrB (tp v 0)) 0,vI 0]
theorem NewX.form {ex:Option Nat} {w:World} {v:Value} {l:List Sg} {day off:Int} (h:NewX ex w v l day off):v=newF v:=by
 unfold newF
 rw [← h.2.form]
 exact h.1
theorem NewX.keep {ex:Option Nat} {w w':World} {v:Value} {l:List Sg} {day off:Int} (h:NewX ex w v l day off) (hk:KeepT [109,113] ex w w'):NewX ex w' v l day off:=⟨h.1,h.2.keep hk⟩
theorem rNew_yes (w0:World) (A0:Option Addr) (c0:Nat) (l:List Sg) (hl:SegU w0 (.slice A0 l.length c0) l) (day off:Int) (hd0:-9223372036854775808≤day) (hd1:day < 9223372036854775808) (hm:mayS l day off=true) {ex:Option Nat} (hx:∀ k,ex=some k→k < w0.heap.size) :
    Calls Tryz.prog 19 #[.slice A0 l.length c0,vI day,vI off] w0 fun e w'=>∃ v,e = .returned v∧Below w0.heap.size w0 w'∧NewX ex w' v l day off:=by
  refine (rNew_any w0 A0 c0 l hl day off hd0 hd1).mono ?_
  rintro e w' ⟨v,x,rfl,hb,h⟩
  rw [if_pos hm] at h
  obtain ⟨rfl,h⟩:=h
  exact ⟨_,rfl,hb,rfl,h.x hx⟩
section
variable {w0:World} {ex:Option Nat} {v:Value} {l:List Sg} {day off:Int} (h:IsR ex w0 v l day off) (hL:LOk l day off)
include h hL
theorem label_X (t:Int) (ht:InW t):Calls Tryz.prog 64 #[vP (ptrB v) 0,vW t] w0 fun e w'=>e = .returned (vT2 (vL (labD l day off t) (labS l day off t) (labA l day off t)) (vI (labE l day off t)))∧Below w0.heap.size w0 w':=by
 obtain ⟨g,c,hR⟩:=h.at
 exact label_any w0 _ g c l day off hR hL t ht
end
def SegN (B:Nat) (w:World) (v:Value) (l:List Sg):Prop:=SegT w v l∧∀ b,v.ownBlock=some b→B≤b
def segF (l:List Sg) (v:Value):Value:=.slice (sA v) l.length (sC v)
theorem SegN.form {B:Nat} {w:World} {v:Value} {l:List Sg} (h:SegN B w v l):v=segF l v:=h.1.form
theorem SegN.keep {B:Nat} {w w':World} {v:Value} {l:List Sg} (h:SegN B w v l) (hk:KeepT [111] none w w'):SegN B w' v l:=⟨h.1.keep (Ts:=[111]) rfl hk (fun _ h=>by cases h),h.2⟩
theorem SegN.u {B:Nat} {w:World} {v:Value} {l:List Sg} (h:SegN B w v l):SegU w (.slice (sA v) l.length (sC v)) l:=h.1.u.re
def pubC:Array Value:=((List.range 52).map (sgC pubS)).toArray
theorem pub_new (w:World):SegN w.heap.size (w.alloc (.cells pubC 111)) (.slice (some ⟨w.heap.size,0,none⟩) 13 13) pubS:=by
  refine ⟨⟨_,13,rfl,by decide,by decide,.inr ⟨w.heap.size,0,pubC,_,rfl,heap_alloc_new w _,fun i hi=>?_⟩⟩,fun b hb=>?_⟩
  · have hi':i < 52:=by have:pubS.length=13:=rfl;omega
    simp [pubC,hi']
  · simp only [Value.ownBlock,Option.some.injEq] at hb;omega
theorem pub_new' (w:World) (c:Array Value) (hc:c=pubC):SegN w.heap.size (w.alloc (.cells c 111)) (.slice (some ⟨w.heap.size,0,none⟩) 13 13) pubS:=by subst hc;exact pub_new w
theorem segments_any (w:World):Calls Tryz.prog 20 #[] w fun e w'=>∃ v,e = .returned v∧Below w.heap.size w w'∧SegN w.heap.size w' v pubS:=by
 go_enter Tryz.func20,Tryz.ntmps20
 go_wp2
 go_ret
 exact ⟨_,rfl,(by repeat (first | exact Below.refl _ _ | assumption | refine below_al ?_ _ | refine below_dr ?_ | refine below_drN ?_ _ | refine below_set ?_ (by simp;try omega) _ | (refine below_to ?_ (by assumption)))),pub_new' w _ (by kernel_rfl)⟩
theorem pub_may:mayS pubS 41317 10=true:=by decide +kernel
theorem pub_ok:MOk pubS 41317 10:=mayS_ok pub_may
end Go.Proofs.YtailjojebdmnnaaGreat
namespace Go.Proofs.YtailjojebdmnnaaGreat
open Go.RowKit
def TaiX (B:Nat) (w:World) (v:Value) (z e:Int):Prop:=v = .tuple #[tp v 0,vI e]∧BigN B w (tp v 0) z
def taiF (z e:Int) (v:Value):Value:=.tuple #[bigF z (tp v 0),vI e]
theorem TaiX.form {B:Nat} {w:World} {v:Value} {z e:Int} (h:TaiX B w v z e):v=taiF z e v:=by
 unfold taiF
 rw [← h.2.form]
 exact h.1
theorem TaiX.keep {B:Nat} {w w':World} {v:Value} {z e:Int} (h:TaiX B w v z e) (hk:Keep none w w'):TaiX B w' v z e:=⟨h.1,h.2.keep hk⟩
section
variable {l:List Sg} {day off:Int}
end
end Go.Proofs.YtailjojebdmnnaaGreat
