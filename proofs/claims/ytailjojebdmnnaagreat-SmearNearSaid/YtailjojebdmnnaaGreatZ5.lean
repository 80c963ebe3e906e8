/- Texts E8, E9, F7, F8, L11, L12, L13, L15 of one proof, one behind the other; what nothing here names is left out. -/
import Derived.Test.YtailjojebdmnnaaGreatZ4
import Derived.Test.YtailjojebdmnnaaGreatZ3
import Derived.IntWalk
set_option maxRecDepth 100000
set_option maxHeartbeats 8000000
set_option linter.unusedVariables false
set_option linter.unusedSimpArgs false
namespace Go.Proofs.YtailjojebdmnnaaGreat
open Go.RowKit
attribute [local go_sem] vN bT bF rS vW vM vL vT2 vT3 vP vI execOp Act.eval evC bigF vB hi_zero lo_zero Tryz.underlying138 Tryz.underlying3 Tryz.underlying52
theorem Mul_any (w0:World) (p:Bool) (A0:Option Addr) (c0:Nat) (x:Int) (hp:p=decide (x < 0)) (hr:Row w0 (.slice A0 (digs x).length c0) (digs x)) (hx:Sm x) (q:Bool) (B0:Option Addr) (k0:Nat) (y:Int) (hq:q=decide (y < 0)) (hr2:Row w0 (.slice B0 (digs y).length k0) (digs y)) (hy:Sm y):Calls Tryz.prog 23 #[.agg #[.bool (p),.slice A0 ((digs x).length) c0],.agg #[.bool (q),.slice B0 ((digs y).length) k0]] w0 fun e w'=>∃ v,e = .returned v∧Below w0.heap.size w0 w'∧BigN w0.heap.size w' v (x*y):=by
  have hlx:=hx.len
  have hly:=hy.len
  have hst:=St.start w0 (Θ:=fun _=>True) (fun _ _=>trivial)
  refine en_ Tryz.func23 hst 83 [(0,.agg #[.bool (p),.slice A0 ((digs x).length) c0]),(1,.agg #[.bool (q),.slice B0 ((digs y).length) k0])] (fun ac H_=>?_)
  refine gq H_ 2 [[0],[1],[2]] [_,_,_] (fun E1=>[(2,vP (pb E1 0) 0),(3,vP (pb E1 1) 0),(4,vP (pb E1 2) 0)]) (W:=[{ i:=0,T:=52,c0:=[.bool (p),rS x A0 c0] },{ i:=1,T:=52,c0:=[.bool (q),rS y B0 k0] },{ i:=2,T:=52,c0:=[bF,.slice none 0 0] }]) (s:=⟨bx3 0,bx3 1,al_ 2⟩) (k:=fun E1 ac wd H_=>?_)
  refine gq H_ 8 [[0],[0,1],[0,1,2],[3],[3,4],[3,4,5],r_ 7,r_ 8,r_ 9] [_,_,vN ((digs x).length),_,_,vN ((digs y).length),vI (((digs x).length:Int)+((digs y).length:Int)),KE_ fun env=>.slice ((some ⟨(pb env 7),0,none⟩)) (((digs x).length+(digs y).length)) (((digs x).length+(digs y).length)),_] (fun E2=>[(5,.slice ((some ⟨(pb E2 7),0,none⟩)) (((digs x).length+(digs y).length)) (((digs x).length+(digs y).length)))]) (th:=(some (7,fun env w=>OwnR w w0.heap.size (vG (pb env 7) ((digs x).length+(digs y).length)) (List.replicate ((digs x).length+(digs y).length) 0)))) (T:=fun E2=>fun w=>OwnR w w0.heap.size (vG (pb E2 7) ((digs x).length+(digs y).length)) (List.replicate ((digs x).length+(digs y).length) 0)) (s:=⟨fa3 1,ld31 0 sh50,ln_ Tryz.underlying50 fun _ env _ wd hA=>(hr.grown hA.j.st.gr).els,fa3 1,ld31 1 sh50,ln_ Tryz.underlying50 fun _ env _ wd hA=>(hr2.grown hA.j.st.gr).els,bi3,s_mk rfl rfl rfl rfl ((digs x).length+(digs y).length) rfl rfl rfl (((digs x).length:Int)+((digs y).length:Int)) (by omega) (by omega) (fun _=>rfl) (fun _=>rfl),mv3⟩) (k:=fun E2 ac wd H_=>?_)
  obtain ⟨g,hg⟩:∃ g,g=pb E2 7:=⟨_,rfl⟩
  rw [← hg] at H_
  replace H_:=Cur.exIn H_.facts (fun _ h=>h)
  refine fq1 H_ 0 [[0]] [_] (fun _=>[(6,vI 0)]) (s:=mv3) (k:=fun E3 ac wd H_=>?_)
  refine lp3 (fun ac wd=>∃ (ds:List Int) (i:Nat),MulI (digs x) (digs y) ds i∧Cur 83 w0 none (some g) (Facts []) (fun w=>OwnR w w0.heap.size (vG g ((digs x).length+(digs y).length)) ds) [(2,vP (pb E1 0) 0),(3,vP (pb E1 1) 0),(4,vP (pb E1 2) 0),(5,.slice ((some ⟨g,0,none⟩)) (((digs x).length+(digs y).length)) (((digs x).length+(digs y).length))),(6,vN i)] [((pb E1 0),52,[.bool (p),rS x A0 c0]),((pb E1 1),52,[.bool (q),rS y B0 k0]),((pb E1 2),52,[bF,.slice none 0 0])] ac wd) (fun ac _=>(((digs x).length:Int)-sI ac 6).toNat) ⟨_,0,MulI.start _ _,(H_.re rfl).th (fun _ h=>h)⟩ ?_
  rintro ac wd ⟨ds,i,hI,H_⟩
  have hmu:sI ac 6=((i:Nat):Int):=sI_eq (H_.g (t:=6) rfl)
  have hIl:=hI.l
  have hIi:=hI.hi
  by_cases h1:i < (digs x).length
  refine fq1 H_ 4 [[0],[1],[1,2],[1,2,3],r_ 5] [_,_,_,vN ((digs x).length),bT] (fun _=>[(22,bT)]) (s:=⟨mv3,fa3 1,ld31 0 sh50,ln_ Tryz.underlying50 fun _ env _ wd hA=>(hr.grown hA.j.st.gr).els,bi3⟩) (k:=fun E5 ac wd H_=>?_)
  refine cT3 H_ ?_
  refine fq1 H_ 0 [[0]] [_] (fun _=>[(7,vI 0)]) (s:=mv3) (k:=fun E6 ac wd H_=>?_)
  refine fq1 H_ 0 [[0]] [_] (fun _=>[(8,vI 0)]) (s:=mv3) (k:=fun E7 ac wd H_=>?_)
  refine lp3 (fun ac wd=>∃ (es:List Int) (j:Nat) (cy:Int),MulJ (digs x) (digs y) ds es i j cy∧Cur 83 w0 none (some g) (Facts []) (fun w=>OwnR w w0.heap.size (vG g ((digs x).length+(digs y).length)) es) [(2,vP (pb E1 0) 0),(3,vP (pb E1 1) 0),(4,vP (pb E1 2) 0),(5,.slice ((some ⟨g,0,none⟩)) (((digs x).length+(digs y).length)) (((digs x).length+(digs y).length))),(6,vN i),(7,vI cy),(8,vN j)] [((pb E1 0),52,[.bool (p),rS x A0 c0]),((pb E1 1),52,[.bool (q),rS y B0 k0]),((pb E1 2),52,[bF,.slice none 0 0])] ac wd) (fun ac _=>(((digs y).length:Int)-sI ac 8).toNat) ⟨ds,0,0,hI.open,(H_.re rfl).th (fun _ h=>h)⟩ ?_
  rintro ac wd ⟨es,j,cy,hJ,H_⟩
  have hmv:sI ac 8=((j:Nat):Int):=sI_eq (H_.g (t:=8) rfl)
  have hJl:=hJ.l
  have hJj:=hJ.hj
  have hJ0:=hJ.c0
  have hJ1:=hJ.c1
  by_cases h2:j < (digs y).length
  refine fq1 H_ 4 [[0],[1],[1,2],[1,2,3],r_ 5] [_,_,_,vN ((digs y).length),bT] (fun _=>[(29,bT)]) (s:=⟨mv3,fa3 1,ld31 1 sh50,ln_ Tryz.underlying50 fun _ env _ wd hA=>(hr2.grown hA.j.st.gr).els,bi3⟩) (k:=fun E9 ac wd H_=>?_)
  refine cT3 H_ ?_
  obtain ⟨u,hu⟩:∃ u,u=(digs x).getD i 0:=⟨_,rfl⟩
  obtain ⟨v,hv⟩:∃ v,v=(digs y).getD j 0:=⟨_,rfl⟩
  obtain ⟨e,he⟩:∃ e,e=es.getD (i+j) 0:=⟨_,rfl⟩
  have gu:=(rg_digs x).getD i
  have gv:=(rg_digs y).getD j
  have ge:=hJ.g.getD (i+j)
  rw [← hu] at gu;rw [← hv] at gv;rw [← he] at ge
  have guv:=mul16 gu.1 gu.2 gv.1 gv.2
  refine fq1 H_ 20 [[0],[1],[2],[1,2,3],r_ 5,r_ 6,[6],[6,7],[8],[6,7,8,9],[6,7,8,9,10],[11],[11,12],[13],[11,12,13,14],[11,12,13,14,15],[6,7,8,9,10,11,12,13,14,15,16],r_ 18,[18],r_ 20,r_ 21] [_,_,_,vI (((i:Nat):Int)+((j:Nat):Int)),elt (.slice ((some ⟨g,0,none⟩)) (((digs x).length+(digs y).length)) (((digs x).length+(digs y).length))) (i+j),vI e,_,_,_,elt (rS x A0 c0) (i:Nat),vI u,_,_,_,elt (rS y B0 k0) (j:Nat),vI v,vI (u*v),vI (e+(u*v)),_,vI ((e+(u*v))+cy),_] (fun _=>[(9,vI ((e+(u*v))+cy))]) (s:=⟨mv3,mv3,mv3,bi3,ia_ Tryz.underlying50 sz3 (i+j) (i+j) (((i:Nat):Int)+((j:Nat):Int)) (fun _ env _ wd hA=>(OwnR.row (by omega) (hA.thO rfl)).els) (by omega) (by omega) (Nat.mul_one _),le_ (i+j) (fun _ env _ wd hA=>(OwnR.row (by omega) (hA.thO rfl)).els) (by omega) (leG1 sh3 (congrArg vi he.symm)),fa3 1,ld31 0 sh50,mv3,ia_ Tryz.underlying50 sz3 (i:Nat) (i:Nat) ((i:Nat):Int) (fun _ env _ wd hA=>(hr.grown hA.j.st.gr).els) (by omega) (by omega) (Nat.mul_one _),le_ (i:Nat) (fun _ env _ wd hA=>(hr.grown hA.j.st.gr).els) (by omega) (leG1 sh3 (congrArg vi hu.symm)),fa3 1,ld31 1 sh50,mv3,ia_ Tryz.underlying50 sz3 (j:Nat) (j:Nat) ((j:Nat):Int) (fun _ env _ wd hA=>(hr2.grown hA.j.st.gr).els) (by omega) (by omega) (Nat.mul_one _),le_ (j:Nat) (fun _ env _ wd hA=>(hr2.grown hA.j.st.gr).els) (by omega) (leG1 sh3 (congrArg vi hv.symm)),bi3,bi3,mv3,bi3,mv3⟩) (k:=fun E10 ac wd H_=>?_)
  refine fq H_ 7 [[0],[1],[2],[1,2,3],[4],[4,5],r_ 7,r_ 8] [_,_,_,vI (((i:Nat):Int)+((j:Nat):Int)),_,vI (((e+(u*v))+cy) % 65536),elt (.slice ((some ⟨g,0,none⟩)) (((digs x).length+(digs y).length)) (((digs x).length+(digs y).length))) (i+j),none] (fun _=>[]) (th:=(some (7,fun _ w=>OwnR w w0.heap.size (vG g ((digs x).length+(digs y).length)) (es.set (i+j) (((e+(u*v))+cy) % 65536))))) (T:=fun E11=>fun w=>OwnR w w0.heap.size (vG g ((digs x).length+(digs y).length)) (es.set (i+j) (((e+(u*v))+cy) % 65536))) (s:=⟨mv3,mv3,mv3,bi3,mv3,bi3 (h:=by intro env w;(first | (simp [go_sem];done) | (simp [go_sem];rw [Int.tmod_eq_emod_of_nonneg (by omega)];exact IntWalk.i64_in _ (by omega)) | (simp [go_sem];rw [Int.tmod_eq_emod_of_nonneg (by omega)]))),ia_ Tryz.underlying50 sz3 (i+j) (i+j) (((i:Nat):Int)+((j:Nat):Int)) (fun _ env _ wd hA=>(OwnR.row (by omega) (hA.thO rfl)).els) (by omega) (by omega) (Nat.mul_one _),s_sr rfl rfl rfl rfl rfl rfl rfl (fun _ h=>h) (i+j) (((e+(u*v))+cy) % 65536) rfl (fun _=>rfl) (fun _=>rfl) (by omega)⟩) (k:=fun E11 ac wd H_=>?_)
  refine fq1 H_ 2 (tri 3) [_,vI (((e+(u*v))+cy) / 65536),_] (fun _=>[(7,vI (((e+(u*v))+cy) / 65536))]) (s:=⟨mv3,bi3 (h:=by intro env w;(first | (simp [go_sem];done) | (simp [go_sem];rw [Int.tdiv_eq_ediv_of_nonneg (by omega)];exact IntWalk.i64_in _ (by omega)) | (simp [go_sem];rw [Int.tdiv_eq_ediv_of_nonneg (by omega)]))),mv3⟩) (k:=fun E12 ac wd H_=>?_)
  refine fq1 H_ 2 (tri 3) [_,vI (((j:Nat):Int)+1),_] (fun _=>[(8,vI (((j:Nat):Int)+1))]) (s:=⟨mv3,bi3,mv3⟩) (k:=fun E13 ac wd H_=>?_)
  refine then_n ?_
  exact ⟨⟨_,j+1,(e+u*v+cy) / 65536,hJ.step (rg_digs x) (rg_digs y) h1 h2 (by rw [hu,hv,he]),H_.re rfl⟩,by rw [sI_eq (H_.g (t:=8) rfl),hmv];omega⟩
  refine fq1 H_ 4 [[0],[1],[1,2],[1,2,3],r_ 5] [_,_,_,vN ((digs y).length),bF] (fun _=>[(29,bF)]) (s:=⟨mv3,fa3 1,ld31 1 sh50,ln_ Tryz.underlying50 fun _ env _ wd hA=>(hr2.grown hA.j.st.gr).els,bi3⟩) (k:=fun E9 ac wd H_=>?_)
  refine cF3 H_ ?_
  refine fq H_ 8 [[0],[1],[2],[2,3],[2,3,4],[1,2,3,4,5],[6],r_ 8,r_ 9] [_,_,_,_,vN ((digs y).length),vI (((i:Nat):Int)+((digs y).length:Int)),_,elt (.slice ((some ⟨g,0,none⟩)) (((digs x).length+(digs y).length)) (((digs x).length+(digs y).length))) (i+(digs y).length),none] (fun _=>[]) (th:=(some (8,fun _ w=>OwnR w w0.heap.size (vG g ((digs x).length+(digs y).length)) (es.set (i+(digs y).length) cy)))) (T:=fun E10=>fun w=>OwnR w w0.heap.size (vG g ((digs x).length+(digs y).length)) (es.set (i+(digs y).length) cy)) (s:=⟨mv3,mv3,fa3 1,ld31 1 sh50,ln_ Tryz.underlying50 fun _ env _ wd hA=>(hr2.grown hA.j.st.gr).els,bi3,mv3,ia_ Tryz.underlying50 sz3 (i+(digs y).length) (i+(digs y).length) (((i:Nat):Int)+((digs y).length:Int)) (fun _ env _ wd hA=>(OwnR.row (by omega) (hA.thO rfl)).els) (by omega) (by omega) (Nat.mul_one _),s_sr rfl rfl rfl rfl rfl rfl rfl (fun _ h=>h) (i+(digs y).length) cy rfl (fun _=>rfl) (fun _=>rfl) (by omega)⟩) (k:=fun E10 ac wd H_=>?_)
  refine fq1 H_ 2 (tri 3) [_,vI (((i:Nat):Int)+1),_] (fun _=>[(6,vI (((i:Nat):Int)+1))]) (s:=⟨mv3,bi3,mv3⟩) (k:=fun E11 ac wd H_=>?_)
  refine then_n ?_
  exact ⟨⟨_,i+1,hJ.close hI h1 (by omega),H_.re rfl⟩,by rw [sI_eq (H_.g (t:=6) rfl),hmu];omega⟩
  refine fq1 H_ 4 [[0],[1],[1,2],[1,2,3],r_ 5] [_,_,_,vN ((digs x).length),bF] (fun _=>[(22,bF)]) (s:=⟨mv3,fa3 1,ld31 0 sh50,ln_ Tryz.underlying50 fun _ env _ wd hA=>(hr.grown hA.j.st.gr).els,bi3⟩) (k:=fun E5 ac wd H_=>?_)
  refine cF3 H_ ?_
  rw [← hIl] at H_
  refine fq1 H_ 2 (tri 3) [_,_,_] (fun _=>[(5,rS (nat ds) ((some ⟨g,0,none⟩)) ds.length)]) (s:=⟨mv3,cw3 Tryz.func50 fun wd hA=>trim_core wd (some ⟨g,0,none⟩) ds.length ds (OwnR.row (by omega) (hA.thO rfl)) hI.g,mv3⟩) (k:=fun E6 ac wd H_=>?_)
  have eN:nat ds=((x*y).natAbs:Int):=by rw [hI.done (by omega),nat_digs,nat_digs,Int.natAbs_mul,Int.natCast_mul]
  have hz:x*y=0→nat ds=0:=fun e=>by rw [eN,e];rfl
  have hnz:¬ x*y=0→¬ nat ds=0:=fun e=>by rw [eN];omega
  have hdig:digs (nat ds)=digs (x*y):=by rw [eN,digs_natAbs]
  cases p
  have h11:0≤x:=by have:=of_decide_eq_false hp.symm;omega
  cases q
  have h12:0≤y:=by have:=of_decide_eq_false hq.symm;omega
  refine fq H_ 12 [[0],[0,1],[2],[2,3],r_ 5,r_ 6,r_ 7,r_ 8,r_ 9,r_ 10,[10],r_ 12,r_ 13] [_,_,_,_,bF,_,_,_,_,bF,_,K_ (.agg #[bF,rS (nat ds) ((some ⟨g,0,none⟩)) ds.length]),none] (fun _=>[]) (S:=[⟨2,12,fun _=>[bF,rS (nat ds) ((some ⟨g,0,none⟩)) ds.length]⟩]) (s:=⟨fa3 0,ld31 0 sh4,fa3 0,ld31 1 sh4,bi3,mv3,off_,off_,off_,pk3,mv3,bd32,se3 2 sh52⟩) (k:=fun E7 ac wd H_=>?_)
  refine lvC3 (v:=.agg #[.bool false,.slice ((some ⟨g,0,none⟩)) ((digs (nat ds)).length) ds.length]) Tryz.results23 H_ 2 (loadGc sh52 rfl ⟨rfl,rfl,trivial⟩) ?_
  have hT:=H_.st.nowT
  refine ⟨_,rfl,H_.exOut.st.below,BigN.mk ?_ ?_ (RowN.trim hI.g ⟨OwnR.row (by omega) hT,OwnR.new hT _⟩)⟩
  · exact (decide_eq_false (by exact sg_same (by omega))).symm
  · exact hdig
  have h12:y < 0:=of_decide_eq_true hq.symm
  by_cases h4:x*y=0
  refine fq H_ 12 [[0],[0,1],[2],[2,3],r_ 5,r_ 6,r_ 7,r_ 8,r_ 9,r_ 10,[10],r_ 12,r_ 13] [_,_,_,_,bT,_,_,vN ((digs (nat ds)).length),bF,bF,_,K_ (.agg #[bF,rS (nat ds) ((some ⟨g,0,none⟩)) ds.length]),none] (fun _=>[]) (S:=[⟨2,12,fun _=>[bF,rS (nat ds) ((some ⟨g,0,none⟩)) ds.length]⟩]) (s:=⟨fa3 0,ld31 0 sh4,fa3 0,ld31 1 sh4,bi3,mv3,gm3,ln_ Tryz.underlying50 fun _ env _ wd hA=>(Row.trim hI.g (OwnR.row (by omega) (hA.thO rfl))).els,bi3 (h:=by intro env w;have h5:digs (nat ds)=[]:=(congrArg digs (hz h4)).trans digs_zero;simp [go_sem,h5]),pk3 (h:=by intro env w;have h5:digs (nat ds)=[]:=(congrArg digs (hz h4)).trans digs_zero;simp [go_sem,h5]),mv3,bd32,se3 2 sh52⟩) (k:=fun E7 ac wd H_=>?_)
  refine lvC3 (v:=.agg #[.bool false,.slice ((some ⟨g,0,none⟩)) ((digs (nat ds)).length) ds.length]) Tryz.results23 H_ 2 (loadGc sh52 rfl ⟨rfl,rfl,trivial⟩) ?_
  have hT:=H_.st.nowT
  refine ⟨_,rfl,H_.exOut.st.below,BigN.mk ?_ ?_ (RowN.trim hI.g ⟨OwnR.row (by omega) hT,OwnR.new hT _⟩)⟩
  · exact (decide_eq_false (by have:=sg_diff (x:=x) (y:=y) (by omega);omega)).symm
  · exact hdig
  refine fq H_ 12 [[0],[0,1],[2],[2,3],r_ 5,r_ 6,r_ 7,r_ 8,r_ 9,r_ 10,[10],r_ 12,r_ 13] [_,_,_,_,bT,_,_,vN ((digs (nat ds)).length),bT,bT,_,K_ (.agg #[bT,rS (nat ds) ((some ⟨g,0,none⟩)) ds.length]),none] (fun _=>[]) (S:=[⟨2,12,fun _=>[bT,rS (nat ds) ((some ⟨g,0,none⟩)) ds.length]⟩]) (s:=⟨fa3 0,ld31 0 sh4,fa3 0,ld31 1 sh4,bi3,mv3,gm3,ln_ Tryz.underlying50 fun _ env _ wd hA=>(Row.trim hI.g (OwnR.row (by omega) (hA.thO rfl))).els,bi3 (h:=by intro env w;have h5:digs (nat ds)≠[]:=fun e=>hnz h4 (digs_nil.1 (by rw [e];rfl));first | (simp [go_sem];done) | (simp [go_sem];exact List.length_pos_iff.2 h5)),pk3 (h:=by intro env w;have h5:digs (nat ds)≠[]:=fun e=>hnz h4 (digs_nil.1 (by rw [e];rfl));first | (simp [go_sem];done) | (simp [go_sem];exact List.length_pos_iff.2 h5)),mv3,bd32,se3 2 sh52⟩) (k:=fun E7 ac wd H_=>?_)
  refine lvC3 (v:=.agg #[.bool true,.slice ((some ⟨g,0,none⟩)) ((digs (nat ds)).length) ds.length]) Tryz.results23 H_ 2 (loadGc sh52 rfl ⟨rfl,rfl,trivial⟩) ?_
  have hT:=H_.st.nowT
  refine ⟨_,rfl,H_.exOut.st.below,BigN.mk ?_ ?_ (RowN.trim hI.g ⟨OwnR.row (by omega) hT,OwnR.new hT _⟩)⟩
  · exact (decide_eq_true (by have:=sg_diff (x:=x) (y:=y) (by omega);omega)).symm
  · exact hdig
  have h11:x < 0:=of_decide_eq_true hp.symm
  cases q
  have h12:0≤y:=by have:=of_decide_eq_false hq.symm;omega
  by_cases h4:x*y=0
  refine fq H_ 12 [[0],[0,1],[2],[2,3],r_ 5,r_ 6,r_ 7,r_ 8,r_ 9,r_ 10,[10],r_ 12,r_ 13] [_,_,_,_,bT,_,_,vN ((digs (nat ds)).length),bF,bF,_,K_ (.agg #[bF,rS (nat ds) ((some ⟨g,0,none⟩)) ds.length]),none] (fun _=>[]) (S:=[⟨2,12,fun _=>[bF,rS (nat ds) ((some ⟨g,0,none⟩)) ds.length]⟩]) (s:=⟨fa3 0,ld31 0 sh4,fa3 0,ld31 1 sh4,bi3,mv3,gm3,ln_ Tryz.underlying50 fun _ env _ wd hA=>(Row.trim hI.g (OwnR.row (by omega) (hA.thO rfl))).els,bi3 (h:=by intro env w;have h5:digs (nat ds)=[]:=(congrArg digs (hz h4)).trans digs_zero;simp [go_sem,h5]),pk3 (h:=by intro env w;have h5:digs (nat ds)=[]:=(congrArg digs (hz h4)).trans digs_zero;simp [go_sem,h5]),mv3,bd32,se3 2 sh52⟩) (k:=fun E7 ac wd H_=>?_)
  refine lvC3 (v:=.agg #[.bool false,.slice ((some ⟨g,0,none⟩)) ((digs (nat ds)).length) ds.length]) Tryz.results23 H_ 2 (loadGc sh52 rfl ⟨rfl,rfl,trivial⟩) ?_
  have hT:=H_.st.nowT
  refine ⟨_,rfl,H_.exOut.st.below,BigN.mk ?_ ?_ (RowN.trim hI.g ⟨OwnR.row (by omega) hT,OwnR.new hT _⟩)⟩
  · exact (decide_eq_false (by have:=sg_diff (x:=x) (y:=y) (by omega);omega)).symm
  · exact hdig
  refine fq H_ 12 [[0],[0,1],[2],[2,3],r_ 5,r_ 6,r_ 7,r_ 8,r_ 9,r_ 10,[10],r_ 12,r_ 13] [_,_,_,_,bT,_,_,vN ((digs (nat ds)).length),bT,bT,_,K_ (.agg #[bT,rS (nat ds) ((some ⟨g,0,none⟩)) ds.length]),none] (fun _=>[]) (S:=[⟨2,12,fun _=>[bT,rS (nat ds) ((some ⟨g,0,none⟩)) ds.length]⟩]) (s:=⟨fa3 0,ld31 0 sh4,fa3 0,ld31 1 sh4,bi3,mv3,gm3,ln_ Tryz.underlying50 fun _ env _ wd hA=>(Row.trim hI.g (OwnR.row (by omega) (hA.thO rfl))).els,bi3 (h:=by intro env w;have h5:digs (nat ds)≠[]:=fun e=>hnz h4 (digs_nil.1 (by rw [e];rfl));first | (simp [go_sem];done) | (simp [go_sem];exact List.length_pos_iff.2 h5)),pk3 (h:=by intro env w;have h5:digs (nat ds)≠[]:=fun e=>hnz h4 (digs_nil.1 (by rw [e];rfl));first | (simp [go_sem];done) | (simp [go_sem];exact List.length_pos_iff.2 h5)),mv3,bd32,se3 2 sh52⟩) (k:=fun E7 ac wd H_=>?_)
  refine lvC3 (v:=.agg #[.bool true,.slice ((some ⟨g,0,none⟩)) ((digs (nat ds)).length) ds.length]) Tryz.results23 H_ 2 (loadGc sh52 rfl ⟨rfl,rfl,trivial⟩) ?_
  have hT:=H_.st.nowT
  refine ⟨_,rfl,H_.exOut.st.below,BigN.mk ?_ ?_ (RowN.trim hI.g ⟨OwnR.row (by omega) hT,OwnR.new hT _⟩)⟩
  · exact (decide_eq_true (by have:=sg_diff (x:=x) (y:=y) (by omega);omega)).symm
  · exact hdig
  have h12:y < 0:=of_decide_eq_true hq.symm
  refine fq H_ 12 [[0],[0,1],[2],[2,3],r_ 5,r_ 6,r_ 7,r_ 8,r_ 9,r_ 10,[10],r_ 12,r_ 13] [_,_,_,_,bF,_,_,_,_,bF,_,K_ (.agg #[bF,rS (nat ds) ((some ⟨g,0,none⟩)) ds.length]),none] (fun _=>[]) (S:=[⟨2,12,fun _=>[bF,rS (nat ds) ((some ⟨g,0,none⟩)) ds.length]⟩]) (s:=⟨fa3 0,ld31 0 sh4,fa3 0,ld31 1 sh4,bi3,mv3,off_,off_,off_,pk3,mv3,bd32,se3 2 sh52⟩) (k:=fun E7 ac wd H_=>?_)
  refine lvC3 (v:=.agg #[.bool false,.slice ((some ⟨g,0,none⟩)) ((digs (nat ds)).length) ds.length]) Tryz.results23 H_ 2 (loadGc sh52 rfl ⟨rfl,rfl,trivial⟩) ?_
  have hT:=H_.st.nowT
  refine ⟨_,rfl,H_.exOut.st.below,BigN.mk ?_ ?_ (RowN.trim hI.g ⟨OwnR.row (by omega) hT,OwnR.new hT _⟩)⟩
  · exact (decide_eq_false (by exact sg_same (by omega))).symm
  · exact hdig
theorem Pow2_any (w0:World) (n:Nat) (hn:n≤300):Calls Tryz.prog 35 #[vI (((n:Nat):Int))] w0 fun e w'=>∃ v,e = .returned v∧Below w0.heap.size w0 w'∧BigN w0.heap.size w' v (2 ^ n):=by
 have hst:=St.start w0 (Θ:=fun _=>True) (fun _ _=>trivial)
 refine en_ Tryz.func35 hst 18 [(0,vI (((n:Nat):Int)))] (fun ac H_=>?_)
 refine gq H_ 0 [[0]] [_] (fun E1=>[(2,vP (pb E1 0) 0)]) (W:=[{ i:=0,T:=52,c0:=[bF,.slice none 0 0] }]) (s:=(al_ 0)) (k:=fun E1 ac wd H_=>?_)
 refine gq H_ 4 (tri 5) [_,vN (n / 16),vI (((n / 16:Nat):Int)+1),KE_ fun env=>.slice ((some ⟨(pb env 3),0,none⟩)) ((n / 16+1)) ((n / 16+1)),_] (fun E2=>[(3,.slice ((some ⟨(pb E2 3),0,none⟩)) ((n / 16+1)) ((n / 16+1)))]) (th:=(some (3,fun env w=>OwnR w w0.heap.size (vG (pb env 3) (n / 16+1)) (List.replicate (n / 16+1) 0)))) (T:=fun E2=>fun w=>OwnR w w0.heap.size (vG (pb E2 3) (n / 16+1)) (List.replicate (n / 16+1) 0)) (s:=⟨mv3,bi3 (h:=by intro env w;(first | (simp [go_sem];done) | (simp [go_sem];rw [Int.tdiv_eq_ediv_of_nonneg (by omega)];first | exact IntWalk.i64_in _ (by omega) | omega) | (simp [go_sem];exact IntWalk.i64_in _ (by omega)) | (simp [go_sem];rw [Int.tmod_eq_emod_of_nonneg (by omega)]))),bi3,s_mk rfl rfl rfl rfl (n / 16+1) rfl rfl rfl (((n / 16:Nat):Int)+1) (by omega) (by omega) (fun _=>rfl) (fun _=>rfl),mv3⟩) (k:=fun E2 ac wd H_=>?_)
 obtain ⟨g,hg⟩:∃ g,g=pb E2 3:=⟨_,rfl⟩
 rw [← hg] at H_
 replace H_:=Cur.exIn H_.facts (fun _ h=>h)
 refine fq H_ 8 [[0],[1],[1,2],[3],[3,4],[3,4,5],[3,4,5,6],r_ 8,r_ 9] [_,_,vN (n / 16),_,vN (n % 16),K_ (.int .u64 (((n % 16:Nat):Int))),vI (2 ^ (n % 16)),elt (.slice ((some ⟨g,0,none⟩)) ((n / 16+1)) ((n / 16+1))) (n / 16),none] (fun _=>[]) (th:=(some (8,fun _ w=>OwnR w w0.heap.size (vG g (n / 16+1)) ((List.replicate (n / 16+1) 0).set (n / 16) (2 ^ (n % 16)))))) (T:=fun E3=>fun w=>OwnR w w0.heap.size (vG g (n / 16+1)) ((List.replicate (n / 16+1) 0).set (n / 16) (2 ^ (n % 16)))) (s:=⟨mv3,mv3,bi3 (h:=by intro env w;(first | (simp [go_sem];done) | (simp [go_sem];rw [Int.tdiv_eq_ediv_of_nonneg (by omega)];first | exact IntWalk.i64_in _ (by omega) | omega) | (simp [go_sem];exact IntWalk.i64_in _ (by omega)) | (simp [go_sem];rw [Int.tmod_eq_emod_of_nonneg (by omega)]))),mv3,bi3 (h:=by intro env w;(first | (simp [go_sem];done) | (simp [go_sem];rw [Int.tmod_eq_emod_of_nonneg (by omega)];first | exact IntWalk.i64_in _ (by omega) | omega) | (simp [go_sem];exact IntWalk.i64_in _ (by omega)) | (simp [go_sem];rw [Int.tmod_eq_emod_of_nonneg (by omega)]))),cv3 (h:=by intro env w;(first | (simp [go_sem];done) | (simp [go_sem];exact IntWalk.u64_in _ (by omega)))),bi3 (h:=by intro env w;have hp:=pow_16 n;simp [go_sem];rw [show ((n:Int) % 16).toNat=n % 16 by omega];exact IntWalk.i64_in _ (by omega)),ia_ Tryz.underlying50 sz3 (n / 16) (n / 16) ((n / 16:Nat):Int) (fun _ env _ wd hA=>(OwnR.row (by (rw [List.length_replicate];omega)) (hA.thO rfl)).els) (by omega) (by (rw [List.length_replicate];omega)) (Nat.mul_one _),s_sr rfl rfl rfl rfl rfl rfl rfl (fun _ h=>h) (n / 16) (2 ^ (n % 16)) rfl (fun _=>rfl) (fun _=>rfl) (by (rw [List.length_replicate];omega))⟩) (k:=fun E3 ac wd H_=>?_)
 refine fq H_ 2 (tri 3) [_,K_ (.agg #[bF,.slice ((some ⟨g,0,none⟩)) ((n / 16+1)) ((n / 16+1))]),none] (fun _=>[]) (S:=[⟨0,2,fun _=>[bF,.slice ((some ⟨g,0,none⟩)) ((n / 16+1)) ((n / 16+1))]⟩]) (s:=⟨mv3,bd31,se3 0 sh52⟩) (k:=fun E4 ac wd H_=>?_)
 refine lvC3 (v:=.agg #[.bool false,.slice ((some ⟨g,0,none⟩)) ((n / 16+1)) ((n / 16+1))]) Tryz.results35 H_ 0 (loadGc sh52 rfl ⟨rfl,rfl,trivial⟩) ?_
 have hT:=H_.st.nowT
 have hl:(digs (2 ^ n)).length=n / 16+1:=by rw [pow2_digs,List.length_set,List.length_replicate]
 rw [← pow2_digs,← hl] at hT
 refine ⟨_,rfl,H_.exOut.st.below,?_⟩
 rw [← hl]
 exact BigN.mk (decide_eq_false (by have:(0:Int) < 2 ^ n:=Int.pow_pos (by decide);omega)).symm rfl ⟨OwnR.row (by omega) hT,OwnR.new hT _⟩
end Go.Proofs.YtailjojebdmnnaaGreat
namespace Go.Proofs.YtailjojebdmnnaaGreat
open Go.RowKit
attribute [local go_sem] vN bT bF rS vW vM vL vT2 vT3 vP vI execOp Act.eval evC bigF vB hi_zero lo_zero Tryz.underlying25 Tryz.underlying27 Tryz.underlying3 Tryz.underlying52
theorem Of_any (w0:World) (z:Int) (hz:InW z):Calls Tryz.prog 13 #[vW z] w0 fun e w'=>∃ v,e = .returned v∧Below w0.heap.size w0 w'∧BigN w0.heap.size w' v (z):=by
 have hst:=St.start w0 (Θ:=fun _=>True) (fun _ _=>trivial)
 refine en_ Tryz.func13 hst 14 [(0,vW z)] (fun ac H_=>?_)
 replace H_:=H_.facts
 refine fq H_ 1 [[0],[1]] [_,_] (fun E1=>[(1,vP (pb E1 0) 0),(2,vP (pb E1 1) 0)]) (W:=[{ i:=0,T:=27,c0:=[vI (hi (z)),.int .u64 (lo (z))] },{ i:=1,T:=52,c0:=[bF,.slice none 0 0] }]) (s:=⟨bx3 0,al_ 1⟩) (k:=fun E1 ac wd H_=>?_)
 refine fq H_ 4 [[0],[0,1],[0,1,2],[3],r_ 5] [_,_,_,_,none] (fun E2=>[(3,vP (pb E2 3) 0)]) (W:=[{ i:=3,T:=52,c0:=[bF,.slice none 0 0],s:=some 4,c1:=fun env=>[.bool (decide (hi z < 0)),rS (hi z) ((bA (env 2))) ((bC (env 2)))] }]) (F:=[fB w0 2 (hi z)]) (s:=⟨fa3 0,ld31 0 sh2,cb3 Tryz.func15 fun wd hA=>Int_any wd (hi z) (by unfold InW at hz;unfold hi;omega) (by unfold InW at hz;unfold hi;omega),al_ 2,sw3 2 3 sh52⟩) (k:=fun E2 ac wd H_=>?_)
 refine fq H_ 7 [[0],[1],[0,1,2],[3],[3,4],r_ 6,r_ 7,r_ 8] [_,_,_,_,_,_,_,none] (fun _=>[]) (S:=[⟨1,7,fun env=>[.bool (decide (hi z*(2:Int) ^ (64:Nat)+lo z < 0)),rS (hi z*(2:Int) ^ (64:Nat)+lo z) ((bA (env 6))) ((bC (env 6)))]⟩]) (F:=[fB w0 1 ((2:Int) ^ (64:Nat)),fB w0 2 (hi z*(2:Int) ^ (64:Nat)),fB w0 5 (lo z),fB w0 6 (hi z*(2:Int) ^ (64:Nat)+lo z)]) (s:=⟨ld3b 2 sh52,cb3 Tryz.func35 fun wd hA=>Pow2_any wd 64 (by omega),cb3e Tryz.func23 fun env wd hA=>Mul_any wd (decide (hi z < 0)) (bA (E2 2)) (bC (E2 2)) (hi z) rfl (Facts.bigN (hA.j.st.now).1 0 rfl) (by unfold Sm;unfold InW at hz;unfold hi;omega) (decide ((2:Int) ^ (64:Nat) < 0)) (bA (env 1)) (bC (env 1)) ((2:Int) ^ (64:Nat)) rfl (At.bigN hA 1 rfl rfl rfl) (by unfold Sm;omega),fa3 1,ld31 0 sh25,cb3 Tryz.func36 fun wd hA=>Word_any wd (lo z) (by unfold lo;omega) (by unfold lo;omega),cb3e Tryz.func22 fun env wd hA=>Add_any wd (decide (hi z*(2:Int) ^ (64:Nat) < 0)) (bA (env 2)) (bC (env 2)) (hi z*(2:Int) ^ (64:Nat)) rfl (At.bigN hA 2 rfl rfl rfl) (by unfold Sm;unfold InW at hz;unfold hi;omega) (decide (lo z < 0)) (bA (env 5)) (bC (env 5)) (lo z) rfl (At.bigN hA 5 rfl rfl rfl) (by unfold Sm;unfold lo;omega),se3 1 sh52⟩) (k:=fun E3 ac wd H_=>?_)
 refine lvC3 (v:=bigF (hi z*2 ^ 64+lo z) (E3 6)) Tryz.results13 H_ 1 (loadGc sh52 rfl ⟨rfl,rfl,trivial⟩) ?_
 exact ⟨_,rfl,H_.st.below,BigN.mk (by rw [show hi z*2 ^ 64+lo z=z by unfold hi lo;omega]) (by rw [show hi z*2 ^ 64+lo z=z by unfold hi lo;omega]) (Facts.bN H_.st.now 4 rfl)⟩
def wdN (ds:List Int) (o:Nat):Nat→Int
  | 0=>0
  | c+1=>wdN ds o c*65536+ds.getD (o+3-c) 0
theorem wdN_lt {ds:List Int} (hg:Rg ds) (o:Nat):∀ c,0≤wdN ds o c∧wdN ds o c < 65536 ^ c
  | 0=>by simp [wdN]
  | c+1=>by
    have:=wdN_lt hg o c
    have:=hg.getD (o+3-c)
    simp only [wdN,Int.pow_succ]
    omega
theorem wdN_48 {ds:List Int} (hg:Rg ds) (o:Nat) {c:Nat} (hc:c≤3):0≤wdN ds o c∧wdN ds o c < 281474976710656:=by
 have h:=wdN_lt hg o c
 have h1:=pow_mono hc
 have e:(65536:Int) ^ 3=281474976710656:=rfl
 rw [e] at h1
 omega
theorem word_core (w0:World) (A0:Option Addr) (c0:Nat) (z:Int) (o:Nat) (ho:o≤100) (hr:Row w0 (.slice A0 (digs z).length c0) (digs z)):Calls Tryz.prog 47 #[.slice A0 ((digs z).length) c0,vI (((o:Nat):Int))] w0 fun e w'=>e = .returned (.int .u64 (wdN (digs z) o 4))∧Below w0.heap.size w0 w':=by
 have hle:=hr.le
 have hst:=St.start w0 (Θ:=fun _=>True) (fun _ _=>trivial)
 refine en_ Tryz.func47 hst 29 [(0,.slice A0 ((digs z).length) c0),(1,vI (((o:Nat):Int)))] (fun ac H_=>?_)
 refine gq0 H_ 0 [[0]] [_] (s:=mv3) (k:=fun E1 ac wd H_=>?_)
 refine gq1 H_ 0 [[0]] [_] (fun _=>[(5,.int .u64 0)]) (s:=mv3) (k:=fun E2 ac wd H_=>?_)
 refine gq1 H_ 0 [[0]] [_] (fun _=>[(6,vI 3)]) (s:=mv3) (k:=fun E3 ac wd H_=>?_)
 refine lp3 (fun ac wd=>∃ (c:Nat),c≤4∧Cur 29 w0 none none (fun _=>True) (fun _=>True) [(0,rS z A0 c0),(1,vN o),(5,.int .u64 (wdN (digs z) o c)),(6,vI (3-((c:Nat):Int)))] [] ac wd) (fun ac _=>(sI ac 6+1).toNat) ⟨0,by omega,(H_.re rfl).th (fun _ h=>h)⟩ ?_
 rintro ac wd ⟨c,hc,H_⟩
 have hmu:sI ac 6=3-((c:Nat):Int):=sI_eq (H_.g (t:=6) rfl)
 by_cases h1:c < 4
 have hw:=wdN_48 (rg_digs z) o (show c≤3 by omega)
 refine gq1 H_ 1 [[0],[0,1]] [_,bT] (fun _=>[(8,bT)]) (s:=⟨mv3,bi3⟩) (k:=fun E5 ac wd H_=>?_)
 refine cT3 H_ ?_
 refine gq1 H_ 2 (tri 3) [_,K_ (.int .u64 ((wdN (digs z) o c)*65536)),_] (fun _=>[(5,.int .u64 ((wdN (digs z) o c)*65536))]) (s:=⟨mv3,bi3 (h:=by intro env w;simp [go_sem];exact IntWalk.u64_in _ (by omega)),mv3⟩) (k:=fun E6 ac wd H_=>?_)
 have hgd:=(rg_digs z).getD (o+3-c)
 have hgq:=hgd
 simp only [List.getD_eq_getElem?_getD] at hgq
 by_cases h2:o+3-c < (digs z).length
 refine gq1 H_ 5 [[0],[1],[0,1,2],[3],[3,4],r_ 6] [_,_,vI (((o:Nat):Int)+(3-((c:Nat):Int))),_,vN ((digs z).length),bT] (fun _=>[(18,bT)]) (s:=⟨mv3,mv3,bi3,mv3,ln_ Tryz.underlying50 fun _ env _ wd hA=>(hr.grown hA.j.st.gr).els,bi3⟩) (k:=fun E7 ac wd H_=>?_)
 refine cT3 H_ ?_
 refine gq1 H_ 9 [[0],[1],[2],[3],[2,3,4],[1,2,3,4,5],[1,2,3,4,5,6],[1,2,3,4,5,6,7],r_ 9,r_ 10] [_,_,_,_,vI (((o:Nat):Int)+(3-((c:Nat):Int))),elt (rS z A0 c0) (o+3-c),vI (((digs z)).getD (o+3-c) 0),K_ (.int .u64 (((digs z)).getD (o+3-c) 0)),K_ (.int .u64 ((wdN (digs z) o c)*65536+(((digs z)).getD (o+3-c) 0))),_] (fun _=>[(5,.int .u64 ((wdN (digs z) o c)*65536+(((digs z)).getD (o+3-c) 0)))]) (s:=⟨mv3,mv3,mv3,mv3,bi3,ia_ Tryz.underlying50 sz3 (o+3-c) (o+3-c) (((o:Nat):Int)+(3-((c:Nat):Int))) (fun _ env _ wd hA=>(hr.grown hA.j.st.gr).els) (by omega) (by omega) (Nat.mul_one _),le_ (o+3-c) (fun _ env _ wd hA=>(hr.grown hA.j.st.gr).els) (by omega) (leG1 sh3 rfl),cv3 (h:=by intro env w;(first | (simp [go_sem];done) | (simp [go_sem];exact IntWalk.u64_in _ (by omega)))),bi3 (h:=by intro env w;(first | (simp [go_sem];done) | (simp [go_sem];exact IntWalk.u64_in _ (by omega)))),mv3⟩) (k:=fun E8 ac wd H_=>?_)
 refine gq1 H_ 2 (tri 3) [_,vI ((3-((c:Nat):Int))-1),_] (fun _=>[(6,vI ((3-((c:Nat):Int))-1))]) (s:=⟨mv3,bi3,mv3⟩) (k:=fun E9 ac wd H_=>?_)
 refine then_n ?_
 have eW:wdN (digs z) o (c+1)=wdN (digs z) o c*65536+(digs z).getD (o+3-c) 0:=rfl
 rw [← eW] at H_
 rw [show (3-((c:Nat):Int)-1)=3-((c+1:Nat):Int) by omega] at H_
 exact ⟨⟨c+1,by omega,H_.re rfl⟩,by rw [sI_eq (H_.g (t:=6) rfl),hmu];omega⟩
 refine gq1 H_ 5 [[0],[1],[0,1,2],[3],[3,4],r_ 6] [_,_,vI (((o:Nat):Int)+(3-((c:Nat):Int))),_,vN ((digs z).length),bF] (fun _=>[(18,bF)]) (s:=⟨mv3,mv3,bi3,mv3,ln_ Tryz.underlying50 fun _ env _ wd hA=>(hr.grown hA.j.st.gr).els,bi3⟩) (k:=fun E7 ac wd H_=>?_)
 refine cF3 H_ ?_
 refine gq1 H_ 2 (tri 3) [_,vI ((3-((c:Nat):Int))-1),_] (fun _=>[(6,vI ((3-((c:Nat):Int))-1))]) (s:=⟨mv3,bi3,mv3⟩) (k:=fun E8 ac wd H_=>?_)
 refine then_n ?_
 have eW:wdN (digs z) o (c+1)=wdN (digs z) o c*65536:=by simp only [wdN];rw [getD_out (by omega)];omega
 rw [← eW] at H_
 rw [show (3-((c:Nat):Int)-1)=3-((c+1:Nat):Int) by omega] at H_
 exact ⟨⟨c+1,by omega,H_.re rfl⟩,by rw [sI_eq (H_.g (t:=6) rfl),hmu];omega⟩
 obtain rfl:c=4:=by omega
 refine gq1 H_ 1 [[0],[0,1]] [_,bF] (fun _=>[(8,bF)]) (s:=⟨mv3,bi3⟩) (k:=fun E5 ac wd H_=>?_)
 refine cF3 H_ ?_
 refine gq1 H_ 1 [[0],[0,1]] [_,_] (fun _=>[(4,.int .u64 (wdN (digs z) o 4))]) (s:=⟨mv3,mv3⟩) (k:=fun E6 ac wd H_=>?_)
 refine lvT3 Tryz.results47 H_ ?_
 exact ⟨rfl,H_.st.below⟩
end Go.Proofs.YtailjojebdmnnaaGreat
namespace Go.Proofs.YtailjojebdmnnaaGreat
open Go.RowKit
attribute [local go_sem] vN bT bF rS vW vM vL vT2 vT3 vP vI execOp Act.eval evC bigF vB hi_zero lo_zero Tryz.underlying2 Tryz.underlying25 Tryz.underlying27 Tryz.underlying52
theorem digsN_getD:∀ (k n:Nat),(digsN n).getD k 0=((n / 65536 ^ k % 65536:Nat):Int)
  | 0,n=>by
    rw [digsN]
    split
    · rename_i h;subst h;rfl
    · simp
  | k+1,n=>by
    have ih:=digsN_getD k (n / 65536)
    rw [digsN]
    split
    · rename_i h;subst h;simp
    · rw [List.getD_cons_succ,ih,Nat.div_div_eq_div_mul,Nat.pow_succ,Nat.mul_comm 65536]
theorem wd_lo (z:Int):wdN (digs z) 0 4=(z.natAbs:Int) % 18446744073709551616:=by
 unfold digs
 simp only [wdN,digsN_getD]
 generalize z.natAbs=n
 simp only [Nat.reduceAdd,Nat.reduceSub,Nat.reducePow]
 omega
theorem wd_hi (z:Int):wdN (digs z) 4 4=(z.natAbs:Int) / 18446744073709551616 % 18446744073709551616:=by
 unfold digs
 simp only [wdN,digsN_getD]
 generalize z.natAbs=n
 simp only [Nat.reduceAdd,Nat.reduceSub,Nat.reducePow]
 omega
theorem i64_of (m:Int) (h0:0≤m) (h1:m < 18446744073709551616):IntKind.i64.wrap m=if m < 9223372036854775808 then m else m-18446744073709551616:=by
 unfold IntKind.wrap
 simp [IntKind.bits,IntKind.signed]
 split <;> split <;> omega
theorem word_eq (w0:World) (A0:Option Addr) (c0:Nat) (z:Int) (o:Nat) (ho:o≤100) (hr:Row w0 (.slice A0 (digs z).length c0) (digs z)) {v:Int} (h:wdN (digs z) o 4=v):Calls Tryz.prog 47 #[.slice A0 ((digs z).length) c0,vI (((o:Nat):Int))] w0 fun e w'=>e = .returned (.int .u64 v)∧Below w0.heap.size w0 w':=by
 subst h
 exact word_core w0 A0 c0 z o ho hr
theorem Sub_pos (w0:World) (A0 B0:Option Addr) (c0 k0:Nat) (x y:Int) (h:0≤x) (hy0:y < 0) (hr:Row w0 (.slice A0 (digs x).length c0) (digs x)) (hr2:Row w0 (.slice B0 (digs y).length k0) (digs y)) (hx:Sm x) (hy:Sm y):Calls Tryz.prog 12 #[.agg #[.bool (decide (x < 0)),.slice A0 ((digs x).length) c0],.agg #[.bool false,.slice B0 ((digs y).length) k0]] w0 fun e w'=>∃ v,e = .returned v∧Below w0.heap.size w0 w'∧BigN w0.heap.size w' v (x+y):=by
 have:=Sub_any w0 _ A0 c0 x rfl hr hx false B0 k0 (-y) (decide_eq_false (by omega)).symm (Row.neg hr2) hy.neg
 rw [digs_neg,Int.sub_neg] at this
 exact this
theorem Wide_yes (w0:World) (p:Bool) (A0:Option Addr) (c0:Nat) (x:Int) (hp:p=decide (x < 0)) (hr:Row w0 (.slice A0 (digs x).length c0) (digs x)) (h1:x < 2 ^ 127) (h2:-(2 ^ 127)≤x):Calls Tryz.prog 21 #[.agg #[.bool (p),.slice A0 ((digs x).length) c0]] w0 fun e w'=>e = .returned (vT2 (vW x) (.bool true))∧Below w0.heap.size w0 w':=by
 have hst:=St.start w0 (Θ:=fun _=>True) (fun _ _=>trivial)
 refine en_ Tryz.func21 hst 33 [(0,.agg #[.bool (p),.slice A0 ((digs x).length) c0])] (fun ac H_=>?_)
 replace H_:=H_.facts
 refine fq H_ 2 [[0],[1],[2]] [_,_,_] (fun E1=>[(1,vP (pb E1 0) 0),(2,vP (pb E1 1) 0)]) (W:=[{ i:=0,T:=52,c0:=[.bool (p),rS x A0 c0] },{ i:=1,T:=27,c0:=[vI 0,.int .u64 0] }]) (s:=⟨bx3 0,al_ 1,mv3⟩) (k:=fun E1 ac wd H_=>?_)
 refine fq H_ 10 [[0],[1],[0,1,2],r_ 4,r_ 5,r_ 6,[0,1,2,3,4,6],[0,1,2,3,4,6,7],r_ 9,r_ 10,r_ 11] [_,_,_,bF,_,_,_,_,_,bF,bF] (fun _=>[(15,bF)]) (F:=[fB w0 1 ((2:Int) ^ (127:Nat)),fB w0 6 ((2:Int) ^ (127:Nat))]) (s:=⟨ld3b 0 sh52,cb3 Tryz.func35 fun wd hA=>Pow2_any wd 127 (by omega),cw3e Tryz.func14 fun env wd hA=>Cmp_any wd p A0 c0 x hp (hr.grown hA.j.st.gr)  (decide ((2:Int) ^ (127:Nat) < 0)) (bA (env 1)) (bC (env 1)) ((2:Int) ^ (127:Nat)) rfl (At.bigN hA 1 rfl rfl rfl) ,bi3 (h:=by intro env w;(first | (simp [go_sem];done) | (simp [go_sem];unfold cmpZ;split <;> (try split) <;> omega))),mv3,ld3b 0 sh52,cb3 Tryz.func35 fun wd hA=>Pow2_any wd 127 (by omega),cw3e Tryz.func34 fun env wd hA=>Neg_any wd _ (bA (env 6)) (bC (env 6)) ((2:Int) ^ (127:Nat)) rfl (At.bigN hA 6 rfl rfl rfl),cw3e Tryz.func14 fun env wd hA=>Cmp_any wd p A0 c0 x hp (hr.grown hA.j.st.gr)  (decide (-((2:Int) ^ (127:Nat)) < 0)) (bA (env 6)) (bC (env 6)) (-((2:Int) ^ (127:Nat))) rfl (Row.neg (At.bigN hA 6 rfl rfl rfl)) ,bi3 (h:=by intro env w;(first | (simp [go_sem];done) | (simp [go_sem];unfold cmpZ;split <;> (try split) <;> omega))),pk3 (h:=by intro env w;(first | (simp [go_sem];done) | (simp [go_sem];unfold cmpZ;split <;> (try split) <;> omega)))⟩) (k:=fun E2 ac wd H_=>?_)
 refine cF3 H_ ?_
 refine fq1 H_ 2 (tri 3) [_,_,_] (fun _=>[(4,rS x A0 c0)]) (s:=⟨fa3 1,ld31 0 sh50,mv3⟩) (k:=fun E3 ac wd H_=>?_)
 cases p
 have hx0:0≤x:=by have:=of_decide_eq_false hp.symm;omega
 refine fq1 H_ 1 [[0],[0,1]] [_,_] (fun _=>[(20,bF)]) (s:=⟨fa3 0,ld31 0 sh4⟩) (k:=fun E4 ac wd H_=>?_)
 refine cF3 H_ ?_
 have hv4:wdN (digs x) 4 4=hi (x):=by rw [wd_hi];unfold hi;omega
 have hv0:wdN (digs x) 0 4=lo (x):=by rw [wd_lo];unfold lo;omega
 refine fq H_ 7 [[0],[0,1],[0,1,2],[3],[0,1,3,4],r_ 6,r_ 7,r_ 8] [_,_,vI (hi (x)),_,_,vW x,none,_] (fun _=>[(3,bT)]) (S:=[⟨1,6,fun _=>[vI (hi (x)),.int .u64 (lo (x))]⟩]) (s:=⟨mv3,cw3 Tryz.func47 fun wd hA=>word_eq wd A0 c0 x 4 (by omega) (hr.grown hA.j.st.gr) hv4,cv3 (h:=by intro env w;simp [go_sem];exact IntWalk.i64_in _ (by unfold hi;omega)),mv3,cw3 Tryz.func47 fun wd hA=>word_eq wd A0 c0 x 0 (by omega) (hr.grown hA.j.st.gr) hv0,bd32,se3 1 sh27,mv3⟩) (k:=fun E5 ac wd H_=>?_)
 refine lvCT3 (v:=vW x) Tryz.results21 H_ 1 (loadGc sh27 rfl ⟨rfl,rfl,trivial⟩) ?_
 exact ⟨rfl,H_.st.below⟩
 have hx0:x < 0:=of_decide_eq_true hp.symm
 refine fq1 H_ 1 [[0],[0,1]] [_,_] (fun _=>[(20,bT)]) (s:=⟨fa3 0,ld31 0 sh4⟩) (k:=fun E4 ac wd H_=>?_)
 refine cT3 H_ ?_
 refine fq H_ 6 [[0],[1],[1,2],[1,2,3],r_ 5,r_ 6,r_ 7] [_,_,_,K_ (.agg #[bF,rS x A0 c0]),_,KE_ fun env=>rS ((2:Int) ^ (128:Nat)+x) ((bA (env 4))) ((bC (env 4))),_] (fun E5=>[(4,rS ((2:Int) ^ (128:Nat)+x) ((bA (E5 4))) ((bC (E5 4))))]) (F:=[fB w0 0 ((2:Int) ^ (128:Nat)),fB w0 4 ((2:Int) ^ (128:Nat)+x)]) (s:=⟨cb3 Tryz.func35 fun wd hA=>Pow2_any wd 128 (by omega),fa3 1,ld31 0 sh50,bd31,cb3e Tryz.func12 fun env wd hA=>Sub_pos wd (bA (env 0)) A0 (bC (env 0)) c0 ((2:Int) ^ (128:Nat)) x (by omega) hx0 (At.bigN hA 0 rfl rfl rfl) (hr.grown hA.j.st.gr) (by unfold Sm;omega) (by unfold Sm;omega),fl3,mv3⟩) (k:=fun E5 ac wd H_=>?_)
 have hv4:wdN (digs (2 ^ 128+x)) 4 4=hi (x)+18446744073709551616:=by rw [wd_hi];unfold hi;omega
 have hv0:wdN (digs (2 ^ 128+x)) 0 4=lo (x):=by rw [wd_lo];unfold lo;omega
 refine fq H_ 7 [[0],[0,1],[0,1,2],[3],[0,1,3,4],r_ 6,r_ 7,r_ 8] [_,_,vI (hi (x)),_,_,vW x,none,_] (fun _=>[(3,bT)]) (S:=[⟨1,6,fun _=>[vI (hi (x)),.int .u64 (lo (x))]⟩]) (s:=⟨mv3,cw3 Tryz.func47 fun wd hA=>word_eq wd (bA (E5 4)) (bC (E5 4)) ((2:Int) ^ (128:Nat)+x) 4 (by omega) (Facts.bigN (hA.j.st.now).1 3 rfl) hv4,cv3 (h:=by intro env w;simp [go_sem];rw [i64_of _ (by unfold hi;omega) (by unfold hi;omega),if_neg (by unfold hi;omega)];omega),mv3,cw3 Tryz.func47 fun wd hA=>word_eq wd (bA (E5 4)) (bC (E5 4)) ((2:Int) ^ (128:Nat)+x) 0 (by omega) (Facts.bigN (hA.j.st.now).1 3 rfl) hv0,bd32,se3 1 sh27,mv3⟩) (k:=fun E6 ac wd H_=>?_)
 refine lvCT3 (v:=vW x) Tryz.results21 H_ 1 (loadGc sh27 rfl ⟨rfl,rfl,trivial⟩) ?_
 exact ⟨rfl,H_.st.below⟩
end Go.Proofs.YtailjojebdmnnaaGreat
namespace Go.Proofs.YtailjojebdmnnaaGreat
open Go.RowKit
attribute [local go_sem] vN bT bF rS vW vM vL vT2 vT3 vP vI execOp Act.eval evC bigF vB hi_zero lo_zero
end Go.Proofs.YtailjojebdmnnaaGreat
namespace Go.Proofs.YtailjojebdmnnaaGreat
open Go.RowKit
def KeepT (Ts:List TypeId) (ex:Option Nat) (w w':World):Prop:=∀ (b:Nat) (cur:Array Value) (T:TypeId) (fz:Nat × Nat),w.heap[b]? = some (Obj.cells cur T fz)→Ts.contains T=true→ex≠some b→w'.heap[b]? = w.heap[b]?
def tFree (Ts:List TypeId) (R:Reg):Bool:=R.O.all fun o=>!(Ts.contains o.T)
theorem apart_keepT {Ts:List TypeId} {R:Reg} {D:Nat→Bool} {env:Env} {w w':World} {Ψ Θ:World→Prop} (hi:tFree Ts R=true) (hst:St R.w0 R.row R.ex w (R.mem D env) Ψ Θ) {ex:Option Nat} (hex:ex=R.ex∨ex=none) (h:Apart (R.mem D env) ex w w'):KeepT Ts R.ex w w':=by
  intro b cur T fz hb hT hx
  refine h.2 b (lt_of_some hb) (fun m e hm he=>?_) (by rcases hex with h | h;rw [h];exact hx;rw [h];simp)
  have h1:=(hst.own m e hm).2
  rw [he,hb] at h1
  simp only [Option.some.injEq,Obj.cells.injEq] at h1
  unfold Reg.mem at hm
  cases ho:R.O[m]? with
  | none=>simp only [ho] at hm;cases hm
  | some o =>
    simp only [ho] at hm
    split at hm
    · have h2:=List.all_eq_true.1 hi o (List.mem_of_getElem? ho)
      rw [← Option.some.inj hm] at h1
      simp only at h1
      rw [← h1.2.1,hT] at h2
      cases h2
    · cases hm
section
variable {P:Program} {R:Reg} {Q:Exit→Act→World→Prop} {i:Nat} {o:Oper}
theorem s_factT (ho:R.ops[i]? = some o) (hf:free' R i=true) {f:FuncId} {fn:Func} {ps:Array Operand} {ts:Array TypeId} (hop:o.op = .call { callee:=.value (.func f),args:=ps,argTypes:=ts })
    (hfn:P.funcs[f]? = some fn) (hname:(fn.name == "runtime.NumGoroutine")=false) (hb:fn.body.isSome=true) (hw:∀ {D env a w},At R i D env a w→Region.wanted o (yielded R.ops a.tmps)=true) (φ:Value→World→Prop) (form:Value→Value) (hV:R.v? i=some fun env=>form (env i)) (hF:R.F.filter (fun p=>Nat.beq p.1 i)=[(i,fun env w=>φ (env i) w)])
    (Ts:List TypeId) (hint:tFree Ts R=true) (hφ:∀ v w,φ v w→v=form v) (hst:∀ v w w',KeepT Ts R.ex w w'→φ v w→φ v w')
    (h:∀ {D env a w},At R i D env a w→∃ args,ps.map a.eval=args∧Calls P f args w fun e w'=>∃ v,e = .returned v∧Below w.heap.size w w'∧φ v w'):SR P Q R i:=
  s_callx ho hf hop hfn hname hb (fun hA=>by
    obtain ⟨args,ha,hc⟩:=h hA
    refine ⟨hw hA,args,ha,hc.mono ?_⟩
    rintro e w' ⟨v,rfl,hb,h3⟩
    have hs':=hA.j.st.call hb
    exact ⟨v,rfl,hs',fun w'' ha=>f_fact hV hφ hF hA.ok ho (hst v _ _ (apart_keepT hint hs' (.inl rfl) ha) h3)⟩)
end
def RowU (w:World) (v:Value) (n k:Nat) (f:Nat→Value):Prop:=
 ∃ A c,v = .slice A n c∧n≤c∧n≤9223372036854775807∧(n=0∨∃ (b off:Nat) (T:TypeId) (cur:Array Value) (fz:Nat × Nat),A=some ⟨b,off,none⟩∧w.heap[b]? = some (Obj.cells cur T fz)∧∀ i,i < n*k→cur[off+i]? = some (f i))
def RowT (T:TypeId) (w:World) (v:Value) (n k:Nat) (f:Nat→Value):Prop:=
 ∃ A c,v = .slice A n c∧n≤c∧n≤9223372036854775807∧(n=0∨∃ (b off:Nat) (cur:Array Value) (fz:Nat × Nat),A=some ⟨b,off,none⟩∧w.heap[b]? = some (Obj.cells cur T fz)∧∀ i,i < n*k→cur[off+i]? = some (f i))
section
variable {w w':World} {v:Value} {n k:Nat} {f:Nat→Value} {T:TypeId}
theorem RowU.els (h:RowU w v n k f):Els w v n k f:=by
  obtain ⟨A,c,rfl,h1,h2,h3⟩:=h
  refine ⟨A,c,rfl,h1,?_⟩
  rcases h3 with h3 | ⟨b,off,T,cur,fz,hA,hb,hc⟩
  · exact .inl h3
  · exact .inr ⟨b,off,hA,fun i hi=>by simp [World.cell?,hb,hc i hi]⟩
theorem RowT.u (h:RowT T w v n k f):RowU w v n k f:=by
  obtain ⟨A,c,rfl,h1,h2,h3⟩:=h
  refine ⟨A,c,rfl,h1,h2,?_⟩
  rcases h3 with h3 | ⟨b,off,cur,fz,hA,hb,hc⟩
  · exact .inl h3
  · exact .inr ⟨b,off,T,cur,fz,hA,hb,hc⟩
theorem RowT.els (h:RowT T w v n k f):Els w v n k f:=h.u.els
theorem RowU.keep (h:RowU w v n k f) (hk:∀ b,b < w.heap.size→w'.heap[b]? = w.heap[b]?):RowU w' v n k f:=by
  obtain ⟨A,c,e,h1,h2,h3⟩:=h
  refine ⟨A,c,e,h1,h2,?_⟩
  rcases h3 with h3 | ⟨b,off,T,cur,fz,hA,hb,hc⟩
  · exact .inl h3
  · exact .inr ⟨b,off,T,cur,fz,hA,by rw [hk b (lt_of_some hb)];exact hb,hc⟩
theorem RowU.grown (h:RowU w v n k f) (hg:w.grownBy w' none):RowU w' v n k f:=h.keep (fun b hb=>hg.block b hb (by simp))
theorem RowU.below (h:RowU w v n k f) (hg:Below w.heap.size w w'):RowU w' v n k f:=h.keep (fun b hb=>hg.block b hb)
theorem RowT.keep (h:RowT T w v n k f) {Ts:List TypeId} (hT:Ts.contains T=true) {ex:Option Nat} (hk:KeepT Ts ex w w') (hx:∀ b,ex=some b→v.ownBlock≠some b):RowT T w' v n k f:=by
  obtain ⟨A,c,rfl,h1,h2,h3⟩:=h
  refine ⟨A,c,rfl,h1,h2,?_⟩
  rcases h3 with h3 | ⟨b,off,cur,fz,rfl,hb,hc⟩
  · exact .inl h3
  · exact .inr ⟨b,off,cur,fz,rfl,by rw [hk b cur T fz hb hT (fun e=>hx b e rfl)];exact hb,hc⟩
theorem RowT.grown (h:RowT T w v n k f) (hg:w.grownBy w' none):RowT T w' v n k f:=by
  obtain ⟨A,c,rfl,h1,h2,h3⟩:=h
  refine ⟨A,c,rfl,h1,h2,?_⟩
  rcases h3 with h3 | ⟨b,off,cur,fz,rfl,hb,hc⟩
  · exact .inl h3
  · exact .inr ⟨b,off,cur,fz,rfl,by rw [hg.block b (lt_of_some hb) (by simp)];exact hb,hc⟩
theorem RowU.form (h:RowU w v n k f):v = .slice (sA v) n (sC v):=by obtain ⟨A,c,rfl,_⟩:=h;rfl
theorem RowT.form (h:RowT T w v n k f):v = .slice (sA v) n (sC v):=h.u.form
theorem RowU.re (h:RowU w v n k f):RowU w (.slice (sA v) n (sC v)) n k f:=by rw [← h.form];exact h
theorem RowT.re (h:RowT T w v n k f):RowT T w (.slice (sA v) n (sC v)) n k f:=by rw [← h.form];exact h
end
def OwnK (T:TypeId) (k:Nat) (w:World) (B:Nat) (v:Value) (n:Nat) (cs:List Value):Prop:=w.ownsRow B T k v n cs
section
variable {T:TypeId} {k:Nat} {w w':World} {B:Nat} {v:Value} {n:Nat} {cs:List Value}
theorem OwnK.nil (w:World) (B:Nat):OwnK T k w B (.slice none 0 0) 0 []:=⟨by simp,.inl ⟨rfl,rfl⟩⟩
theorem own_offK {M:Mem} (h:∀ w',Apart M none w w'→OwnK T k w' B v n cs) {m:Nat} {e:Ent} (hm:M m=some e):v.ownBlock≠some e.1:=by
  intro hv
  have h1:=h w (Apart.refl _ _ _)
  obtain ⟨_,h2⟩:=h1
  rcases h2 with ⟨rfl,_⟩ | ⟨g,cap,cur,rfl,hg,hh,_⟩
  · cases hv
  · simp only [Value.ownBlock,Option.some.injEq] at hv
    have hlt:=lt_of_some hh
    have h3:=h { w with heap:=w.heap.setIfInBounds g (.map #[] 0) } ⟨by simp,fun k hk hM _=>by
      show (w.heap.setIfInBounds g _)[k]? = _
      rw [Array.getElem?_setIfInBounds_ne (fun e'=>hM m e hm (by rw [← hv,e']))]⟩
    obtain ⟨_,h4⟩:=h3
    rcases h4 with ⟨h4,_⟩ | ⟨g',cap',cur',h4,_,h5,_⟩
    · cases h4
    · simp only [Value.slice.injEq,Option.some.injEq,Addr.mk.injEq] at h4
      obtain ⟨⟨rfl,_⟩,_⟩:=h4
      have:(w.heap.setIfInBounds g (.map #[] 0))[g]? = some (.map #[] 0):=by rw [Array.getElem?_setIfInBounds_self_of_lt hlt]
      rw [show ({ w with heap:=w.heap.setIfInBounds g (.map #[] 0) }:World).heap=w.heap.setIfInBounds g (.map #[] 0) from rfl,this] at h5
      cases h5
theorem OwnK.stab {M:Mem} (h:OwnK T k w B v n cs) (hM:∀ m e,M m=some e→v.ownBlock≠some e.1) (ha:Apart M none w w'):OwnK T k w' B v n cs:=by
  obtain ⟨h1,h2⟩:=h
  refine ⟨h1,?_⟩
  rcases h2 with h2 | ⟨g,cap,cur,rfl,hg,hh,r⟩
  · exact .inl h2
  · refine .inr ⟨g,cap,cur,rfl,hg,?_,r⟩
    rw [ha.2 g (lt_of_some hh) (fun m e hm e'=>hM m e hm (by simp [Value.ownBlock,e'])) (by simp)]
    exact hh
theorem OwnK.rowT (h:OwnK T k w B v n cs) (hn:n≤140737488351232) {f:Nat→Value} (hf:∀ i,i < n*k→cs[i]? = some (f i)):RowT T w v n k f:=by
  obtain ⟨h1,h2⟩:=h
  rcases h2 with ⟨rfl,rfl⟩ | ⟨g,cap,cur,rfl,hg,hh,hnc,hcm,hcs,ht⟩
  · exact ⟨none,0,rfl,Nat.le_refl _,by omega,.inl rfl⟩
  · refine ⟨_,cap,rfl,hnc,by omega,.inr ⟨g,0,cur,_,rfl,hh,fun i hi=>?_⟩⟩
    have:=hf i hi
    rw [← ht,List.getElem?_take,if_pos hi] at this
    simpa using this
theorem St.rowedK {w0 w w':World} {row ex:Option Nat} {M:Mem} {Ψ Θ:World→Prop} (h:St w0 row ex w M Ψ Θ) (hΨ:∀ w,Ψ w) {v:Value} {n:Nat} {cs:List Value} (hΘ:∀ w',Apart M none w w'→OwnK T k w' w0.heap.size v n cs) (hg:w.grownBy w' v.ownBlock) {v':Value} {n':Nat} {cs':List Value} (ho:OwnK T k w' w0.heap.size v' n' cs') (hv:v'.ownBlock=v.ownBlock∨v'.ownBlock=some w.heap.size∨v'.ownBlock=none) (hex:ex=none) :
    St w0 row ex w' M Ψ (fun w=>OwnK T k w w0.heap.size v' n' cs'):=by
  have hM:∀ m e,M m=some e→v.ownBlock≠some e.1:=fun m e hm=>own_offK hΘ hm
  have hM':∀ m e,M m=some e→v'.ownBlock≠some e.1:=fun m e hm=>by
    rcases hv with hv | hv | hv
    · rw [hv];exact hM m e hm
    · rw [hv];have:=h.lt hm;exact fun e'=>by simp at e';omega
    · rw [hv];simp
  have hB:∀ g,v.ownBlock=some g→w0.heap.size≤g:=fun g hg'=>by
    obtain ⟨_,h2⟩:=hΘ w (Apart.refl _ _ _)
    rcases h2 with ⟨rfl,_⟩ | ⟨g',_,_,rfl,hB,_⟩
    · cases hg'
    · simp only [Value.ownBlock,Option.some.injEq] at hg';omega
  have h00:=h.gr.size
  refine ⟨grown_of h.gr hg.os hg.tape hg.output hg.size (fun k hk _=>hg.block k (by omega) (fun e=>by have:=hB k e.symm;omega)),h.nod,fun m e hm=>?_,fun g hg'=>(by rw [hex] at hg';cases hg'),fun w'' _=>hΨ w'',fun w'' hw=>ho.stab hM' hw⟩
  rw [hg.block _ (h.lt hm) (fun e'=>hM m e hm e'.symm)]
  exact h.own m e hm
end
section
variable {R:Reg} {Q:Exit→Act→World→Prop} {i:Nat} {o:Oper}
theorem s_srK (ho:R.ops[i]? = some o) (hf:free R i=true) (hg:o.guard=none) {T':TypeId} {x y:Operand} (hop:o.op = .store T' x y) (hV:R.v? i=none) (hF:noF R i=true) {g n c:Nat} {T:TypeId} {k:Nat} {ds ds':List Value} (hex:R.ex=some g) (hΘ:∀ w,R.Θ w→OwnK T k w R.w0.heap.size (.slice (some ⟨g,0,none⟩) n c) n ds)
    (q:Nat) (hth:R.th=some (i,fun _ w=>OwnK T k w R.w0.heap.size (.slice (some ⟨g,0,none⟩) n c) n ds')) {v:Value} (hx:∀ env,opAt R i env x=some (vP g q)) (hy:∀ env,opAt R i env y=some v) (hl:ds'.length=ds.length)
    (hst:∀ (cs:List Value) (w:World),(∀ (p:Nat) (u:Value),ds[p]? = some u→cs[p]? = some u)→w.heap[g]? = some (.cells cs.toArray T (0,0))→∃ (cs':List Value) (w':World),(Instr.storeAt T' (vP g q) v).run Tryz.prog w = .ok () w'∧Put w w' g (.cells cs'.toArray T (0,0))∧cs'.length=cs.length∧cs'.take (n*k)=ds'):SR Tryz.prog Q R i:=
  s_th ho hf (fun {D env a w} hA K hK=>by
    rw [if_pos (wanted_none hg _)]
    have hnD:D i=false:=hA.i
    have ht0:R.tht D env=R.Θ:=by unfold Reg.tht;rw [hth];simp [hnD]
    have hst0:=hA.j.st
    rw [ht0] at hst0
    have hO:=hΘ w hst0.nowT
    obtain ⟨hO1,hO2⟩:=hO
    rcases hO2 with ⟨hO2,_⟩ | ⟨g',cap,cur,hv,hB,hh,hn,hc,hs,ht⟩
    · cases hO2
    simp only [Value.slice.injEq,Option.some.injEq,Addr.mk.injEq,and_true,true_and] at hv
    obtain ⟨rfl,rfl⟩:=hv
    obtain ⟨cs',w',hr,hp,hcl,hct⟩:=hst cur.toList w (fun p u hu=>by
      rw [← ht,List.getElem?_take] at hu
      split at hu
      · exact hu
      · cases hu) (by rw [Array.toArray_toList];exact hh)
    have hrun:(execOp a.eval o).run Tryz.prog w = .ok .skip w':=by
      have e1:=hA.e (hx env)
      have e2:=hA.e (hy env)
      unfold execOp
      simp only [vP] at e1 hr
      simp [hop,e1,e2,hr]
    unfold Oper.wp
    rw [hrun]
    have hown:OwnK T k w' R.w0.heap.size (.slice (some ⟨g,0,none⟩) n c) n ds':=
      ⟨by rw [hl];exact hO1,.inr ⟨g,c,_,rfl,hB,hp.here,hn,hc,by simpa [hcl] using hs,by simpa using hct⟩⟩
    have hgb:w.grownBy w' (some g):=⟨hp.os,hp.tape,hp.output,by rw [hp.size];exact Nat.le_refl _,fun k _ hk=>hp.off k (fun e=>hk (by rw [e]))⟩
    have hM:∀ m e,R.mem D env m=some e→(Value.slice (some ⟨g,0,none⟩) n c).ownBlock≠some e.1:=fun m e hm e'=>by
      simp only [Value.ownBlock,Option.some.injEq] at e'
      exact (hst0.exb g hex).2.1 m e hm e'.symm
    refine hK undef w' ?_ (fun w'' _=>f_none hV hF _ w'')
    have ht1:R.tht (upB D i) (upd env i undef)=fun w''=>OwnK T k w'' R.w0.heap.size (.slice (some ⟨g,0,none⟩) n c) n ds':=by
      unfold Reg.tht
      rw [hth]
      simp only [upB_self,if_true]
    rw [ht1]
    exact hst0.callg hex hgb (fun w'' ha=>hown.stab hM ha))
end
theorem Cur.exInK {n:Nat} {w0:World} {Θ:World→Prop} {L:Slots} {M:List Ent} {a:Act} {w:World} {T:TypeId} {k g m c:Nat} {ds:List Value} (h:Cur n w0 none none (Facts []) Θ L M a w) (hΘ:∀ w,Θ w→OwnK T k w w0.heap.size (.slice (some ⟨g,0,none⟩) m c) m ds):Cur n w0 none (some g) (Facts []) Θ L M a w:=by
 refine ⟨h.sz,h.df,⟨h.st.gr,h.st.nod,h.st.own,fun g' hg'=>?_,fun _ _ φ hφ=>(by cases hφ),h.st.the⟩,h.sl⟩
 obtain rfl:=Option.some.inj hg'
 have h1:=hΘ w h.st.nowT
 have h2:=h1.lt g rfl
 exact ⟨h2.2,fun m e hm he=>own_offK (fun w' ha=>hΘ w' (h.st.the w' ha)) hm (by rw [he];rfl),.inl h2.1⟩
end Go.Proofs.YtailjojebdmnnaaGreat
namespace Go.Proofs.YtailjojebdmnnaaGreat
open Go.RowKit
def pfx (ops:Array Oper) (k:Nat):Array Oper:=(ops.toList.take k).toArray
def sfx (ops:Array Oper) (k:Nat):Array Oper:=((ops.toList.drop k).map fun o=>{ o with after:=((o.after.toList.filter fun e=>Nat.ble k e.on).map fun e=>{ e with on:=e.on-k }).toArray }).toArray
def cutOk (ops:Array Oper) (cl:List (List Nat)) (k:Nat):Bool:=
 clOk ops cl && Nat.ble k ops.size && ((List.range ops.size).all fun i=>Nat.blt i k || (match ops[i]? with | some o=>o.guard.isNone | none=>true) && (List.range i).all fun j=>(cl.getD i []).contains j) &&
 (List.range k).all fun i=>match ops[i]? with | some o=>(match o.guard with | some (g,_)=>Nat.blt g k | none=>true) | none=>true
section
variable {P:Program} {ops:Array Oper} {Q:Exit→Act→World→Prop} {cl:List (List Nat)}
def wpS (P:Program) (ops:Array Oper) (Q:Exit→Act→World→Prop):List Nat→Act→World→Prop
  | [],a,w=>Q .normal a w
  | i :: rest,a,w=>match ops[i]? with
    | none=>False
    | some o=>Oper.wp P o a w (wpS P ops Q rest) Q
theorem cut_parts {k:Nat} (h:cutOk ops cl k=true):clOk ops cl=true∧k≤ops.size∧(∀ i o,k≤i→ops[i]? = some o→o.guard=none∧∀ j,j < i→j∈cl.getD i [])∧(∀ i o g u,i < k→ops[i]? = some o→o.guard=some (g,u)→g < k):=by
  unfold cutOk at h
  simp only [Bool.and_eq_true] at h
  obtain ⟨⟨⟨h1,h2⟩,h3⟩,h4⟩:=h
  refine ⟨h1,Nat.le_of_ble_eq_true h2,fun i o hi ho=>?_,fun i o g u hi ho hg=>?_⟩
  · have hlt:i < ops.size:=(Array.getElem?_eq_some_iff.1 ho).1
    have:=List.all_eq_true.1 h3 i (List.mem_range.2 hlt)
    rw [blt_no (by omega),ho] at this
    simp only [Bool.false_or,Bool.and_eq_true,Option.isNone_iff_eq_none] at this
    exact ⟨this.1,fun j hj=>by have:=List.all_eq_true.1 this.2 j (List.mem_range.2 hj);simpa using this⟩
  · have:=List.all_eq_true.1 h4 i (List.mem_range.2 hi)
    rw [ho] at this
    simp only [hg] at this
    unfold Nat.blt at this
    exact Nat.le_of_ble_eq_true this
theorem pfx_get {k i:Nat} (hk:k≤ops.size) (hi:i < k):(pfx ops k)[i]? = ops[i]?:=by
 unfold pfx
 rw [List.getElem?_toArray,List.getElem?_take,if_pos hi,Array.getElem?_toList]
theorem sfx_get {k i:Nat} {o:Oper} (ho:(sfx ops k)[i]? = some o):∃ o',ops[k+i]? = some o'∧o'.op=o.op∧o'.dst=o.dst∧o'.type=o.type∧o={ o' with after:=o.after }:=by
 unfold sfx at ho
 rw [List.getElem?_toArray,List.getElem?_map,Option.map_eq_some_iff] at ho
 obtain ⟨o',h1,rfl⟩:=ho
 rw [List.getElem?_drop,Array.getElem?_toList] at h1
 exact ⟨o',h1,rfl,rfl,rfl,rfl⟩
theorem sfx_size {k:Nat} (hk:k≤ops.size):(sfx ops k).size=ops.size-k:=by simp [sfx]
theorem wpS_sfx {k:Nat}:∀ (m i:Nat) (a:Act) (w:World),wpS P (sfx ops k) Q (List.range' i m) a w→(∀ j,j < m→∃ o,(sfx ops k)[i+j]? = some o)→wpS P ops Q (List.range' (k+i) m) a w:=by
  intro m
  induction m with
  | zero=>intro i a w h _;exact h
  | succ m ih =>
    intro i a w h hall
    rw [List.range'_succ] at h ⊢
    obtain ⟨o,ho⟩:=hall 0 (by omega)
    rw [Nat.add_zero] at ho
    obtain ⟨o',h1,_,_,_,h5⟩:=sfx_get ho
    unfold wpS at h ⊢
    rw [ho] at h
    rw [h1]
    simp only at h ⊢
    have hw:Oper.wp P o' a w (wpS P (sfx ops k) Q (List.range' (i+1) m)) Q:=by
      rw [h5] at h
      exact h
    refine Oper.wp_mono (fun a' w' h'=>?_) hw
    have:=ih (i+1) a' w' h' (fun j hj=>by have:=hall (j+1) (by omega);rwa [show i+1+j=i+(j+1) by omega])
    rwa [show k+i+1=k+(i+1) by omega]
theorem wpS_text {I:(Nat→Bool)→Act→World→Prop} (hcl:clOk ops cl=true) (hg:∀ (i:Nat) (o:Oper),ops[i]? = some o→o.guard=none) (hs:∀ i,i < ops.size→Step1 P ops Q cl I i) (hend:∀ D a w,(∀ i,D i=Nat.blt i ops.size)→I D a w→Q .normal a w) :
    ∀ (n k:Nat) (D:Nat→Bool) (a:Act) (w:World),k+n=ops.size→(∀ j,D j=true↔j < k)→Shut' cl D→I D a w→wpS P ops Q (List.range' k n) a w:=by
  intro n
  induction n with
  | zero=>intro k D a w hk hD _ hI;exact hend D a w (fun j=>by
    by_cases hj:j < ops.size
    · rw [blt_yes hj];exact (hD j).2 (by omega)
    · rw [blt_no hj]
      cases h:D j with
      | false=>rfl
      | true=>have:=(hD j).1 h;omega) hI
  | succ n ih =>
    intro k D a w hk hD hS hI
    rw [List.range'_succ]
    have ho:ops[k]? = some ops[k]:=Array.getElem?_eq_getElem (by omega)
    obtain ⟨h1,h2,h3⟩:=clOk_row hcl ho
    have hr:∀ e∈ops[k].after,Region.binds .any e=true→D e.on=true:=fun e he hb=>(hD e.on).2 (h2 e he hb)
    have hk':D k=false:=by cases h:D k with | false=>rfl | true=>have:=(hD k).1 h;omega
    have key:=hs k (by omega) _ ho D a w hI hk' (fun j hj hne=>by
        rcases h3 j hj with h | ⟨e,he,hb,hc⟩
        · exact absurd h hne
        · exact hS e.on (hr e he hb) j hc) (fun j hj hm=>by
        have:=hS j hj k hm
        rw [hk'] at this;cases this) (wpS P ops Q (List.range' (k+1) n)) (fun a' w' hI'=>ih (k+1) (upB D k) a' w' (by omega) (fun j=>by
        unfold upB
        split
        · rename_i h;subst h;simp
        · rw [hD j];omega) (shut_up hcl hS ho hr) hI')
    rw [if_pos (wanted_none (hg _ _ ho) _)] at key
    unfold wpS
    rw [ho]
    exact key
theorem yielded_pfx {k g:Nat} (hk:k≤ops.size) (hg:g < k) (t:Array Value):yielded (pfx ops k) t g=yielded ops t g:=by
 unfold yielded
 rw [pfx_get hk hg]
theorem wanted_pfx {k:Nat} {o:Oper} (hk:k≤ops.size) (hg:∀ g u,o.guard=some (g,u)→g < k) (t:Array Value):Region.wanted o (yielded (pfx ops k) t)=Region.wanted o (yielded ops t):=by
  unfold Region.wanted
  cases h:o.guard with
  | none=>rfl
  | some p =>
    obtain ⟨g,u⟩:=p
    simp only [yielded_pfx hk (hg g u h)]
theorem reg_cut {id n:Nat} {draw:Bool} {w0:World} {row ex:Option Nat} {Ψ Θ:World→Prop} {L:Slots} {M:List Ent} {a:Act} {w:World} (hm:P.follows .mixedOrders=true) (k:Nat) (clA:List (List Nat)) (hcut:cutOk ops clA k=true) (h:Cur n w0 row ex Ψ Θ L M a w) (ds:List (Option Tmp)) (cl:List (List Nat)) (S:List Sto) (W:List New) (V:List (Option (Env→Value))) (F:List (Nat × (Env→World→Prop))) (th:Option (Nat × (Env→World→Prop)))
    (hds:(pfx ops k).toList.map (·.dst)=ds) (hR:regOk ⟨pfx ops k,ds,cl,S,W,V,F,n,a,L,M,w0,row,ex,Ψ,Θ,th⟩=true) (hcl:(List.range k).all (fun i=>cl.getD i [] == clA.getD i [])=true)
    (hs:∀ i,i < k→SR P Q ⟨pfx ops k,ds,cl,S,W,V,F,n,a,L,M,w0,row,ex,Ψ,Θ,th⟩ i)
    (hend:∀ env a' w',End ⟨pfx ops k,ds,cl,S,W,V,F,n,a,L,M,w0,row,ex,Ψ,Θ,th⟩ env a' w'→wpS P (sfx ops k) Q (List.range' 0 (ops.size-k)) a' w'):(Code.region id ops draw).wp P Q a w:=by
  obtain ⟨c1,c2,c3,c4⟩:=cut_parts hcut
  have hps:(pfx ops k).size=k:=by unfold pfx;simp;omega
  have hJ:∀ w',St w0 row ex w' (mem M) Ψ Θ→RI ⟨pfx ops k,ds,cl,S,W,V,F,n,a,L,M,w0,row,ex,Ψ,Θ,th⟩ (fun _=>false) a w':=fun w' h' =>
    ⟨fun _=>undef,h.sz,h.df,fun t _=>rfl,fun j t hj=>(by cases hj),(h'.ext (fun m=>mem_start _ m)).mono (fun w'' h=>⟨h,fun i hi=>by cases hi⟩) (fun _ h=>by cases th <;> exact h),h.sl⟩
  have ecl:∀ i,i < k→cl.getD i []=clA.getD i []:=fun i hi=>by have:=List.all_eq_true.1 hcl i (List.mem_range.2 hi);simpa using this
  have hlen:∀ a' w',(∃ env,End ⟨pfx ops k,ds,cl,S,W,V,F,n,a,L,M,w0,row,ex,Ψ,Θ,th⟩ env a' w')→wpS P ops Q (List.range' k (ops.size-k)) a' w':=fun a' w' ⟨env,he⟩=>by
    have:=wpS_sfx (k:=k) (ops.size-k) 0 a' w' (hend env a' w' he) (fun j hj=>⟨_,Array.getElem?_eq_getElem (by rw [sfx_size c2];omega)⟩)
    simpa using this
  let I:(Nat→Bool)→Act→World→Prop:=fun D a' w'=>((∃ i,i < k∧D i=false)∧(∀ j,k≤j→D j=false)∧RI ⟨pfx ops k,ds,cl,S,W,V,F,n,a,L,M,w0,row,ex,Ψ,Θ,th⟩ D a' w')∨(∃ m,k≤m∧m≤ops.size∧(∀ j,D j=Nat.blt j m)∧wpS P ops Q (List.range' m (ops.size-m)) a' w')
  have allk:∀ D a' w',(∀ j,k≤j→D j=false)→RI ⟨pfx ops k,ds,cl,S,W,V,F,n,a,L,M,w0,row,ex,Ψ,Θ,th⟩ D a' w'→I D a' w':=fun D a' w' h1 h2=>by
    by_cases hx:∃ i,i < k∧D i=false
    · exact .inl ⟨hx,h1,h2⟩
    · refine .inr ⟨k,Nat.le_refl _,c2,fun j=>?_,?_⟩
      · by_cases hj:j < k
        · rw [blt_yes hj]
          cases hD:D j with
          | true=>rfl
          | false=>exact absurd ⟨j,hj,hD⟩ hx
        · rw [blt_no hj];exact h1 j (by omega)
      · obtain ⟨env,hJ'⟩:=h2
        have e:D=allD k:=by
          funext j
          show D j=Nat.blt j k
          by_cases hj:j < k
          · rw [blt_yes hj]
            cases hD:D j with
            | true=>rfl
            | false=>exact absurd ⟨j,hj,hD⟩ hx
          · rw [blt_no hj];exact h1 j (by omega)
        rw [e] at hJ'
        exact hlen a' w' ⟨env,⟨by show J _ (allD (pfx ops k).size) env a' w';rw [hps];exact hJ',hR,hds⟩⟩
  refine reg_inv (cl:=clA) (I:=I) hm c1 (allk _ a w (fun _ _=>rfl) (hJ w h.st)) (fun _=>allk _ a w.drew (fun _ _=>rfl) (hJ _ h.st.drew)) (fun i hi=>?_) (fun D a' w' hD hI=>?_)
  · intro o ho D a' w' hI hDi hp hq K hK
    rcases hI with ⟨⟨i0,hi0,hDi0⟩,hge,hRI⟩ | ⟨m,hkm,hmn,hDm,hw⟩
    · by_cases hik:i < k
      · have hp':(pfx ops k)[i]? = some o:=by rw [pfx_get c2 hik];exact ho
        have key:=hs i hik hR hds o hp' D a' w' hRI hDi (fun j hj hne=>hp j (by rw [← ecl i hik];exact hj) hne) (fun j hj hm'=>by
          have hjk:j < k:=by
            rcases Nat.lt_or_ge j k with h | h
            · exact h
            · rw [hge j h] at hj;cases hj
          have e:=ecl j hjk
          rw [show (Reg.cl ⟨pfx ops k,ds,cl,S,W,V,F,n,a,L,M,w0,row,ex,Ψ,Θ,th⟩)=cl from rfl,e] at hm'
          exact hq j hj hm') K (fun a'' w'' h'=>hK a'' w'' (allk _ a'' w'' (fun j hj=>by rw [upB_ne (by omega)];exact hge j hj) h'))
        rw [wanted_pfx c2 (fun g u hg=>c4 i o g u hik ho hg)] at key
        exact key
      · exfalso
        have:=(c3 i o (by omega) ho).2 i0 (by omega)
        have:=hp i0 this (by omega)
        rw [hDi0] at this;cases this
    · have him:i=m:=by
        have h1:¬ i < m:=fun h=>by rw [hDm i,blt_yes h] at hDi;cases hDi
        rcases Nat.lt_or_ge m i with h2 | h2
        · exfalso
          have h3:=(c3 i o (by omega) ho).2 m h2
          have h4:=hp m h3 (by omega)
          rw [hDm m,blt_no (by omega)] at h4;cases h4
        · omega
      subst him
      rw [if_pos (wanted_none (c3 i o hkm ho).1 _)]
      rw [show ops.size-i=(ops.size-(i+1))+1 by omega,List.range'_succ] at hw
      unfold wpS at hw
      rw [ho] at hw
      refine Oper.wp_mono (fun a'' w'' h'=>hK a'' w'' (.inr ⟨i+1,by omega,by omega,fun j=>?_,h'⟩)) hw
      unfold upB
      split
      · rename_i hji;subst hji;rw [blt_yes (by omega)]
      · rename_i hji
        rw [hDm j]
        by_cases hj:j < i
        · rw [blt_yes hj,blt_yes (by omega)]
        · rw [blt_no hj,blt_no (by omega)]
  · rcases hI with ⟨⟨i,hi,hDi⟩,_,_⟩ | ⟨m,hkm,hmn,hDm,hw⟩
    · rw [hD i,blt_yes (by omega)] at hDi;cases hDi
    · have:m=ops.size:=by
        rcases Nat.lt_or_eq_of_le hmn with h1 | h1
        · have h2:=hDm m
          rw [hD m,blt_yes h1,blt_no (by omega)] at h2;cases h2
        · exact h1
      subst this
      rw [Nat.sub_self] at hw
      exact hw
theorem reg_rest {n:Nat} {w0:World} {row ex:Option Nat} {Ψ Θ:World→Prop} {L:Slots} {M:List Ent} {a:Act} {w:World} (h:Cur n w0 row ex Ψ Θ L M a w) (ds:List (Option Tmp)) (cl:List (List Nat)) (S:List Sto) (W:List New) (V:List (Option (Env→Value))) (F:List (Nat × (Env→World→Prop))) (th:Option (Nat × (Env→World→Prop))) {m:Nat}
    (hds:ops.toList.map (·.dst)=ds) (hR:regOk ⟨ops,ds,cl,S,W,V,F,n,a,L,M,w0,row,ex,Ψ,Θ,th⟩=true) (hg:(ops.all fun o=>o.guard.isNone)=true) (hmm:m=ops.size)
    (hs:∀ i,i < ops.size→SR P Q ⟨ops,ds,cl,S,W,V,F,n,a,L,M,w0,row,ex,Ψ,Θ,th⟩ i)
    (hend:∀ env a' w',End ⟨ops,ds,cl,S,W,V,F,n,a,L,M,w0,row,ex,Ψ,Θ,th⟩ env a' w'→Q .normal a' w'):wpS P ops Q (List.range' 0 m) a w:=by
  have hJ:RI ⟨ops,ds,cl,S,W,V,F,n,a,L,M,w0,row,ex,Ψ,Θ,th⟩ (fun _=>false) a w:=
    ⟨fun _=>undef,h.sz,h.df,fun t _=>rfl,fun j t hj=>(by cases hj),(h.st.ext (fun m=>mem_start _ m)).mono (fun w'' h=>⟨h,fun i hi=>by cases hi⟩) (fun _ h=>by cases th <;> exact h),h.sl⟩
  subst hmm
  refine wpS_text (cl:=cl) (I:=RI ⟨ops,ds,cl,S,W,V,F,n,a,L,M,w0,row,ex,Ψ,Θ,th⟩) (regOk_cl hR) (fun i o ho=>?_) (fun i hi=>hs i hi hR hds) (fun D a' w' hD hI=>?_) ops.size 0 (fun _=>false) a w (Nat.zero_add _) (fun j=>by simp) (fun j hj=>by cases hj) hJ
  · have:=Array.all_eq_true_iff_forall_mem.1 hg o (Array.mem_of_getElem? ho)
    simpa using this
  · obtain ⟨env,hJ'⟩:=hI
    have e:D=allD ops.size:=by funext j;rw [hD j];rfl
    rw [e] at hJ'
    exact hend env a' w' ⟨hJ',hR,hds⟩
end
end Go.Proofs.YtailjojebdmnnaaGreat
namespace Go.Proofs.YtailjojebdmnnaaGreat
open Go.RowKit
section
variable {R:Reg} {Q:Exit→Act→World→Prop} {i:Nat} {o:Oper}
theorem s_fa (ho:R.ops[i]? = some o) (hf:free' R i=true) {T:TypeId} {x:Operand} {fld:Nat} (hop:o.op = .fieldAddr T x fld) (hw:∀ {D env a w},At R i D env a w→Region.wanted o (yielded R.ops a.tmps)=true)
    {n k:Nat} {f:Nat→Value} (q off q':Nat) (hq:q+off=q') {s:Env→Value} (hV:R.v? i=some fun env=>elt (s env) q')
    (hx:∀ env,opAt R i env x=some (elt (s env) q)) (hs:∀ {D env a w},At R i D env a w→Els w (s env) n k f) (hj:0 < n) (hrd:∀ (b q:Nat) (w:World),(Instr.fieldAt T (.pointer (some ⟨b,q,none⟩)) fld).run Tryz.prog w = .ok (.pointer (some ⟨b,q+off,none⟩)) w) (hn:noF R i=true:=by rfl) (hr:∀ env x,s (restr (R.cl.getD i []) (upd env i x))=s env:=by intros;rfl):SR Tryz.prog Q R i:=
  s_val ho hf hV (fun {D env a w} hA=>⟨hw hA,by
    subst hq
    obtain ⟨A,c,e,h1,h2⟩:=hs hA
    have e1:=hA.e (hx env)
    rw [e] at e1
    rcases h2 with h2 | ⟨b,off',rfl,_⟩
    · omega
    simp only [elt] at e1
    rw [e]
    simp [execOp,hop,e1,hrd,elt,Nat.add_assoc]⟩) hn (fun env x=>by simp only [hr])
end
end Go.Proofs.YtailjojebdmnnaaGreat
namespace Go.Proofs.YtailjojebdmnnaaGreat
open Go.RowKit
theorem OwnK.elsX {T:TypeId} {k:Nat} {w:World} {B:Nat} {v:Value} {n:Nat} {cs:List Value} (h:OwnK T k w B v n cs):Els w v n k (fun i=>(cs[i]?).getD undef):=by
  have h1:=h.1
  rcases h.2 with ⟨rfl,rfl⟩ | ⟨g,cap,cur,rfl,hg,hh,hnc,hcm,hcs,ht⟩
  · exact ⟨none,0,rfl,Nat.le_refl _,.inl rfl⟩
  · refine ⟨_,cap,rfl,hnc,.inr ⟨g,0,rfl,fun i hi=>?_⟩⟩
    obtain ⟨u,e⟩:∃ u,cs[i]? = some u:=⟨_,List.getElem?_eq_getElem (by omega)⟩
    show _=some ((cs[i]?).getD undef)
    have e2:=e
    rw [e]
    rw [← ht,List.getElem?_take,if_pos hi] at e2
    simp only [World.cell?,hh,Nat.zero_add,Option.bind_some]
    simpa using e2
section
variable {R:Reg} {Q:Exit→Act→World→Prop} {i:Nat} {o:Oper}
theorem s_appS (ho:R.ops[i]? = some o) (hf:free R i=true) (hg:o.guard=none) {s x:Operand} {TS T:TypeId} (hop:o.op = .call { callee:=.builtin .append,args:=#[s,x],argTypes:=#[TS,TS] }) (hTS:Tryz.prog.underlying TS=some (.slice T)) {k by':Nat} {z:Value} (hinfo:(Tryz.prog.info? T).map (fun i=>(i.zero,i.size,i.bytes))=some (some z,k,by')) (hzk:z.cells.size=k) (hk0:0 < k) (hby:by'≤1000)
    {v:Value} {n:Nat} {ds:List Value} (hV:R.v? i=some fun env=>.slice (sA (env i)) (n+1) (sC (env i))) (hF:R.F=[]) (hΨ:∀ w,R.Ψ w) (hex:R.ex=none) (hΘ:∀ w,R.Θ w→OwnK T k w R.w0.heap.size v n ds) (zs:List Value) (hzs:zs.length=k) (h1c:∀ u∈zs,u.oneCell'=true) (hth:R.th=some (i,fun env w=>OwnK T k w R.w0.heap.size (.slice (sA (env i)) (n+1) (sC (env i))) (n+1) (ds ++ zs))) (hlen:n≤1000000)
    (j m:Nat) {ow:Own} (hm:R.O[m]? = some ow) (hal:ow.al=some j) (hst:ow.st=none) (hc:ow.c0=zs) (hj:((R.cl.getD i []).contains j && !(j == i))=true)
    (hs:∀ env,opAt R i env s=some v) (hx:∀ {D env a w},At R i D env a w→a.eval x = .slice (some ⟨pb env j,0,none⟩) 1 1):SR Tryz.prog Q R i:=
  s_th ho hf (fun {D env a w} hA K hK=>by
    rw [if_pos (wanted_none hg _)]
    have hnD:D i=false:=hA.i
    have ht0:R.tht D env=R.Θ:=by unfold Reg.tht;rw [hth];simp [hnD]
    have hst0:=hA.j.st
    rw [ht0] at hst0
    have hT:∀ w',Apart (R.mem D env) none w w'→OwnK T k w' R.w0.heap.size v n ds:=fun w' hw=>hΘ w' (hst0.the w' hw)
    obtain ⟨i0,hi,hz0,hz1,hz2⟩:=info_parts hinfo
    have hcell:=hA.cells m hm (by rw [hal];exact hj) (by rw [hst];trivial)
    have hb:ow.blk env=pb env j:=by unfold Own.blk;rw [hal]
    rw [hb,hc] at hcell
    obtain ⟨v',w',hr,h2,h3,_,h5⟩:=run_append_own_at (P:=Tryz.prog) w R.w0.heap.size TS o.type T i0 z k by' hTS hi hz0 hz1 hz2 hzk hk0 v n ds (hT w (Apart.refl _ _ _)) ⟨pb env j,0,none⟩ 1 1 zs (by rw [hzs,Nat.one_mul])
      (fun q u hq=>by
        have h9:=own_cell hcell hq
        have e9:((⟨pb env j,0,none⟩:Addr).add q)=⟨pb env j,q,none⟩:=by unfold Addr.add;split <;> simp_all
        rw [e9];exact h9) h1c (by unfold maxLen;omega) (by
          have:(n+1)*by'≤1000001*1000:=Nat.mul_le_mul (by omega) hby
          omega) hst0.gr.size
    have hrun:(execOp a.eval o).run Tryz.prog w = .ok (.value v') w':=by
      have e1:=hA.e (hs env)
      have e2:=hx hA
      unfold execOp
      simp [hop,resolve,Deferred.ofValue,invoke,builtin,e1,e2,hr]
    unfold Oper.wp
    rw [hrun]
    have hown:OwnK T k w' R.w0.heap.size v' (n+1) (ds ++ zs):=h2
    have hself:=cl_self hA.ok ho
    have hform:v' = .slice (sA v') (n+1) (sC v'):=by
      obtain ⟨_,h9⟩:=hown
      rcases h9 with ⟨_,h9⟩ | ⟨g9,c9,cur9,rfl,_⟩
      · omega
      · rfl
    have key:=hst0.rowedK (fun w''=>⟨hΨ w'',fun j hj=>⟨fun V hV=>((hA.j.fact hj).1 V hV),fun p hp=>(by rw [hF] at hp;cases hp)⟩⟩) hT h3 hown (by rcases h5 with h | h;exact .inl h;exact .inr (.inl h)) hex
    have e9:restr (R.cl.getD i []) (upd env i v') i=v':=by unfold restr upd;rw [if_pos (List.contains_iff_mem.2 hself),if_pos rfl]
    refine hK v' w' ?_ (fun w'' _=>⟨fun V' hV'=>(by rw [hV] at hV';obtain rfl:=Option.some.inj hV';simp only [e9];exact hform),fun p hp=>(by rw [hF] at hp;cases hp)⟩)
    have ht1:R.tht (upB D i) (upd env i v')=fun w=>OwnK T k w R.w0.heap.size v' (n+1) (ds ++ zs):=by
      unfold Reg.tht
      rw [hth]
      simp only [upB_self,if_true]
      funext w''
      rw [e9,← hform]
    rw [ht1]
    exact key)
end
end Go.Proofs.YtailjojebdmnnaaGreat
