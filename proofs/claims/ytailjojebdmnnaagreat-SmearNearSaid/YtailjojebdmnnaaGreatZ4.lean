/- Texts E6, L7, M3, N3, L8, P2, E7, L9, L10, P3 of one proof, one behind the other; what nothing here names is left out. -/
import Derived.Test.YtailjojebdmnnaaGreatZ3
import Derived.IntWalk
import Derived.ArgAppend
import Derived.Deep.Upon
set_option maxRecDepth 100000
set_option maxHeartbeats 8000000
set_option linter.unusedVariables false
set_option linter.unusedSimpArgs false
namespace Go.Proofs.YtailjojebdmnnaaGreat
open Go.RowKit
attribute [local go_sem] vN bT bF rS vW vM vL vT2 vT3 vP vI execOp Act.eval evC hi_zero lo_zero
def RowN (B:Nat) (w:World) (v:Value) (ds:List Int):Prop:=Row w v ds∧∀ b,v.ownBlock=some b→B≤b
theorem OwnR.new {w:World} {B:Nat} {A:Option Addr} {n c:Nat} {ds:List Int} (h:OwnR w B (.slice A n c) ds) (m:Nat):∀ b,(Value.slice A m c).ownBlock=some b→B≤b:=fun b hb=>by
  obtain ⟨_,h2⟩:=h
  rcases h2 with ⟨e,_⟩ | ⟨g,cap,cur,e,hB,_⟩
  · simp only [Value.slice.injEq] at e;obtain ⟨rfl,_⟩:=e;cases hb
  · simp only [Value.slice.injEq] at e;obtain ⟨rfl,_⟩:=e;simp only [Value.ownBlock,Option.some.injEq] at hb;omega
theorem add_core (w0:World) (A0 B0:Option Addr) (c0 k0:Nat) (x y:Int) (hx:0≤x) (hy:0≤y) (hr:Row w0 (.slice A0 (digs x).length c0) (digs x)) (hr2:Row w0 (.slice B0 (digs y).length k0) (digs y)) (N:Nat) (hN:N≤100000) (hNx:(digs x).length≤N) (hNy:(digs y).length≤N):Calls Tryz.prog 48 #[.slice A0 ((digs x).length) c0,.slice B0 ((digs y).length) k0] w0 fun e w'=>∃ v,e = .returned v∧Below w0.heap.size w0 w'∧RowN w0.heap.size w' v (digs (x+y)):=by
 have hst:=St.start w0 (Θ:=fun _=>True) (fun _ _=>trivial)
 refine en_ Tryz.func48 hst 53 [(0,.slice A0 ((digs x).length) c0),(1,.slice B0 ((digs y).length) k0)] (fun ac H_=>?_)
 refine gq0 H_ 0 [[0]] [_] (s:=mv3) (k:=fun E1 ac wd H_=>?_)
 refine gq1 H_ 0 [[0]] [_] (fun _=>[(5,.slice none 0 0)]) (s:=mv3) (k:=fun E2 ac wd H_=>?_)
 refine gq1 H_ 0 [[0]] [_] (fun _=>[(6,vI 0)]) (s:=mv3) (k:=fun E3 ac wd H_=>?_)
 refine gq1 H_ 0 [[0]] [_] (fun _=>[(7,vI 0)]) (s:=mv3) (k:=fun E4 ac wd H_=>?_)
 refine lp3 (fun ac wd=>∃ (A:Option Addr) (cp:Nat) (ds:List Int) (i:Nat) (cy:Int),(AddI (digs x) (digs y) ds i cy∧i≤N+1∧(i=N+1→cy=0))∧Cur 53 w0 none none (fun _=>True) (fun w=>OwnR w w0.heap.size (.slice A ds.length cp) ds) [(0,rS x A0 c0),(1,rS y B0 k0),(5,.slice A ds.length cp),(6,vI cy),(7,vN i)] [] ac wd) (fun ac _=>((N:Int)+2-sI ac 7).toNat) ⟨none,0,[],0,0,⟨AddI.start _ _,by omega,fun _=>rfl⟩,(H_.re rfl).th (fun w _=>OwnR.nil w _)⟩ ?_
 rintro ac wd ⟨A,cp,ds,i,cy,⟨hI,hiN,hcz⟩,H_⟩
 have hmu:sI ac 7=((i:Nat):Int):=sI_eq (H_.g (t:=7) rfl)
 have hil:=hI.l
 have hc0:=hI.h0
 have hc1:=hI.h1
 by_cases h1:i < (digs x).length
 refine gq1 H_ 13 [[0],[1],[1,2],r_ 4,r_ 5,r_ 6,[0,1,2,3,4,6],[0,1,2,3,4,6,7],r_ 9,r_ 10,r_ 11,r_ 12,r_ 13,r_ 14] [_,_,vN ((digs x).length),bT,_,_,_,_,_,bT,_,_,_,bT] (fun _=>[(21,bT)]) (s:=⟨mv3,mv3,ln_ Tryz.underlying50 fun _ env _ wd hA=>(hr.grown hA.j.st.gr).els,bi3 (h:=by intro env w;(first | (simp [go_sem];done) | (simp [go_sem];omega) | (have gx:=(rg_digs x).getD i;have gy:=(rg_digs y).getD i;have hi64:=hil;simp only [List.getD_eq_getElem?_getD] at gx gy;simp [go_sem];omega))),mv3,off_,off_,off_,off_,pk3,mv3,off_,off_,pk3⟩) (k:=fun E6 ac wd H_=>?_)
 refine cT3 H_ ?_
 refine gq1 H_ 3 [[0],[1],[1,2],r_ 4] [_,_,vN ((digs x).length),bT] (fun _=>[(27,bT)]) (s:=⟨mv3,mv3,ln_ Tryz.underlying50 fun _ env _ wd hA=>(hr.grown hA.j.st.gr).els,bi3 (h:=by intro env w;(first | (simp [go_sem];done) | (simp [go_sem];omega) | (have gx:=(rg_digs x).getD i;have gy:=(rg_digs y).getD i;have hi64:=hil;simp only [List.getD_eq_getElem?_getD] at gx gy;simp [go_sem];omega)))⟩) (k:=fun E7 ac wd H_=>?_)
 refine cT3 H_ ?_
 refine gq1 H_ 6 [[0],[1],[2],[1,2,3],[1,2,3,4],r_ 6,r_ 7] [_,_,_,elt (rS x A0 c0) i,vI (((digs x)).getD i 0),vI (cy+(((digs x)).getD i 0)),_] (fun _=>[(6,vI (cy+(((digs x)).getD i 0)))]) (s:=⟨mv3,mv3,mv3,ia_ Tryz.underlying50 sz3 i i ((i:Nat):Int) (fun _ env _ wd hA=>(hr.grown hA.j.st.gr).els) (rfl) (by omega) (Nat.mul_one _),le_ i (fun _ env _ wd hA=>(hr.grown hA.j.st.gr).els) (by omega) (leG1 sh3 rfl),bi3 (h:=by intro env w;(first | (simp [go_sem];done) | (have gx:=(rg_digs x).getD i;have gy:=(rg_digs y).getD i;have hi64:=hil;simp only [List.getD_eq_getElem?_getD] at gx gy;simp [go_sem];exact IntWalk.i64_in _ (by omega)))),mv3⟩) (k:=fun E8 ac wd H_=>?_)
 by_cases h2:i < (digs y).length
 refine gq1 H_ 3 [[0],[1],[1,2],r_ 4] [_,_,vN ((digs y).length),bT] (fun _=>[(37,bT)]) (s:=⟨mv3,mv3,ln_ Tryz.underlying50 fun _ env _ wd hA=>(hr2.grown hA.j.st.gr).els,bi3 (h:=by intro env w;(first | (simp [go_sem];done) | (simp [go_sem];omega) | (have gx:=(rg_digs x).getD i;have gy:=(rg_digs y).getD i;have hi64:=hil;simp only [List.getD_eq_getElem?_getD] at gx gy;simp [go_sem];omega)))⟩) (k:=fun E9 ac wd H_=>?_)
 refine cT3 H_ ?_
 refine gq1 H_ 6 [[0],[1],[2],[1,2,3],[1,2,3,4],r_ 6,r_ 7] [_,_,_,elt (rS y B0 k0) i,vI (((digs y)).getD i 0),vI ((cy+(((digs x)).getD i 0))+(((digs y)).getD i 0)),_] (fun _=>[(6,vI ((cy+(((digs x)).getD i 0))+(((digs y)).getD i 0)))]) (s:=⟨mv3,mv3,mv3,ia_ Tryz.underlying50 sz3 i i ((i:Nat):Int) (fun _ env _ wd hA=>(hr2.grown hA.j.st.gr).els) (rfl) (by omega) (Nat.mul_one _),le_ i (fun _ env _ wd hA=>(hr2.grown hA.j.st.gr).els) (by omega) (leG1 sh3 rfl),bi3 (h:=by intro env w;(first | (simp [go_sem];done) | (have gx:=(rg_digs x).getD i;have gy:=(rg_digs y).getD i;have hi64:=hil;simp only [List.getD_eq_getElem?_getD] at gx gy;simp [go_sem];exact IntWalk.i64_in _ (by omega)))),mv3⟩) (k:=fun E10 ac wd H_=>?_)
 refine gq H_ 5 [[0],[1],[1,2],[1,2,3],r_ 5,r_ 6] [_,_,vI (((cy+(((digs x)).getD i 0))+(((digs y)).getD i 0)) % 65536),KE_ fun env=>.slice (some ⟨(pb env 3),0,none⟩) 1 1,KE_ fun env=>(env 4),_] (fun E11=>[(5,(E11 4))]) (W:=[{ i:=3,T:=3,c0:=[vI (((cy+(((digs x)).getD i 0))+(((digs y)).getD i 0)) % 65536)] }]) (th:=(some (4,fun env w=>OwnR w w0.heap.size (env 4) (ds ++ [((cy+(((digs x)).getD i 0))+(((digs y)).getD i 0)) % 65536])))) (T:=fun E11=>fun w=>OwnR w w0.heap.size (E11 4) (ds ++ [((cy+(((digs x)).getD i 0))+(((digs y)).getD i 0)) % 65536])) (s:=⟨mv3,mv3,bi3 (h:=by intro env w;(first | (simp [go_sem];done) | (have gx:=(rg_digs x).getD i;have gy:=(rg_digs y).getD i;have hi64:=hil;simp only [List.getD_eq_getElem?_getD] at gx gy;simp [go_sem];rw [Int.tmod_eq_emod_of_nonneg (by omega)];exact IntWalk.i64_in _ (by omega)) | (have gx:=(rg_digs x).getD i;have gy:=(rg_digs y).getD i;have hi64:=hil;simp only [List.getD_eq_getElem?_getD] at gx gy;simp [go_sem];rw [Int.tmod_eq_emod_of_nonneg (by omega)]))),s_bsM rfl rfl 0 rfl rfl 1 rfl (fun {D env ac wd} hA=>by have e46:ac.tmps[46]? = some (vI (((cy+(((digs x)).getD i 0))+(((digs y)).getD i 0)) % 65536)):=hA.g rfl;simp [go_sem,e46,Tryz.underlying50]),s_app rfl rfl rfl rfl rfl rfl (fun _=>trivial) rfl (fun _ h=>h) (((cy+(((digs x)).getD i 0))+(((digs y)).getD i 0)) % 65536) rfl (by omega) 3 0 rfl rfl rfl rfl rfl (fun _=>rfl) (fun hA=>hA.e rfl),mv3⟩) (k:=fun E11 ac wd H_=>?_)
 refine gq1 H_ 2 (tri 3) [_,vI (((cy+(((digs x)).getD i 0))+(((digs y)).getD i 0)) / 65536),_] (fun _=>[(6,vI (((cy+(((digs x)).getD i 0))+(((digs y)).getD i 0)) / 65536))]) (s:=⟨mv3,bi3 (h:=by intro env w;(first | (simp [go_sem];done) | (have gx:=(rg_digs x).getD i;have gy:=(rg_digs y).getD i;have hi64:=hil;simp only [List.getD_eq_getElem?_getD] at gx gy;simp [go_sem];rw [Int.tdiv_eq_ediv_of_nonneg (by omega)];exact IntWalk.i64_in _ (by omega)) | (have gx:=(rg_digs x).getD i;have gy:=(rg_digs y).getD i;have hi64:=hil;simp only [List.getD_eq_getElem?_getD] at gx gy;simp [go_sem];rw [Int.tdiv_eq_ediv_of_nonneg (by omega)]))),mv3⟩) (k:=fun E12 ac wd H_=>?_)
 refine gq1 H_ 2 (tri 3) [_,vI (((i:Nat):Int)+1),_] (fun _=>[(7,vI (((i:Nat):Int)+1))]) (s:=⟨mv3,bi3 (h:=by intro env w;(first | (simp [go_sem];done) | (have gx:=(rg_digs x).getD i;have gy:=(rg_digs y).getD i;have hi64:=hil;simp only [List.getD_eq_getElem?_getD] at gx gy;simp [go_sem];exact IntWalk.i64_in _ (by omega)))),mv3⟩) (k:=fun E13 ac wd H_=>?_)
 refine then_n ?_
 have eC:cy+(digs x).getD i 0+(digs y).getD i 0=cy+(digs x).getD i 0+(digs y).getD i 0:=by skip;omega
 obtain ⟨A2,c2,e2⟩:=OwnR.form H_.st.nowT
 rw [e2] at H_
 have hS:=hI.step (rg_digs x) (rg_digs y) eC
 have hz:cy+(digs x).getD i 0+(digs y).getD i 0 / 65536=0∨i+1≤N:=by omega
 exact ⟨⟨A2,c2,ds ++ [(cy+(digs x).getD i 0+(digs y).getD i 0) % 65536],i+1,(cy+(digs x).getD i 0+(digs y).getD i 0) / 65536,⟨hS,by omega,fun h=>by omega⟩,(H_.take (M1:=[]) rfl).re rfl⟩,by rw [sI_eq (H_.g (t:=7) rfl),hmu];omega⟩
 refine gq1 H_ 3 [[0],[1],[1,2],r_ 4] [_,_,vN ((digs y).length),bF] (fun _=>[(37,bF)]) (s:=⟨mv3,mv3,ln_ Tryz.underlying50 fun _ env _ wd hA=>(hr2.grown hA.j.st.gr).els,bi3 (h:=by intro env w;(first | (simp [go_sem];done) | (simp [go_sem];omega) | (have gx:=(rg_digs x).getD i;have gy:=(rg_digs y).getD i;have hi64:=hil;simp only [List.getD_eq_getElem?_getD] at gx gy;simp [go_sem];omega)))⟩) (k:=fun E9 ac wd H_=>?_)
 refine cF3 H_ ?_
 refine gq H_ 5 [[0],[1],[1,2],[1,2,3],r_ 5,r_ 6] [_,_,vI ((cy+(((digs x)).getD i 0)) % 65536),KE_ fun env=>.slice (some ⟨(pb env 3),0,none⟩) 1 1,KE_ fun env=>(env 4),_] (fun E10=>[(5,(E10 4))]) (W:=[{ i:=3,T:=3,c0:=[vI ((cy+(((digs x)).getD i 0)) % 65536)] }]) (th:=(some (4,fun env w=>OwnR w w0.heap.size (env 4) (ds ++ [(cy+(((digs x)).getD i 0)) % 65536])))) (T:=fun E10=>fun w=>OwnR w w0.heap.size (E10 4) (ds ++ [(cy+(((digs x)).getD i 0)) % 65536])) (s:=⟨mv3,mv3,bi3 (h:=by intro env w;(first | (simp [go_sem];done) | (have gx:=(rg_digs x).getD i;have gy:=(rg_digs y).getD i;have hi64:=hil;simp only [List.getD_eq_getElem?_getD] at gx gy;simp [go_sem];rw [Int.tmod_eq_emod_of_nonneg (by omega)];exact IntWalk.i64_in _ (by omega)) | (have gx:=(rg_digs x).getD i;have gy:=(rg_digs y).getD i;have hi64:=hil;simp only [List.getD_eq_getElem?_getD] at gx gy;simp [go_sem];rw [Int.tmod_eq_emod_of_nonneg (by omega)]))),s_bsM rfl rfl 0 rfl rfl 1 rfl (fun {D env ac wd} hA=>by have e46:ac.tmps[46]? = some (vI ((cy+(((digs x)).getD i 0)) % 65536)):=hA.g rfl;simp [go_sem,e46,Tryz.underlying50]),s_app rfl rfl rfl rfl rfl rfl (fun _=>trivial) rfl (fun _ h=>h) ((cy+(((digs x)).getD i 0)) % 65536) rfl (by omega) 3 0 rfl rfl rfl rfl rfl (fun _=>rfl) (fun hA=>hA.e rfl),mv3⟩) (k:=fun E10 ac wd H_=>?_)
 refine gq1 H_ 2 (tri 3) [_,vI ((cy+(((digs x)).getD i 0)) / 65536),_] (fun _=>[(6,vI ((cy+(((digs x)).getD i 0)) / 65536))]) (s:=⟨mv3,bi3 (h:=by intro env w;(first | (simp [go_sem];done) | (have gx:=(rg_digs x).getD i;have gy:=(rg_digs y).getD i;have hi64:=hil;simp only [List.getD_eq_getElem?_getD] at gx gy;simp [go_sem];rw [Int.tdiv_eq_ediv_of_nonneg (by omega)];exact IntWalk.i64_in _ (by omega)) | (have gx:=(rg_digs x).getD i;have gy:=(rg_digs y).getD i;have hi64:=hil;simp only [List.getD_eq_getElem?_getD] at gx gy;simp [go_sem];rw [Int.tdiv_eq_ediv_of_nonneg (by omega)]))),mv3⟩) (k:=fun E11 ac wd H_=>?_)
 refine gq1 H_ 2 (tri 3) [_,vI (((i:Nat):Int)+1),_] (fun _=>[(7,vI (((i:Nat):Int)+1))]) (s:=⟨mv3,bi3 (h:=by intro env w;(first | (simp [go_sem];done) | (have gx:=(rg_digs x).getD i;have gy:=(rg_digs y).getD i;have hi64:=hil;simp only [List.getD_eq_getElem?_getD] at gx gy;simp [go_sem];exact IntWalk.i64_in _ (by omega)))),mv3⟩) (k:=fun E12 ac wd H_=>?_)
 refine then_n ?_
 have eC:cy+(digs x).getD i 0=cy+(digs x).getD i 0+(digs y).getD i 0:=by have z2:(digs y).getD i 0=0:=getD_out (by omega);omega
 obtain ⟨A2,c2,e2⟩:=OwnR.form H_.st.nowT
 rw [e2] at H_
 have hS:=hI.step (rg_digs x) (rg_digs y) eC
 have hz:cy+(digs x).getD i 0 / 65536=0∨i+1≤N:=by omega
 exact ⟨⟨A2,c2,ds ++ [(cy+(digs x).getD i 0) % 65536],i+1,(cy+(digs x).getD i 0) / 65536,⟨hS,by omega,fun h=>by omega⟩,(H_.take (M1:=[]) rfl).re rfl⟩,by rw [sI_eq (H_.g (t:=7) rfl),hmu];omega⟩
 by_cases h2:i < (digs y).length
 refine gq1 H_ 13 [[0],[1],[1,2],r_ 4,r_ 5,r_ 6,[0,1,2,3,4,6],[0,1,2,3,4,6,7],r_ 9,r_ 10,r_ 11,r_ 12,r_ 13,r_ 14] [_,_,vN ((digs x).length),bF,_,_,_,vN ((digs y).length),bT,bT,_,_,_,bT] (fun _=>[(21,bT)]) (s:=⟨mv3,mv3,ln_ Tryz.underlying50 fun _ env _ wd hA=>(hr.grown hA.j.st.gr).els,bi3 (h:=by intro env w;(first | (simp [go_sem];done) | (simp [go_sem];omega) | (have gx:=(rg_digs x).getD i;have gy:=(rg_digs y).getD i;have hi64:=hil;simp only [List.getD_eq_getElem?_getD] at gx gy;simp [go_sem];omega))),mv3,gm3,gm3,ln_ Tryz.underlying50 fun _ env _ wd hA=>(hr2.grown hA.j.st.gr).els,bi3 (h:=by intro env w;(first | (simp [go_sem];done) | (simp [go_sem];omega) | (have gx:=(rg_digs x).getD i;have gy:=(rg_digs y).getD i;have hi64:=hil;simp only [List.getD_eq_getElem?_getD] at gx gy;simp [go_sem];omega))),pk3 (h:=by intro env w;(first | (simp [go_sem];done) | (simp [go_sem];omega) | (have gx:=(rg_digs x).getD i;have gy:=(rg_digs y).getD i;have hi64:=hil;simp only [List.getD_eq_getElem?_getD] at gx gy;simp [go_sem];omega))),mv3,off_,off_,pk3⟩) (k:=fun E6 ac wd H_=>?_)
 refine cT3 H_ ?_
 refine gq1 H_ 3 [[0],[1],[1,2],r_ 4] [_,_,vN ((digs x).length),bF] (fun _=>[(27,bF)]) (s:=⟨mv3,mv3,ln_ Tryz.underlying50 fun _ env _ wd hA=>(hr.grown hA.j.st.gr).els,bi3 (h:=by intro env w;(first | (simp [go_sem];done) | (simp [go_sem];omega) | (have gx:=(rg_digs x).getD i;have gy:=(rg_digs y).getD i;have hi64:=hil;simp only [List.getD_eq_getElem?_getD] at gx gy;simp [go_sem];omega)))⟩) (k:=fun E7 ac wd H_=>?_)
 refine cF3 H_ ?_
 refine gq1 H_ 3 [[0],[1],[1,2],r_ 4] [_,_,vN ((digs y).length),bT] (fun _=>[(37,bT)]) (s:=⟨mv3,mv3,ln_ Tryz.underlying50 fun _ env _ wd hA=>(hr2.grown hA.j.st.gr).els,bi3 (h:=by intro env w;(first | (simp [go_sem];done) | (simp [go_sem];omega) | (have gx:=(rg_digs x).getD i;have gy:=(rg_digs y).getD i;have hi64:=hil;simp only [List.getD_eq_getElem?_getD] at gx gy;simp [go_sem];omega)))⟩) (k:=fun E8 ac wd H_=>?_)
 refine cT3 H_ ?_
 refine gq1 H_ 6 [[0],[1],[2],[1,2,3],[1,2,3,4],r_ 6,r_ 7] [_,_,_,elt (rS y B0 k0) i,vI (((digs y)).getD i 0),vI (cy+(((digs y)).getD i 0)),_] (fun _=>[(6,vI (cy+(((digs y)).getD i 0)))]) (s:=⟨mv3,mv3,mv3,ia_ Tryz.underlying50 sz3 i i ((i:Nat):Int) (fun _ env _ wd hA=>(hr2.grown hA.j.st.gr).els) (rfl) (by omega) (Nat.mul_one _),le_ i (fun _ env _ wd hA=>(hr2.grown hA.j.st.gr).els) (by omega) (leG1 sh3 rfl),bi3 (h:=by intro env w;(first | (simp [go_sem];done) | (have gx:=(rg_digs x).getD i;have gy:=(rg_digs y).getD i;have hi64:=hil;simp only [List.getD_eq_getElem?_getD] at gx gy;simp [go_sem];exact IntWalk.i64_in _ (by omega)))),mv3⟩) (k:=fun E9 ac wd H_=>?_)
 refine gq H_ 5 [[0],[1],[1,2],[1,2,3],r_ 5,r_ 6] [_,_,vI ((cy+(((digs y)).getD i 0)) % 65536),KE_ fun env=>.slice (some ⟨(pb env 3),0,none⟩) 1 1,KE_ fun env=>(env 4),_] (fun E10=>[(5,(E10 4))]) (W:=[{ i:=3,T:=3,c0:=[vI ((cy+(((digs y)).getD i 0)) % 65536)] }]) (th:=(some (4,fun env w=>OwnR w w0.heap.size (env 4) (ds ++ [(cy+(((digs y)).getD i 0)) % 65536])))) (T:=fun E10=>fun w=>OwnR w w0.heap.size (E10 4) (ds ++ [(cy+(((digs y)).getD i 0)) % 65536])) (s:=⟨mv3,mv3,bi3 (h:=by intro env w;(first | (simp [go_sem];done) | (have gx:=(rg_digs x).getD i;have gy:=(rg_digs y).getD i;have hi64:=hil;simp only [List.getD_eq_getElem?_getD] at gx gy;simp [go_sem];rw [Int.tmod_eq_emod_of_nonneg (by omega)];exact IntWalk.i64_in _ (by omega)) | (have gx:=(rg_digs x).getD i;have gy:=(rg_digs y).getD i;have hi64:=hil;simp only [List.getD_eq_getElem?_getD] at gx gy;simp [go_sem];rw [Int.tmod_eq_emod_of_nonneg (by omega)]))),s_bsM rfl rfl 0 rfl rfl 1 rfl (fun {D env ac wd} hA=>by have e46:ac.tmps[46]? = some (vI ((cy+(((digs y)).getD i 0)) % 65536)):=hA.g rfl;simp [go_sem,e46,Tryz.underlying50]),s_app rfl rfl rfl rfl rfl rfl (fun _=>trivial) rfl (fun _ h=>h) ((cy+(((digs y)).getD i 0)) % 65536) rfl (by omega) 3 0 rfl rfl rfl rfl rfl (fun _=>rfl) (fun hA=>hA.e rfl),mv3⟩) (k:=fun E10 ac wd H_=>?_)
 refine gq1 H_ 2 (tri 3) [_,vI ((cy+(((digs y)).getD i 0)) / 65536),_] (fun _=>[(6,vI ((cy+(((digs y)).getD i 0)) / 65536))]) (s:=⟨mv3,bi3 (h:=by intro env w;(first | (simp [go_sem];done) | (have gx:=(rg_digs x).getD i;have gy:=(rg_digs y).getD i;have hi64:=hil;simp only [List.getD_eq_getElem?_getD] at gx gy;simp [go_sem];rw [Int.tdiv_eq_ediv_of_nonneg (by omega)];exact IntWalk.i64_in _ (by omega)) | (have gx:=(rg_digs x).getD i;have gy:=(rg_digs y).getD i;have hi64:=hil;simp only [List.getD_eq_getElem?_getD] at gx gy;simp [go_sem];rw [Int.tdiv_eq_ediv_of_nonneg (by omega)]))),mv3⟩) (k:=fun E11 ac wd H_=>?_)
 refine gq1 H_ 2 (tri 3) [_,vI (((i:Nat):Int)+1),_] (fun _=>[(7,vI (((i:Nat):Int)+1))]) (s:=⟨mv3,bi3 (h:=by intro env w;(first | (simp [go_sem];done) | (have gx:=(rg_digs x).getD i;have gy:=(rg_digs y).getD i;have hi64:=hil;simp only [List.getD_eq_getElem?_getD] at gx gy;simp [go_sem];exact IntWalk.i64_in _ (by omega)))),mv3⟩) (k:=fun E12 ac wd H_=>?_)
 refine then_n ?_
 have eC:cy+(digs y).getD i 0=cy+(digs x).getD i 0+(digs y).getD i 0:=by have z1:(digs x).getD i 0=0:=getD_out (by omega);omega
 obtain ⟨A2,c2,e2⟩:=OwnR.form H_.st.nowT
 rw [e2] at H_
 have hS:=hI.step (rg_digs x) (rg_digs y) eC
 have hz:cy+(digs y).getD i 0 / 65536=0∨i+1≤N:=by omega
 exact ⟨⟨A2,c2,ds ++ [(cy+(digs y).getD i 0) % 65536],i+1,(cy+(digs y).getD i 0) / 65536,⟨hS,by omega,fun h=>by omega⟩,(H_.take (M1:=[]) rfl).re rfl⟩,by rw [sI_eq (H_.g (t:=7) rfl),hmu];omega⟩
 by_cases h3:0 < cy
 refine gq1 H_ 13 [[0],[1],[1,2],r_ 4,r_ 5,r_ 6,[0,1,2,3,4,6],[0,1,2,3,4,6,7],r_ 9,r_ 10,r_ 11,r_ 12,r_ 13,r_ 14] [_,_,vN ((digs x).length),bF,_,_,_,vN ((digs y).length),bF,bF,_,_,bT,bT] (fun _=>[(21,bT)]) (s:=⟨mv3,mv3,ln_ Tryz.underlying50 fun _ env _ wd hA=>(hr.grown hA.j.st.gr).els,bi3 (h:=by intro env w;(first | (simp [go_sem];done) | (simp [go_sem];omega) | (have gx:=(rg_digs x).getD i;have gy:=(rg_digs y).getD i;have hi64:=hil;simp only [List.getD_eq_getElem?_getD] at gx gy;simp [go_sem];omega))),mv3,gm3,gm3,ln_ Tryz.underlying50 fun _ env _ wd hA=>(hr2.grown hA.j.st.gr).els,bi3 (h:=by intro env w;(first | (simp [go_sem];done) | (simp [go_sem];omega) | (have gx:=(rg_digs x).getD i;have gy:=(rg_digs y).getD i;have hi64:=hil;simp only [List.getD_eq_getElem?_getD] at gx gy;simp [go_sem];omega))),pk3 (h:=by intro env w;(first | (simp [go_sem];done) | (simp [go_sem];omega) | (have gx:=(rg_digs x).getD i;have gy:=(rg_digs y).getD i;have hi64:=hil;simp only [List.getD_eq_getElem?_getD] at gx gy;simp [go_sem];omega))),mv3,gm3,bi3 (h:=by intro env w;(first | (simp [go_sem];done) | (simp [go_sem];omega) | (have gx:=(rg_digs x).getD i;have gy:=(rg_digs y).getD i;have hi64:=hil;simp only [List.getD_eq_getElem?_getD] at gx gy;simp [go_sem];omega))),pk3 (h:=by intro env w;(first | (simp [go_sem];done) | (simp [go_sem];omega) | (have gx:=(rg_digs x).getD i;have gy:=(rg_digs y).getD i;have hi64:=hil;simp only [List.getD_eq_getElem?_getD] at gx gy;simp [go_sem];omega)))⟩) (k:=fun E6 ac wd H_=>?_)
 refine cT3 H_ ?_
 refine gq1 H_ 3 [[0],[1],[1,2],r_ 4] [_,_,vN ((digs x).length),bF] (fun _=>[(27,bF)]) (s:=⟨mv3,mv3,ln_ Tryz.underlying50 fun _ env _ wd hA=>(hr.grown hA.j.st.gr).els,bi3 (h:=by intro env w;(first | (simp [go_sem];done) | (simp [go_sem];omega) | (have gx:=(rg_digs x).getD i;have gy:=(rg_digs y).getD i;have hi64:=hil;simp only [List.getD_eq_getElem?_getD] at gx gy;simp [go_sem];omega)))⟩) (k:=fun E7 ac wd H_=>?_)
 refine cF3 H_ ?_
 refine gq1 H_ 3 [[0],[1],[1,2],r_ 4] [_,_,vN ((digs y).length),bF] (fun _=>[(37,bF)]) (s:=⟨mv3,mv3,ln_ Tryz.underlying50 fun _ env _ wd hA=>(hr2.grown hA.j.st.gr).els,bi3 (h:=by intro env w;(first | (simp [go_sem];done) | (simp [go_sem];omega) | (have gx:=(rg_digs x).getD i;have gy:=(rg_digs y).getD i;have hi64:=hil;simp only [List.getD_eq_getElem?_getD] at gx gy;simp [go_sem];omega)))⟩) (k:=fun E8 ac wd H_=>?_)
 refine cF3 H_ ?_
 refine gq H_ 5 [[0],[1],[1,2],[1,2,3],r_ 5,r_ 6] [_,_,vI (cy % 65536),KE_ fun env=>.slice (some ⟨(pb env 3),0,none⟩) 1 1,KE_ fun env=>(env 4),_] (fun E9=>[(5,(E9 4))]) (W:=[{ i:=3,T:=3,c0:=[vI (cy % 65536)] }]) (th:=(some (4,fun env w=>OwnR w w0.heap.size (env 4) (ds ++ [cy % 65536])))) (T:=fun E9=>fun w=>OwnR w w0.heap.size (E9 4) (ds ++ [cy % 65536])) (s:=⟨mv3,mv3,bi3 (h:=by intro env w;(first | (simp [go_sem];done) | (have gx:=(rg_digs x).getD i;have gy:=(rg_digs y).getD i;have hi64:=hil;simp only [List.getD_eq_getElem?_getD] at gx gy;simp [go_sem];rw [Int.tmod_eq_emod_of_nonneg (by omega)];exact IntWalk.i64_in _ (by omega)) | (have gx:=(rg_digs x).getD i;have gy:=(rg_digs y).getD i;have hi64:=hil;simp only [List.getD_eq_getElem?_getD] at gx gy;simp [go_sem];rw [Int.tmod_eq_emod_of_nonneg (by omega)]))),s_bsM rfl rfl 0 rfl rfl 1 rfl (fun {D env ac wd} hA=>by have e46:ac.tmps[46]? = some (vI (cy % 65536)):=hA.g rfl;simp [go_sem,e46,Tryz.underlying50]),s_app rfl rfl rfl rfl rfl rfl (fun _=>trivial) rfl (fun _ h=>h) (cy % 65536) rfl (by omega) 3 0 rfl rfl rfl rfl rfl (fun _=>rfl) (fun hA=>hA.e rfl),mv3⟩) (k:=fun E9 ac wd H_=>?_)
 refine gq1 H_ 2 (tri 3) [_,vI (cy / 65536),_] (fun _=>[(6,vI (cy / 65536))]) (s:=⟨mv3,bi3 (h:=by intro env w;(first | (simp [go_sem];done) | (have gx:=(rg_digs x).getD i;have gy:=(rg_digs y).getD i;have hi64:=hil;simp only [List.getD_eq_getElem?_getD] at gx gy;simp [go_sem];rw [Int.tdiv_eq_ediv_of_nonneg (by omega)];exact IntWalk.i64_in _ (by omega)) | (have gx:=(rg_digs x).getD i;have gy:=(rg_digs y).getD i;have hi64:=hil;simp only [List.getD_eq_getElem?_getD] at gx gy;simp [go_sem];rw [Int.tdiv_eq_ediv_of_nonneg (by omega)]))),mv3⟩) (k:=fun E10 ac wd H_=>?_)
 refine gq1 H_ 2 (tri 3) [_,vI (((i:Nat):Int)+1),_] (fun _=>[(7,vI (((i:Nat):Int)+1))]) (s:=⟨mv3,bi3 (h:=by intro env w;(first | (simp [go_sem];done) | (have gx:=(rg_digs x).getD i;have gy:=(rg_digs y).getD i;have hi64:=hil;simp only [List.getD_eq_getElem?_getD] at gx gy;simp [go_sem];exact IntWalk.i64_in _ (by omega)))),mv3⟩) (k:=fun E11 ac wd H_=>?_)
 refine then_n ?_
 have eC:cy=cy+(digs x).getD i 0+(digs y).getD i 0:=by have z1:(digs x).getD i 0=0:=getD_out (by omega);have z2:(digs y).getD i 0=0:=getD_out (by omega);omega
 obtain ⟨A2,c2,e2⟩:=OwnR.form H_.st.nowT
 rw [e2] at H_
 have hS:=hI.step (rg_digs x) (rg_digs y) eC
 have hz:cy / 65536=0∨i+1≤N:=by have:=hI.h1;omega
 exact ⟨⟨A2,c2,ds ++ [(cy) % 65536],i+1,(cy) / 65536,⟨hS,by omega,fun h=>by omega⟩,(H_.take (M1:=[]) rfl).re rfl⟩,by rw [sI_eq (H_.g (t:=7) rfl),hmu];omega⟩
 obtain rfl:cy=0:=by omega
 refine gq1 H_ 13 [[0],[1],[1,2],r_ 4,r_ 5,r_ 6,[0,1,2,3,4,6],[0,1,2,3,4,6,7],r_ 9,r_ 10,r_ 11,r_ 12,r_ 13,r_ 14] [_,_,vN ((digs x).length),bF,_,_,_,vN ((digs y).length),bF,bF,_,_,bF,bF] (fun _=>[(21,bF)]) (s:=⟨mv3,mv3,ln_ Tryz.underlying50 fun _ env _ wd hA=>(hr.grown hA.j.st.gr).els,bi3 (h:=by intro env w;(first | (simp [go_sem];done) | (simp [go_sem];omega) | (have gx:=(rg_digs x).getD i;have gy:=(rg_digs y).getD i;have hi64:=hil;simp only [List.getD_eq_getElem?_getD] at gx gy;simp [go_sem];omega))),mv3,gm3,gm3,ln_ Tryz.underlying50 fun _ env _ wd hA=>(hr2.grown hA.j.st.gr).els,bi3 (h:=by intro env w;(first | (simp [go_sem];done) | (simp [go_sem];omega) | (have gx:=(rg_digs x).getD i;have gy:=(rg_digs y).getD i;have hi64:=hil;simp only [List.getD_eq_getElem?_getD] at gx gy;simp [go_sem];omega))),pk3 (h:=by intro env w;(first | (simp [go_sem];done) | (simp [go_sem];omega) | (have gx:=(rg_digs x).getD i;have gy:=(rg_digs y).getD i;have hi64:=hil;simp only [List.getD_eq_getElem?_getD] at gx gy;simp [go_sem];omega))),mv3,gm3,bi3 (h:=by intro env w;(first | (simp [go_sem];done) | (simp [go_sem];omega) | (have gx:=(rg_digs x).getD i;have gy:=(rg_digs y).getD i;have hi64:=hil;simp only [List.getD_eq_getElem?_getD] at gx gy;simp [go_sem];omega))),pk3 (h:=by intro env w;(first | (simp [go_sem];done) | (simp [go_sem];omega) | (have gx:=(rg_digs x).getD i;have gy:=(rg_digs y).getD i;have hi64:=hil;simp only [List.getD_eq_getElem?_getD] at gx gy;simp [go_sem];omega)))⟩) (k:=fun E6 ac wd H_=>?_)
 refine cF3 H_ ?_
 refine gq1 H_ 2 (tri 3) [_,_,_] (fun _=>[(4,rS (nat ds) A cp)]) (s:=⟨mv3,cw3 Tryz.func50 fun wd hA=>trim_core wd A cp ds (OwnR.row (by omega) (hA.thO rfl)) hI.g,mv3⟩) (k:=fun E7 ac wd H_=>?_)
 refine lvT3 Tryz.results48 H_ ?_
 have hT:=H_.st.nowT
 have eN:nat ds=x+y:=by rw [hI.done (by omega) (by omega),nat_digs' hx,nat_digs' hy]
 refine ⟨_,rfl,H_.st.below,?_,OwnR.new hT _⟩
 rw [← eN]
 exact Row.trim hI.g (OwnR.row (by omega) hT)
theorem sub_core (w0:World) (A0 B0:Option Addr) (c0 k0:Nat) (x y:Int) (hy:0≤y) (hr:Row w0 (.slice A0 (digs x).length c0) (digs x)) (hr2:Row w0 (.slice B0 (digs y).length k0) (digs y)) (hle:y≤x) (hN:(digs x).length≤100000):Calls Tryz.prog 49 #[.slice A0 ((digs x).length) c0,.slice B0 ((digs y).length) k0] w0 fun e w'=>∃ v,e = .returned v∧Below w0.heap.size w0 w'∧RowN w0.heap.size w' v (digs (x-y)):=by
 have hst:=St.start w0 (Θ:=fun _=>True) (fun _ _=>trivial)
 refine en_ Tryz.func49 hst 41 [(0,.slice A0 ((digs x).length) c0),(1,.slice B0 ((digs y).length) k0)] (fun ac H_=>?_)
 refine gq0 H_ 0 [[0]] [_] (s:=mv3) (k:=fun E1 ac wd H_=>?_)
 refine gq1 H_ 0 [[0]] [_] (fun _=>[(5,.slice none 0 0)]) (s:=mv3) (k:=fun E2 ac wd H_=>?_)
 refine gq1 H_ 0 [[0]] [_] (fun _=>[(6,vI 0)]) (s:=mv3) (k:=fun E3 ac wd H_=>?_)
 refine gq1 H_ 0 [[0]] [_] (fun _=>[(7,vI 0)]) (s:=mv3) (k:=fun E4 ac wd H_=>?_)
 refine lp3 (fun ac wd=>∃ (A:Option Addr) (cp:Nat) (ds:List Int) (i:Nat) (cy:Int),(SubI (digs x) (digs y) ds i cy∧i≤(digs x).length)∧Cur 41 w0 none none (fun _=>True) (fun w=>OwnR w w0.heap.size (.slice A ds.length cp) ds) [(0,rS x A0 c0),(1,rS y B0 k0),(5,.slice A ds.length cp),(6,vI cy),(7,vN i)] [] ac wd) (fun ac _=>(((digs x).length:Int)-sI ac 7).toNat) ⟨none,0,[],0,0,⟨SubI.start _ _,by omega⟩,(H_.re rfl).th (fun w _=>OwnR.nil w _)⟩ ?_
 rintro ac wd ⟨A,cp,ds,i,cy,⟨hI,hiN⟩,H_⟩
 have hmu:sI ac 7=((i:Nat):Int):=sI_eq (H_.g (t:=7) rfl)
 have hil:=hI.l
 have hc0:=hI.h0
 have hc1:=hI.h1
 by_cases h1:i < (digs x).length
 refine gq1 H_ 3 [[0],[1],[1,2],r_ 4] [_,_,vN ((digs x).length),bT] (fun _=>[(12,bT)]) (s:=⟨mv3,mv3,ln_ Tryz.underlying50 fun _ env _ wd hA=>(hr.grown hA.j.st.gr).els,bi3 (h:=by intro env w;(first | (simp [go_sem];done) | (simp [go_sem];omega) | (have gx:=(rg_digs x).getD i;have gy:=(rg_digs y).getD i;have hi64:=hil;simp only [List.getD_eq_getElem?_getD] at gx gy;simp [go_sem];omega)))⟩) (k:=fun E6 ac wd H_=>?_)
 refine cT3 H_ ?_
 refine gq1 H_ 6 [[0],[1],[0,1,2],r_ 4,[4],r_ 6,r_ 7] [_,_,elt (rS x A0 c0) i,vI (((digs x)).getD i 0),_,vI ((((digs x)).getD i 0)-cy),_] (fun _=>[(8,vI ((((digs x)).getD i 0)-cy))]) (s:=⟨mv3,mv3,ia_ Tryz.underlying50 sz3 i i ((i:Nat):Int) (fun _ env _ wd hA=>(hr.grown hA.j.st.gr).els) (rfl) (by omega) (Nat.mul_one _),le_ i (fun _ env _ wd hA=>(hr.grown hA.j.st.gr).els) (by omega) (leG1 sh3 rfl),mv3,bi3 (h:=by intro env w;(first | (simp [go_sem];done) | (have gx:=(rg_digs x).getD i;have gy:=(rg_digs y).getD i;have hi64:=hil;simp only [List.getD_eq_getElem?_getD] at gx gy;simp [go_sem];exact IntWalk.i64_in _ (by omega)))),mv3⟩) (k:=fun E7 ac wd H_=>?_)
 by_cases h2:i < (digs y).length
 refine gq1 H_ 3 [[0],[1],[1,2],r_ 4] [_,_,vN ((digs y).length),bT] (fun _=>[(24,bT)]) (s:=⟨mv3,mv3,ln_ Tryz.underlying50 fun _ env _ wd hA=>(hr2.grown hA.j.st.gr).els,bi3 (h:=by intro env w;(first | (simp [go_sem];done) | (simp [go_sem];omega) | (have gx:=(rg_digs x).getD i;have gy:=(rg_digs y).getD i;have hi64:=hil;simp only [List.getD_eq_getElem?_getD] at gx gy;simp [go_sem];omega)))⟩) (k:=fun E8 ac wd H_=>?_)
 refine cT3 H_ ?_
 refine gq1 H_ 6 [[0],[1],[2],[1,2,3],[1,2,3,4],r_ 6,r_ 7] [_,_,_,elt (rS y B0 k0) i,vI (((digs y)).getD i 0),vI (((((digs x)).getD i 0)-cy)-(((digs y)).getD i 0)),_] (fun _=>[(8,vI (((((digs x)).getD i 0)-cy)-(((digs y)).getD i 0)))]) (s:=⟨mv3,mv3,mv3,ia_ Tryz.underlying50 sz3 i i ((i:Nat):Int) (fun _ env _ wd hA=>(hr2.grown hA.j.st.gr).els) (rfl) (by omega) (Nat.mul_one _),le_ i (fun _ env _ wd hA=>(hr2.grown hA.j.st.gr).els) (by omega) (leG1 sh3 rfl),bi3 (h:=by intro env w;(first | (simp [go_sem];done) | (have gx:=(rg_digs x).getD i;have gy:=(rg_digs y).getD i;have hi64:=hil;simp only [List.getD_eq_getElem?_getD] at gx gy;simp [go_sem];exact IntWalk.i64_in _ (by omega)))),mv3⟩) (k:=fun E9 ac wd H_=>?_)
 refine gq1 H_ 0 [[0]] [_] (fun _=>[(6,vI 0)]) (s:=mv3) (k:=fun E10 ac wd H_=>?_)
 by_cases h3:((digs x).getD i 0-cy)-(digs y).getD i 0 < 0
 have h3q:=h3;simp only [List.getD_eq_getElem?_getD] at h3q
 refine gq1 H_ 1 [[0],[0,1]] [_,bT] (fun _=>[(32,bT)]) (s:=⟨mv3,bi3 (h:=by intro env w;(first | (simp [go_sem];done) | (simp [go_sem];omega) | (have gx:=(rg_digs x).getD i;have gy:=(rg_digs y).getD i;have hi64:=hil;simp only [List.getD_eq_getElem?_getD] at gx gy;simp [go_sem];omega)))⟩) (k:=fun E11 ac wd H_=>?_)
 refine cT3 H_ ?_
 refine gq1 H_ 3 (tri 4) [_,vI ((((((digs x)).getD i 0)-cy)-(((digs y)).getD i 0))+65536),_,_] (fun _=>[(6,vI 1),(8,vI ((((((digs x)).getD i 0)-cy)-(((digs y)).getD i 0))+65536))]) (s:=⟨mv3,bi3 (h:=by intro env w;(first | (simp [go_sem];done) | (have gx:=(rg_digs x).getD i;have gy:=(rg_digs y).getD i;have hi64:=hil;simp only [List.getD_eq_getElem?_getD] at gx gy;simp [go_sem];exact IntWalk.i64_in _ (by omega)))),mv3,mv3⟩) (k:=fun E12 ac wd H_=>?_)
 refine gq H_ 4 [[0],[1],[1,2],r_ 4,r_ 5] [_,_,KE_ fun env=>.slice (some ⟨(pb env 2),0,none⟩) 1 1,KE_ fun env=>(env 3),_] (fun E13=>[(5,(E13 3))]) (W:=[{ i:=2,T:=3,c0:=[vI ((((((digs x)).getD i 0)-cy)-(((digs y)).getD i 0))+65536)] }]) (th:=(some (3,fun env w=>OwnR w w0.heap.size (env 3) (ds ++ [(((((digs x)).getD i 0)-cy)-(((digs y)).getD i 0))+65536])))) (T:=fun E13=>fun w=>OwnR w w0.heap.size (E13 3) (ds ++ [(((((digs x)).getD i 0)-cy)-(((digs y)).getD i 0))+65536])) (s:=⟨mv3,mv3,s_bsM rfl rfl 0 rfl rfl 1 rfl (fun {D env ac wd} hA=>by have e36:ac.tmps[36]? = some (vI ((((((digs x)).getD i 0)-cy)-(((digs y)).getD i 0))+65536)):=hA.g rfl;simp [go_sem,e36,Tryz.underlying50]),s_app rfl rfl rfl rfl rfl rfl (fun _=>trivial) rfl (fun _ h=>h) ((((((digs x)).getD i 0)-cy)-(((digs y)).getD i 0))+65536) rfl (by omega) 2 0 rfl rfl rfl rfl rfl (fun _=>rfl) (fun hA=>hA.e rfl),mv3⟩) (k:=fun E13 ac wd H_=>?_)
 refine gq1 H_ 2 (tri 3) [_,vI (((i:Nat):Int)+1),_] (fun _=>[(7,vI (((i:Nat):Int)+1))]) (s:=⟨mv3,bi3 (h:=by intro env w;(first | (simp [go_sem];done) | (have gx:=(rg_digs x).getD i;have gy:=(rg_digs y).getD i;have hi64:=hil;simp only [List.getD_eq_getElem?_getD] at gx gy;simp [go_sem];exact IntWalk.i64_in _ (by omega)))),mv3⟩) (k:=fun E14 ac wd H_=>?_)
 refine then_n ?_
 have eC:((digs x).getD i 0-cy)-(digs y).getD i 0=(digs x).getD i 0-cy-(digs y).getD i 0:=by omega
 obtain ⟨A2,c2,e2⟩:=OwnR.form H_.st.nowT
 rw [e2] at H_
 have hS:=(hI.step (rg_digs x) (rg_digs y) eC).2 (by omega)
 exact ⟨⟨A2,c2,ds ++ [((digs x).getD i 0-cy)-(digs y).getD i 0+65536],i+1,1,⟨hS,by omega⟩,(H_.take (M1:=[]) rfl).re rfl⟩,by rw [sI_eq (H_.g (t:=7) rfl),hmu];omega⟩
 have h3q:=h3;simp only [List.getD_eq_getElem?_getD] at h3q
 refine gq1 H_ 1 [[0],[0,1]] [_,bF] (fun _=>[(32,bF)]) (s:=⟨mv3,bi3 (h:=by intro env w;(first | (simp [go_sem];done) | (simp [go_sem];omega) | (have gx:=(rg_digs x).getD i;have gy:=(rg_digs y).getD i;have hi64:=hil;simp only [List.getD_eq_getElem?_getD] at gx gy;simp [go_sem];omega)))⟩) (k:=fun E11 ac wd H_=>?_)
 refine cF3 H_ ?_
 refine gq H_ 4 [[0],[1],[1,2],r_ 4,r_ 5] [_,_,KE_ fun env=>.slice (some ⟨(pb env 2),0,none⟩) 1 1,KE_ fun env=>(env 3),_] (fun E12=>[(5,(E12 3))]) (W:=[{ i:=2,T:=3,c0:=[vI (((((digs x)).getD i 0)-cy)-(((digs y)).getD i 0))] }]) (th:=(some (3,fun env w=>OwnR w w0.heap.size (env 3) (ds ++ [((((digs x)).getD i 0)-cy)-(((digs y)).getD i 0)])))) (T:=fun E12=>fun w=>OwnR w w0.heap.size (E12 3) (ds ++ [((((digs x)).getD i 0)-cy)-(((digs y)).getD i 0)])) (s:=⟨mv3,mv3,s_bsM rfl rfl 0 rfl rfl 1 rfl (fun {D env ac wd} hA=>by have e36:ac.tmps[36]? = some (vI (((((digs x)).getD i 0)-cy)-(((digs y)).getD i 0))):=hA.g rfl;simp [go_sem,e36,Tryz.underlying50]),s_app rfl rfl rfl rfl rfl rfl (fun _=>trivial) rfl (fun _ h=>h) (((((digs x)).getD i 0)-cy)-(((digs y)).getD i 0)) rfl (by omega) 2 0 rfl rfl rfl rfl rfl (fun _=>rfl) (fun hA=>hA.e rfl),mv3⟩) (k:=fun E12 ac wd H_=>?_)
 refine gq1 H_ 2 (tri 3) [_,vI (((i:Nat):Int)+1),_] (fun _=>[(7,vI (((i:Nat):Int)+1))]) (s:=⟨mv3,bi3 (h:=by intro env w;(first | (simp [go_sem];done) | (have gx:=(rg_digs x).getD i;have gy:=(rg_digs y).getD i;have hi64:=hil;simp only [List.getD_eq_getElem?_getD] at gx gy;simp [go_sem];exact IntWalk.i64_in _ (by omega)))),mv3⟩) (k:=fun E13 ac wd H_=>?_)
 refine then_n ?_
 have eC:((digs x).getD i 0-cy)-(digs y).getD i 0=(digs x).getD i 0-cy-(digs y).getD i 0:=by omega
 obtain ⟨A2,c2,e2⟩:=OwnR.form H_.st.nowT
 rw [e2] at H_
 have hS:=(hI.step (rg_digs x) (rg_digs y) eC).1 (by omega)
 exact ⟨⟨A2,c2,ds ++ [((digs x).getD i 0-cy)-(digs y).getD i 0],i+1,0,⟨hS,by omega⟩,(H_.take (M1:=[]) rfl).re rfl⟩,by rw [sI_eq (H_.g (t:=7) rfl),hmu];omega⟩
 refine gq1 H_ 3 [[0],[1],[1,2],r_ 4] [_,_,vN ((digs y).length),bF] (fun _=>[(24,bF)]) (s:=⟨mv3,mv3,ln_ Tryz.underlying50 fun _ env _ wd hA=>(hr2.grown hA.j.st.gr).els,bi3 (h:=by intro env w;(first | (simp [go_sem];done) | (simp [go_sem];omega) | (have gx:=(rg_digs x).getD i;have gy:=(rg_digs y).getD i;have hi64:=hil;simp only [List.getD_eq_getElem?_getD] at gx gy;simp [go_sem];omega)))⟩) (k:=fun E8 ac wd H_=>?_)
 refine cF3 H_ ?_
 refine gq1 H_ 0 [[0]] [_] (fun _=>[(6,vI 0)]) (s:=mv3) (k:=fun E9 ac wd H_=>?_)
 by_cases h3:(digs x).getD i 0-cy < 0
 have h3q:=h3;simp only [List.getD_eq_getElem?_getD] at h3q
 refine gq1 H_ 1 [[0],[0,1]] [_,bT] (fun _=>[(32,bT)]) (s:=⟨mv3,bi3 (h:=by intro env w;(first | (simp [go_sem];done) | (simp [go_sem];omega) | (have gx:=(rg_digs x).getD i;have gy:=(rg_digs y).getD i;have hi64:=hil;simp only [List.getD_eq_getElem?_getD] at gx gy;simp [go_sem];omega)))⟩) (k:=fun E10 ac wd H_=>?_)
 refine cT3 H_ ?_
 refine gq1 H_ 3 (tri 4) [_,vI (((((digs x)).getD i 0)-cy)+65536),_,_] (fun _=>[(6,vI 1),(8,vI (((((digs x)).getD i 0)-cy)+65536))]) (s:=⟨mv3,bi3 (h:=by intro env w;(first | (simp [go_sem];done) | (have gx:=(rg_digs x).getD i;have gy:=(rg_digs y).getD i;have hi64:=hil;simp only [List.getD_eq_getElem?_getD] at gx gy;simp [go_sem];exact IntWalk.i64_in _ (by omega)))),mv3,mv3⟩) (k:=fun E11 ac wd H_=>?_)
 refine gq H_ 4 [[0],[1],[1,2],r_ 4,r_ 5] [_,_,KE_ fun env=>.slice (some ⟨(pb env 2),0,none⟩) 1 1,KE_ fun env=>(env 3),_] (fun E12=>[(5,(E12 3))]) (W:=[{ i:=2,T:=3,c0:=[vI (((((digs x)).getD i 0)-cy)+65536)] }]) (th:=(some (3,fun env w=>OwnR w w0.heap.size (env 3) (ds ++ [((((digs x)).getD i 0)-cy)+65536])))) (T:=fun E12=>fun w=>OwnR w w0.heap.size (E12 3) (ds ++ [((((digs x)).getD i 0)-cy)+65536])) (s:=⟨mv3,mv3,s_bsM rfl rfl 0 rfl rfl 1 rfl (fun {D env ac wd} hA=>by have e36:ac.tmps[36]? = some (vI (((((digs x)).getD i 0)-cy)+65536)):=hA.g rfl;simp [go_sem,e36,Tryz.underlying50]),s_app rfl rfl rfl rfl rfl rfl (fun _=>trivial) rfl (fun _ h=>h) (((((digs x)).getD i 0)-cy)+65536) rfl (by omega) 2 0 rfl rfl rfl rfl rfl (fun _=>rfl) (fun hA=>hA.e rfl),mv3⟩) (k:=fun E12 ac wd H_=>?_)
 refine gq1 H_ 2 (tri 3) [_,vI (((i:Nat):Int)+1),_] (fun _=>[(7,vI (((i:Nat):Int)+1))]) (s:=⟨mv3,bi3 (h:=by intro env w;(first | (simp [go_sem];done) | (have gx:=(rg_digs x).getD i;have gy:=(rg_digs y).getD i;have hi64:=hil;simp only [List.getD_eq_getElem?_getD] at gx gy;simp [go_sem];exact IntWalk.i64_in _ (by omega)))),mv3⟩) (k:=fun E13 ac wd H_=>?_)
 refine then_n ?_
 have eC:(digs x).getD i 0-cy=(digs x).getD i 0-cy-(digs y).getD i 0:=by have z2:(digs y).getD i 0=0:=getD_out (by omega);omega
 obtain ⟨A2,c2,e2⟩:=OwnR.form H_.st.nowT
 rw [e2] at H_
 have hS:=(hI.step (rg_digs x) (rg_digs y) eC).2 (by omega)
 exact ⟨⟨A2,c2,ds ++ [(digs x).getD i 0-cy+65536],i+1,1,⟨hS,by omega⟩,(H_.take (M1:=[]) rfl).re rfl⟩,by rw [sI_eq (H_.g (t:=7) rfl),hmu];omega⟩
 have h3q:=h3;simp only [List.getD_eq_getElem?_getD] at h3q
 refine gq1 H_ 1 [[0],[0,1]] [_,bF] (fun _=>[(32,bF)]) (s:=⟨mv3,bi3 (h:=by intro env w;(first | (simp [go_sem];done) | (simp [go_sem];omega) | (have gx:=(rg_digs x).getD i;have gy:=(rg_digs y).getD i;have hi64:=hil;simp only [List.getD_eq_getElem?_getD] at gx gy;simp [go_sem];omega)))⟩) (k:=fun E10 ac wd H_=>?_)
 refine cF3 H_ ?_
 refine gq H_ 4 [[0],[1],[1,2],r_ 4,r_ 5] [_,_,KE_ fun env=>.slice (some ⟨(pb env 2),0,none⟩) 1 1,KE_ fun env=>(env 3),_] (fun E11=>[(5,(E11 3))]) (W:=[{ i:=2,T:=3,c0:=[vI ((((digs x)).getD i 0)-cy)] }]) (th:=(some (3,fun env w=>OwnR w w0.heap.size (env 3) (ds ++ [(((digs x)).getD i 0)-cy])))) (T:=fun E11=>fun w=>OwnR w w0.heap.size (E11 3) (ds ++ [(((digs x)).getD i 0)-cy])) (s:=⟨mv3,mv3,s_bsM rfl rfl 0 rfl rfl 1 rfl (fun {D env ac wd} hA=>by have e36:ac.tmps[36]? = some (vI ((((digs x)).getD i 0)-cy)):=hA.g rfl;simp [go_sem,e36,Tryz.underlying50]),s_app rfl rfl rfl rfl rfl rfl (fun _=>trivial) rfl (fun _ h=>h) ((((digs x)).getD i 0)-cy) rfl (by omega) 2 0 rfl rfl rfl rfl rfl (fun _=>rfl) (fun hA=>hA.e rfl),mv3⟩) (k:=fun E11 ac wd H_=>?_)
 refine gq1 H_ 2 (tri 3) [_,vI (((i:Nat):Int)+1),_] (fun _=>[(7,vI (((i:Nat):Int)+1))]) (s:=⟨mv3,bi3 (h:=by intro env w;(first | (simp [go_sem];done) | (have gx:=(rg_digs x).getD i;have gy:=(rg_digs y).getD i;have hi64:=hil;simp only [List.getD_eq_getElem?_getD] at gx gy;simp [go_sem];exact IntWalk.i64_in _ (by omega)))),mv3⟩) (k:=fun E12 ac wd H_=>?_)
 refine then_n ?_
 have eC:(digs x).getD i 0-cy=(digs x).getD i 0-cy-(digs y).getD i 0:=by have z2:(digs y).getD i 0=0:=getD_out (by omega);omega
 obtain ⟨A2,c2,e2⟩:=OwnR.form H_.st.nowT
 rw [e2] at H_
 have hS:=(hI.step (rg_digs x) (rg_digs y) eC).1 (by omega)
 exact ⟨⟨A2,c2,ds ++ [(digs x).getD i 0-cy],i+1,0,⟨hS,by omega⟩,(H_.take (M1:=[]) rfl).re rfl⟩,by rw [sI_eq (H_.g (t:=7) rfl),hmu];omega⟩
 refine gq1 H_ 3 [[0],[1],[1,2],r_ 4] [_,_,vN ((digs x).length),bF] (fun _=>[(12,bF)]) (s:=⟨mv3,mv3,ln_ Tryz.underlying50 fun _ env _ wd hA=>(hr.grown hA.j.st.gr).els,bi3 (h:=by intro env w;(first | (simp [go_sem];done) | (simp [go_sem];omega) | (have gx:=(rg_digs x).getD i;have gy:=(rg_digs y).getD i;have hi64:=hil;simp only [List.getD_eq_getElem?_getD] at gx gy;simp [go_sem];omega)))⟩) (k:=fun E6 ac wd H_=>?_)
 refine cF3 H_ ?_
 refine gq1 H_ 2 (tri 3) [_,_,_] (fun _=>[(4,rS (nat ds) A cp)]) (s:=⟨mv3,cw3 Tryz.func50 fun wd hA=>trim_core wd A cp ds (OwnR.row (by omega) (hA.thO rfl)) hI.g,mv3⟩) (k:=fun E7 ac wd H_=>?_)
 refine lvT3 Tryz.results49 H_ ?_
 have hT:=H_.st.nowT
 have hm:=digs_mono hy hle
 have eN:nat ds=x-y:=by rw [hI.done (by omega) (by omega) (by rw [nat_digs' (Int.le_trans hy hle),nat_digs' hy];exact hle),nat_digs' (Int.le_trans hy hle),nat_digs' hy]
 refine ⟨_,rfl,H_.st.below,?_,OwnR.new hT _⟩
 rw [← eN]
 exact Row.trim hI.g (OwnR.row (by omega) hT)
end Go.Proofs.YtailjojebdmnnaaGreat
namespace Go.Proofs.YtailjojebdmnnaaGreat
open Go.RowKit
def Sm (z:Int):Prop:=-10000000000000000000000000000000000000000000000000000000000000000000000000000000000000000000000000000≤z∧z≤10000000000000000000000000000000000000000000000000000000000000000000000000000000000000000000000000000
theorem Sm.len {z:Int} (h:Sm z):(digs z).length≤21:=by
 refine digs_len_le ?_
 have e:(65536:Int) ^ 21=139984046386112763159840142535527767382602843577165595931249318810236991948760059086304843329475444736:=by rfl
 rw [e]
 unfold Sm at h
 omega
abbrev vB (z:Int) (A:Option Addr) (c:Nat):Value:=.agg #[.bool (decide (z < 0)),.slice A (digs z).length c]
def bA:Value→Option Addr
  | .agg #[_,s]=>sA s
  | _=>none
def bC:Value→Nat
  | .agg #[_,s]=>sC s
  | _=>0
def bigF (z:Int) (v:Value):Value:=vB z (bA v) (bC v)
def BigX (ex:Option Nat) (w:World) (v:Value) (z:Int):Prop:=∃ A c,v=vB z A c∧RowX ex w (.slice A (digs z).length c) (digs z)
theorem BigX.form {ex:Option Nat} {w:World} {v:Value} {z:Int} (h:BigX ex w v z):v=bigF z v:=by
 obtain ⟨A,c,rfl,_⟩:=h;rfl
theorem BigX.keep {ex:Option Nat} {w w':World} {v:Value} {z:Int} (h:BigX ex w v z) (hk:Keep ex w w'):BigX ex w' v z:=by
 obtain ⟨A,c,rfl,h⟩:=h;exact ⟨A,c,rfl,h.keep hk⟩
theorem BigX.row {ex:Option Nat} {w:World} {v:Value} {z:Int} (h:BigX ex w v z):Row w (.slice (bA v) (digs z).length (bC v)) (digs z):=by
 obtain ⟨A,c,rfl,h⟩:=h;exact h.1
theorem Facts.big {L:List (World→Prop)} {w:World} {ex:Option Nat} {v:Value} {z:Int} (h:Facts L w) (k:Nat) (hk:L[k]? = some (fun w=>BigX ex w v z)):Row w (.slice (bA v) (digs z).length (bC v)) (digs z):=
 BigX.row (ex:=ex) (h.get k hk)
theorem At.big {R:Reg} {i:Nat} {D:Nat→Bool} {env:Env} {a:Act} {w:World} (h:At R i D env a w) (j:Nat) {ex:Option Nat} {z:Int} (hj:((R.cl.getD i []).contains j && !(j == i))=true) (hs:((R.cl.getD j []).contains j)=true) (hF:R.F.filter (fun p=>Nat.beq p.1 j)=[(j,fun env w=>BigX ex w (env j) z)]):Row w (.slice (bA (env j)) (digs z).length (bC (env j))) (digs z):=
 BigX.row (h.fact j (φ:=fun v w=>BigX ex w v z) hj hs hF)
def BigN (B:Nat) (w:World) (v:Value) (z:Int):Prop:=∃ A c,v=vB z A c∧RowN B w (.slice A (digs z).length c) (digs z)
theorem toG {P:Program} {f:FuncId} {args:Array Value} {w:World} {z:Int} {g:Nat} (hg:g < w.heap.size) (h:Calls P f args w fun e w'=>∃ v,e = .returned v∧Below w.heap.size w w'∧BigN w.heap.size w' v z):Calls P f args w fun e w'=>∃ v,e = .returned v∧Below w.heap.size w w'∧BigX (some g) w' v z:=by
 refine h.mono ?_
 rintro e w' ⟨v,h1,h2,A,c,h3,h4⟩
 refine ⟨v,h1,h2,A,c,h3,h4.1,fun g' hg' hb=>?_⟩
 obtain rfl:=Option.some.inj hg'
 have:=h4.2 _ hb
 omega
theorem RowN.keep {B:Nat} {w w':World} {v:Value} {ds:List Int} (h:RowN B w v ds) (hk:Keep none w w'):RowN B w' v ds:=⟨(RowX.keep ⟨h.1,Off.none _⟩ hk).1,h.2⟩
theorem RowN.form {B:Nat} {w:World} {v:Value} {ds:List Int} (h:RowN B w v ds):v=slF ds v:=RowX.form (ex:=none) ⟨h.1,Off.none _⟩
theorem RowN.row {B:Nat} {w:World} {v:Value} {ds:List Int} (h:RowN B w v ds):RowN B w (.slice (sA v) ds.length (sC v)) ds:=by
 have e:=h.form
 unfold slF at e
 rw [← e];exact h
theorem BigN.keep {B:Nat} {w w':World} {v:Value} {z:Int} (h:BigN B w v z) (hk:Keep none w w'):BigN B w' v z:=by
 obtain ⟨A,c,rfl,h⟩:=h;exact ⟨A,c,rfl,h.keep hk⟩
theorem BigN.form {B:Nat} {w:World} {v:Value} {z:Int} (h:BigN B w v z):v=bigF z v:=by
 obtain ⟨A,c,rfl,_⟩:=h;rfl
theorem BigN.row {B:Nat} {w:World} {v:Value} {z:Int} (h:BigN B w v z):RowN B w (.slice (bA v) (digs z).length (bC v)) (digs z):=by
 obtain ⟨A,c,rfl,h⟩:=h;exact h
theorem Facts.rowN {L:List (World→Prop)} {w:World} {B:Nat} {v:Value} {ds:List Int} (h:Facts L w) (k:Nat) (hk:L[k]? = some (fun w=>RowN B w v ds)):Row w (.slice (sA v) ds.length (sC v)) ds:=(RowN.row (B:=B) (h.get k hk)).1
theorem Facts.bigN {L:List (World→Prop)} {w:World} {B:Nat} {v:Value} {z:Int} (h:Facts L w) (k:Nat) (hk:L[k]? = some (fun w=>BigN B w v z)):Row w (.slice (bA v) (digs z).length (bC v)) (digs z):=(BigN.row (B:=B) (h.get k hk)).1
theorem At.rowN {R:Reg} {i:Nat} {D:Nat→Bool} {env:Env} {a:Act} {w:World} (h:At R i D env a w) (j:Nat) {B:Nat} {ds:List Int} (hj:((R.cl.getD i []).contains j && !(j == i))=true) (hs:((R.cl.getD j []).contains j)=true) (hF:R.F.filter (fun p=>Nat.beq p.1 j)=[(j,fun env w=>RowN B w (env j) ds)]):Row w (.slice (sA (env j)) ds.length (sC (env j))) ds:=(RowN.row (B:=B) (h.fact j (φ:=fun v w=>RowN B w v ds) hj hs hF)).1
theorem At.bigN {R:Reg} {i:Nat} {D:Nat→Bool} {env:Env} {a:Act} {w:World} (h:At R i D env a w) (j:Nat) {B:Nat} {z:Int} (hj:((R.cl.getD i []).contains j && !(j == i))=true) (hs:((R.cl.getD j []).contains j)=true) (hF:R.F.filter (fun p=>Nat.beq p.1 j)=[(j,fun env w=>BigN B w (env j) z)]):Row w (.slice (bA (env j)) (digs z).length (bC (env j))) (digs z):=(BigN.row (B:=B) (h.fact j (φ:=fun v w=>BigN B w v z) hj hs hF)).1
theorem upN {P:Program} {f:FuncId} {args:Array Value} {w:World} {z:Int} {B:Nat} (hB:B≤w.heap.size) (h:Calls P f args w fun e w'=>∃ v,e = .returned v∧Below w.heap.size w w'∧BigN w.heap.size w' v z):Calls P f args w fun e w'=>∃ v,e = .returned v∧Below w.heap.size w w'∧BigN B w' v z:=by
 refine h.mono ?_
 rintro e w' ⟨v,h1,h2,A,c,h3,h4,h5⟩
 exact ⟨v,h1,h2,A,c,h3,h4,fun b hb=>Nat.le_trans hB (h5 b hb)⟩
theorem upR {P:Program} {f:FuncId} {args:Array Value} {w:World} {ds:List Int} {B:Nat} (hB:B≤w.heap.size) (h:Calls P f args w fun e w'=>∃ v,e = .returned v∧Below w.heap.size w w'∧RowN w.heap.size w' v ds):Calls P f args w fun e w'=>∃ v,e = .returned v∧Below w.heap.size w w'∧RowN B w' v ds:=by
 refine h.mono ?_
 rintro e w' ⟨v,h1,h2,h4,h5⟩
 exact ⟨v,h1,h2,h4,fun b hb=>Nat.le_trans hB (h5 b hb)⟩
theorem BigN.mk {B:Nat} {w:World} {b:Bool} {A:Option Addr} {c:Nat} {z z':Int} (hb:b=decide (z' < 0)) (hd:digs z=digs z') (h:RowN B w (.slice A (digs z).length c) (digs z)):BigN B w (.agg #[.bool b,.slice A (digs z).length c]) z':=by
 subst hb
 rw [hd] at h ⊢
 exact ⟨A,c,rfl,h⟩
theorem Facts.rN {L:List (World→Prop)} {w:World} {B:Nat} {v:Value} {ds:List Int} (h:Facts L w) (k:Nat) (hk:L[k]? = some (fun w=>RowN B w v ds)):RowN B w (.slice (sA v) ds.length (sC v)) ds:=RowN.row (h.get k hk)
theorem Facts.bN {L:List (World→Prop)} {w:World} {B:Nat} {v:Value} {z:Int} (h:Facts L w) (k:Nat) (hk:L[k]? = some (fun w=>BigN B w v z)):RowN B w (.slice (bA v) (digs z).length (bC v)) (digs z):=BigN.row (h.get k hk)
theorem RowN.trim {B:Nat} {w:World} {A:Option Addr} {c:Nat} {ds:List Int} (hg:Rg ds) (h:RowN B w (.slice A ds.length c) ds):RowN B w (.slice A (digs (nat ds)).length c) (digs (nat ds)):=⟨Row.trim hg h.1,fun b hb=>h.2 b (by cases A <;> exact hb)⟩
theorem RowN.neg {B:Nat} {w:World} {A:Option Addr} {c:Nat} {z:Int} (h:RowN B w (.slice A (digs z).length c) (digs z)):RowN B w (.slice A (digs (-z)).length c) (digs (-z)):=by rw [digs_neg];exact h
theorem s_bsN {P:Program} {R:Reg} {Q:Exit→Act→World→Prop} {i:Nat} {o:Oper} (ho:R.ops[i]? = some o) (hf:free' R i=true) (hw:∀ {D env a w},At R i D env a w→Region.wanted o (yielded R.ops a.tmps)=true) (zs:List Int) (hlen:0 < zs.length∧zs.length≤64) (hV:R.v? i=some fun env=>slF zs (env i)) (hF:R.F.filter (fun p=>Nat.beq p.1 i)=[(i,fun env w=>RowN R.w0.heap.size w (env i) zs)]) (hint:intFree R=true) (hex:R.ex=none)
    (hrun:∀ {D env a w},At R i D env a w→(execOp a.eval o).run P w = .ok (.value (.slice (some ⟨w.heap.size,0,none⟩) zs.length zs.length)) (w.alloc (.cells (zs.map vi).toArray 3 (0,0)))):SR P Q R i:=
  s_gen ho hf (fun {D env a w} hA K hK=>by
    rw [if_pos (hw hA)]
    unfold Oper.wp
    rw [hrun hA]
    have hs':=hA.j.st.call (w':=w.alloc (.cells (zs.map vi).toArray 3 (0,0))) ⟨rfl,rfl,rfl,by simp,fun k hk=>Below.heap_alloc _ _ _ hk⟩
    have h0:=hA.j.st.gr.size
    refine hK _ _ hs' (fun w'' ha=>f_fact (φ:=fun v w=>RowN R.w0.heap.size w v zs) (form:=slF zs) hV (fun v w h=>h.form) hF hA.ok ho (RowN.keep ?_ (by have:=apart_keep hint hs' ha;rwa [hex] at this)))
    refine ⟨⟨_,_,rfl,Nat.le_refl _,by omega,.inr ⟨w.heap.size,0,_,_,rfl,heap_alloc_new w _,fun j hj=>?_⟩⟩,fun b hb=>?_⟩
    · simp only [Nat.zero_add,List.getElem?_toArray,List.getElem?_map,List.getD_eq_getElem?_getD]
      rw [List.getElem?_eq_getElem hj]
      rfl
    · simp only [Value.ownBlock,Option.some.injEq] at hb
      omega)
theorem Row.neg {w:World} {A:Option Addr} {c:Nat} {z:Int} (h:Row w (.slice A (digs z).length c) (digs z)):Row w (.slice A (digs (-z)).length c) (digs (-z)):=by rw [digs_neg];exact h
end Go.Proofs.YtailjojebdmnnaaGreat
namespace Go.Proofs.YtailjojebdmnnaaGreat
open Go.RowKit
section
variable {P:Program} {Q:Exit→Act→World→Prop} {R:Reg} {i:Nat} {o:Oper}
theorem cb_ {f:FuncId} {fn:Func} {ps:Array Operand} {ts:Array TypeId} (hfn:P.funcs[f]? = some fn) (z:Int) (ho:R.ops[i]? = some o:=by rfl) (hf:free' R i=true:=by rfl) (hop:o.op = .call { callee:=.value (.func f),args:=ps,argTypes:=ts }:=by rfl) (hname:(fn.name == "runtime.NumGoroutine")=false:=by kernel_rfl) (hb:fn.body.isSome=true:=by rfl) (hw:∀ D env a w,At R i D env a w→Region.wanted o (yielded R.ops a.tmps)=true:=by intro D env a w hA;first | exact wanted_none rfl _ | exact hA.gy rfl rfl rfl) (hV:R.v? i=some (fun env=>bigF z (env i)):=by rfl) (hF:R.F.filter (fun p=>Nat.beq p.1 i)=[(i,fun env w=>BigN R.w0.heap.size w (env i) z)]:=by rfl) (hint:intFree R=true:=by rfl) (hex:R.ex=none:=by rfl) (h:∀ D env a w,At R i D env a w→∃ vs:List Value,(Calls P f vs.toArray w fun e w'=>∃ v,e = .returned v∧Below w.heap.size w w'∧BigN w.heap.size w' v z)∧ps.toList.map (opAt R i env)=vs.map some):SR P Q R i:=
  cf_ hfn (fun v w=>BigN R.w0.heap.size w v z) (bigF z) ho hf hop hname hb hw hV hF hint (fun v w h=>h.form) (fun v w w' hk h=>by rw [hex] at hk;exact h.keep hk) (fun D env a w hA=>by
    obtain ⟨vs,h1,h2⟩:=h D env a w hA
    exact ⟨vs,upN hA.j.st.gr.size h1,h2⟩)
end
end Go.Proofs.YtailjojebdmnnaaGreat
namespace Go.Proofs.YtailjojebdmnnaaGreat
open Go.RowKit
abbrev fB (w0:World) (i:Nat) (z:Int):Nat × (Env→World→Prop):=(i,fun env w=>BigN w0.heap.size w (env i) z)
section
variable {P:Program} {Q:Exit→Act→World→Prop} {R:Reg} {i:Nat} {o:Oper}
theorem cb3e {f:FuncId} {fn:Func} {ps:Array Operand} {ts:Array TypeId} {vs:Env→List Value} {z:Int} (hfn:P.funcs[f]? = some fn) (h:∀ {D a} env w,At R i D env a w→Calls P f (vs env).toArray w fun e w'=>∃ v,e = .returned v∧Below w.heap.size w w'∧BigN w.heap.size w' v z) (ho:R.ops[i]? = some o:=by rfl) (hf:free' R i=true:=by rfl) (hop:o.op = .call { callee:=.value (.func f),args:=ps,argTypes:=ts }:=by rfl) (hname:(fn.name == "runtime.NumGoroutine")=false:=by kernel_rfl) (hb:fn.body.isSome=true:=by rfl) (ha:∀ env,ps.toList.map (opAt R i env)=(vs env).map some:=by intro _;rfl) (hw:∀ D env a w,At R i D env a w→Region.wanted o (yielded R.ops a.tmps)=true:=by intro D env a w hA;first | exact wanted_none rfl _ | exact hA.gy rfl rfl rfl) (hV:R.v? i=some (fun env=>bigF z (env i)):=by rfl) (hF:R.F.filter (fun p=>Nat.beq p.1 i)=[(i,fun env w=>BigN R.w0.heap.size w (env i) z)]:=by rfl) (hint:intFree R=true:=by rfl) (hex:R.ex=none:=by rfl):SR P Q R i:=cb_ hfn z ho hf hop hname hb hw hV hF hint hex (fun _ env _ w hA=>⟨_,h env w hA,ha env⟩)
theorem cb3 {f:FuncId} {fn:Func} {ps:Array Operand} {ts:Array TypeId} {vs:List Value} {z:Int} (hfn:P.funcs[f]? = some fn) (h:∀ {D env a} w,At R i D env a w→Calls P f vs.toArray w fun e w'=>∃ v,e = .returned v∧Below w.heap.size w w'∧BigN w.heap.size w' v z) (ho:R.ops[i]? = some o:=by rfl) (hf:free' R i=true:=by rfl) (hop:o.op = .call { callee:=.value (.func f),args:=ps,argTypes:=ts }:=by rfl) (hname:(fn.name == "runtime.NumGoroutine")=false:=by kernel_rfl) (hb:fn.body.isSome=true:=by rfl) (ha:∀ env,ps.toList.map (opAt R i env)=vs.map some:=by intro _;rfl) (hw:∀ D env a w,At R i D env a w→Region.wanted o (yielded R.ops a.tmps)=true:=by intro D env a w hA;first | exact wanted_none rfl _ | exact hA.gy rfl rfl rfl) (hV:R.v? i=some (fun env=>bigF z (env i)):=by rfl) (hF:R.F.filter (fun p=>Nat.beq p.1 i)=[(i,fun env w=>BigN R.w0.heap.size w (env i) z)]:=by rfl) (hint:intFree R=true:=by rfl) (hex:R.ex=none:=by rfl):SR P Q R i:=cb_ hfn z ho hf hop hname hb hw hV hF hint hex (fun _ env _ w hA=>⟨_,h w hA,ha env⟩)
end
end Go.Proofs.YtailjojebdmnnaaGreat
namespace Go.Proofs.YtailjojebdmnnaaGreat
open Go.RowKit
abbrev vG (g n:Nat):Value:=.slice (some ⟨g,0,none⟩) n n
section
variable {R:Reg} {Q:Exit→Act→World→Prop} {i:Nat} {o:Oper}
theorem s_mk (ho:R.ops[i]? = some o) (hf:free R i=true) (hg:o.guard=none) {x y:Operand} (hop:o.op = .makeSlice 50 x y) (n:Nat) (hV:R.v? i=some fun env=>vG (pb env i) n) (hF:noF R i=true) (hth:R.th=some (i,fun env w=>OwnR w R.w0.heap.size (vG (pb env i) n) (List.replicate n 0)))
    (z:Int) (hz:z=(n:Int)) (hn:n≤1000000) (hx:∀ env,opAt R i env x=some (vI z)) (hy:∀ env,opAt R i env y=some (vI z)):SR Tryz.prog Q R i:=
  s_th ho hf (fun {D env a w} hA K hK=>by
    rw [if_pos (wanted_none hg _)]
    have hnD:D i=false:=hA.i
    have hst0:=hA.j.st
    obtain ⟨i0,hi,hz0,hz1,hz2⟩:=info_parts (show (Tryz.prog.info? 3).map (fun i=>(i.zero,i.size,i.bytes))=some (some (.int .i64 0),1,8) by kernel_rfl)
    obtain ⟨w',hr,h2,h3⟩:=run_make_full (P:=Tryz.prog) w R.w0.heap.size 50 3 i0 (.int .i64 0) 1 Tryz.underlying50 hi hz0 hz1 .i64 .i64 n (by rw [hz2];omega) (by unfold maxLen;omega) hst0.gr.size
    have hrun:(execOp a.eval o).run Tryz.prog w = .ok (.value (vG w.heap.size n)) w':=by
      have e1:=hA.e (hx env)
      have e2:=hA.e (hy env)
      subst hz
      unfold execOp
      simp [hop,e1,e2,hr]
    unfold Oper.wp
    rw [hrun]
    have hown:OwnR w' R.w0.heap.size (vG w.heap.size n) (List.replicate n 0):=by
      unfold OwnR
      rw [List.length_replicate,List.map_replicate]
      have e:(madeCells (Value.int .i64 0).cells (n*1)).toList=List.replicate n (vi 0):=by
        rw [Nat.mul_one];exact toList_madeCells_one _ _
      rw [e] at h2
      exact h2
    have hself:=cl_self hA.ok ho
    have hb:Below w.heap.size w w':=⟨h3.os,h3.tape,h3.output,h3.size,fun k hk=>h3.block k hk (by simp)⟩
    have hst1:=hst0.call hb
    have e1:restr (R.cl.getD i []) (upd env i (vG w.heap.size n)) i=vG w.heap.size n:=by unfold restr upd;rw [if_pos (List.contains_iff_mem.2 hself),if_pos rfl]
    refine hK (vG w.heap.size n) w' ?_ (fun w'' _=>⟨fun V' hV'=>?_,fun p hp he=>?_⟩)
    · have ht1:R.tht (upB D i) (upd env i (vG w.heap.size n))=fun w''=>OwnR w'' R.w0.heap.size (vG w.heap.size n) (List.replicate n 0):=by
        unfold Reg.tht
        rw [hth]
        simp only [upB_self,if_true,pb,e1]
        rfl
      rw [ht1]
      refine ⟨hst1.gr,hst1.nod,hst1.own,hst1.exb,hst1.psi,fun w'' ha=>hown.stab (fun m e hm=>?_) ha⟩
      have:=hst0.lt hm
      exact fun e'=>by simp [vG,Value.ownBlock] at e';omega
    · rw [hV] at hV'
      obtain rfl:=Option.some.inj hV'
      simp only [pb,e1]
      rfl
    · have:=List.all_eq_true.1 hF p hp
      rw [he] at this
      simp at this)
theorem s_sr (ho:R.ops[i]? = some o) (hf:free R i=true) (hg:o.guard=none) {x y:Operand} (hop:o.op = .store 3 x y) (hV:R.v? i=none) (hF:noF R i=true) {g n:Nat} {ds:List Int} (hex:R.ex=some g) (hΘ:∀ w,R.Θ w→OwnR w R.w0.heap.size (vG g n) ds)
    (j:Nat) (z:Int) (hth:R.th=some (i,fun _ w=>OwnR w R.w0.heap.size (vG g n) (ds.set j z))) (hx:∀ env,opAt R i env x=some (elt (vG g n) j)) (hy:∀ env,opAt R i env y=some (vI z)) (hj:j < ds.length):SR Tryz.prog Q R i:=
  s_th ho hf (fun {D env a w} hA K hK=>by
    rw [if_pos (wanted_none hg _)]
    have hnD:D i=false:=hA.i
    have ht0:R.tht D env=R.Θ:=by unfold Reg.tht;rw [hth];simp [hnD]
    have hst0:=hA.j.st
    rw [ht0] at hst0
    have hO:=hΘ w hst0.nowT
    obtain ⟨hO1,hO2⟩:=hO
    rcases hO2 with ⟨hO2,_⟩ | ⟨g',cap,cur,hv,hB,hh,hn,hc,hs,ht⟩
    · cases hO2
    simp only [vG,Value.slice.injEq,Option.some.injEq,Addr.mk.injEq,and_true] at hv
    obtain ⟨rfl,hnl,rfl⟩:=hv
    have hlen':ds.length=n:=hnl.symm
    rw [hlen'] at ht
    have hu:cur.toList[0+j]? = some (vi (ds.getD j 0)):=by
      have e:(ds.map vi)[j]? = some (vi (ds.getD j 0)):=by
        rw [List.getElem?_map,List.getD_eq_getElem?_getD,List.getElem?_eq_getElem hj];rfl
      rw [← ht,List.getElem?_take,if_pos (by omega)] at e
      rw [Nat.zero_add];exact e
    obtain ⟨w',hr,hp⟩:=st3 (b:=g) (off:=0+j) (T0:=3) (cs:=cur.toList) (n0:=z) hu rfl (w:=w) (by rw [Array.toArray_toList];exact hh)
    have hrun:(execOp a.eval o).run Tryz.prog w = .ok .skip w':=by
      have e1:=hA.e (hx env)
      have e2:=hA.e (hy env)
      unfold execOp
      simp only [elt,vG] at e1
      simp [hop,e1,e2]
      simp at hr
      simp [hr]
    unfold Oper.wp
    rw [hrun]
    have hown:OwnR w' R.w0.heap.size (vG g n) (ds.set j z):=by
      refine ⟨by simp,.inr ⟨g,n,_,by simp [hlen'],hB,hp.here,by simp [hlen'],hc,by simpa using hs,?_⟩⟩
      rw [Nat.zero_add,List.take_set,List.map_set,← ht]
      simp [hlen']
    have hgb:w.grownBy w' (some g):=⟨hp.os,hp.tape,hp.output,by rw [hp.size];exact Nat.le_refl _,fun k _ hk=>hp.off k (fun e=>hk (by rw [e]))⟩
    have hM:∀ m e,R.mem D env m=some e→(vG g n).ownBlock≠some e.1:=fun m e hm e'=>by
      simp only [vG,Value.ownBlock,Option.some.injEq] at e'
      exact (hst0.exb g hex).2.1 m e hm e'.symm
    refine hK undef w' ?_ (fun w'' _=>f_none hV hF _ w'')
    have ht1:R.tht (upB D i) (upd env i undef)=fun w''=>OwnR w'' R.w0.heap.size (vG g n) (ds.set j z):=by
      unfold Reg.tht
      rw [hth]
      simp only [upB_self,if_true]
    rw [ht1]
    exact hst0.callg hex hgb (fun w'' ha=>hown.stab hM ha))
end
theorem Cur.exIn {n:Nat} {w0:World} {Θ:World→Prop} {L:Slots} {M:List Ent} {a:Act} {w:World} (h:Cur n w0 none none (Facts []) Θ L M a w) {g k:Nat} {ds:List Int} (hΘ:∀ w,Θ w→OwnR w w0.heap.size (vG g k) ds):Cur n w0 none (some g) (Facts []) Θ L M a w:=by
 refine ⟨h.sz,h.df,⟨h.st.gr,h.st.nod,h.st.own,fun g' hg'=>?_,fun _ _ φ hφ=>(by cases hφ),h.st.the⟩,h.sl⟩
 obtain rfl:=Option.some.inj hg'
 have h1:=hΘ w h.st.nowT
 have h2:=h1.lt g rfl
 exact ⟨h2.2,fun m e hm he=>own_off (fun w' ha=>hΘ w' (h.st.the w' ha)) hm (by rw [he];rfl),.inl h2.1⟩
theorem Cur.exOut {n:Nat} {w0:World} {row ex:Option Nat} {Ψ Θ:World→Prop} {L:Slots} {M:List Ent} {a:Act} {w:World} (h:Cur n w0 row ex Ψ Θ L M a w):Cur n w0 row none Ψ Θ L M a w:=
 ⟨h.sz,h.df,⟨h.st.gr,h.st.nod,h.st.own,fun g' hg'=>(by cases hg'),fun w' ha=>h.st.psi w' ⟨ha.1,fun k hk hM _=>ha.2 k hk hM (by simp)⟩,h.st.the⟩,h.sl⟩
end Go.Proofs.YtailjojebdmnnaaGreat
namespace Go.Proofs.YtailjojebdmnnaaGreat
theorem mul16 {u v:Int} (u0:0≤u) (u1:u < 65536) (v0:0≤v) (v1:v < 65536):0≤u*v∧u*v≤4294836225:=by
 have h:=Int.mul_nonneg u0 v0
 have h1:0≤(65535-u)*(65535+v):=Int.mul_nonneg (by omega) (by omega)
 have h2:0≤(65535+u)*(65535-v):=Int.mul_nonneg (by omega) (by omega)
 rw [Int.sub_mul,Int.mul_add,Int.mul_add] at h1
 rw [Int.add_mul,Int.mul_sub,Int.mul_sub] at h2
 omega
structure MulI (xs ys ds:List Int) (i:Nat):Prop where
 l:ds.length=xs.length+ys.length
 g:Rg ds
 hi:i≤xs.length
 s:nat ds=nat (xs.take i)*nat ys
 z:∀ k,i+ys.length≤k→ds.getD k 0=0
theorem MulI.start (xs ys:List Int):MulI xs ys (List.replicate (xs.length+ys.length) 0) 0:=by
  refine ⟨by simp,fun d hd=>?_,by omega,by rw [nat_replicate];simp [nat],fun k _=>?_⟩
  · rw [List.eq_of_mem_replicate hd];omega
  · rw [List.getD_eq_getElem?_getD,List.getElem?_replicate];split <;> rfl
theorem MulI.done {xs ys ds:List Int} {i:Nat} (h:MulI xs ys ds i) (hi:xs.length≤i):nat ds=nat xs*nat ys:=by rw [h.s,nat_take_all xs hi]
structure MulJ (xs ys ds es:List Int) (i j:Nat) (cy:Int):Prop where
 l:es.length=xs.length+ys.length
 g:Rg es
 hj:j≤ys.length
 c0:0≤cy
 c1:cy < 65536
 s:nat es+65536 ^ (i+j)*cy=nat ds+65536 ^ i*(xs.getD i 0*nat (ys.take j))
 z:∀ k,i+ys.length≤k→es.getD k 0=0
theorem MulI.open {xs ys ds:List Int} {i:Nat} (h:MulI xs ys ds i):MulJ xs ys ds ds i 0 0:=⟨h.l,h.g,by omega,by omega,by omega,by simp [nat],h.z⟩
theorem getD_set_ne {ds:List Int} {i k:Nat} (h:i≠k) (d:Int):(ds.set i d).getD k 0=ds.getD k 0:=by
 rw [List.getD_eq_getElem?_getD,List.getD_eq_getElem?_getD,List.getElem?_set_ne h]
theorem MulJ.step {xs ys ds es:List Int} {i j:Nat} {cy n:Int} (h:MulJ xs ys ds es i j cy) (hx:Rg xs) (hy:Rg ys) (hi:i < xs.length) (hj:j < ys.length) (hn:n=es.getD (i+j) 0+xs.getD i 0*ys.getD j 0+cy):MulJ xs ys ds (es.set (i+j) (n % 65536)) i (j+1) (n / 65536):=by
  obtain ⟨hl,hg,hj',h0,h1,hs,hz⟩:=h
  have a:=hx.getD i
  have b:=hy.getD j
  have e:=hg.getD (i+j)
  have m:=mul16 a.1 a.2 b.1 b.2
  refine ⟨by simpa using hl,hg.set _ (by omega),hj,by omega,by omega,?_,fun k hk=>?_⟩
  · rw [nat_set (by omega),nat_take_succ',Int.mul_add,Int.mul_add,Int.mul_sub]
    have q1:(65536:Int) ^ (i+(j+1))*(n / 65536)=65536 ^ (i+j)*(65536*(n / 65536)):=by
      rw [← Nat.add_assoc,Int.pow_succ,Int.mul_assoc]
    have q2:(65536:Int) ^ (i+j)*n=65536 ^ (i+j)*(65536*(n / 65536))+65536 ^ (i+j)*(n % 65536):=by
      rw [← Int.mul_add];congr 1;omega
    have q3:(65536:Int) ^ (i+j)*n=65536 ^ (i+j)*es.getD (i+j) 0+65536 ^ (i+j)*(xs.getD i 0*ys.getD j 0)+65536 ^ (i+j)*cy:=by
      rw [← Int.mul_add,← Int.mul_add,← hn]
    have q4:(65536:Int) ^ i*(xs.getD i 0*(65536 ^ j*ys.getD j 0))=65536 ^ (i+j)*(xs.getD i 0*ys.getD j 0):=by
      rw [Int.pow_add]
      simp only [Int.mul_assoc,Int.mul_left_comm]
    omega
  · rw [getD_set_ne (by omega)];exact hz k hk
theorem MulJ.close {xs ys ds es:List Int} {i j:Nat} {cy:Int} (h:MulJ xs ys ds es i j cy) (hd:MulI xs ys ds i) (hi:i < xs.length) (hj:ys.length≤j):MulI xs ys (es.set (i+ys.length) cy) (i+1):=by
  obtain ⟨hl,hg,hj',h0,h1,hs,hz⟩:=h
  have ej:j=ys.length:=by omega
  subst ej
  refine ⟨by simpa using hl,hg.set _ ⟨h0,h1⟩,hi,?_,fun k hk=>?_⟩
  · rw [nat_set (by omega),hz _ (Nat.le_refl _),nat_take_succ',Int.add_mul,← hd.s]
    rw [nat_take_all ys (Nat.le_refl _)] at hs
    rw [Int.mul_assoc,← hs]
    simp
  · rw [getD_set_ne (by omega)];exact hz k (by omega)
theorem sg_same {x y:Int} (h:(0≤x∧0≤y)∨(x < 0∧y < 0)):¬ x*y < 0:=by
  rcases h with ⟨h1,h2⟩ | ⟨h1,h2⟩
  · have:=Int.mul_nonneg h1 h2;omega
  · have:=Int.mul_nonneg (show 0 ≤ -x by omega) (show 0 ≤ -y by omega)
    rw [Int.neg_mul_neg] at this;omega
theorem sg_diff {x y:Int} (h:(0≤x∧y < 0)∨(x < 0∧0≤y)):x*y≤0:=by
  rcases h with ⟨h1,h2⟩ | ⟨h1,h2⟩
  · have:=Int.mul_nonneg h1 (show 0 ≤ -y by omega)
    rw [Int.mul_neg] at this;omega
  · have:=Int.mul_nonneg (show 0 ≤ -x by omega) h2
    rw [Int.neg_mul] at this;omega
theorem pow_16 (n:Nat):(0:Int) < 2 ^ (n % 16)∧(2:Int) ^ (n % 16) < 65536:=by
  have hp:(0:Int) < 2 ^ (n % 16):=Int.pow_pos (by decide)
  have hlt:(2:Int) ^ (n % 16) < 65536:=by
    have h16:=Nat.mod_lt n (show 0 < 16 by decide)
    have h1:(2:Int) ^ (n % 16)*2 ^ (15-n % 16)=2 ^ 15:=by rw [← Int.pow_add];congr 1;omega
    have h2:(0:Int) < 2 ^ (15-n % 16):=Int.pow_pos (by decide)
    have h3:=Int.mul_le_mul_of_nonneg_left (show (1:Int)≤2 ^ (15-n % 16) by omega) (Int.le_of_lt hp)
    have e15:(2:Int) ^ 15=32768:=rfl
    rw [h1,e15] at h3
    omega
  exact ⟨hp,hlt⟩
theorem pow2_digs (n:Nat):digs (2 ^ n)=(List.replicate (n / 16+1) 0).set (n / 16) (2 ^ (n % 16)):=by
  have e:(List.replicate (n / 16+1) (0:Int)).set (n / 16) (2 ^ (n % 16))=List.replicate (n / 16) 0 ++ [2 ^ (n % 16)]:=by
    rw [List.replicate_succ',List.set_append_right _ _ (by simp)]
    simp
  obtain ⟨hp,hlt⟩:=pow_16 n
  rw [e]
  have hr:Rg (List.replicate (n / 16) (0:Int) ++ [2 ^ (n % 16)]):=Rg.append.2 ⟨fun d hd=>by rw [List.eq_of_mem_replicate hd];omega,Rg.cons.2 ⟨⟨by omega,hlt⟩,Rg.nil⟩⟩
  have hc:Can (List.replicate (n / 16) (0:Int) ++ [2 ^ (n % 16)]):=(can_snoc _ _).2 (by omega)
  rw [← digs_nat hr hc,nat_append,nat_replicate,List.length_replicate]
  simp only [nat]
  congr 1
  have:(65536:Int) ^ (n / 16)=2 ^ (16*(n / 16)):=by rw [Int.pow_mul];rfl
  rw [this]
  have h2:n=16*(n / 16)+n % 16:=by omega
  calc (2:Int) ^ n=2 ^ (16*(n / 16)+n % 16):=by rw [← h2]
    _=_:=by rw [Int.pow_add];simp
end Go.Proofs.YtailjojebdmnnaaGreat
namespace Go.Proofs.YtailjojebdmnnaaGreat
open Go.RowKit
attribute [local go_sem] vN bT bF rS vW vM vL vT2 vT3 vP vI execOp Act.eval evC bigF vB hi_zero lo_zero Tryz.underlying25 Tryz.underlying3 Tryz.underlying52
theorem word_nat {n:Int} (h0:0≤n) (h1:n < 18446744073709551616):nat [n % 65536,n / 65536 % 65536,n / 4294967296 % 65536,n / 281474976710656]=n:=by
 simp only [nat];omega
theorem word_rg {n:Int} (h0:0≤n) (h1:n < 18446744073709551616):Rg [n % 65536,n / 65536 % 65536,n / 4294967296 % 65536,n / 281474976710656]:=by
 intro d hd;simp at hd;omega
theorem and_16 {n:Int} (h0:0≤n) (h1:n < 18446744073709551616):bits .and .u64 n 65535=n % 65536:=by
 obtain ⟨m,rfl⟩:∃ m:Nat,n=(m:Int):=⟨n.toNat,by omega⟩
 have h:=bits_and_u64_nat m 65535 (by omega) (by omega)
 have h2:m &&& 65535=m % 65536:=Nat.and_two_pow_sub_one_eq_mod m 16
 rw [h2] at h
 simpa using h
theorem Word_any (w0:World) (n:Int) (h0:0≤n) (h1:n < 18446744073709551616):Calls Tryz.prog 36 #[.int .u64 n] w0 fun e w'=>∃ v,e = .returned v∧Below w0.heap.size w0 w'∧BigN w0.heap.size w' v (n):=by
 have hst:=St.start w0 (Θ:=fun _=>True) (fun _ _=>trivial)
 refine en_ Tryz.func36 hst 20 [(0,.int .u64 n)] (fun ac H_=>?_)
 replace H_:=H_.facts
 refine fq H_ 0 [[0]] [_] (fun E1=>[(2,vP (pb E1 0) 0)]) (W:=[{ i:=0,T:=52,c0:=[bF,.slice none 0 0] }]) (s:=(al_ 0)) (k:=fun E1 ac wd H_=>?_)
 refine fq H_ 17 [[0],[0,1],[0,1,2],[3],[3,4],[3,4,5],[3,4,5,6],[7],[7,8],[7,8,9],[7,8,9,10],[11],[11,12],[11,12,13],r_ 15,r_ 16,r_ 17,r_ 18] [_,K_ (.int .u64 (n % 65536)),vI (n % 65536),_,K_ (.int .u64 (n / 65536)),K_ (.int .u64 ((n / 65536) % 65536)),vI ((n / 65536) % 65536),_,K_ (.int .u64 (n / 4294967296)),K_ (.int .u64 ((n / 4294967296) % 65536)),vI ((n / 4294967296) % 65536),_,K_ (.int .u64 (n / 281474976710656)),vI (n / 281474976710656),KE_ fun env=>.slice ((sA (env 14))) ([n % 65536,(n / 65536) % 65536,(n / 4294967296) % 65536,n / 281474976710656].length) ((sC (env 14))),_,KE_ fun env=>.agg #[bF,rS (nat [n % 65536,(n / 65536) % 65536,(n / 4294967296) % 65536,n / 281474976710656]) ((sA (env 14))) ((sC (env 14)))],none] (fun _=>[]) (S:=[⟨0,17,fun env=>[bF,rS (nat [n % 65536,(n / 65536) % 65536,(n / 4294967296) % 65536,n / 281474976710656]) ((sA (env 14))) ((sC (env 14)))]⟩]) (F:=[(14,fun env w=>RowN w0.heap.size w (env 14) [n % 65536,(n / 65536) % 65536,(n / 4294967296) % 65536,n / 281474976710656])]) (s:=⟨mv3,bi3 (h:=by intro env w;simp [go_sem];exact and_16 (by omega) (by omega)),cv3 (h:=by intro env w;simp [go_sem];exact IntWalk.i64_in _ (by omega)),mv3,bi3,bi3 (h:=by intro env w;simp [go_sem];exact and_16 (by omega) (by omega)),cv3 (h:=by intro env w;simp [go_sem];exact IntWalk.i64_in _ (by omega)),mv3,bi3,bi3 (h:=by intro env w;simp [go_sem];exact and_16 (by omega) (by omega)),cv3 (h:=by intro env w;simp [go_sem];exact IntWalk.i64_in _ (by omega)),mv3,bi3,cv3 (h:=by intro env w;simp [go_sem];exact IntWalk.i64_in _ (by omega)),by refine s_bsN rfl rfl (fun _=>wanted_none rfl _) [n % 65536,(n / 65536) % 65536,(n / 4294967296) % 65536,n / 281474976710656] ⟨by simp,by simp⟩ rfl rfl rfl rfl (fun {D env ac wd} hA=>?_);have e5:ac.tmps[5]? = some (vI (n % 65536)):=hA.g rfl;have e9:ac.tmps[9]? = some (vI ((n / 65536) % 65536)):=hA.g rfl;have e13:ac.tmps[13]? = some (vI ((n / 4294967296) % 65536)):=hA.g rfl;have e16:ac.tmps[16]? = some (vI (n / 281474976710656)):=hA.g rfl;simp [go_sem,e5,e9,e13,e16,Tryz.underlying50],cw3e Tryz.func50 fun env wd hA=>trim_core wd (sA (env 14)) (sC (env 14)) [n % 65536,(n / 65536) % 65536,(n / 4294967296) % 65536,n / 281474976710656] (At.rowN hA 14 rfl rfl rfl) (word_rg h0 h1),bd31,se3 0 sh52⟩) (k:=fun E2 ac wd H_=>?_)
 refine lvC3 (v:=.agg #[.bool false,.slice ((sA (E2 14))) ((digs (nat [n % 65536,(n / 65536) % 65536,(n / 4294967296) % 65536,n / 281474976710656])).length) ((sC (E2 14)))]) Tryz.results36 H_ 0 (loadGc sh52 rfl ⟨rfl,rfl,trivial⟩) ?_
 refine ⟨_,rfl,H_.st.below,?_⟩
 exact BigN.mk (decide_eq_false (by omega)).symm (congrArg digs (word_nat h0 h1)) (RowN.trim (word_rg h0 h1) (Facts.rN H_.st.now 0 rfl))
theorem cmp_abs (w0:World) (A B:Option Addr) (c k:Nat) (x y:Int) (hr:Row w0 (.slice A (digs x).length c) (digs x)) (hr2:Row w0 (.slice B (digs y).length k) (digs y)):Calls Tryz.prog 37 #[.slice A ((digs x).length) c,.slice B ((digs y).length) k] w0 fun e w'=>e = .returned (vI (cmpZ x.natAbs y.natAbs))∧Below w0.heap.size w0 w':=by
 have:=cmp_any w0 A B c k x.natAbs y.natAbs (by omega) (by omega) (by rw [digs_natAbs];exact hr) (by rw [digs_natAbs];exact hr2)
 simp only [digs_natAbs] at this
 exact this
theorem add_abs (w0:World) (A B:Option Addr) (c k:Nat) (x y:Int) (hr:Row w0 (.slice A (digs x).length c) (digs x)) (hr2:Row w0 (.slice B (digs y).length k) (digs y)) (hx:Sm x) (hy:Sm y):Calls Tryz.prog 48 #[.slice A ((digs x).length) c,.slice B ((digs y).length) k] w0 fun e w'=>∃ v,e = .returned v∧Below w0.heap.size w0 w'∧RowN w0.heap.size w' v (digs ((x.natAbs:Int)+y.natAbs)):=by
 have:=add_core w0 A B c k x.natAbs y.natAbs (by omega) (by omega) (by rw [digs_natAbs];exact hr) (by rw [digs_natAbs];exact hr2) 21 (by omega) (by rw [digs_natAbs];exact hx.len) (by rw [digs_natAbs];exact hy.len)
 simp only [digs_natAbs] at this
 exact this
theorem sub_abs (w0:World) (A B:Option Addr) (c k:Nat) (x y:Int) (hr:Row w0 (.slice A (digs x).length c) (digs x)) (hr2:Row w0 (.slice B (digs y).length k) (digs y)) (hle:y.natAbs≤x.natAbs) (hx:Sm x):Calls Tryz.prog 49 #[.slice A ((digs x).length) c,.slice B ((digs y).length) k] w0 fun e w'=>∃ v,e = .returned v∧Below w0.heap.size w0 w'∧RowN w0.heap.size w' v (digs ((x.natAbs:Int)-y.natAbs)):=by
 have:=sub_core w0 A B c k x.natAbs y.natAbs (by omega) (by rw [digs_natAbs];exact hr) (by rw [digs_natAbs];exact hr2) (by omega) (by rw [digs_natAbs];have:=hx.len;omega)
 simp only [digs_natAbs] at this
 exact this
theorem Neg_any (w0:World) (p:Bool) (A0:Option Addr) (c0:Nat) (x:Int) (hp:p=decide (x < 0)) (hr:Row w0 (.slice A0 (digs x).length c0) (digs x)):Calls Tryz.prog 34 #[.agg #[.bool (p),.slice A0 ((digs x).length) c0]] w0 fun e w'=>e = .returned (.agg #[.bool (decide (-x < 0)),.slice A0 ((digs (-x)).length) c0])∧Below w0.heap.size w0 w':=by
 have hst:=St.start w0 (Θ:=fun _=>True) (fun _ _=>trivial)
 refine en_ Tryz.func34 hst 15 [(0,.agg #[.bool (p),.slice A0 ((digs x).length) c0])] (fun ac H_=>?_)
 cases p
 have h1:0≤x:=by have:=of_decide_eq_false hp.symm;omega
 refine gq H_ 1 [[0],[1]] [_,_] (fun E1=>[(1,vP (pb E1 0) 0),(2,vP (pb E1 1) 0)]) (W:=[{ i:=0,T:=52,c0:=[bF,rS x A0 c0] },{ i:=1,T:=52,c0:=[bF,.slice none 0 0] }]) (s:=⟨bx3 0,al_ 1⟩) (k:=fun E1 ac wd H_=>?_)
 by_cases h2:x=0
 refine gq H_ 12 (tri 9++[[9],[9,10],r_ 12,r_ 13]) [_,_,bT,_,_,_,vN ((digs x).length),bF,bF,_,_,K_ (.agg #[bF,rS x A0 c0]),none] (fun _=>[]) (S:=[⟨1,12,fun _=>[bF,rS x A0 c0]⟩]) (s:=⟨fa3 0,ld31 0 sh4,un3,mv3,fa3 1,ld31 0 sh50,ln_ Tryz.underlying50 fun _ env _ wd hA=>(hr.grown hA.j.st.gr).els,bi3 (h:=by intro env w;have h3:digs x=[]:=(by subst h2;exact digs_zero);simp [go_sem,h3]),pk3 (h:=by intro env w;have h3:digs x=[]:=(by subst h2;exact digs_zero);simp [go_sem,h3]),fa3 1,ld31 0 sh50,bd32,se3 1 sh52⟩) (k:=fun E2 ac wd H_=>?_)
 refine lvC3 (v:=.agg #[.bool false,.slice A0 ((digs x).length) c0]) Tryz.results34 H_ 1 (loadGc sh52 rfl ⟨rfl,rfl,trivial⟩) ?_
 exact ⟨by rw [show decide (-x < 0)=false from decide_eq_false (by omega),digs_neg],H_.st.below⟩
 refine gq H_ 12 (tri 9++[[9],[9,10],r_ 12,r_ 13]) [_,_,bT,_,_,_,vN ((digs x).length),bT,bT,_,_,K_ (.agg #[bT,rS x A0 c0]),none] (fun _=>[]) (S:=[⟨1,12,fun _=>[bT,rS x A0 c0]⟩]) (s:=⟨fa3 0,ld31 0 sh4,un3,mv3,fa3 1,ld31 0 sh50,ln_ Tryz.underlying50 fun _ env _ wd hA=>(hr.grown hA.j.st.gr).els,bi3 (h:=by intro env w;have h3:digs x≠[]:=fun e=>h2 (digs_nil.1 (by rw [e];rfl));first | (simp [go_sem];done) | (simp [go_sem];exact List.length_pos_iff.2 h3)),pk3 (h:=by intro env w;have h3:digs x≠[]:=fun e=>h2 (digs_nil.1 (by rw [e];rfl));first | (simp [go_sem];done) | (simp [go_sem];exact List.length_pos_iff.2 h3)),fa3 1,ld31 0 sh50,bd32,se3 1 sh52⟩) (k:=fun E2 ac wd H_=>?_)
 refine lvC3 (v:=.agg #[.bool true,.slice A0 ((digs x).length) c0]) Tryz.results34 H_ 1 (loadGc sh52 rfl ⟨rfl,rfl,trivial⟩) ?_
 exact ⟨by rw [show decide (-x < 0)=true from decide_eq_true (by omega),digs_neg],H_.st.below⟩
 have h1:x < 0:=of_decide_eq_true hp.symm
 refine gq H_ 1 [[0],[1]] [_,_] (fun E1=>[(1,vP (pb E1 0) 0),(2,vP (pb E1 1) 0)]) (W:=[{ i:=0,T:=52,c0:=[bT,rS x A0 c0] },{ i:=1,T:=52,c0:=[bF,.slice none 0 0] }]) (s:=⟨bx3 0,al_ 1⟩) (k:=fun E1 ac wd H_=>?_)
 refine gq H_ 12 (tri 9++[[9],[9,10],r_ 12,r_ 13]) [_,_,bF,_,_,_,_,_,bF,_,_,K_ (.agg #[bF,rS x A0 c0]),none] (fun _=>[]) (S:=[⟨1,12,fun _=>[bF,rS x A0 c0]⟩]) (s:=⟨fa3 0,ld31 0 sh4,un3,mv3,off_,off_,off_,off_,pk3,fa3 1,ld31 0 sh50,bd32,se3 1 sh52⟩) (k:=fun E2 ac wd H_=>?_)
 refine lvC3 (v:=.agg #[.bool false,.slice A0 ((digs x).length) c0]) Tryz.results34 H_ 1 (loadGc sh52 rfl ⟨rfl,rfl,trivial⟩) ?_
 exact ⟨by rw [show decide (-x < 0)=false from decide_eq_false (by omega),digs_neg],H_.st.below⟩
theorem Cmp_any (w0:World) (p:Bool) (A0:Option Addr) (c0:Nat) (x:Int) (hp:p=decide (x < 0)) (hr:Row w0 (.slice A0 (digs x).length c0) (digs x))  (q:Bool) (B0:Option Addr) (k0:Nat) (y:Int) (hq:q=decide (y < 0)) (hr2:Row w0 (.slice B0 (digs y).length k0) (digs y))  : Calls Tryz.prog 14 #[.agg #[.bool (p),.slice A0 ((digs x).length) c0],.agg #[.bool (q),.slice B0 ((digs y).length) k0]] w0 fun e w'=>e = .returned (vI (cmpZ x y))∧Below w0.heap.size w0 w':=by
 have hst:=St.start w0 (Θ:=fun _=>True) (fun _ _=>trivial)
 refine en_ Tryz.func14 hst 24 [(0,.agg #[.bool (p),.slice A0 ((digs x).length) c0]),(1,.agg #[.bool (q),.slice B0 ((digs y).length) k0])] (fun ac H_=>?_)
 cases p
 have h1:0≤x:=by have:=of_decide_eq_false hp.symm;omega
 cases q
 have h2:0≤y:=by have:=of_decide_eq_false hq.symm;omega
 refine gq H_ 2 [[0],[1],[2]] [_,_,_] (fun E1=>[(2,vP (pb E1 0) 0),(3,vP (pb E1 1) 0)]) (W:=[{ i:=0,T:=52,c0:=[bF,rS x A0 c0] },{ i:=1,T:=52,c0:=[bF,rS y B0 k0] }]) (s:=⟨bx3 0,bx3 1,mv3⟩) (k:=fun E1 ac wd H_=>?_)
 refine gq1 H_ 4 [[0],[0,1],[2],[2,3],r_ 5] [_,_,_,_,bF] (fun _=>[(9,bF)]) (s:=⟨fa3 0,ld31 0 sh4,fa3 0,ld31 1 sh4,bi3⟩) (k:=fun E2 ac wd H_=>?_)
 refine cF3 H_ ?_
 refine gq1 H_ 1 [[0],[0,1]] [_,_] (fun _=>[(13,bF)]) (s:=⟨fa3 0,ld31 0 sh4⟩) (k:=fun E3 ac wd H_=>?_)
 refine cF3 H_ ?_
 refine gq1 H_ 5 [[0],[0,1],[2],[2,3],r_ 5,r_ 6] [_,_,_,_,_,_] (fun _=>[(4,vI (cmpZ x.natAbs y.natAbs))]) (s:=⟨fa3 1,ld31 0 sh50,fa3 1,ld31 1 sh50,cw3 Tryz.func37 fun wd hA=>cmp_abs wd A0 B0 c0 k0 x y (hr.grown hA.j.st.gr) (hr2.grown hA.j.st.gr),mv3⟩) (k:=fun E4 ac wd H_=>?_)
 refine lvT3 Tryz.results14 H_ ?_
 exact ⟨by rw [show cmpZ x y=cmpZ x.natAbs y.natAbs by unfold cmpZ;split <;> (try split) <;> (try split) <;> (try split) <;> omega],H_.st.below⟩
 have h2:y < 0:=of_decide_eq_true hq.symm
 refine gq H_ 2 [[0],[1],[2]] [_,_,_] (fun E1=>[(2,vP (pb E1 0) 0),(3,vP (pb E1 1) 0)]) (W:=[{ i:=0,T:=52,c0:=[bF,rS x A0 c0] },{ i:=1,T:=52,c0:=[bT,rS y B0 k0] }]) (s:=⟨bx3 0,bx3 1,mv3⟩) (k:=fun E1 ac wd H_=>?_)
 refine gq1 H_ 4 [[0],[0,1],[2],[2,3],r_ 5] [_,_,_,_,bT] (fun _=>[(9,bT)]) (s:=⟨fa3 0,ld31 0 sh4,fa3 0,ld31 1 sh4,bi3⟩) (k:=fun E2 ac wd H_=>?_)
 refine cT3 H_ ?_
 refine gq1 H_ 1 [[0],[0,1]] [_,_] (fun _=>[(11,bF)]) (s:=⟨fa3 0,ld31 0 sh4⟩) (k:=fun E3 ac wd H_=>?_)
 refine cF3 H_ ?_
 refine gq1 H_ 0 [[0]] [_] (fun _=>[(4,vI 1)]) (s:=mv3) (k:=fun E4 ac wd H_=>?_)
 refine lvT3 Tryz.results14 H_ ?_
 exact ⟨by rw [show cmpZ x y=1 by unfold cmpZ;first | (rw [if_pos (by omega)]) | (rw [if_neg (by omega),if_pos (by omega)])],H_.st.below⟩
 have h1:x < 0:=of_decide_eq_true hp.symm
 cases q
 have h2:0≤y:=by have:=of_decide_eq_false hq.symm;omega
 refine gq H_ 2 [[0],[1],[2]] [_,_,_] (fun E1=>[(2,vP (pb E1 0) 0),(3,vP (pb E1 1) 0)]) (W:=[{ i:=0,T:=52,c0:=[bT,rS x A0 c0] },{ i:=1,T:=52,c0:=[bF,rS y B0 k0] }]) (s:=⟨bx3 0,bx3 1,mv3⟩) (k:=fun E1 ac wd H_=>?_)
 refine gq1 H_ 4 [[0],[0,1],[2],[2,3],r_ 5] [_,_,_,_,bT] (fun _=>[(9,bT)]) (s:=⟨fa3 0,ld31 0 sh4,fa3 0,ld31 1 sh4,bi3⟩) (k:=fun E2 ac wd H_=>?_)
 refine cT3 H_ ?_
 refine gq1 H_ 1 [[0],[0,1]] [_,_] (fun _=>[(11,bT)]) (s:=⟨fa3 0,ld31 0 sh4⟩) (k:=fun E3 ac wd H_=>?_)
 refine cT3 H_ ?_
 refine gq1 H_ 0 [[0]] [_] (fun _=>[(4,vI (-1))]) (s:=mv3) (k:=fun E4 ac wd H_=>?_)
 refine lvT3 Tryz.results14 H_ ?_
 exact ⟨by rw [show cmpZ x y = -1 by unfold cmpZ;first | (rw [if_pos (by omega)]) | (rw [if_neg (by omega),if_pos (by omega)])],H_.st.below⟩
 have h2:y < 0:=of_decide_eq_true hq.symm
 refine gq H_ 2 [[0],[1],[2]] [_,_,_] (fun E1=>[(2,vP (pb E1 0) 0),(3,vP (pb E1 1) 0)]) (W:=[{ i:=0,T:=52,c0:=[bT,rS x A0 c0] },{ i:=1,T:=52,c0:=[bT,rS y B0 k0] }]) (s:=⟨bx3 0,bx3 1,mv3⟩) (k:=fun E1 ac wd H_=>?_)
 refine gq1 H_ 4 [[0],[0,1],[2],[2,3],r_ 5] [_,_,_,_,bF] (fun _=>[(9,bF)]) (s:=⟨fa3 0,ld31 0 sh4,fa3 0,ld31 1 sh4,bi3⟩) (k:=fun E2 ac wd H_=>?_)
 refine cF3 H_ ?_
 refine gq1 H_ 1 [[0],[0,1]] [_,_] (fun _=>[(13,bT)]) (s:=⟨fa3 0,ld31 0 sh4⟩) (k:=fun E3 ac wd H_=>?_)
 refine cT3 H_ ?_
 refine gq1 H_ 5 [[0],[0,1],[2],[2,3],r_ 5,r_ 6] [_,_,_,_,_,_] (fun _=>[(4,vI (cmpZ y.natAbs x.natAbs))]) (s:=⟨fa3 1,ld31 1 sh50,fa3 1,ld31 0 sh50,cw3 Tryz.func37 fun wd hA=>cmp_abs wd B0 A0 k0 c0 y x (hr2.grown hA.j.st.gr) (hr.grown hA.j.st.gr),mv3⟩) (k:=fun E4 ac wd H_=>?_)
 refine lvT3 Tryz.results14 H_ ?_
 exact ⟨by rw [show cmpZ x y=cmpZ y.natAbs x.natAbs by unfold cmpZ;split <;> (try split) <;> (try split) <;> (try split) <;> omega],H_.st.below⟩
theorem Add_any (w0:World) (p:Bool) (A0:Option Addr) (c0:Nat) (x:Int) (hp:p=decide (x < 0)) (hr:Row w0 (.slice A0 (digs x).length c0) (digs x)) (hx:Sm x) (q:Bool) (B0:Option Addr) (k0:Nat) (y:Int) (hq:q=decide (y < 0)) (hr2:Row w0 (.slice B0 (digs y).length k0) (digs y)) (hy:Sm y):Calls Tryz.prog 22 #[.agg #[.bool (p),.slice A0 ((digs x).length) c0],.agg #[.bool (q),.slice B0 ((digs y).length) k0]] w0 fun e w'=>∃ v,e = .returned v∧Below w0.heap.size w0 w'∧BigN w0.heap.size w' v (x+y):=by
 have hst:=St.start w0 (Θ:=fun _=>True) (fun _ _=>trivial)
 refine en_ Tryz.func22 hst 41 [(0,.agg #[.bool (p),.slice A0 ((digs x).length) c0]),(1,.agg #[.bool (q),.slice B0 ((digs y).length) k0])] (fun ac H_=>?_)
 replace H_:=H_.facts
 cases p
 have h1:0≤x:=by have:=of_decide_eq_false hp.symm;omega
 cases q
 have h2:0≤y:=by have:=of_decide_eq_false hq.symm;omega
 refine fq H_ 2 [[0],[1],[2]] [_,_,_] (fun E1=>[(2,vP (pb E1 0) 0),(3,vP (pb E1 1) 0),(4,vP (pb E1 2) 0)]) (W:=[{ i:=0,T:=52,c0:=[bF,rS x A0 c0] },{ i:=1,T:=52,c0:=[bF,rS y B0 k0] },{ i:=2,T:=52,c0:=[bF,.slice none 0 0] }]) (s:=⟨bx3 0,bx3 1,al_ 2⟩) (k:=fun E1 ac wd H_=>?_)
 refine fq1 H_ 4 [[0],[0,1],[2],[2,3],r_ 5] [_,_,_,_,bT] (fun _=>[(10,bT)]) (s:=⟨fa3 0,ld31 0 sh4,fa3 0,ld31 1 sh4,bi3⟩) (k:=fun E2 ac wd H_=>?_)
 refine cT3 H_ ?_
 refine fq H_ 8 [[0],[0,1],[2],[2,3],[4],[4,5],[2,3,4,5,6],r_ 8,r_ 9] [_,_,_,_,_,_,KE_ fun env=>rS ((x.natAbs:Int)+y.natAbs) ((sA (env 6))) ((sC (env 6))),KE_ fun env=>.agg #[bF,rS ((x.natAbs:Int)+y.natAbs) ((sA (env 6))) ((sC (env 6)))],none] (fun _=>[]) (S:=[⟨2,8,fun env=>[bF,rS ((x.natAbs:Int)+y.natAbs) ((sA (env 6))) ((sC (env 6)))]⟩]) (F:=[(6,fun env w=>RowN w0.heap.size w (env 6) (digs ((x.natAbs:Int)+y.natAbs)))]) (s:=⟨fa3 0,ld31 0 sh4,fa3 1,ld31 0 sh50,fa3 1,ld31 1 sh50,cf_ Tryz.func48 (fun v w=>RowN w0.heap.size w v (digs ((x.natAbs:Int)+y.natAbs))) (slF (digs ((x.natAbs:Int)+y.natAbs))) (h:=fun _ env _ wd hA=>⟨_,upR hA.j.st.gr.size (add_abs wd A0 B0 c0 k0 x y (hr.grown hA.j.st.gr) (hr2.grown hA.j.st.gr) hx hy),rfl⟩),bd32,se3 2 sh52⟩) (k:=fun E3 ac wd H_=>?_)
 refine lvC3 (v:=.agg #[.bool false,.slice ((sA (E3 6))) ((digs ((x.natAbs:Int)+y.natAbs)).length) ((sC (E3 6)))]) Tryz.results22 H_ 2 (loadGc sh52 rfl ⟨rfl,rfl,trivial⟩) ?_
 refine ⟨_,rfl,H_.st.below,BigN.mk (decide_eq_false (by omega)).symm ?_ (Facts.rN H_.st.now 0 rfl)⟩
 first | exact congrArg digs (by omega) | (rw [← digs_neg];exact congrArg digs (by omega))
 have h2:y < 0:=of_decide_eq_true hq.symm
 refine fq H_ 2 [[0],[1],[2]] [_,_,_] (fun E1=>[(2,vP (pb E1 0) 0),(3,vP (pb E1 1) 0),(4,vP (pb E1 2) 0)]) (W:=[{ i:=0,T:=52,c0:=[bF,rS x A0 c0] },{ i:=1,T:=52,c0:=[bT,rS y B0 k0] },{ i:=2,T:=52,c0:=[bF,.slice none 0 0] }]) (s:=⟨bx3 0,bx3 1,al_ 2⟩) (k:=fun E1 ac wd H_=>?_)
 refine fq1 H_ 4 [[0],[0,1],[2],[2,3],r_ 5] [_,_,_,_,bF] (fun _=>[(10,bF)]) (s:=⟨fa3 0,ld31 0 sh4,fa3 0,ld31 1 sh4,bi3⟩) (k:=fun E2 ac wd H_=>?_)
 refine cF3 H_ ?_
 by_cases h3:x.natAbs < y.natAbs
 refine fq1 H_ 5 [[0],[0,1],[2],[2,3],r_ 5,r_ 6] [_,_,_,_,_,bT] (fun _=>[(24,bT)]) (s:=⟨fa3 1,ld31 0 sh50,fa3 1,ld31 1 sh50,cw3 Tryz.func37 fun wd hA=>cmp_abs wd A0 B0 c0 k0 x y (hr.grown hA.j.st.gr) (hr2.grown hA.j.st.gr),bi3 (h:=by intro env w;simp [go_sem];unfold cmpZ;split <;> (try split) <;> omega)⟩) (k:=fun E3 ac wd H_=>?_)
 refine cT3 H_ ?_
 refine fq H_ 3 [[0],[1],[0,1,2],r_ 4] [_,_,none,none] (fun _=>[]) (S:=[⟨0,2,fun _=>[bT,rS y B0 k0]⟩,⟨1,3,fun _=>[bF,rS x A0 c0]⟩]) (s:=⟨ld3b 1 sh52,ld3b 0 sh52,se3 0 sh52,se3 1 sh52⟩) (k:=fun E4 ac wd H_=>?_)
 refine fq H_ 5 [[0],[0,1],[2],[2,3],r_ 5,r_ 6] [_,_,_,_,KE_ fun env=>rS ((y.natAbs:Int)-x.natAbs) ((sA (env 4))) ((sC (env 4))),_] (fun E5=>[(5,rS ((y.natAbs:Int)-x.natAbs) ((sA (E5 4))) ((sC (E5 4))))]) (F:=[(4,fun env w=>RowN w0.heap.size w (env 4) (digs ((y.natAbs:Int)-x.natAbs)))]) (s:=⟨fa3 1,ld31 0 sh50,fa3 1,ld31 1 sh50,cf_ Tryz.func49 (fun v w=>RowN w0.heap.size w v (digs ((y.natAbs:Int)-x.natAbs))) (slF (digs ((y.natAbs:Int)-x.natAbs))) (h:=fun _ env _ wd hA=>⟨_,upR hA.j.st.gr.size (sub_abs wd B0 A0 k0 c0 y x (hr2.grown hA.j.st.gr) (hr.grown hA.j.st.gr) (by omega) hy),rfl⟩),mv3⟩) (k:=fun E5 ac wd H_=>?_)
 by_cases h4:x.natAbs=y.natAbs
 refine fq H_ 9 (tri 7++[[7],r_ 9,r_ 10]) [_,_,_,_,vN ((digs ((y.natAbs:Int)-x.natAbs)).length),bF,bF,_,K_ (.agg #[bF,rS ((y.natAbs:Int)-x.natAbs) ((sA (E5 4))) ((sC (E5 4)))]),none] (fun _=>[]) (S:=[⟨2,9,fun _=>[bF,rS ((y.natAbs:Int)-x.natAbs) ((sA (E5 4))) ((sC (E5 4)))]⟩]) (s:=⟨fa3 0,ld31 0 sh4,mv3,gm3,ln_ Tryz.underlying50 fun _ env _ wd hA=>(Facts.rowN (hA.j.st.now).1 0 rfl).els,bi3 (h:=by intro env w;have h5:digs ((y.natAbs:Int)-x.natAbs)=[]:=(congrArg digs (show ((y.natAbs:Int)-x.natAbs)=0 by omega)).trans digs_zero;simp [go_sem,h5]),pk3 (h:=by intro env w;have h5:digs ((y.natAbs:Int)-x.natAbs)=[]:=(congrArg digs (show ((y.natAbs:Int)-x.natAbs)=0 by omega)).trans digs_zero;simp [go_sem,h5]),mv3,bd32,se3 2 sh52⟩) (k:=fun E6 ac wd H_=>?_)
 refine lvC3 (v:=.agg #[.bool false,.slice ((sA (E5 4))) ((digs ((y.natAbs:Int)-x.natAbs)).length) ((sC (E5 4)))]) Tryz.results22 H_ 2 (loadGc sh52 rfl ⟨rfl,rfl,trivial⟩) ?_
 refine ⟨_,rfl,H_.st.below,BigN.mk (decide_eq_false (by omega)).symm ?_ (Facts.rN H_.st.now 0 rfl)⟩
 first | exact congrArg digs (by omega) | (rw [← digs_neg];exact congrArg digs (by omega))
 refine fq H_ 9 (tri 7++[[7],r_ 9,r_ 10]) [_,_,_,_,vN ((digs ((y.natAbs:Int)-x.natAbs)).length),bT,bT,_,K_ (.agg #[bT,rS ((y.natAbs:Int)-x.natAbs) ((sA (E5 4))) ((sC (E5 4)))]),none] (fun _=>[]) (S:=[⟨2,9,fun _=>[bT,rS ((y.natAbs:Int)-x.natAbs) ((sA (E5 4))) ((sC (E5 4)))]⟩]) (s:=⟨fa3 0,ld31 0 sh4,mv3,gm3,ln_ Tryz.underlying50 fun _ env _ wd hA=>(Facts.rowN (hA.j.st.now).1 0 rfl).els,bi3 (h:=by intro env w;have h5:digs ((y.natAbs:Int)-x.natAbs)≠[]:=fun e=>(show ¬ ((y.natAbs:Int)-x.natAbs)=0 by omega) (digs_nil.1 (by rw [e];rfl));first | (simp [go_sem];done) | (simp [go_sem];exact List.length_pos_iff.2 h5)),pk3 (h:=by intro env w;have h5:digs ((y.natAbs:Int)-x.natAbs)≠[]:=fun e=>(show ¬ ((y.natAbs:Int)-x.natAbs)=0 by omega) (digs_nil.1 (by rw [e];rfl));first | (simp [go_sem];done) | (simp [go_sem];exact List.length_pos_iff.2 h5)),mv3,bd32,se3 2 sh52⟩) (k:=fun E6 ac wd H_=>?_)
 refine lvC3 (v:=.agg #[.bool true,.slice ((sA (E5 4))) ((digs ((y.natAbs:Int)-x.natAbs)).length) ((sC (E5 4)))]) Tryz.results22 H_ 2 (loadGc sh52 rfl ⟨rfl,rfl,trivial⟩) ?_
 refine ⟨_,rfl,H_.st.below,BigN.mk (decide_eq_true (by omega)).symm ?_ (Facts.rN H_.st.now 0 rfl)⟩
 first | exact congrArg digs (by omega) | (rw [← digs_neg];exact congrArg digs (by omega))
 refine fq1 H_ 5 [[0],[0,1],[2],[2,3],r_ 5,r_ 6] [_,_,_,_,_,bF] (fun _=>[(24,bF)]) (s:=⟨fa3 1,ld31 0 sh50,fa3 1,ld31 1 sh50,cw3 Tryz.func37 fun wd hA=>cmp_abs wd A0 B0 c0 k0 x y (hr.grown hA.j.st.gr) (hr2.grown hA.j.st.gr),bi3 (h:=by intro env w;simp [go_sem];unfold cmpZ;split <;> (try split) <;> omega)⟩) (k:=fun E3 ac wd H_=>?_)
 refine cF3 H_ ?_
 refine fq H_ 5 [[0],[0,1],[2],[2,3],r_ 5,r_ 6] [_,_,_,_,KE_ fun env=>rS ((x.natAbs:Int)-y.natAbs) ((sA (env 4))) ((sC (env 4))),_] (fun E4=>[(5,rS ((x.natAbs:Int)-y.natAbs) ((sA (E4 4))) ((sC (E4 4))))]) (F:=[(4,fun env w=>RowN w0.heap.size w (env 4) (digs ((x.natAbs:Int)-y.natAbs)))]) (s:=⟨fa3 1,ld31 0 sh50,fa3 1,ld31 1 sh50,cf_ Tryz.func49 (fun v w=>RowN w0.heap.size w v (digs ((x.natAbs:Int)-y.natAbs))) (slF (digs ((x.natAbs:Int)-y.natAbs))) (h:=fun _ env _ wd hA=>⟨_,upR hA.j.st.gr.size (sub_abs wd A0 B0 c0 k0 x y (hr.grown hA.j.st.gr) (hr2.grown hA.j.st.gr) (by omega) hx),rfl⟩),mv3⟩) (k:=fun E4 ac wd H_=>?_)
 refine fq H_ 9 (tri 7++[[7],r_ 9,r_ 10]) [_,_,_,_,_,_,bF,_,K_ (.agg #[bF,rS ((x.natAbs:Int)-y.natAbs) ((sA (E4 4))) ((sC (E4 4)))]),none] (fun _=>[]) (S:=[⟨2,9,fun _=>[bF,rS ((x.natAbs:Int)-y.natAbs) ((sA (E4 4))) ((sC (E4 4)))]⟩]) (s:=⟨fa3 0,ld31 0 sh4,mv3,off_,off_,off_,pk3,mv3,bd32,se3 2 sh52⟩) (k:=fun E5 ac wd H_=>?_)
 refine lvC3 (v:=.agg #[.bool false,.slice ((sA (E4 4))) ((digs ((x.natAbs:Int)-y.natAbs)).length) ((sC (E4 4)))]) Tryz.results22 H_ 2 (loadGc sh52 rfl ⟨rfl,rfl,trivial⟩) ?_
 refine ⟨_,rfl,H_.st.below,BigN.mk (decide_eq_false (by omega)).symm ?_ (Facts.rN H_.st.now 0 rfl)⟩
 first | exact congrArg digs (by omega) | (rw [← digs_neg];exact congrArg digs (by omega))
 have h1:x < 0:=of_decide_eq_true hp.symm
 cases q
 have h2:0≤y:=by have:=of_decide_eq_false hq.symm;omega
 refine fq H_ 2 [[0],[1],[2]] [_,_,_] (fun E1=>[(2,vP (pb E1 0) 0),(3,vP (pb E1 1) 0),(4,vP (pb E1 2) 0)]) (W:=[{ i:=0,T:=52,c0:=[bT,rS x A0 c0] },{ i:=1,T:=52,c0:=[bF,rS y B0 k0] },{ i:=2,T:=52,c0:=[bF,.slice none 0 0] }]) (s:=⟨bx3 0,bx3 1,al_ 2⟩) (k:=fun E1 ac wd H_=>?_)
 refine fq1 H_ 4 [[0],[0,1],[2],[2,3],r_ 5] [_,_,_,_,bF] (fun _=>[(10,bF)]) (s:=⟨fa3 0,ld31 0 sh4,fa3 0,ld31 1 sh4,bi3⟩) (k:=fun E2 ac wd H_=>?_)
 refine cF3 H_ ?_
 by_cases h3:x.natAbs < y.natAbs
 refine fq1 H_ 5 [[0],[0,1],[2],[2,3],r_ 5,r_ 6] [_,_,_,_,_,bT] (fun _=>[(24,bT)]) (s:=⟨fa3 1,ld31 0 sh50,fa3 1,ld31 1 sh50,cw3 Tryz.func37 fun wd hA=>cmp_abs wd A0 B0 c0 k0 x y (hr.grown hA.j.st.gr) (hr2.grown hA.j.st.gr),bi3 (h:=by intro env w;simp [go_sem];unfold cmpZ;split <;> (try split) <;> omega)⟩) (k:=fun E3 ac wd H_=>?_)
 refine cT3 H_ ?_
 refine fq H_ 3 [[0],[1],[0,1,2],r_ 4] [_,_,none,none] (fun _=>[]) (S:=[⟨0,2,fun _=>[bF,rS y B0 k0]⟩,⟨1,3,fun _=>[bT,rS x A0 c0]⟩]) (s:=⟨ld3b 1 sh52,ld3b 0 sh52,se3 0 sh52,se3 1 sh52⟩) (k:=fun E4 ac wd H_=>?_)
 refine fq H_ 5 [[0],[0,1],[2],[2,3],r_ 5,r_ 6] [_,_,_,_,KE_ fun env=>rS ((y.natAbs:Int)-x.natAbs) ((sA (env 4))) ((sC (env 4))),_] (fun E5=>[(5,rS ((y.natAbs:Int)-x.natAbs) ((sA (E5 4))) ((sC (E5 4))))]) (F:=[(4,fun env w=>RowN w0.heap.size w (env 4) (digs ((y.natAbs:Int)-x.natAbs)))]) (s:=⟨fa3 1,ld31 0 sh50,fa3 1,ld31 1 sh50,cf_ Tryz.func49 (fun v w=>RowN w0.heap.size w v (digs ((y.natAbs:Int)-x.natAbs))) (slF (digs ((y.natAbs:Int)-x.natAbs))) (h:=fun _ env _ wd hA=>⟨_,upR hA.j.st.gr.size (sub_abs wd B0 A0 k0 c0 y x (hr2.grown hA.j.st.gr) (hr.grown hA.j.st.gr) (by omega) hy),rfl⟩),mv3⟩) (k:=fun E5 ac wd H_=>?_)
 refine fq H_ 9 (tri 7++[[7],r_ 9,r_ 10]) [_,_,_,_,_,_,bF,_,K_ (.agg #[bF,rS ((y.natAbs:Int)-x.natAbs) ((sA (E5 4))) ((sC (E5 4)))]),none] (fun _=>[]) (S:=[⟨2,9,fun _=>[bF,rS ((y.natAbs:Int)-x.natAbs) ((sA (E5 4))) ((sC (E5 4)))]⟩]) (s:=⟨fa3 0,ld31 0 sh4,mv3,off_,off_,off_,pk3,mv3,bd32,se3 2 sh52⟩) (k:=fun E6 ac wd H_=>?_)
 refine lvC3 (v:=.agg #[.bool false,.slice ((sA (E5 4))) ((digs ((y.natAbs:Int)-x.natAbs)).length) ((sC (E5 4)))]) Tryz.results22 H_ 2 (loadGc sh52 rfl ⟨rfl,rfl,trivial⟩) ?_
 refine ⟨_,rfl,H_.st.below,BigN.mk (decide_eq_false (by omega)).symm ?_ (Facts.rN H_.st.now 0 rfl)⟩
 first | exact congrArg digs (by omega) | (rw [← digs_neg];exact congrArg digs (by omega))
 refine fq1 H_ 5 [[0],[0,1],[2],[2,3],r_ 5,r_ 6] [_,_,_,_,_,bF] (fun _=>[(24,bF)]) (s:=⟨fa3 1,ld31 0 sh50,fa3 1,ld31 1 sh50,cw3 Tryz.func37 fun wd hA=>cmp_abs wd A0 B0 c0 k0 x y (hr.grown hA.j.st.gr) (hr2.grown hA.j.st.gr),bi3 (h:=by intro env w;simp [go_sem];unfold cmpZ;split <;> (try split) <;> omega)⟩) (k:=fun E3 ac wd H_=>?_)
 refine cF3 H_ ?_
 refine fq H_ 5 [[0],[0,1],[2],[2,3],r_ 5,r_ 6] [_,_,_,_,KE_ fun env=>rS ((x.natAbs:Int)-y.natAbs) ((sA (env 4))) ((sC (env 4))),_] (fun E4=>[(5,rS ((x.natAbs:Int)-y.natAbs) ((sA (E4 4))) ((sC (E4 4))))]) (F:=[(4,fun env w=>RowN w0.heap.size w (env 4) (digs ((x.natAbs:Int)-y.natAbs)))]) (s:=⟨fa3 1,ld31 0 sh50,fa3 1,ld31 1 sh50,cf_ Tryz.func49 (fun v w=>RowN w0.heap.size w v (digs ((x.natAbs:Int)-y.natAbs))) (slF (digs ((x.natAbs:Int)-y.natAbs))) (h:=fun _ env _ wd hA=>⟨_,upR hA.j.st.gr.size (sub_abs wd A0 B0 c0 k0 x y (hr.grown hA.j.st.gr) (hr2.grown hA.j.st.gr) (by omega) hx),rfl⟩),mv3⟩) (k:=fun E4 ac wd H_=>?_)
 by_cases h4:x.natAbs=y.natAbs
 refine fq H_ 9 (tri 7++[[7],r_ 9,r_ 10]) [_,_,_,_,vN ((digs ((x.natAbs:Int)-y.natAbs)).length),bF,bF,_,K_ (.agg #[bF,rS ((x.natAbs:Int)-y.natAbs) ((sA (E4 4))) ((sC (E4 4)))]),none] (fun _=>[]) (S:=[⟨2,9,fun _=>[bF,rS ((x.natAbs:Int)-y.natAbs) ((sA (E4 4))) ((sC (E4 4)))]⟩]) (s:=⟨fa3 0,ld31 0 sh4,mv3,gm3,ln_ Tryz.underlying50 fun _ env _ wd hA=>(Facts.rowN (hA.j.st.now).1 0 rfl).els,bi3 (h:=by intro env w;have h5:digs ((x.natAbs:Int)-y.natAbs)=[]:=(congrArg digs (show ((x.natAbs:Int)-y.natAbs)=0 by omega)).trans digs_zero;simp [go_sem,h5]),pk3 (h:=by intro env w;have h5:digs ((x.natAbs:Int)-y.natAbs)=[]:=(congrArg digs (show ((x.natAbs:Int)-y.natAbs)=0 by omega)).trans digs_zero;simp [go_sem,h5]),mv3,bd32,se3 2 sh52⟩) (k:=fun E5 ac wd H_=>?_)
 refine lvC3 (v:=.agg #[.bool false,.slice ((sA (E4 4))) ((digs ((x.natAbs:Int)-y.natAbs)).length) ((sC (E4 4)))]) Tryz.results22 H_ 2 (loadGc sh52 rfl ⟨rfl,rfl,trivial⟩) ?_
 refine ⟨_,rfl,H_.st.below,BigN.mk (decide_eq_false (by omega)).symm ?_ (Facts.rN H_.st.now 0 rfl)⟩
 first | exact congrArg digs (by omega) | (rw [← digs_neg];exact congrArg digs (by omega))
 refine fq H_ 9 (tri 7++[[7],r_ 9,r_ 10]) [_,_,_,_,vN ((digs ((x.natAbs:Int)-y.natAbs)).length),bT,bT,_,K_ (.agg #[bT,rS ((x.natAbs:Int)-y.natAbs) ((sA (E4 4))) ((sC (E4 4)))]),none] (fun _=>[]) (S:=[⟨2,9,fun _=>[bT,rS ((x.natAbs:Int)-y.natAbs) ((sA (E4 4))) ((sC (E4 4)))]⟩]) (s:=⟨fa3 0,ld31 0 sh4,mv3,gm3,ln_ Tryz.underlying50 fun _ env _ wd hA=>(Facts.rowN (hA.j.st.now).1 0 rfl).els,bi3 (h:=by intro env w;have h5:digs ((x.natAbs:Int)-y.natAbs)≠[]:=fun e=>(show ¬ ((x.natAbs:Int)-y.natAbs)=0 by omega) (digs_nil.1 (by rw [e];rfl));first | (simp [go_sem];done) | (simp [go_sem];exact List.length_pos_iff.2 h5)),pk3 (h:=by intro env w;have h5:digs ((x.natAbs:Int)-y.natAbs)≠[]:=fun e=>(show ¬ ((x.natAbs:Int)-y.natAbs)=0 by omega) (digs_nil.1 (by rw [e];rfl));first | (simp [go_sem];done) | (simp [go_sem];exact List.length_pos_iff.2 h5)),mv3,bd32,se3 2 sh52⟩) (k:=fun E5 ac wd H_=>?_)
 refine lvC3 (v:=.agg #[.bool true,.slice ((sA (E4 4))) ((digs ((x.natAbs:Int)-y.natAbs)).length) ((sC (E4 4)))]) Tryz.results22 H_ 2 (loadGc sh52 rfl ⟨rfl,rfl,trivial⟩) ?_
 refine ⟨_,rfl,H_.st.below,BigN.mk (decide_eq_true (by omega)).symm ?_ (Facts.rN H_.st.now 0 rfl)⟩
 first | exact congrArg digs (by omega) | (rw [← digs_neg];exact congrArg digs (by omega))
 have h2:y < 0:=of_decide_eq_true hq.symm
 refine fq H_ 2 [[0],[1],[2]] [_,_,_] (fun E1=>[(2,vP (pb E1 0) 0),(3,vP (pb E1 1) 0),(4,vP (pb E1 2) 0)]) (W:=[{ i:=0,T:=52,c0:=[bT,rS x A0 c0] },{ i:=1,T:=52,c0:=[bT,rS y B0 k0] },{ i:=2,T:=52,c0:=[bF,.slice none 0 0] }]) (s:=⟨bx3 0,bx3 1,al_ 2⟩) (k:=fun E1 ac wd H_=>?_)
 refine fq1 H_ 4 [[0],[0,1],[2],[2,3],r_ 5] [_,_,_,_,bT] (fun _=>[(10,bT)]) (s:=⟨fa3 0,ld31 0 sh4,fa3 0,ld31 1 sh4,bi3⟩) (k:=fun E2 ac wd H_=>?_)
 refine cT3 H_ ?_
 refine fq H_ 8 [[0],[0,1],[2],[2,3],[4],[4,5],[2,3,4,5,6],r_ 8,r_ 9] [_,_,_,_,_,_,KE_ fun env=>rS ((x.natAbs:Int)+y.natAbs) ((sA (env 6))) ((sC (env 6))),KE_ fun env=>.agg #[bT,rS ((x.natAbs:Int)+y.natAbs) ((sA (env 6))) ((sC (env 6)))],none] (fun _=>[]) (S:=[⟨2,8,fun env=>[bT,rS ((x.natAbs:Int)+y.natAbs) ((sA (env 6))) ((sC (env 6)))]⟩]) (F:=[(6,fun env w=>RowN w0.heap.size w (env 6) (digs ((x.natAbs:Int)+y.natAbs)))]) (s:=⟨fa3 0,ld31 0 sh4,fa3 1,ld31 0 sh50,fa3 1,ld31 1 sh50,cf_ Tryz.func48 (fun v w=>RowN w0.heap.size w v (digs ((x.natAbs:Int)+y.natAbs))) (slF (digs ((x.natAbs:Int)+y.natAbs))) (h:=fun _ env _ wd hA=>⟨_,upR hA.j.st.gr.size (add_abs wd A0 B0 c0 k0 x y (hr.grown hA.j.st.gr) (hr2.grown hA.j.st.gr) hx hy),rfl⟩),bd32,se3 2 sh52⟩) (k:=fun E3 ac wd H_=>?_)
 refine lvC3 (v:=.agg #[.bool true,.slice ((sA (E3 6))) ((digs ((x.natAbs:Int)+y.natAbs)).length) ((sC (E3 6)))]) Tryz.results22 H_ 2 (loadGc sh52 rfl ⟨rfl,rfl,trivial⟩) ?_
 refine ⟨_,rfl,H_.st.below,BigN.mk (decide_eq_true (by omega)).symm ?_ (Facts.rN H_.st.now 0 rfl)⟩
 first | exact congrArg digs (by omega) | (rw [← digs_neg];exact congrArg digs (by omega))
theorem Sm.neg {z:Int} (h:Sm z):Sm (-z):=by unfold Sm at *;omega
theorem Sub_any (w0:World) (p:Bool) (A0:Option Addr) (c0:Nat) (x:Int) (hp:p=decide (x < 0)) (hr:Row w0 (.slice A0 (digs x).length c0) (digs x)) (hx:Sm x) (q:Bool) (B0:Option Addr) (k0:Nat) (y:Int) (hq:q=decide (y < 0)) (hr2:Row w0 (.slice B0 (digs y).length k0) (digs y)) (hy:Sm y):Calls Tryz.prog 12 #[.agg #[.bool (p),.slice A0 ((digs x).length) c0],.agg #[.bool (q),.slice B0 ((digs y).length) k0]] w0 fun e w'=>∃ v,e = .returned v∧Below w0.heap.size w0 w'∧BigN w0.heap.size w' v (x-y):=by
  have hst:=St.start w0 (Θ:=fun _=>True) (fun _ _=>trivial)
  refine en_ Tryz.func12 hst 9 [(0,.agg #[.bool (p),.slice A0 ((digs x).length) c0]),(1,.agg #[.bool (q),.slice B0 ((digs y).length) k0])] (fun ac H_=>?_)
  replace H_:=H_.facts
  refine fq H_ 2 [[0],[1],[2]] [_,_,_] (fun E1=>[(2,vP (pb E1 0) 0),(3,vP (pb E1 1) 0),(4,vP (pb E1 2) 0)]) (W:=[{ i:=0,T:=52,c0:=[.bool (p),rS x A0 c0] },{ i:=1,T:=52,c0:=[.bool (q),rS y B0 k0] },{ i:=2,T:=52,c0:=[bF,.slice none 0 0] }]) (s:=⟨bx3 0,bx3 1,al_ 2⟩) (k:=fun E1 ac wd H_=>?_)
  refine fq H_ 4 [[0],[1],[1,2],r_ 4,r_ 5] [_,_,_,_,none] (fun _=>[]) (S:=[⟨2,4,fun env=>[.bool (decide (x + -y < 0)),rS (x + -y) ((bA (env 3))) ((bC (env 3)))]⟩]) (F:=[fB w0 3 (x + -y)]) (s:=⟨ld3b 0 sh52,ld3b 1 sh52,cw3 Tryz.func34 fun wd hA=>Neg_any wd q B0 k0 y hq (hr2.grown hA.j.st.gr),cb3 Tryz.func22 fun wd hA=>Add_any wd p A0 c0 x hp (hr.grown hA.j.st.gr) hx (decide (-y < 0)) B0 k0 (-y) rfl (Row.neg (hr2.grown hA.j.st.gr)) hy.neg,se3 2 sh52⟩) (k:=fun E2 ac wd H_=>?_)
  refine lvC3 (v:=bigF (x + -y) (E2 3)) Tryz.results12 H_ 2 (loadGc sh52 rfl ⟨rfl,rfl,trivial⟩) ?_
  refine ⟨_,rfl,H_.st.below,BigN.mk ?_ ?_ (Facts.bN H_.st.now 0 rfl)⟩
  · rw [Int.sub_eq_add_neg]
  · rw [Int.sub_eq_add_neg]
theorem Int_any (w0:World) (n:Int) (h0:-9223372036854775808≤n) (h1:n < 9223372036854775808):Calls Tryz.prog 15 #[vI n] w0 fun e w'=>∃ v,e = .returned v∧Below w0.heap.size w0 w'∧BigN w0.heap.size w' v (n):=by
 have hst:=St.start w0 (Θ:=fun _=>True) (fun _ _=>trivial)
 refine en_ Tryz.func15 hst 18 [(0,vI n)] (fun ac H_=>?_)
 replace H_:=H_.facts
 refine fq H_ 0 [[0]] [_] (fun E1=>[(2,vP (pb E1 0) 0)]) (W:=[{ i:=0,T:=52,c0:=[bF,.slice none 0 0] }]) (s:=(al_ 0)) (k:=fun E1 ac wd H_=>?_)
 by_cases h2:0≤n
 refine fq1 H_ 1 [[0],[0,1]] [_,bT] (fun _=>[(5,bT)]) (s:=⟨mv3,bi3⟩) (k:=fun E2 ac wd H_=>?_)
 refine cT3 H_ ?_
 refine fq H_ 3 (tri 4) [_,K_ (.int .u64 n),_,none] (fun _=>[]) (S:=[⟨0,3,fun env=>[.bool (decide (n < 0)),rS n ((bA (env 2))) ((bC (env 2)))]⟩]) (F:=[fB w0 2 n]) (s:=⟨mv3,cv3 (h:=by intro env w;simp [go_sem];first | done | exact IntWalk.u64_in _ (by omega) (by omega) | exact IntWalk.u64_in _ (by omega)),cb3 Tryz.func36 fun wd hA=>Word_any wd n (by omega) (by omega),se3 0 sh52⟩) (k:=fun E3 ac wd H_=>?_)
 refine lvC3 (v:=bigF n (E3 2)) Tryz.results15 H_ 0 (loadGc sh52 rfl ⟨rfl,rfl,trivial⟩) ?_
 exact ⟨_,rfl,H_.st.below,BigN.mk rfl rfl (Facts.bN H_.st.now 0 rfl)⟩
 refine fq1 H_ 1 [[0],[0,1]] [_,bF] (fun _=>[(5,bF)]) (s:=⟨mv3,bi3⟩) (k:=fun E2 ac wd H_=>?_)
 refine cF3 H_ ?_
 refine fq H_ 6 (tri 5++[[5],r_ 7]) [_,vI (n+1),vI (-n-1),K_ (.int .u64 (-n-1)),_,_,none] (fun E3=>[(3,vP (pb E3 5) 0)]) (W:=[{ i:=5,T:=52,c0:=[bF,.slice none 0 0],s:=some 6,c1:=fun env=>[.bool (decide (-n-1 < 0)),rS (-n-1) ((bA (env 4))) ((bC (env 4)))] }]) (F:=[fB w0 4 (-n-1)]) (s:=⟨mv3,bi3,un3 (h:=by intro env w;simp [go_sem];rw [show (-(n+1)) = -n-1 by omega];exact IntWalk.i64_in _ (by omega)),cv3 (h:=by intro env w;simp [go_sem];first | done | exact IntWalk.u64_in _ (by omega) (by omega) | exact IntWalk.u64_in _ (by omega)),cb3 Tryz.func36 fun wd hA=>Word_any wd (-n-1) (by omega) (by omega),al_ 1,sw3 1 5 sh52⟩) (k:=fun E3 ac wd H_=>?_)
 refine fq H_ 4 [[0],[1],[0,1,2],r_ 4,r_ 5] [_,_,_,_,none] (fun _=>[]) (S:=[⟨0,4,fun env=>[.bool (decide (-(-n-1+1) < 0)),rS (-(-n-1+1)) ((bA (env 2))) ((bC (env 2)))]⟩]) (F:=[fB w0 1 1,fB w0 2 (-n-1+1)]) (s:=⟨ld3b 1 sh52,cb3 Tryz.func36 fun wd hA=>Word_any wd 1 (by omega) (by omega),cb3e Tryz.func22 fun env wd hA=>Add_any wd (decide (-n-1 < 0)) (bA (E3 4)) (bC (E3 4)) (-n-1) rfl (Facts.bigN (hA.j.st.now).1 0 rfl) (by unfold Sm;omega) (decide (1 < 0)) (bA (env 1)) (bC (env 1)) 1 rfl (At.bigN hA 1 rfl rfl rfl) (by unfold Sm;omega),cw3e Tryz.func34 fun env wd hA=>Neg_any wd _ (bA (env 2)) (bC (env 2)) (-n-1+1) rfl (At.bigN hA 2 rfl rfl rfl),se3 0 sh52⟩) (k:=fun E4 ac wd H_=>?_)
 refine lvC3 (v:=bigF (-(-n-1+1)) (E4 2)) Tryz.results15 H_ 0 (loadGc sh52 rfl ⟨rfl,rfl,trivial⟩) ?_
 exact ⟨_,rfl,H_.st.below,BigN.mk (by rw [show -(-n-1+1)=n by omega]) (by rw [show -(-n-1+1)=n by omega]) (RowN.neg (Facts.bN H_.st.now 2 rfl))⟩
end Go.Proofs.YtailjojebdmnnaaGreat
namespace Go.Proofs.YtailjojebdmnnaaGreat
open Go.RowKit
def One (ex:Option Nat) (w:World) (v:Value) (z:Int):Prop:=∃ b,v = .slice (some ⟨b,0,none⟩) 1 1∧w.heap[b]? = some (.cells #[vi z] 3 (0,0))∧ex≠some b
theorem One.keep {ex:Option Nat} {w w':World} {v:Value} {z:Int} (h:One ex w v z) (hk:Keep ex w w'):One ex w' v z:=by
 obtain ⟨b,rfl,h1,h2⟩:=h
 exact ⟨b,rfl,by rw [hk b _ _ h1 h2];exact h1,h2⟩
theorem One.form {ex:Option Nat} {w:World} {v:Value} {z:Int} (h:One ex w v z):v = .slice (sA v) 1 1:=by
 obtain ⟨b,rfl,_⟩:=h;rfl
theorem One.re {ex:Option Nat} {w:World} {v:Value} {z:Int} (h:One ex w v z):One ex w (.slice (sA v) 1 1) z:=by
 obtain ⟨b,rfl,h1,h2⟩:=h
 exact ⟨b,rfl,h1,h2⟩
section
variable {R:Reg} {Q:Exit→Act→World→Prop} {i:Nat} {o:Oper}
end
end Go.Proofs.YtailjojebdmnnaaGreat
namespace Go.Proofs.YtailjojebdmnnaaGreat
open Go.RowKit
def tp (v:Value) (i:Nat):Value:=match v with
  | .tuple xs=>xs.getD i undef
  | _=>undef
def DivX (w:World) (v:Value) (z1 z2:Int):Prop:=v = .tuple #[tp v 0,tp v 1]∧BigX none w (tp v 0) z1∧BigX none w (tp v 1) z2
def divF (z1 z2:Int) (v:Value):Value:=.tuple #[bigF z1 (tp v 0),bigF z2 (tp v 1)]
theorem DivX.form {w:World} {v:Value} {z1 z2:Int} (h:DivX w v z1 z2):v=divF z1 z2 v:=by
 obtain ⟨h0,h1,h2⟩:=h
 unfold divF
 rw [← h1.form,← h2.form]
 exact h0
theorem DivX.keep {w w':World} {v:Value} {z1 z2:Int} (h:DivX w v z1 z2) (hk:Keep none w w'):DivX w' v z1 z2:=⟨h.1,h.2.1.keep hk,h.2.2.keep hk⟩
end Go.Proofs.YtailjojebdmnnaaGreat
namespace Go.Proofs.YtailjojebdmnnaaGreat
structure DivI (xs qs:List Int) (y r:Int) (k:Nat):Prop where
 l:qs.length=xs.length
 g:Rg qs
 hk:k≤xs.length
 r0:0≤r
 r1:r < y
 s:nat (xs.drop k)=nat (qs.drop k)*y+r
theorem DivI.start (xs:List Int) {y:Int} (hy:0 < y):DivI xs (List.replicate xs.length 0) y 0 xs.length:=by
  refine ⟨by simp,fun d hd=>?_,Nat.le_refl _,by omega,hy,?_⟩
  · rw [List.eq_of_mem_replicate hd];omega
  · rw [List.drop_of_length_le (Nat.le_refl _),List.drop_of_length_le (by simp)];simp [nat]
theorem nat_drop (xs:List Int) {k:Nat} (hk:k < xs.length):nat (xs.drop k)=xs.getD k 0+65536*nat (xs.drop (k+1)):=by
 rw [List.drop_eq_getElem_cons hk,nat,List.getD_eq_getElem?_getD,List.getElem?_eq_getElem hk]
 rfl
theorem div_digit {y r d:Int} (r0:0≤r) (r1:r < y) (d0:0≤d) (d1:d < 65536):0≤d+65536*r∧(d+65536*r) / y≤65535∧0≤(d+65536*r) / y:=by
 refine ⟨by omega,?_,Int.ediv_nonneg (by omega) (by omega)⟩
 have h:(d+65536*r) / y < 65536:=Int.ediv_lt_of_lt_mul (by omega) (by omega)
 omega
theorem DivI.step {xs qs:List Int} {y r:Int} {k:Nat} (h:DivI xs qs y r (k+1)) (hx:Rg xs):DivI xs (qs.set k ((xs.getD k 0+65536*r) / y)) y (xs.getD k 0+65536*r-y*((xs.getD k 0+65536*r) / y)) k:=by
  obtain ⟨hl,hg,hk,h0,h1,hs⟩:=h
  have hd:=hx.getD k
  have hq:=div_digit h0 h1 hd.1 hd.2
  have hm:=Int.emod_nonneg (xs.getD k 0+65536*r) (show y≠0 by omega)
  have hm2:=Int.emod_lt_of_pos (xs.getD k 0+65536*r) (show 0 < y by omega)
  have he:=Int.emod_def (xs.getD k 0+65536*r) y
  refine ⟨by simpa using hl,hg.set _ (by omega),by omega,by omega,by omega,?_⟩
  rw [nat_drop xs (k:=k) (by omega),hs,nat_drop (qs.set k ((xs.getD k 0+65536*r) / y)) (k:=k) (by rw [List.length_set];omega)]
  have e1:(qs.set k ((xs.getD k 0+65536*r) / y)).getD k 0=(xs.getD k 0+65536*r) / y:=by
    rw [List.getD_eq_getElem?_getD,List.getElem?_set_self (by omega)];rfl
  have e2:(qs.set k ((xs.getD k 0+65536*r) / y)).drop (k+1)=qs.drop (k+1):=by
    rw [List.drop_set_of_lt (by omega)]
  rw [e1,e2,Int.add_mul,Int.mul_add,Int.mul_assoc,Int.mul_comm y]
  omega
theorem DivI.done {xs qs:List Int} {y r:Int} (h:DivI xs qs y r 0):nat qs=nat xs / y∧r=nat xs % y:=by
  have hs:=h.s
  rw [List.drop_zero,List.drop_zero] at hs
  have h0:=h.r0
  have h1:=h.r1
  rw [hs]
  constructor
  · rw [Int.add_comm,Int.add_mul_ediv_right _ _ (by omega),Int.ediv_eq_zero_of_lt h0 h1];omega
  · rw [Int.add_comm,Int.add_mul_emod_self_right,Int.emod_eq_of_lt h0 h1]
end Go.Proofs.YtailjojebdmnnaaGreat
