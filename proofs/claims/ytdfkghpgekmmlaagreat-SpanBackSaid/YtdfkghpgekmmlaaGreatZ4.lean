/- Texts E6, L7, M3, L8, P2, E7, L9, L10, P3 of one proof, one behind the other; what nothing here names is left out. -/
import Derived.Test.YtdfkghpgekmmlaaGreatZ3
import Derived.IntWalk
import Derived.ArgAppend
import Derived.Deep.Upon
set_option maxRecDepth 100000
set_option maxHeartbeats 8000000
set_option linter.unusedVariables false
set_option linter.unusedSimpArgs false
namespace Go.Proofs.YtdfkghpgekmmlaaGreat
open Go.RowKit
attribute [local go_sem] vN bT bF rS vW vM vL vT2 vT3 vP vI execOp Act.eval evC hi_zero lo_zero
def RowN (B:Nat) (w:World) (v:Value) (ds:List Int):Prop:=Row w v ds∧∀ b,v.ownBlock=some b→B≤b
theorem OwnR.new {w:World} {B:Nat} {A:Option Addr} {n c:Nat} {ds:List Int} (h:OwnR w B (.slice A n c) ds) (m:Nat):∀ b,(Value.slice A m c).ownBlock=some b→B≤b:=fun b hb=>by
  obtain ⟨_,h2⟩:=h
  rcases h2 with ⟨e,_⟩ | ⟨g,cap,cur,e,hB,_⟩
  · simp only [Value.slice.injEq] at e;obtain ⟨rfl,_⟩:=e;cases hb
  · simp only [Value.slice.injEq] at e;obtain ⟨rfl,_⟩:=e;simp only [Value.ownBlock,Option.some.injEq] at hb;omega
theorem add_core (w0:World) (A0 B0:Option Addr) (c0 k0:Nat) (x y:Int) (hx:0≤x) (hy:0≤y) (hr:Row w0 (.slice A0 (digs x).length c0) (digs x)) (hr2:Row w0 (.slice B0 (digs y).length k0) (digs y)) (N:Nat) (hN:N≤100000) (hNx:(digs x).length≤N) (hNy:(digs y).length≤N):Calls Tryz.prog 82 #[.slice A0 ((digs x).length) c0,.slice B0 ((digs y).length) k0] w0 fun e w'=>∃ v,e = .returned v∧Below w0.heap.size w0 w'∧RowN w0.heap.size w' v (digs (x+y)):=by
 have hst:=St.start w0 (Θ:=fun _=>True) (fun _ _=>trivial)
 refine enter Tryz.func82 rfl (n:=53) rfl (Nat.le_of_ble_eq_true rfl) hst (L:=[(0,.slice A0 ((digs x).length) c0),(1,.slice B0 ((digs y).length) k0)]) (lk_args rfl) (fun ac h=>?_)
 refine wp_seq ?_
 refine rg_ h [[0]] [K_ (.slice none 0 0)] (fun E1=>[(0,rS x A0 c0),(1,rS y B0 k0),(4,.slice none 0 0)]) (hs:=c_ mv_<|e_) (k:=fun E1 ac wd h_1=>?_)
 clear h
 refine then_n (wp_seq ?_)
 refine rg_ h_1 [[0]] [K_ (.slice none 0 0)] (fun E2=>[(0,rS x A0 c0),(1,rS y B0 k0),(4,.slice none 0 0),(5,.slice none 0 0)]) (hs:=c_ mv_<|e_) (k:=fun E2 ac wd h_2=>?_)
 clear h_1
 refine then_n (wp_seq ?_)
 refine rg_ h_2 [[0]] [K_ (vI 0)] (fun E3=>[(0,rS x A0 c0),(1,rS y B0 k0),(4,.slice none 0 0),(5,.slice none 0 0),(6,vI 0)]) (hs:=c_ mv_<|e_) (k:=fun E3 ac wd h_3=>?_)
 clear h_2
 refine then_n (wp_seq (wp_seq ?_))
 refine rg_ h_3 [[0]] [K_ (vI 0)] (fun E4=>[(0,rS x A0 c0),(1,rS y B0 k0),(4,.slice none 0 0),(5,.slice none 0 0),(6,vI 0),(7,vI 0)]) (hs:=c_ mv_<|e_) (k:=fun E4 ac wd h_4=>?_)
 clear h_3
 refine then_n (wp_block ?_)
 refine wp_loop (fun ac wd=>∃ (A:Option Addr) (cp:Nat) (ds:List Int) (i:Nat) (cy:Int),(AddI (digs x) (digs y) ds i cy∧i≤N+1∧(i=N+1→cy=0))∧Cur 53 w0 none none (fun _=>True) (fun w=>OwnR w w0.heap.size (.slice A ds.length cp) ds) [(0,rS x A0 c0),(1,rS y B0 k0),(4,.slice none 0 0),(5,.slice A ds.length cp),(6,vI cy),(7,vN i)] [] ac wd) (fun ac _=>((N:Int)+2-sI ac 7).toNat) ⟨none,0,[],0,0,⟨AddI.start _ _,by omega,fun _=>rfl⟩,(h_4.re rfl).th (fun w _=>OwnR.nil w _)⟩ ?_
 rintro ac wd ⟨A,cp,ds,i,cy,⟨hI,hiN,hcz⟩,h_5⟩
 clear h_4
 have hmu:sI ac 7=((i:Nat):Int):=sI_eq (h_5.g (t:=7) rfl)
 have hil:=hI.l
 have hc0:=hI.h0
 have hc1:=hI.h1
 refine wp_seq (wp_seq ?_)
 by_cases h1:i < (digs x).length
 refine rg_ h_5 [[0],[1],[1,2],r_ 4,r_ 5,r_ 6,[0,1,2,3,4,6],[0,1,2,3,4,6,7],r_ 9,r_ 10,r_ 11,r_ 12,r_ 13,r_ 14] [K_ (vN i),K_ (rS x A0 c0),K_ (vN ((digs x).length)),K_ bT,K_ bT,K_ undef,K_ undef,K_ undef,K_ undef,K_ bT,K_ bT,K_ undef,K_ undef,K_ bT] (fun E6=>[(0,rS x A0 c0),(1,rS y B0 k0),(4,.slice none 0 0),(5,.slice A ds.length cp),(6,vI cy),(7,vN i),(8,vN i),(9,rS x A0 c0),(10,vN ((digs x).length)),(11,bT),(12,bT),(13,undef),(14,undef),(15,undef),(16,undef),(17,bT),(18,bT),(19,undef),(20,undef),(21,bT)]) (hs:=c_ mv_<|c_ mv_<|c_ (ln_ Tryz.underlying37 fun _ env _ wd hA=>(hr.grown hA.j.st.gr).els)<|c_ (bi0 (vN i) (vN ((digs x).length)) (h:=by intro env w;(first | (simp [go_sem];done) | (simp [go_sem];omega) | (have gx:=(rg_digs x).getD i;have gy:=(rg_digs y).getD i;have hi64:=hil;simp only [List.getD_eq_getElem?_getD] at gx gy;simp [go_sem];omega))))<|c_ mv_<|c_ off_<|c_ off_<|c_ off_<|c_ off_<|c_ (pk0 bT bT undef)<|c_ mv_<|c_ off_<|c_ off_<|c_ (pk0 bT bT undef)<|e_) (k:=fun E6 ac wd h_6=>?_)
 clear h_5
 refine then_n ?_
 refine wp_cond_true (eval_tmp (h_6.g (t:=21) rfl)) ?_
 refine wp_skip (then_n (wp_seq (wp_block (wp_seq (wp_seq ?_)))))
 refine rg_ h_6 [[0],[1],[1,2],r_ 4] [K_ (vN i),K_ (rS x A0 c0),K_ (vN ((digs x).length)),K_ bT] (fun E7=>[(0,rS x A0 c0),(1,rS y B0 k0),(4,.slice none 0 0),(5,.slice A ds.length cp),(6,vI cy),(7,vN i),(8,vN i),(9,rS x A0 c0),(10,vN ((digs x).length)),(11,bT),(12,bT),(13,undef),(14,undef),(15,undef),(16,undef),(17,bT),(18,bT),(19,undef),(20,undef),(21,bT),(24,vN i),(25,rS x A0 c0),(26,vN ((digs x).length)),(27,bT)]) (hs:=c_ mv_<|c_ mv_<|c_ (ln_ Tryz.underlying37 fun _ env _ wd hA=>(hr.grown hA.j.st.gr).els)<|c_ (bi0 (vN i) (vN ((digs x).length)) (h:=by intro env w;(first | (simp [go_sem];done) | (simp [go_sem];omega) | (have gx:=(rg_digs x).getD i;have gy:=(rg_digs y).getD i;have hi64:=hil;simp only [List.getD_eq_getElem?_getD] at gx gy;simp [go_sem];omega))))<|e_) (k:=fun E7 ac wd h_7=>?_)
 clear h_6
 refine then_n ?_
 refine wp_cond_true (eval_tmp (h_7.g (t:=27) rfl)) ?_
 refine rg_ h_7 [[0],[1],[2],[1,2,3],[1,2,3,4],r_ 6,r_ 7] [K_ (vI cy),K_ (rS x A0 c0),K_ (vN i),K_ (elt (rS x A0 c0) i),K_ (vI (((digs x)).getD i 0)),K_ (vI (cy+(((digs x)).getD i 0))),K_ (vI (cy+(((digs x)).getD i 0)))] (fun E8=>[(0,rS x A0 c0),(1,rS y B0 k0),(4,.slice none 0 0),(5,.slice A ds.length cp),(6,vI (cy+(((digs x)).getD i 0))),(7,vN i),(8,vN i),(9,rS x A0 c0),(10,vN ((digs x).length)),(11,bT),(12,bT),(13,undef),(14,undef),(15,undef),(16,undef),(17,bT),(18,bT),(19,undef),(20,undef),(21,bT),(24,vN i),(25,rS x A0 c0),(26,vN ((digs x).length)),(27,bT),(28,vI cy),(29,rS x A0 c0),(30,vN i),(31,elt (rS x A0 c0) i),(32,vI (((digs x)).getD i 0)),(33,vI (cy+(((digs x)).getD i 0)))]) (hs:=c_ mv_<|c_ mv_<|c_ mv_<|c_ (ia_ Tryz.underlying37 sz3 i i ((i:Nat):Int) (fun _ env _ wd hA=>(hr.grown hA.j.st.gr).els) (rfl) (by omega) (Nat.mul_one _))<|c_ (le_ i (fun _ env _ wd hA=>(hr.grown hA.j.st.gr).els) (by omega) (le3 rfl))<|c_ (bi0 (vI cy) (vI (((digs x)).getD i 0)) (h:=by intro env w;(first | (simp [go_sem];done) | (have gx:=(rg_digs x).getD i;have gy:=(rg_digs y).getD i;have hi64:=hil;simp only [List.getD_eq_getElem?_getD] at gx gy;simp [go_sem];exact IntWalk.i64_in _ (by omega)))))<|c_ mv_<|e_) (k:=fun E8 ac wd h_8=>?_)
 clear h_7
 refine then_n (wp_seq (wp_seq ?_))
 by_cases h2:i < (digs y).length
 refine rg_ h_8 [[0],[1],[1,2],r_ 4] [K_ (vN i),K_ (rS y B0 k0),K_ (vN ((digs y).length)),K_ bT] (fun E9=>[(0,rS x A0 c0),(1,rS y B0 k0),(4,.slice none 0 0),(5,.slice A ds.length cp),(6,vI (cy+(((digs x)).getD i 0))),(7,vN i),(8,vN i),(9,rS x A0 c0),(10,vN ((digs x).length)),(11,bT),(12,bT),(13,undef),(14,undef),(15,undef),(16,undef),(17,bT),(18,bT),(19,undef),(20,undef),(21,bT),(24,vN i),(25,rS x A0 c0),(26,vN ((digs x).length)),(27,bT),(28,vI cy),(29,rS x A0 c0),(30,vN i),(31,elt (rS x A0 c0) i),(32,vI (((digs x)).getD i 0)),(33,vI (cy+(((digs x)).getD i 0))),(34,vN i),(35,rS y B0 k0),(36,vN ((digs y).length)),(37,bT)]) (hs:=c_ mv_<|c_ mv_<|c_ (ln_ Tryz.underlying37 fun _ env _ wd hA=>(hr2.grown hA.j.st.gr).els)<|c_ (bi0 (vN i) (vN ((digs y).length)) (h:=by intro env w;(first | (simp [go_sem];done) | (simp [go_sem];omega) | (have gx:=(rg_digs x).getD i;have gy:=(rg_digs y).getD i;have hi64:=hil;simp only [List.getD_eq_getElem?_getD] at gx gy;simp [go_sem];omega))))<|e_) (k:=fun E9 ac wd h_9=>?_)
 clear h_8
 refine then_n ?_
 refine wp_cond_true (eval_tmp (h_9.g (t:=37) rfl)) ?_
 refine rg_ h_9 [[0],[1],[2],[1,2,3],[1,2,3,4],r_ 6,r_ 7] [K_ (vI (cy+(((digs x)).getD i 0))),K_ (rS y B0 k0),K_ (vN i),K_ (elt (rS y B0 k0) i),K_ (vI (((digs y)).getD i 0)),K_ (vI ((cy+(((digs x)).getD i 0))+(((digs y)).getD i 0))),K_ (vI ((cy+(((digs x)).getD i 0))+(((digs y)).getD i 0)))] (fun E10=>[(0,rS x A0 c0),(1,rS y B0 k0),(4,.slice none 0 0),(5,.slice A ds.length cp),(6,vI ((cy+(((digs x)).getD i 0))+(((digs y)).getD i 0))),(7,vN i),(8,vN i),(9,rS x A0 c0),(10,vN ((digs x).length)),(11,bT),(12,bT),(13,undef),(14,undef),(15,undef),(16,undef),(17,bT),(18,bT),(19,undef),(20,undef),(21,bT),(24,vN i),(25,rS x A0 c0),(26,vN ((digs x).length)),(27,bT),(28,vI cy),(29,rS x A0 c0),(30,vN i),(31,elt (rS x A0 c0) i),(32,vI (((digs x)).getD i 0)),(33,vI (cy+(((digs x)).getD i 0))),(34,vN i),(35,rS y B0 k0),(36,vN ((digs y).length)),(37,bT),(38,vI (cy+(((digs x)).getD i 0))),(39,rS y B0 k0),(40,vN i),(41,elt (rS y B0 k0) i),(42,vI (((digs y)).getD i 0)),(43,vI ((cy+(((digs x)).getD i 0))+(((digs y)).getD i 0)))]) (hs:=c_ mv_<|c_ mv_<|c_ mv_<|c_ (ia_ Tryz.underlying37 sz3 i i ((i:Nat):Int) (fun _ env _ wd hA=>(hr2.grown hA.j.st.gr).els) (rfl) (by omega) (Nat.mul_one _))<|c_ (le_ i (fun _ env _ wd hA=>(hr2.grown hA.j.st.gr).els) (by omega) (le3 rfl))<|c_ (bi0 (vI (cy+(((digs x)).getD i 0))) (vI (((digs y)).getD i 0)) (h:=by intro env w;(first | (simp [go_sem];done) | (have gx:=(rg_digs x).getD i;have gy:=(rg_digs y).getD i;have hi64:=hil;simp only [List.getD_eq_getElem?_getD] at gx gy;simp [go_sem];exact IntWalk.i64_in _ (by omega)))))<|c_ mv_<|e_) (k:=fun E10 ac wd h_10=>?_)
 clear h_9
 refine then_n (wp_seq ?_)
 refine rg_ h_10 [[0],[1],[1,2],[1,2,3],r_ 5,r_ 6] [K_ (.slice A ds.length cp),K_ (vI ((cy+(((digs x)).getD i 0))+(((digs y)).getD i 0))),K_ (vI (((cy+(((digs x)).getD i 0))+(((digs y)).getD i 0)) % 65536)),KE_ fun env=>.slice (some ⟨(pb env 3),0,none⟩) 1 1,KE_ fun env=>(env 4),KE_ fun env=>(env 4)] (fun E11=>[(0,rS x A0 c0),(1,rS y B0 k0),(4,.slice none 0 0),(5,(E11 4)),(6,vI ((cy+(((digs x)).getD i 0))+(((digs y)).getD i 0))),(7,vN i),(8,vN i),(9,rS x A0 c0),(10,vN ((digs x).length)),(11,bT),(12,bT),(13,undef),(14,undef),(15,undef),(16,undef),(17,bT),(18,bT),(19,undef),(20,undef),(21,bT),(24,vN i),(25,rS x A0 c0),(26,vN ((digs x).length)),(27,bT),(28,vI cy),(29,rS x A0 c0),(30,vN i),(31,elt (rS x A0 c0) i),(32,vI (((digs x)).getD i 0)),(33,vI (cy+(((digs x)).getD i 0))),(34,vN i),(35,rS y B0 k0),(36,vN ((digs y).length)),(37,bT),(38,vI (cy+(((digs x)).getD i 0))),(39,rS y B0 k0),(40,vN i),(41,elt (rS y B0 k0) i),(42,vI (((digs y)).getD i 0)),(43,vI ((cy+(((digs x)).getD i 0))+(((digs y)).getD i 0))),(44,.slice A ds.length cp),(45,vI ((cy+(((digs x)).getD i 0))+(((digs y)).getD i 0))),(46,vI (((cy+(((digs x)).getD i 0))+(((digs y)).getD i 0)) % 65536)),(47,.slice (some ⟨(pb E11 3),0,none⟩) 1 1),(48,(E11 4))]) (W:=[{ i:=3,T:=3,c0:=[vI (((cy+(((digs x)).getD i 0))+(((digs y)).getD i 0)) % 65536)] }]) (th:=(some (4,fun env w=>OwnR w w0.heap.size (env 4) (ds ++ [((cy+(((digs x)).getD i 0))+(((digs y)).getD i 0)) % 65536])))) (T:=fun E11=>fun w=>OwnR w w0.heap.size (E11 4) (ds ++ [((cy+(((digs x)).getD i 0))+(((digs y)).getD i 0)) % 65536])) (M':=fun E11=>[((pb E11 3),3,[vI (((cy+(((digs x)).getD i 0))+(((digs y)).getD i 0)) % 65536)])]) (hs:=c_ mv_<|c_ mv_<|c_ (bi0 (vI ((cy+(((digs x)).getD i 0))+(((digs y)).getD i 0))) (vI 65536) (h:=by intro env w;(first | (simp [go_sem];done) | (have gx:=(rg_digs x).getD i;have gy:=(rg_digs y).getD i;have hi64:=hil;simp only [List.getD_eq_getElem?_getD] at gx gy;simp [go_sem];rw [Int.tmod_eq_emod_of_nonneg (by omega)];exact IntWalk.i64_in _ (by omega)) | (have gx:=(rg_digs x).getD i;have gy:=(rg_digs y).getD i;have hi64:=hil;simp only [List.getD_eq_getElem?_getD] at gx gy;simp [go_sem];rw [Int.tmod_eq_emod_of_nonneg (by omega)]))))<|c_ (s_bsM rfl rfl 0 rfl rfl 1 rfl (fun {D env ac wd} hA=>by have e46:ac.tmps[46]? = some (vI (((cy+(((digs x)).getD i 0))+(((digs y)).getD i 0)) % 65536)):=hA.g rfl;simp [go_sem,e46,Tryz.underlying37]))<|c_ (s_app rfl rfl rfl rfl rfl rfl (fun _=>trivial) rfl (fun _ h=>h) (((cy+(((digs x)).getD i 0))+(((digs y)).getD i 0)) % 65536) rfl (by omega) 3 0 rfl rfl rfl rfl rfl (fun _=>rfl) (fun hA=>hA.e rfl))<|c_ mv_<|e_) (k:=fun E11 ac wd h_11=>?_)
 clear h_10
 refine then_n ?_
 refine rg_ h_11 (tri 3) [K_ (vI ((cy+(((digs x)).getD i 0))+(((digs y)).getD i 0))),K_ (vI (((cy+(((digs x)).getD i 0))+(((digs y)).getD i 0)) / 65536)),K_ (vI (((cy+(((digs x)).getD i 0))+(((digs y)).getD i 0)) / 65536))] (fun E12=>[(0,rS x A0 c0),(1,rS y B0 k0),(4,.slice none 0 0),(5,(E11 4)),(6,vI (((cy+(((digs x)).getD i 0))+(((digs y)).getD i 0)) / 65536)),(7,vN i),(8,vN i),(9,rS x A0 c0),(10,vN ((digs x).length)),(11,bT),(12,bT),(13,undef),(14,undef),(15,undef),(16,undef),(17,bT),(18,bT),(19,undef),(20,undef),(21,bT),(24,vN i),(25,rS x A0 c0),(26,vN ((digs x).length)),(27,bT),(28,vI cy),(29,rS x A0 c0),(30,vN i),(31,elt (rS x A0 c0) i),(32,vI (((digs x)).getD i 0)),(33,vI (cy+(((digs x)).getD i 0))),(34,vN i),(35,rS y B0 k0),(36,vN ((digs y).length)),(37,bT),(38,vI (cy+(((digs x)).getD i 0))),(39,rS y B0 k0),(40,vN i),(41,elt (rS y B0 k0) i),(42,vI (((digs y)).getD i 0)),(43,vI ((cy+(((digs x)).getD i 0))+(((digs y)).getD i 0))),(44,.slice A ds.length cp),(45,vI ((cy+(((digs x)).getD i 0))+(((digs y)).getD i 0))),(46,vI (((cy+(((digs x)).getD i 0))+(((digs y)).getD i 0)) % 65536)),(47,.slice (some ⟨(pb E11 3),0,none⟩) 1 1),(48,(E11 4)),(49,vI ((cy+(((digs x)).getD i 0))+(((digs y)).getD i 0))),(50,vI (((cy+(((digs x)).getD i 0))+(((digs y)).getD i 0)) / 65536))]) (hs:=c_ mv_<|c_ (bi0 (vI ((cy+(((digs x)).getD i 0))+(((digs y)).getD i 0))) (vI 65536) (h:=by intro env w;(first | (simp [go_sem];done) | (have gx:=(rg_digs x).getD i;have gy:=(rg_digs y).getD i;have hi64:=hil;simp only [List.getD_eq_getElem?_getD] at gx gy;simp [go_sem];rw [Int.tdiv_eq_ediv_of_nonneg (by omega)];exact IntWalk.i64_in _ (by omega)) | (have gx:=(rg_digs x).getD i;have gy:=(rg_digs y).getD i;have hi64:=hil;simp only [List.getD_eq_getElem?_getD] at gx gy;simp [go_sem];rw [Int.tdiv_eq_ediv_of_nonneg (by omega)]))))<|c_ mv_<|e_) (k:=fun E12 ac wd h_12=>?_)
 clear h_11
 refine blk_n (then_n ?_)
 refine rg_ h_12 (tri 3) [K_ (vN i),K_ (vI (((i:Nat):Int)+1)),K_ (vI (((i:Nat):Int)+1))] (fun E13=>[(0,rS x A0 c0),(1,rS y B0 k0),(4,.slice none 0 0),(5,(E11 4)),(6,vI (((cy+(((digs x)).getD i 0))+(((digs y)).getD i 0)) / 65536)),(7,vI (((i:Nat):Int)+1)),(8,vN i),(9,rS x A0 c0),(10,vN ((digs x).length)),(11,bT),(12,bT),(13,undef),(14,undef),(15,undef),(16,undef),(17,bT),(18,bT),(19,undef),(20,undef),(21,bT),(22,vN i),(23,vI (((i:Nat):Int)+1)),(24,vN i),(25,rS x A0 c0),(26,vN ((digs x).length)),(27,bT),(28,vI cy),(29,rS x A0 c0),(30,vN i),(31,elt (rS x A0 c0) i),(32,vI (((digs x)).getD i 0)),(33,vI (cy+(((digs x)).getD i 0))),(34,vN i),(35,rS y B0 k0),(36,vN ((digs y).length)),(37,bT),(38,vI (cy+(((digs x)).getD i 0))),(39,rS y B0 k0),(40,vN i),(41,elt (rS y B0 k0) i),(42,vI (((digs y)).getD i 0)),(43,vI ((cy+(((digs x)).getD i 0))+(((digs y)).getD i 0))),(44,.slice A ds.length cp),(45,vI ((cy+(((digs x)).getD i 0))+(((digs y)).getD i 0))),(46,vI (((cy+(((digs x)).getD i 0))+(((digs y)).getD i 0)) % 65536)),(47,.slice (some ⟨(pb E11 3),0,none⟩) 1 1),(48,(E11 4)),(49,vI ((cy+(((digs x)).getD i 0))+(((digs y)).getD i 0))),(50,vI (((cy+(((digs x)).getD i 0))+(((digs y)).getD i 0)) / 65536))]) (hs:=c_ mv_<|c_ (bi0 (vN i) (vI 1) (h:=by intro env w;(first | (simp [go_sem];done) | (have gx:=(rg_digs x).getD i;have gy:=(rg_digs y).getD i;have hi64:=hil;simp only [List.getD_eq_getElem?_getD] at gx gy;simp [go_sem];exact IntWalk.i64_in _ (by omega)))))<|c_ mv_<|e_) (k:=fun E13 ac wd h_13=>?_)
 clear h_12
 refine then_n ?_
 have eC:cy+(digs x).getD i 0+(digs y).getD i 0=cy+(digs x).getD i 0+(digs y).getD i 0:=by skip;omega
 obtain ⟨A2,c2,e2⟩:=OwnR.form h_13.st.nowT
 rw [e2] at h_13
 have hS:=hI.step (rg_digs x) (rg_digs y) eC
 have hz:cy+(digs x).getD i 0+(digs y).getD i 0 / 65536=0∨i+1≤N:=by omega
 exact ⟨⟨A2,c2,ds ++ [(cy+(digs x).getD i 0+(digs y).getD i 0) % 65536],i+1,(cy+(digs x).getD i 0+(digs y).getD i 0) / 65536,⟨hS,by omega,fun h=>by omega⟩,(h_13.take (M1:=[]) rfl).re rfl⟩,by rw [sI_eq (h_13.g (t:=7) rfl),hmu];omega⟩
 refine rg_ h_8 [[0],[1],[1,2],r_ 4] [K_ (vN i),K_ (rS y B0 k0),K_ (vN ((digs y).length)),K_ bF] (fun E9=>[(0,rS x A0 c0),(1,rS y B0 k0),(4,.slice none 0 0),(5,.slice A ds.length cp),(6,vI (cy+(((digs x)).getD i 0))),(7,vN i),(8,vN i),(9,rS x A0 c0),(10,vN ((digs x).length)),(11,bT),(12,bT),(13,undef),(14,undef),(15,undef),(16,undef),(17,bT),(18,bT),(19,undef),(20,undef),(21,bT),(24,vN i),(25,rS x A0 c0),(26,vN ((digs x).length)),(27,bT),(28,vI cy),(29,rS x A0 c0),(30,vN i),(31,elt (rS x A0 c0) i),(32,vI (((digs x)).getD i 0)),(33,vI (cy+(((digs x)).getD i 0))),(34,vN i),(35,rS y B0 k0),(36,vN ((digs y).length)),(37,bF)]) (hs:=c_ mv_<|c_ mv_<|c_ (ln_ Tryz.underlying37 fun _ env _ wd hA=>(hr2.grown hA.j.st.gr).els)<|c_ (bi0 (vN i) (vN ((digs y).length)) (h:=by intro env w;(first | (simp [go_sem];done) | (simp [go_sem];omega) | (have gx:=(rg_digs x).getD i;have gy:=(rg_digs y).getD i;have hi64:=hil;simp only [List.getD_eq_getElem?_getD] at gx gy;simp [go_sem];omega))))<|e_) (k:=fun E9 ac wd h_9=>?_)
 clear h_8
 refine then_n ?_
 refine wp_cond_false (eval_tmp (h_9.g (t:=37) rfl)) ?_
 refine wp_skip (then_n (wp_seq ?_))
 refine rg_ h_9 [[0],[1],[1,2],[1,2,3],r_ 5,r_ 6] [K_ (.slice A ds.length cp),K_ (vI (cy+(((digs x)).getD i 0))),K_ (vI ((cy+(((digs x)).getD i 0)) % 65536)),KE_ fun env=>.slice (some ⟨(pb env 3),0,none⟩) 1 1,KE_ fun env=>(env 4),KE_ fun env=>(env 4)] (fun E10=>[(0,rS x A0 c0),(1,rS y B0 k0),(4,.slice none 0 0),(5,(E10 4)),(6,vI (cy+(((digs x)).getD i 0))),(7,vN i),(8,vN i),(9,rS x A0 c0),(10,vN ((digs x).length)),(11,bT),(12,bT),(13,undef),(14,undef),(15,undef),(16,undef),(17,bT),(18,bT),(19,undef),(20,undef),(21,bT),(24,vN i),(25,rS x A0 c0),(26,vN ((digs x).length)),(27,bT),(28,vI cy),(29,rS x A0 c0),(30,vN i),(31,elt (rS x A0 c0) i),(32,vI (((digs x)).getD i 0)),(33,vI (cy+(((digs x)).getD i 0))),(34,vN i),(35,rS y B0 k0),(36,vN ((digs y).length)),(37,bF),(44,.slice A ds.length cp),(45,vI (cy+(((digs x)).getD i 0))),(46,vI ((cy+(((digs x)).getD i 0)) % 65536)),(47,.slice (some ⟨(pb E10 3),0,none⟩) 1 1),(48,(E10 4))]) (W:=[{ i:=3,T:=3,c0:=[vI ((cy+(((digs x)).getD i 0)) % 65536)] }]) (th:=(some (4,fun env w=>OwnR w w0.heap.size (env 4) (ds ++ [(cy+(((digs x)).getD i 0)) % 65536])))) (T:=fun E10=>fun w=>OwnR w w0.heap.size (E10 4) (ds ++ [(cy+(((digs x)).getD i 0)) % 65536])) (M':=fun E10=>[((pb E10 3),3,[vI ((cy+(((digs x)).getD i 0)) % 65536)])]) (hs:=c_ mv_<|c_ mv_<|c_ (bi0 (vI (cy+(((digs x)).getD i 0))) (vI 65536) (h:=by intro env w;(first | (simp [go_sem];done) | (have gx:=(rg_digs x).getD i;have gy:=(rg_digs y).getD i;have hi64:=hil;simp only [List.getD_eq_getElem?_getD] at gx gy;simp [go_sem];rw [Int.tmod_eq_emod_of_nonneg (by omega)];exact IntWalk.i64_in _ (by omega)) | (have gx:=(rg_digs x).getD i;have gy:=(rg_digs y).getD i;have hi64:=hil;simp only [List.getD_eq_getElem?_getD] at gx gy;simp [go_sem];rw [Int.tmod_eq_emod_of_nonneg (by omega)]))))<|c_ (s_bsM rfl rfl 0 rfl rfl 1 rfl (fun {D env ac wd} hA=>by have e46:ac.tmps[46]? = some (vI ((cy+(((digs x)).getD i 0)) % 65536)):=hA.g rfl;simp [go_sem,e46,Tryz.underlying37]))<|c_ (s_app rfl rfl rfl rfl rfl rfl (fun _=>trivial) rfl (fun _ h=>h) ((cy+(((digs x)).getD i 0)) % 65536) rfl (by omega) 3 0 rfl rfl rfl rfl rfl (fun _=>rfl) (fun hA=>hA.e rfl))<|c_ mv_<|e_) (k:=fun E10 ac wd h_10=>?_)
 clear h_9
 refine then_n ?_
 refine rg_ h_10 (tri 3) [K_ (vI (cy+(((digs x)).getD i 0))),K_ (vI ((cy+(((digs x)).getD i 0)) / 65536)),K_ (vI ((cy+(((digs x)).getD i 0)) / 65536))] (fun E11=>[(0,rS x A0 c0),(1,rS y B0 k0),(4,.slice none 0 0),(5,(E10 4)),(6,vI ((cy+(((digs x)).getD i 0)) / 65536)),(7,vN i),(8,vN i),(9,rS x A0 c0),(10,vN ((digs x).length)),(11,bT),(12,bT),(13,undef),(14,undef),(15,undef),(16,undef),(17,bT),(18,bT),(19,undef),(20,undef),(21,bT),(24,vN i),(25,rS x A0 c0),(26,vN ((digs x).length)),(27,bT),(28,vI cy),(29,rS x A0 c0),(30,vN i),(31,elt (rS x A0 c0) i),(32,vI (((digs x)).getD i 0)),(33,vI (cy+(((digs x)).getD i 0))),(34,vN i),(35,rS y B0 k0),(36,vN ((digs y).length)),(37,bF),(44,.slice A ds.length cp),(45,vI (cy+(((digs x)).getD i 0))),(46,vI ((cy+(((digs x)).getD i 0)) % 65536)),(47,.slice (some ⟨(pb E10 3),0,none⟩) 1 1),(48,(E10 4)),(49,vI (cy+(((digs x)).getD i 0))),(50,vI ((cy+(((digs x)).getD i 0)) / 65536))]) (hs:=c_ mv_<|c_ (bi0 (vI (cy+(((digs x)).getD i 0))) (vI 65536) (h:=by intro env w;(first | (simp [go_sem];done) | (have gx:=(rg_digs x).getD i;have gy:=(rg_digs y).getD i;have hi64:=hil;simp only [List.getD_eq_getElem?_getD] at gx gy;simp [go_sem];rw [Int.tdiv_eq_ediv_of_nonneg (by omega)];exact IntWalk.i64_in _ (by omega)) | (have gx:=(rg_digs x).getD i;have gy:=(rg_digs y).getD i;have hi64:=hil;simp only [List.getD_eq_getElem?_getD] at gx gy;simp [go_sem];rw [Int.tdiv_eq_ediv_of_nonneg (by omega)]))))<|c_ mv_<|e_) (k:=fun E11 ac wd h_11=>?_)
 clear h_10
 refine blk_n (then_n ?_)
 refine rg_ h_11 (tri 3) [K_ (vN i),K_ (vI (((i:Nat):Int)+1)),K_ (vI (((i:Nat):Int)+1))] (fun E12=>[(0,rS x A0 c0),(1,rS y B0 k0),(4,.slice none 0 0),(5,(E10 4)),(6,vI ((cy+(((digs x)).getD i 0)) / 65536)),(7,vI (((i:Nat):Int)+1)),(8,vN i),(9,rS x A0 c0),(10,vN ((digs x).length)),(11,bT),(12,bT),(13,undef),(14,undef),(15,undef),(16,undef),(17,bT),(18,bT),(19,undef),(20,undef),(21,bT),(22,vN i),(23,vI (((i:Nat):Int)+1)),(24,vN i),(25,rS x A0 c0),(26,vN ((digs x).length)),(27,bT),(28,vI cy),(29,rS x A0 c0),(30,vN i),(31,elt (rS x A0 c0) i),(32,vI (((digs x)).getD i 0)),(33,vI (cy+(((digs x)).getD i 0))),(34,vN i),(35,rS y B0 k0),(36,vN ((digs y).length)),(37,bF),(44,.slice A ds.length cp),(45,vI (cy+(((digs x)).getD i 0))),(46,vI ((cy+(((digs x)).getD i 0)) % 65536)),(47,.slice (some ⟨(pb E10 3),0,none⟩) 1 1),(48,(E10 4)),(49,vI (cy+(((digs x)).getD i 0))),(50,vI ((cy+(((digs x)).getD i 0)) / 65536))]) (hs:=c_ mv_<|c_ (bi0 (vN i) (vI 1) (h:=by intro env w;(first | (simp [go_sem];done) | (have gx:=(rg_digs x).getD i;have gy:=(rg_digs y).getD i;have hi64:=hil;simp only [List.getD_eq_getElem?_getD] at gx gy;simp [go_sem];exact IntWalk.i64_in _ (by omega)))))<|c_ mv_<|e_) (k:=fun E12 ac wd h_12=>?_)
 clear h_11
 refine then_n ?_
 have eC:cy+(digs x).getD i 0=cy+(digs x).getD i 0+(digs y).getD i 0:=by have z2:(digs y).getD i 0=0:=getD_out (by omega);omega
 obtain ⟨A2,c2,e2⟩:=OwnR.form h_12.st.nowT
 rw [e2] at h_12
 have hS:=hI.step (rg_digs x) (rg_digs y) eC
 have hz:cy+(digs x).getD i 0 / 65536=0∨i+1≤N:=by omega
 exact ⟨⟨A2,c2,ds ++ [(cy+(digs x).getD i 0) % 65536],i+1,(cy+(digs x).getD i 0) / 65536,⟨hS,by omega,fun h=>by omega⟩,(h_12.take (M1:=[]) rfl).re rfl⟩,by rw [sI_eq (h_12.g (t:=7) rfl),hmu];omega⟩
 by_cases h2:i < (digs y).length
 refine rg_ h_5 [[0],[1],[1,2],r_ 4,r_ 5,r_ 6,[0,1,2,3,4,6],[0,1,2,3,4,6,7],r_ 9,r_ 10,r_ 11,r_ 12,r_ 13,r_ 14] [K_ (vN i),K_ (rS x A0 c0),K_ (vN ((digs x).length)),K_ bF,K_ bF,K_ (vN i),K_ (rS y B0 k0),K_ (vN ((digs y).length)),K_ bT,K_ bT,K_ bT,K_ undef,K_ undef,K_ bT] (fun E6=>[(0,rS x A0 c0),(1,rS y B0 k0),(4,.slice none 0 0),(5,.slice A ds.length cp),(6,vI cy),(7,vN i),(8,vN i),(9,rS x A0 c0),(10,vN ((digs x).length)),(11,bF),(12,bF),(13,vN i),(14,rS y B0 k0),(15,vN ((digs y).length)),(16,bT),(17,bT),(18,bT),(19,undef),(20,undef),(21,bT)]) (hs:=c_ mv_<|c_ mv_<|c_ (ln_ Tryz.underlying37 fun _ env _ wd hA=>(hr.grown hA.j.st.gr).els)<|c_ (bi0 (vN i) (vN ((digs x).length)) (h:=by intro env w;(first | (simp [go_sem];done) | (simp [go_sem];omega) | (have gx:=(rg_digs x).getD i;have gy:=(rg_digs y).getD i;have hi64:=hil;simp only [List.getD_eq_getElem?_getD] at gx gy;simp [go_sem];omega))))<|c_ mv_<|c_ (gm0 (vN i))<|c_ (gm0 (rS y B0 k0))<|c_ (ln_ Tryz.underlying37 fun _ env _ wd hA=>(hr2.grown hA.j.st.gr).els)<|c_ (bi0 (vN i) (vN ((digs y).length)) (h:=by intro env w;(first | (simp [go_sem];done) | (simp [go_sem];omega) | (have gx:=(rg_digs x).getD i;have gy:=(rg_digs y).getD i;have hi64:=hil;simp only [List.getD_eq_getElem?_getD] at gx gy;simp [go_sem];omega))))<|c_ (pk0 bF bT bT (h:=by intro env w;(first | (simp [go_sem];done) | (simp [go_sem];omega) | (have gx:=(rg_digs x).getD i;have gy:=(rg_digs y).getD i;have hi64:=hil;simp only [List.getD_eq_getElem?_getD] at gx gy;simp [go_sem];omega))))<|c_ mv_<|c_ off_<|c_ off_<|c_ (pk0 bT bT undef)<|e_) (k:=fun E6 ac wd h_6=>?_)
 clear h_5
 refine then_n ?_
 refine wp_cond_true (eval_tmp (h_6.g (t:=21) rfl)) ?_
 refine wp_skip (then_n (wp_seq (wp_block (wp_seq (wp_seq ?_)))))
 refine rg_ h_6 [[0],[1],[1,2],r_ 4] [K_ (vN i),K_ (rS x A0 c0),K_ (vN ((digs x).length)),K_ bF] (fun E7=>[(0,rS x A0 c0),(1,rS y B0 k0),(4,.slice none 0 0),(5,.slice A ds.length cp),(6,vI cy),(7,vN i),(8,vN i),(9,rS x A0 c0),(10,vN ((digs x).length)),(11,bF),(12,bF),(13,vN i),(14,rS y B0 k0),(15,vN ((digs y).length)),(16,bT),(17,bT),(18,bT),(19,undef),(20,undef),(21,bT),(24,vN i),(25,rS x A0 c0),(26,vN ((digs x).length)),(27,bF)]) (hs:=c_ mv_<|c_ mv_<|c_ (ln_ Tryz.underlying37 fun _ env _ wd hA=>(hr.grown hA.j.st.gr).els)<|c_ (bi0 (vN i) (vN ((digs x).length)) (h:=by intro env w;(first | (simp [go_sem];done) | (simp [go_sem];omega) | (have gx:=(rg_digs x).getD i;have gy:=(rg_digs y).getD i;have hi64:=hil;simp only [List.getD_eq_getElem?_getD] at gx gy;simp [go_sem];omega))))<|e_) (k:=fun E7 ac wd h_7=>?_)
 clear h_6
 refine then_n ?_
 refine wp_cond_false (eval_tmp (h_7.g (t:=27) rfl)) ?_
 refine wp_skip (then_n (wp_seq (wp_seq ?_)))
 refine rg_ h_7 [[0],[1],[1,2],r_ 4] [K_ (vN i),K_ (rS y B0 k0),K_ (vN ((digs y).length)),K_ bT] (fun E8=>[(0,rS x A0 c0),(1,rS y B0 k0),(4,.slice none 0 0),(5,.slice A ds.length cp),(6,vI cy),(7,vN i),(8,vN i),(9,rS x A0 c0),(10,vN ((digs x).length)),(11,bF),(12,bF),(13,vN i),(14,rS y B0 k0),(15,vN ((digs y).length)),(16,bT),(17,bT),(18,bT),(19,undef),(20,undef),(21,bT),(24,vN i),(25,rS x A0 c0),(26,vN ((digs x).length)),(27,bF),(34,vN i),(35,rS y B0 k0),(36,vN ((digs y).length)),(37,bT)]) (hs:=c_ mv_<|c_ mv_<|c_ (ln_ Tryz.underlying37 fun _ env _ wd hA=>(hr2.grown hA.j.st.gr).els)<|c_ (bi0 (vN i) (vN ((digs y).length)) (h:=by intro env w;(first | (simp [go_sem];done) | (simp [go_sem];omega) | (have gx:=(rg_digs x).getD i;have gy:=(rg_digs y).getD i;have hi64:=hil;simp only [List.getD_eq_getElem?_getD] at gx gy;simp [go_sem];omega))))<|e_) (k:=fun E8 ac wd h_8=>?_)
 clear h_7
 refine then_n ?_
 refine wp_cond_true (eval_tmp (h_8.g (t:=37) rfl)) ?_
 refine rg_ h_8 [[0],[1],[2],[1,2,3],[1,2,3,4],r_ 6,r_ 7] [K_ (vI cy),K_ (rS y B0 k0),K_ (vN i),K_ (elt (rS y B0 k0) i),K_ (vI (((digs y)).getD i 0)),K_ (vI (cy+(((digs y)).getD i 0))),K_ (vI (cy+(((digs y)).getD i 0)))] (fun E9=>[(0,rS x A0 c0),(1,rS y B0 k0),(4,.slice none 0 0),(5,.slice A ds.length cp),(6,vI (cy+(((digs y)).getD i 0))),(7,vN i),(8,vN i),(9,rS x A0 c0),(10,vN ((digs x).length)),(11,bF),(12,bF),(13,vN i),(14,rS y B0 k0),(15,vN ((digs y).length)),(16,bT),(17,bT),(18,bT),(19,undef),(20,undef),(21,bT),(24,vN i),(25,rS x A0 c0),(26,vN ((digs x).length)),(27,bF),(34,vN i),(35,rS y B0 k0),(36,vN ((digs y).length)),(37,bT),(38,vI cy),(39,rS y B0 k0),(40,vN i),(41,elt (rS y B0 k0) i),(42,vI (((digs y)).getD i 0)),(43,vI (cy+(((digs y)).getD i 0)))]) (hs:=c_ mv_<|c_ mv_<|c_ mv_<|c_ (ia_ Tryz.underlying37 sz3 i i ((i:Nat):Int) (fun _ env _ wd hA=>(hr2.grown hA.j.st.gr).els) (rfl) (by omega) (Nat.mul_one _))<|c_ (le_ i (fun _ env _ wd hA=>(hr2.grown hA.j.st.gr).els) (by omega) (le3 rfl))<|c_ (bi0 (vI cy) (vI (((digs y)).getD i 0)) (h:=by intro env w;(first | (simp [go_sem];done) | (have gx:=(rg_digs x).getD i;have gy:=(rg_digs y).getD i;have hi64:=hil;simp only [List.getD_eq_getElem?_getD] at gx gy;simp [go_sem];exact IntWalk.i64_in _ (by omega)))))<|c_ mv_<|e_) (k:=fun E9 ac wd h_9=>?_)
 clear h_8
 refine then_n (wp_seq ?_)
 refine rg_ h_9 [[0],[1],[1,2],[1,2,3],r_ 5,r_ 6] [K_ (.slice A ds.length cp),K_ (vI (cy+(((digs y)).getD i 0))),K_ (vI ((cy+(((digs y)).getD i 0)) % 65536)),KE_ fun env=>.slice (some ⟨(pb env 3),0,none⟩) 1 1,KE_ fun env=>(env 4),KE_ fun env=>(env 4)] (fun E10=>[(0,rS x A0 c0),(1,rS y B0 k0),(4,.slice none 0 0),(5,(E10 4)),(6,vI (cy+(((digs y)).getD i 0))),(7,vN i),(8,vN i),(9,rS x A0 c0),(10,vN ((digs x).length)),(11,bF),(12,bF),(13,vN i),(14,rS y B0 k0),(15,vN ((digs y).length)),(16,bT),(17,bT),(18,bT),(19,undef),(20,undef),(21,bT),(24,vN i),(25,rS x A0 c0),(26,vN ((digs x).length)),(27,bF),(34,vN i),(35,rS y B0 k0),(36,vN ((digs y).length)),(37,bT),(38,vI cy),(39,rS y B0 k0),(40,vN i),(41,elt (rS y B0 k0) i),(42,vI (((digs y)).getD i 0)),(43,vI (cy+(((digs y)).getD i 0))),(44,.slice A ds.length cp),(45,vI (cy+(((digs y)).getD i 0))),(46,vI ((cy+(((digs y)).getD i 0)) % 65536)),(47,.slice (some ⟨(pb E10 3),0,none⟩) 1 1),(48,(E10 4))]) (W:=[{ i:=3,T:=3,c0:=[vI ((cy+(((digs y)).getD i 0)) % 65536)] }]) (th:=(some (4,fun env w=>OwnR w w0.heap.size (env 4) (ds ++ [(cy+(((digs y)).getD i 0)) % 65536])))) (T:=fun E10=>fun w=>OwnR w w0.heap.size (E10 4) (ds ++ [(cy+(((digs y)).getD i 0)) % 65536])) (M':=fun E10=>[((pb E10 3),3,[vI ((cy+(((digs y)).getD i 0)) % 65536)])]) (hs:=c_ mv_<|c_ mv_<|c_ (bi0 (vI (cy+(((digs y)).getD i 0))) (vI 65536) (h:=by intro env w;(first | (simp [go_sem];done) | (have gx:=(rg_digs x).getD i;have gy:=(rg_digs y).getD i;have hi64:=hil;simp only [List.getD_eq_getElem?_getD] at gx gy;simp [go_sem];rw [Int.tmod_eq_emod_of_nonneg (by omega)];exact IntWalk.i64_in _ (by omega)) | (have gx:=(rg_digs x).getD i;have gy:=(rg_digs y).getD i;have hi64:=hil;simp only [List.getD_eq_getElem?_getD] at gx gy;simp [go_sem];rw [Int.tmod_eq_emod_of_nonneg (by omega)]))))<|c_ (s_bsM rfl rfl 0 rfl rfl 1 rfl (fun {D env ac wd} hA=>by have e46:ac.tmps[46]? = some (vI ((cy+(((digs y)).getD i 0)) % 65536)):=hA.g rfl;simp [go_sem,e46,Tryz.underlying37]))<|c_ (s_app rfl rfl rfl rfl rfl rfl (fun _=>trivial) rfl (fun _ h=>h) ((cy+(((digs y)).getD i 0)) % 65536) rfl (by omega) 3 0 rfl rfl rfl rfl rfl (fun _=>rfl) (fun hA=>hA.e rfl))<|c_ mv_<|e_) (k:=fun E10 ac wd h_10=>?_)
 clear h_9
 refine then_n ?_
 refine rg_ h_10 (tri 3) [K_ (vI (cy+(((digs y)).getD i 0))),K_ (vI ((cy+(((digs y)).getD i 0)) / 65536)),K_ (vI ((cy+(((digs y)).getD i 0)) / 65536))] (fun E11=>[(0,rS x A0 c0),(1,rS y B0 k0),(4,.slice none 0 0),(5,(E10 4)),(6,vI ((cy+(((digs y)).getD i 0)) / 65536)),(7,vN i),(8,vN i),(9,rS x A0 c0),(10,vN ((digs x).length)),(11,bF),(12,bF),(13,vN i),(14,rS y B0 k0),(15,vN ((digs y).length)),(16,bT),(17,bT),(18,bT),(19,undef),(20,undef),(21,bT),(24,vN i),(25,rS x A0 c0),(26,vN ((digs x).length)),(27,bF),(34,vN i),(35,rS y B0 k0),(36,vN ((digs y).length)),(37,bT),(38,vI cy),(39,rS y B0 k0),(40,vN i),(41,elt (rS y B0 k0) i),(42,vI (((digs y)).getD i 0)),(43,vI (cy+(((digs y)).getD i 0))),(44,.slice A ds.length cp),(45,vI (cy+(((digs y)).getD i 0))),(46,vI ((cy+(((digs y)).getD i 0)) % 65536)),(47,.slice (some ⟨(pb E10 3),0,none⟩) 1 1),(48,(E10 4)),(49,vI (cy+(((digs y)).getD i 0))),(50,vI ((cy+(((digs y)).getD i 0)) / 65536))]) (hs:=c_ mv_<|c_ (bi0 (vI (cy+(((digs y)).getD i 0))) (vI 65536) (h:=by intro env w;(first | (simp [go_sem];done) | (have gx:=(rg_digs x).getD i;have gy:=(rg_digs y).getD i;have hi64:=hil;simp only [List.getD_eq_getElem?_getD] at gx gy;simp [go_sem];rw [Int.tdiv_eq_ediv_of_nonneg (by omega)];exact IntWalk.i64_in _ (by omega)) | (have gx:=(rg_digs x).getD i;have gy:=(rg_digs y).getD i;have hi64:=hil;simp only [List.getD_eq_getElem?_getD] at gx gy;simp [go_sem];rw [Int.tdiv_eq_ediv_of_nonneg (by omega)]))))<|c_ mv_<|e_) (k:=fun E11 ac wd h_11=>?_)
 clear h_10
 refine blk_n (then_n ?_)
 refine rg_ h_11 (tri 3) [K_ (vN i),K_ (vI (((i:Nat):Int)+1)),K_ (vI (((i:Nat):Int)+1))] (fun E12=>[(0,rS x A0 c0),(1,rS y B0 k0),(4,.slice none 0 0),(5,(E10 4)),(6,vI ((cy+(((digs y)).getD i 0)) / 65536)),(7,vI (((i:Nat):Int)+1)),(8,vN i),(9,rS x A0 c0),(10,vN ((digs x).length)),(11,bF),(12,bF),(13,vN i),(14,rS y B0 k0),(15,vN ((digs y).length)),(16,bT),(17,bT),(18,bT),(19,undef),(20,undef),(21,bT),(22,vN i),(23,vI (((i:Nat):Int)+1)),(24,vN i),(25,rS x A0 c0),(26,vN ((digs x).length)),(27,bF),(34,vN i),(35,rS y B0 k0),(36,vN ((digs y).length)),(37,bT),(38,vI cy),(39,rS y B0 k0),(40,vN i),(41,elt (rS y B0 k0) i),(42,vI (((digs y)).getD i 0)),(43,vI (cy+(((digs y)).getD i 0))),(44,.slice A ds.length cp),(45,vI (cy+(((digs y)).getD i 0))),(46,vI ((cy+(((digs y)).getD i 0)) % 65536)),(47,.slice (some ⟨(pb E10 3),0,none⟩) 1 1),(48,(E10 4)),(49,vI (cy+(((digs y)).getD i 0))),(50,vI ((cy+(((digs y)).getD i 0)) / 65536))]) (hs:=c_ mv_<|c_ (bi0 (vN i) (vI 1) (h:=by intro env w;(first | (simp [go_sem];done) | (have gx:=(rg_digs x).getD i;have gy:=(rg_digs y).getD i;have hi64:=hil;simp only [List.getD_eq_getElem?_getD] at gx gy;simp [go_sem];exact IntWalk.i64_in _ (by omega)))))<|c_ mv_<|e_) (k:=fun E12 ac wd h_12=>?_)
 clear h_11
 refine then_n ?_
 have eC:cy+(digs y).getD i 0=cy+(digs x).getD i 0+(digs y).getD i 0:=by have z1:(digs x).getD i 0=0:=getD_out (by omega);omega
 obtain ⟨A2,c2,e2⟩:=OwnR.form h_12.st.nowT
 rw [e2] at h_12
 have hS:=hI.step (rg_digs x) (rg_digs y) eC
 have hz:cy+(digs y).getD i 0 / 65536=0∨i+1≤N:=by omega
 exact ⟨⟨A2,c2,ds ++ [(cy+(digs y).getD i 0) % 65536],i+1,(cy+(digs y).getD i 0) / 65536,⟨hS,by omega,fun h=>by omega⟩,(h_12.take (M1:=[]) rfl).re rfl⟩,by rw [sI_eq (h_12.g (t:=7) rfl),hmu];omega⟩
 by_cases h3:0 < cy
 refine rg_ h_5 [[0],[1],[1,2],r_ 4,r_ 5,r_ 6,[0,1,2,3,4,6],[0,1,2,3,4,6,7],r_ 9,r_ 10,r_ 11,r_ 12,r_ 13,r_ 14] [K_ (vN i),K_ (rS x A0 c0),K_ (vN ((digs x).length)),K_ bF,K_ bF,K_ (vN i),K_ (rS y B0 k0),K_ (vN ((digs y).length)),K_ bF,K_ bF,K_ bF,K_ (vI cy),K_ bT,K_ bT] (fun E6=>[(0,rS x A0 c0),(1,rS y B0 k0),(4,.slice none 0 0),(5,.slice A ds.length cp),(6,vI cy),(7,vN i),(8,vN i),(9,rS x A0 c0),(10,vN ((digs x).length)),(11,bF),(12,bF),(13,vN i),(14,rS y B0 k0),(15,vN ((digs y).length)),(16,bF),(17,bF),(18,bF),(19,vI cy),(20,bT),(21,bT)]) (hs:=c_ mv_<|c_ mv_<|c_ (ln_ Tryz.underlying37 fun _ env _ wd hA=>(hr.grown hA.j.st.gr).els)<|c_ (bi0 (vN i) (vN ((digs x).length)) (h:=by intro env w;(first | (simp [go_sem];done) | (simp [go_sem];omega) | (have gx:=(rg_digs x).getD i;have gy:=(rg_digs y).getD i;have hi64:=hil;simp only [List.getD_eq_getElem?_getD] at gx gy;simp [go_sem];omega))))<|c_ mv_<|c_ (gm0 (vN i))<|c_ (gm0 (rS y B0 k0))<|c_ (ln_ Tryz.underlying37 fun _ env _ wd hA=>(hr2.grown hA.j.st.gr).els)<|c_ (bi0 (vN i) (vN ((digs y).length)) (h:=by intro env w;(first | (simp [go_sem];done) | (simp [go_sem];omega) | (have gx:=(rg_digs x).getD i;have gy:=(rg_digs y).getD i;have hi64:=hil;simp only [List.getD_eq_getElem?_getD] at gx gy;simp [go_sem];omega))))<|c_ (pk0 bF bT bF (h:=by intro env w;(first | (simp [go_sem];done) | (simp [go_sem];omega) | (have gx:=(rg_digs x).getD i;have gy:=(rg_digs y).getD i;have hi64:=hil;simp only [List.getD_eq_getElem?_getD] at gx gy;simp [go_sem];omega))))<|c_ mv_<|c_ (gm0 (vI cy))<|c_ (bi0 (vI cy) (vI 0) (h:=by intro env w;(first | (simp [go_sem];done) | (simp [go_sem];omega) | (have gx:=(rg_digs x).getD i;have gy:=(rg_digs y).getD i;have hi64:=hil;simp only [List.getD_eq_getElem?_getD] at gx gy;simp [go_sem];omega))))<|c_ (pk0 bF bT bT (h:=by intro env w;(first | (simp [go_sem];done) | (simp [go_sem];omega) | (have gx:=(rg_digs x).getD i;have gy:=(rg_digs y).getD i;have hi64:=hil;simp only [List.getD_eq_getElem?_getD] at gx gy;simp [go_sem];omega))))<|e_) (k:=fun E6 ac wd h_6=>?_)
 clear h_5
 refine then_n ?_
 refine wp_cond_true (eval_tmp (h_6.g (t:=21) rfl)) ?_
 refine wp_skip (then_n (wp_seq (wp_block (wp_seq (wp_seq ?_)))))
 refine rg_ h_6 [[0],[1],[1,2],r_ 4] [K_ (vN i),K_ (rS x A0 c0),K_ (vN ((digs x).length)),K_ bF] (fun E7=>[(0,rS x A0 c0),(1,rS y B0 k0),(4,.slice none 0 0),(5,.slice A ds.length cp),(6,vI cy),(7,vN i),(8,vN i),(9,rS x A0 c0),(10,vN ((digs x).length)),(11,bF),(12,bF),(13,vN i),(14,rS y B0 k0),(15,vN ((digs y).length)),(16,bF),(17,bF),(18,bF),(19,vI cy),(20,bT),(21,bT),(24,vN i),(25,rS x A0 c0),(26,vN ((digs x).length)),(27,bF)]) (hs:=c_ mv_<|c_ mv_<|c_ (ln_ Tryz.underlying37 fun _ env _ wd hA=>(hr.grown hA.j.st.gr).els)<|c_ (bi0 (vN i) (vN ((digs x).length)) (h:=by intro env w;(first | (simp [go_sem];done) | (simp [go_sem];omega) | (have gx:=(rg_digs x).getD i;have gy:=(rg_digs y).getD i;have hi64:=hil;simp only [List.getD_eq_getElem?_getD] at gx gy;simp [go_sem];omega))))<|e_) (k:=fun E7 ac wd h_7=>?_)
 clear h_6
 refine then_n ?_
 refine wp_cond_false (eval_tmp (h_7.g (t:=27) rfl)) ?_
 refine wp_skip (then_n (wp_seq (wp_seq ?_)))
 refine rg_ h_7 [[0],[1],[1,2],r_ 4] [K_ (vN i),K_ (rS y B0 k0),K_ (vN ((digs y).length)),K_ bF] (fun E8=>[(0,rS x A0 c0),(1,rS y B0 k0),(4,.slice none 0 0),(5,.slice A ds.length cp),(6,vI cy),(7,vN i),(8,vN i),(9,rS x A0 c0),(10,vN ((digs x).length)),(11,bF),(12,bF),(13,vN i),(14,rS y B0 k0),(15,vN ((digs y).length)),(16,bF),(17,bF),(18,bF),(19,vI cy),(20,bT),(21,bT),(24,vN i),(25,rS x A0 c0),(26,vN ((digs x).length)),(27,bF),(34,vN i),(35,rS y B0 k0),(36,vN ((digs y).length)),(37,bF)]) (hs:=c_ mv_<|c_ mv_<|c_ (ln_ Tryz.underlying37 fun _ env _ wd hA=>(hr2.grown hA.j.st.gr).els)<|c_ (bi0 (vN i) (vN ((digs y).length)) (h:=by intro env w;(first | (simp [go_sem];done) | (simp [go_sem];omega) | (have gx:=(rg_digs x).getD i;have gy:=(rg_digs y).getD i;have hi64:=hil;simp only [List.getD_eq_getElem?_getD] at gx gy;simp [go_sem];omega))))<|e_) (k:=fun E8 ac wd h_8=>?_)
 clear h_7
 refine then_n ?_
 refine wp_cond_false (eval_tmp (h_8.g (t:=37) rfl)) ?_
 refine wp_skip (then_n (wp_seq ?_))
 refine rg_ h_8 [[0],[1],[1,2],[1,2,3],r_ 5,r_ 6] [K_ (.slice A ds.length cp),K_ (vI cy),K_ (vI (cy % 65536)),KE_ fun env=>.slice (some ⟨(pb env 3),0,none⟩) 1 1,KE_ fun env=>(env 4),KE_ fun env=>(env 4)] (fun E9=>[(0,rS x A0 c0),(1,rS y B0 k0),(4,.slice none 0 0),(5,(E9 4)),(6,vI cy),(7,vN i),(8,vN i),(9,rS x A0 c0),(10,vN ((digs x).length)),(11,bF),(12,bF),(13,vN i),(14,rS y B0 k0),(15,vN ((digs y).length)),(16,bF),(17,bF),(18,bF),(19,vI cy),(20,bT),(21,bT),(24,vN i),(25,rS x A0 c0),(26,vN ((digs x).length)),(27,bF),(34,vN i),(35,rS y B0 k0),(36,vN ((digs y).length)),(37,bF),(44,.slice A ds.length cp),(45,vI cy),(46,vI (cy % 65536)),(47,.slice (some ⟨(pb E9 3),0,none⟩) 1 1),(48,(E9 4))]) (W:=[{ i:=3,T:=3,c0:=[vI (cy % 65536)] }]) (th:=(some (4,fun env w=>OwnR w w0.heap.size (env 4) (ds ++ [cy % 65536])))) (T:=fun E9=>fun w=>OwnR w w0.heap.size (E9 4) (ds ++ [cy % 65536])) (M':=fun E9=>[((pb E9 3),3,[vI (cy % 65536)])]) (hs:=c_ mv_<|c_ mv_<|c_ (bi0 (vI cy) (vI 65536) (h:=by intro env w;(first | (simp [go_sem];done) | (have gx:=(rg_digs x).getD i;have gy:=(rg_digs y).getD i;have hi64:=hil;simp only [List.getD_eq_getElem?_getD] at gx gy;simp [go_sem];rw [Int.tmod_eq_emod_of_nonneg (by omega)];exact IntWalk.i64_in _ (by omega)) | (have gx:=(rg_digs x).getD i;have gy:=(rg_digs y).getD i;have hi64:=hil;simp only [List.getD_eq_getElem?_getD] at gx gy;simp [go_sem];rw [Int.tmod_eq_emod_of_nonneg (by omega)]))))<|c_ (s_bsM rfl rfl 0 rfl rfl 1 rfl (fun {D env ac wd} hA=>by have e46:ac.tmps[46]? = some (vI (cy % 65536)):=hA.g rfl;simp [go_sem,e46,Tryz.underlying37]))<|c_ (s_app rfl rfl rfl rfl rfl rfl (fun _=>trivial) rfl (fun _ h=>h) (cy % 65536) rfl (by omega) 3 0 rfl rfl rfl rfl rfl (fun _=>rfl) (fun hA=>hA.e rfl))<|c_ mv_<|e_) (k:=fun E9 ac wd h_9=>?_)
 clear h_8
 refine then_n ?_
 refine rg_ h_9 (tri 3) [K_ (vI cy),K_ (vI (cy / 65536)),K_ (vI (cy / 65536))] (fun E10=>[(0,rS x A0 c0),(1,rS y B0 k0),(4,.slice none 0 0),(5,(E9 4)),(6,vI (cy / 65536)),(7,vN i),(8,vN i),(9,rS x A0 c0),(10,vN ((digs x).length)),(11,bF),(12,bF),(13,vN i),(14,rS y B0 k0),(15,vN ((digs y).length)),(16,bF),(17,bF),(18,bF),(19,vI cy),(20,bT),(21,bT),(24,vN i),(25,rS x A0 c0),(26,vN ((digs x).length)),(27,bF),(34,vN i),(35,rS y B0 k0),(36,vN ((digs y).length)),(37,bF),(44,.slice A ds.length cp),(45,vI cy),(46,vI (cy % 65536)),(47,.slice (some ⟨(pb E9 3),0,none⟩) 1 1),(48,(E9 4)),(49,vI cy),(50,vI (cy / 65536))]) (hs:=c_ mv_<|c_ (bi0 (vI cy) (vI 65536) (h:=by intro env w;(first | (simp [go_sem];done) | (have gx:=(rg_digs x).getD i;have gy:=(rg_digs y).getD i;have hi64:=hil;simp only [List.getD_eq_getElem?_getD] at gx gy;simp [go_sem];rw [Int.tdiv_eq_ediv_of_nonneg (by omega)];exact IntWalk.i64_in _ (by omega)) | (have gx:=(rg_digs x).getD i;have gy:=(rg_digs y).getD i;have hi64:=hil;simp only [List.getD_eq_getElem?_getD] at gx gy;simp [go_sem];rw [Int.tdiv_eq_ediv_of_nonneg (by omega)]))))<|c_ mv_<|e_) (k:=fun E10 ac wd h_10=>?_)
 clear h_9
 refine blk_n (then_n ?_)
 refine rg_ h_10 (tri 3) [K_ (vN i),K_ (vI (((i:Nat):Int)+1)),K_ (vI (((i:Nat):Int)+1))] (fun E11=>[(0,rS x A0 c0),(1,rS y B0 k0),(4,.slice none 0 0),(5,(E9 4)),(6,vI (cy / 65536)),(7,vI (((i:Nat):Int)+1)),(8,vN i),(9,rS x A0 c0),(10,vN ((digs x).length)),(11,bF),(12,bF),(13,vN i),(14,rS y B0 k0),(15,vN ((digs y).length)),(16,bF),(17,bF),(18,bF),(19,vI cy),(20,bT),(21,bT),(22,vN i),(23,vI (((i:Nat):Int)+1)),(24,vN i),(25,rS x A0 c0),(26,vN ((digs x).length)),(27,bF),(34,vN i),(35,rS y B0 k0),(36,vN ((digs y).length)),(37,bF),(44,.slice A ds.length cp),(45,vI cy),(46,vI (cy % 65536)),(47,.slice (some ⟨(pb E9 3),0,none⟩) 1 1),(48,(E9 4)),(49,vI cy),(50,vI (cy / 65536))]) (hs:=c_ mv_<|c_ (bi0 (vN i) (vI 1) (h:=by intro env w;(first | (simp [go_sem];done) | (have gx:=(rg_digs x).getD i;have gy:=(rg_digs y).getD i;have hi64:=hil;simp only [List.getD_eq_getElem?_getD] at gx gy;simp [go_sem];exact IntWalk.i64_in _ (by omega)))))<|c_ mv_<|e_) (k:=fun E11 ac wd h_11=>?_)
 clear h_10
 refine then_n ?_
 have eC:cy=cy+(digs x).getD i 0+(digs y).getD i 0:=by have z1:(digs x).getD i 0=0:=getD_out (by omega);have z2:(digs y).getD i 0=0:=getD_out (by omega);omega
 obtain ⟨A2,c2,e2⟩:=OwnR.form h_11.st.nowT
 rw [e2] at h_11
 have hS:=hI.step (rg_digs x) (rg_digs y) eC
 have hz:cy / 65536=0∨i+1≤N:=by have:=hI.h1;omega
 exact ⟨⟨A2,c2,ds ++ [(cy) % 65536],i+1,(cy) / 65536,⟨hS,by omega,fun h=>by omega⟩,(h_11.take (M1:=[]) rfl).re rfl⟩,by rw [sI_eq (h_11.g (t:=7) rfl),hmu];omega⟩
 obtain rfl:cy=0:=by omega
 refine rg_ h_5 [[0],[1],[1,2],r_ 4,r_ 5,r_ 6,[0,1,2,3,4,6],[0,1,2,3,4,6,7],r_ 9,r_ 10,r_ 11,r_ 12,r_ 13,r_ 14] [K_ (vN i),K_ (rS x A0 c0),K_ (vN ((digs x).length)),K_ bF,K_ bF,K_ (vN i),K_ (rS y B0 k0),K_ (vN ((digs y).length)),K_ bF,K_ bF,K_ bF,K_ (vI 0),K_ bF,K_ bF] (fun E6=>[(0,rS x A0 c0),(1,rS y B0 k0),(4,.slice none 0 0),(5,.slice A ds.length cp),(6,vI 0),(7,vN i),(8,vN i),(9,rS x A0 c0),(10,vN ((digs x).length)),(11,bF),(12,bF),(13,vN i),(14,rS y B0 k0),(15,vN ((digs y).length)),(16,bF),(17,bF),(18,bF),(19,vI 0),(20,bF),(21,bF)]) (hs:=c_ mv_<|c_ mv_<|c_ (ln_ Tryz.underlying37 fun _ env _ wd hA=>(hr.grown hA.j.st.gr).els)<|c_ (bi0 (vN i) (vN ((digs x).length)) (h:=by intro env w;(first | (simp [go_sem];done) | (simp [go_sem];omega) | (have gx:=(rg_digs x).getD i;have gy:=(rg_digs y).getD i;have hi64:=hil;simp only [List.getD_eq_getElem?_getD] at gx gy;simp [go_sem];omega))))<|c_ mv_<|c_ (gm0 (vN i))<|c_ (gm0 (rS y B0 k0))<|c_ (ln_ Tryz.underlying37 fun _ env _ wd hA=>(hr2.grown hA.j.st.gr).els)<|c_ (bi0 (vN i) (vN ((digs y).length)) (h:=by intro env w;(first | (simp [go_sem];done) | (simp [go_sem];omega) | (have gx:=(rg_digs x).getD i;have gy:=(rg_digs y).getD i;have hi64:=hil;simp only [List.getD_eq_getElem?_getD] at gx gy;simp [go_sem];omega))))<|c_ (pk0 bF bT bF (h:=by intro env w;(first | (simp [go_sem];done) | (simp [go_sem];omega) | (have gx:=(rg_digs x).getD i;have gy:=(rg_digs y).getD i;have hi64:=hil;simp only [List.getD_eq_getElem?_getD] at gx gy;simp [go_sem];omega))))<|c_ mv_<|c_ (gm0 (vI 0))<|c_ (bi0 (vI 0) (vI 0) (h:=by intro env w;(first | (simp [go_sem];done) | (simp [go_sem];omega) | (have gx:=(rg_digs x).getD i;have gy:=(rg_digs y).getD i;have hi64:=hil;simp only [List.getD_eq_getElem?_getD] at gx gy;simp [go_sem];omega))))<|c_ (pk0 bF bT bF (h:=by intro env w;(first | (simp [go_sem];done) | (simp [go_sem];omega) | (have gx:=(rg_digs x).getD i;have gy:=(rg_digs y).getD i;have hi64:=hil;simp only [List.getD_eq_getElem?_getD] at gx gy;simp [go_sem];omega))))<|e_) (k:=fun E6 ac wd h_6=>?_)
 clear h_5
 refine then_n ?_
 refine wp_cond_false (eval_tmp (h_6.g (t:=21) rfl)) ?_
 refine wp_exit (then_e (then_e (blk_x (then_n (wp_seq ?_)))))
 refine rg_ h_6 (tri 3) [K_ (.slice A ds.length cp),K_ (rS (nat ds) A cp),K_ (rS (nat ds) A cp)] (fun E7=>[(4,rS (nat ds) A cp)]) (hs:=c_ mv_<|c_ (cw_ Tryz.func84 (h:=fun _ env _ wd hA=>⟨_,trim_core wd A cp ds (OwnR.row (by omega) (hA.thO rfl)) hI.g,rfl⟩))<|c_ mv_<|e_) (k:=fun E7 ac wd h_7=>?_)
 clear h_6
 refine then_n (wp_ret ?_)
 have s4:=h_7.g (t:=4) rfl
 refine leave (v:=.slice A ((digs (nat ds)).length) cp) h_7.df (by simp [results,Tryz.results82,go_sem,Array.getD_eq_getD_getElem?,s4]) ?_
 have hT:=h_7.st.nowT
 have eN:nat ds=x+y:=by rw [hI.done (by omega) (by omega),nat_digs' hx,nat_digs' hy]
 refine ⟨_,rfl,h_7.st.below,?_,OwnR.new hT _⟩
 rw [← eN]
 exact Row.trim hI.g (OwnR.row (by omega) hT)
theorem sub_core (w0:World) (A0 B0:Option Addr) (c0 k0:Nat) (x y:Int) (hy:0≤y) (hr:Row w0 (.slice A0 (digs x).length c0) (digs x)) (hr2:Row w0 (.slice B0 (digs y).length k0) (digs y)) (hle:y≤x) (hN:(digs x).length≤100000):Calls Tryz.prog 83 #[.slice A0 ((digs x).length) c0,.slice B0 ((digs y).length) k0] w0 fun e w'=>∃ v,e = .returned v∧Below w0.heap.size w0 w'∧RowN w0.heap.size w' v (digs (x-y)):=by
 have hst:=St.start w0 (Θ:=fun _=>True) (fun _ _=>trivial)
 refine enter Tryz.func83 rfl (n:=41) rfl (Nat.le_of_ble_eq_true rfl) hst (L:=[(0,.slice A0 ((digs x).length) c0),(1,.slice B0 ((digs y).length) k0)]) (lk_args rfl) (fun ac h=>?_)
 refine wp_seq ?_
 refine rg_ h [[0]] [K_ (.slice none 0 0)] (fun E1=>[(0,rS x A0 c0),(1,rS y B0 k0),(4,.slice none 0 0)]) (hs:=c_ mv_<|e_) (k:=fun E1 ac wd h_1=>?_)
 clear h
 refine then_n (wp_seq ?_)
 refine rg_ h_1 [[0]] [K_ (.slice none 0 0)] (fun E2=>[(0,rS x A0 c0),(1,rS y B0 k0),(4,.slice none 0 0),(5,.slice none 0 0)]) (hs:=c_ mv_<|e_) (k:=fun E2 ac wd h_2=>?_)
 clear h_1
 refine then_n (wp_seq ?_)
 refine rg_ h_2 [[0]] [K_ (vI 0)] (fun E3=>[(0,rS x A0 c0),(1,rS y B0 k0),(4,.slice none 0 0),(5,.slice none 0 0),(6,vI 0)]) (hs:=c_ mv_<|e_) (k:=fun E3 ac wd h_3=>?_)
 clear h_2
 refine then_n (wp_seq (wp_seq ?_))
 refine rg_ h_3 [[0]] [K_ (vI 0)] (fun E4=>[(0,rS x A0 c0),(1,rS y B0 k0),(4,.slice none 0 0),(5,.slice none 0 0),(6,vI 0),(7,vI 0)]) (hs:=c_ mv_<|e_) (k:=fun E4 ac wd h_4=>?_)
 clear h_3
 refine then_n (wp_block ?_)
 refine wp_loop (fun ac wd=>∃ (A:Option Addr) (cp:Nat) (ds:List Int) (i:Nat) (cy:Int),(SubI (digs x) (digs y) ds i cy∧i≤(digs x).length)∧Cur 41 w0 none none (fun _=>True) (fun w=>OwnR w w0.heap.size (.slice A ds.length cp) ds) [(0,rS x A0 c0),(1,rS y B0 k0),(4,.slice none 0 0),(5,.slice A ds.length cp),(6,vI cy),(7,vN i)] [] ac wd) (fun ac _=>(((digs x).length:Int)-sI ac 7).toNat) ⟨none,0,[],0,0,⟨SubI.start _ _,by omega⟩,(h_4.re rfl).th (fun w _=>OwnR.nil w _)⟩ ?_
 rintro ac wd ⟨A,cp,ds,i,cy,⟨hI,hiN⟩,h_5⟩
 clear h_4
 have hmu:sI ac 7=((i:Nat):Int):=sI_eq (h_5.g (t:=7) rfl)
 have hil:=hI.l
 have hc0:=hI.h0
 have hc1:=hI.h1
 refine wp_seq (wp_seq ?_)
 by_cases h1:i < (digs x).length
 refine rg_ h_5 [[0],[1],[1,2],r_ 4] [K_ (vN i),K_ (rS x A0 c0),K_ (vN ((digs x).length)),K_ bT] (fun E6=>[(0,rS x A0 c0),(1,rS y B0 k0),(4,.slice none 0 0),(5,.slice A ds.length cp),(6,vI cy),(7,vN i),(9,vN i),(10,rS x A0 c0),(11,vN ((digs x).length)),(12,bT)]) (hs:=c_ mv_<|c_ mv_<|c_ (ln_ Tryz.underlying37 fun _ env _ wd hA=>(hr.grown hA.j.st.gr).els)<|c_ (bi0 (vN i) (vN ((digs x).length)) (h:=by intro env w;(first | (simp [go_sem];done) | (simp [go_sem];omega) | (have gx:=(rg_digs x).getD i;have gy:=(rg_digs y).getD i;have hi64:=hil;simp only [List.getD_eq_getElem?_getD] at gx gy;simp [go_sem];omega))))<|e_) (k:=fun E6 ac wd h_6=>?_)
 clear h_5
 refine then_n ?_
 refine wp_cond_true (eval_tmp (h_6.g (t:=12) rfl)) ?_
 refine wp_skip (then_n (wp_seq (wp_block (wp_seq ?_))))
 refine rg_ h_6 [[0],[1],[0,1,2],r_ 4,[4],r_ 6,r_ 7] [K_ (rS x A0 c0),K_ (vN i),K_ (elt (rS x A0 c0) i),K_ (vI (((digs x)).getD i 0)),K_ (vI cy),K_ (vI ((((digs x)).getD i 0)-cy)),K_ (vI ((((digs x)).getD i 0)-cy))] (fun E7=>[(0,rS x A0 c0),(1,rS y B0 k0),(4,.slice none 0 0),(5,.slice A ds.length cp),(6,vI cy),(7,vN i),(8,vI ((((digs x)).getD i 0)-cy)),(9,vN i),(10,rS x A0 c0),(11,vN ((digs x).length)),(12,bT),(15,rS x A0 c0),(16,vN i),(17,elt (rS x A0 c0) i),(18,vI (((digs x)).getD i 0)),(19,vI cy),(20,vI ((((digs x)).getD i 0)-cy))]) (hs:=c_ mv_<|c_ mv_<|c_ (ia_ Tryz.underlying37 sz3 i i ((i:Nat):Int) (fun _ env _ wd hA=>(hr.grown hA.j.st.gr).els) (rfl) (by omega) (Nat.mul_one _))<|c_ (le_ i (fun _ env _ wd hA=>(hr.grown hA.j.st.gr).els) (by omega) (le3 rfl))<|c_ mv_<|c_ (bi0 (vI (((digs x)).getD i 0)) (vI cy) (h:=by intro env w;(first | (simp [go_sem];done) | (have gx:=(rg_digs x).getD i;have gy:=(rg_digs y).getD i;have hi64:=hil;simp only [List.getD_eq_getElem?_getD] at gx gy;simp [go_sem];exact IntWalk.i64_in _ (by omega)))))<|c_ mv_<|e_) (k:=fun E7 ac wd h_7=>?_)
 clear h_6
 refine then_n (wp_seq (wp_seq ?_))
 by_cases h2:i < (digs y).length
 refine rg_ h_7 [[0],[1],[1,2],r_ 4] [K_ (vN i),K_ (rS y B0 k0),K_ (vN ((digs y).length)),K_ bT] (fun E8=>[(0,rS x A0 c0),(1,rS y B0 k0),(4,.slice none 0 0),(5,.slice A ds.length cp),(6,vI cy),(7,vN i),(8,vI ((((digs x)).getD i 0)-cy)),(9,vN i),(10,rS x A0 c0),(11,vN ((digs x).length)),(12,bT),(15,rS x A0 c0),(16,vN i),(17,elt (rS x A0 c0) i),(18,vI (((digs x)).getD i 0)),(19,vI cy),(20,vI ((((digs x)).getD i 0)-cy)),(21,vN i),(22,rS y B0 k0),(23,vN ((digs y).length)),(24,bT)]) (hs:=c_ mv_<|c_ mv_<|c_ (ln_ Tryz.underlying37 fun _ env _ wd hA=>(hr2.grown hA.j.st.gr).els)<|c_ (bi0 (vN i) (vN ((digs y).length)) (h:=by intro env w;(first | (simp [go_sem];done) | (simp [go_sem];omega) | (have gx:=(rg_digs x).getD i;have gy:=(rg_digs y).getD i;have hi64:=hil;simp only [List.getD_eq_getElem?_getD] at gx gy;simp [go_sem];omega))))<|e_) (k:=fun E8 ac wd h_8=>?_)
 clear h_7
 refine then_n ?_
 refine wp_cond_true (eval_tmp (h_8.g (t:=24) rfl)) ?_
 refine rg_ h_8 [[0],[1],[2],[1,2,3],[1,2,3,4],r_ 6,r_ 7] [K_ (vI ((((digs x)).getD i 0)-cy)),K_ (rS y B0 k0),K_ (vN i),K_ (elt (rS y B0 k0) i),K_ (vI (((digs y)).getD i 0)),K_ (vI (((((digs x)).getD i 0)-cy)-(((digs y)).getD i 0))),K_ (vI (((((digs x)).getD i 0)-cy)-(((digs y)).getD i 0)))] (fun E9=>[(0,rS x A0 c0),(1,rS y B0 k0),(4,.slice none 0 0),(5,.slice A ds.length cp),(6,vI cy),(7,vN i),(8,vI (((((digs x)).getD i 0)-cy)-(((digs y)).getD i 0))),(9,vN i),(10,rS x A0 c0),(11,vN ((digs x).length)),(12,bT),(15,rS x A0 c0),(16,vN i),(17,elt (rS x A0 c0) i),(18,vI (((digs x)).getD i 0)),(19,vI cy),(20,vI ((((digs x)).getD i 0)-cy)),(21,vN i),(22,rS y B0 k0),(23,vN ((digs y).length)),(24,bT),(25,vI ((((digs x)).getD i 0)-cy)),(26,rS y B0 k0),(27,vN i),(28,elt (rS y B0 k0) i),(29,vI (((digs y)).getD i 0)),(30,vI (((((digs x)).getD i 0)-cy)-(((digs y)).getD i 0)))]) (hs:=c_ mv_<|c_ mv_<|c_ mv_<|c_ (ia_ Tryz.underlying37 sz3 i i ((i:Nat):Int) (fun _ env _ wd hA=>(hr2.grown hA.j.st.gr).els) (rfl) (by omega) (Nat.mul_one _))<|c_ (le_ i (fun _ env _ wd hA=>(hr2.grown hA.j.st.gr).els) (by omega) (le3 rfl))<|c_ (bi0 (vI ((((digs x)).getD i 0)-cy)) (vI (((digs y)).getD i 0)) (h:=by intro env w;(first | (simp [go_sem];done) | (have gx:=(rg_digs x).getD i;have gy:=(rg_digs y).getD i;have hi64:=hil;simp only [List.getD_eq_getElem?_getD] at gx gy;simp [go_sem];exact IntWalk.i64_in _ (by omega)))))<|c_ mv_<|e_) (k:=fun E9 ac wd h_9=>?_)
 clear h_8
 refine then_n (wp_seq ?_)
 refine rg_ h_9 [[0]] [K_ (vI 0)] (fun E10=>[(0,rS x A0 c0),(1,rS y B0 k0),(4,.slice none 0 0),(5,.slice A ds.length cp),(6,vI 0),(7,vN i),(8,vI (((((digs x)).getD i 0)-cy)-(((digs y)).getD i 0))),(9,vN i),(10,rS x A0 c0),(11,vN ((digs x).length)),(12,bT),(15,rS x A0 c0),(16,vN i),(17,elt (rS x A0 c0) i),(18,vI (((digs x)).getD i 0)),(19,vI cy),(20,vI ((((digs x)).getD i 0)-cy)),(21,vN i),(22,rS y B0 k0),(23,vN ((digs y).length)),(24,bT),(25,vI ((((digs x)).getD i 0)-cy)),(26,rS y B0 k0),(27,vN i),(28,elt (rS y B0 k0) i),(29,vI (((digs y)).getD i 0)),(30,vI (((((digs x)).getD i 0)-cy)-(((digs y)).getD i 0)))]) (hs:=c_ mv_<|e_) (k:=fun E10 ac wd h_10=>?_)
 clear h_9
 refine then_n (wp_seq (wp_seq ?_))
 by_cases h3:((digs x).getD i 0-cy)-(digs y).getD i 0 < 0
 have h3q:=h3;simp only [List.getD_eq_getElem?_getD] at h3q
 refine rg_ h_10 [[0],[0,1]] [K_ (vI (((((digs x)).getD i 0)-cy)-(((digs y)).getD i 0))),K_ bT] (fun E11=>[(0,rS x A0 c0),(1,rS y B0 k0),(4,.slice none 0 0),(5,.slice A ds.length cp),(6,vI 0),(7,vN i),(8,vI (((((digs x)).getD i 0)-cy)-(((digs y)).getD i 0))),(9,vN i),(10,rS x A0 c0),(11,vN ((digs x).length)),(12,bT),(15,rS x A0 c0),(16,vN i),(17,elt (rS x A0 c0) i),(18,vI (((digs x)).getD i 0)),(19,vI cy),(20,vI ((((digs x)).getD i 0)-cy)),(21,vN i),(22,rS y B0 k0),(23,vN ((digs y).length)),(24,bT),(25,vI ((((digs x)).getD i 0)-cy)),(26,rS y B0 k0),(27,vN i),(28,elt (rS y B0 k0) i),(29,vI (((digs y)).getD i 0)),(30,vI (((((digs x)).getD i 0)-cy)-(((digs y)).getD i 0))),(31,vI (((((digs x)).getD i 0)-cy)-(((digs y)).getD i 0))),(32,bT)]) (hs:=c_ mv_<|c_ (bi0 (vI (((((digs x)).getD i 0)-cy)-(((digs y)).getD i 0))) (vI 0) (h:=by intro env w;(first | (simp [go_sem];done) | (simp [go_sem];omega) | (have gx:=(rg_digs x).getD i;have gy:=(rg_digs y).getD i;have hi64:=hil;simp only [List.getD_eq_getElem?_getD] at gx gy;simp [go_sem];omega))))<|e_) (k:=fun E11 ac wd h_11=>?_)
 clear h_10
 refine then_n ?_
 refine wp_cond_true (eval_tmp (h_11.g (t:=32) rfl)) ?_
 refine rg_ h_11 (tri 4) [K_ (vI (((((digs x)).getD i 0)-cy)-(((digs y)).getD i 0))),K_ (vI ((((((digs x)).getD i 0)-cy)-(((digs y)).getD i 0))+65536)),K_ (vI ((((((digs x)).getD i 0)-cy)-(((digs y)).getD i 0))+65536)),K_ (vI 1)] (fun E12=>[(0,rS x A0 c0),(1,rS y B0 k0),(4,.slice none 0 0),(5,.slice A ds.length cp),(6,vI 1),(7,vN i),(8,vI ((((((digs x)).getD i 0)-cy)-(((digs y)).getD i 0))+65536)),(9,vN i),(10,rS x A0 c0),(11,vN ((digs x).length)),(12,bT),(15,rS x A0 c0),(16,vN i),(17,elt (rS x A0 c0) i),(18,vI (((digs x)).getD i 0)),(19,vI cy),(20,vI ((((digs x)).getD i 0)-cy)),(21,vN i),(22,rS y B0 k0),(23,vN ((digs y).length)),(24,bT),(25,vI ((((digs x)).getD i 0)-cy)),(26,rS y B0 k0),(27,vN i),(28,elt (rS y B0 k0) i),(29,vI (((digs y)).getD i 0)),(30,vI (((((digs x)).getD i 0)-cy)-(((digs y)).getD i 0))),(31,vI (((((digs x)).getD i 0)-cy)-(((digs y)).getD i 0))),(32,bT),(33,vI (((((digs x)).getD i 0)-cy)-(((digs y)).getD i 0))),(34,vI ((((((digs x)).getD i 0)-cy)-(((digs y)).getD i 0))+65536))]) (hs:=c_ mv_<|c_ (bi0 (vI (((((digs x)).getD i 0)-cy)-(((digs y)).getD i 0))) (vI 65536) (h:=by intro env w;(first | (simp [go_sem];done) | (have gx:=(rg_digs x).getD i;have gy:=(rg_digs y).getD i;have hi64:=hil;simp only [List.getD_eq_getElem?_getD] at gx gy;simp [go_sem];exact IntWalk.i64_in _ (by omega)))))<|c_ mv_<|c_ mv_<|e_) (k:=fun E12 ac wd h_12=>?_)
 clear h_11
 refine then_n ?_
 refine rg_ h_12 [[0],[1],[1,2],r_ 4,r_ 5] [K_ (.slice A ds.length cp),K_ (vI ((((((digs x)).getD i 0)-cy)-(((digs y)).getD i 0))+65536)),KE_ fun env=>.slice (some ⟨(pb env 2),0,none⟩) 1 1,KE_ fun env=>(env 3),KE_ fun env=>(env 3)] (fun E13=>[(0,rS x A0 c0),(1,rS y B0 k0),(4,.slice none 0 0),(5,(E13 3)),(6,vI 1),(7,vN i),(8,vI ((((((digs x)).getD i 0)-cy)-(((digs y)).getD i 0))+65536)),(9,vN i),(10,rS x A0 c0),(11,vN ((digs x).length)),(12,bT),(15,rS x A0 c0),(16,vN i),(17,elt (rS x A0 c0) i),(18,vI (((digs x)).getD i 0)),(19,vI cy),(20,vI ((((digs x)).getD i 0)-cy)),(21,vN i),(22,rS y B0 k0),(23,vN ((digs y).length)),(24,bT),(25,vI ((((digs x)).getD i 0)-cy)),(26,rS y B0 k0),(27,vN i),(28,elt (rS y B0 k0) i),(29,vI (((digs y)).getD i 0)),(30,vI (((((digs x)).getD i 0)-cy)-(((digs y)).getD i 0))),(31,vI (((((digs x)).getD i 0)-cy)-(((digs y)).getD i 0))),(32,bT),(33,vI (((((digs x)).getD i 0)-cy)-(((digs y)).getD i 0))),(34,vI ((((((digs x)).getD i 0)-cy)-(((digs y)).getD i 0))+65536)),(35,.slice A ds.length cp),(36,vI ((((((digs x)).getD i 0)-cy)-(((digs y)).getD i 0))+65536)),(37,.slice (some ⟨(pb E13 2),0,none⟩) 1 1),(38,(E13 3))]) (W:=[{ i:=2,T:=3,c0:=[vI ((((((digs x)).getD i 0)-cy)-(((digs y)).getD i 0))+65536)] }]) (th:=(some (3,fun env w=>OwnR w w0.heap.size (env 3) (ds ++ [(((((digs x)).getD i 0)-cy)-(((digs y)).getD i 0))+65536])))) (T:=fun E13=>fun w=>OwnR w w0.heap.size (E13 3) (ds ++ [(((((digs x)).getD i 0)-cy)-(((digs y)).getD i 0))+65536])) (M':=fun E13=>[((pb E13 2),3,[vI ((((((digs x)).getD i 0)-cy)-(((digs y)).getD i 0))+65536)])]) (hs:=c_ mv_<|c_ mv_<|c_ (s_bsM rfl rfl 0 rfl rfl 1 rfl (fun {D env ac wd} hA=>by have e36:ac.tmps[36]? = some (vI ((((((digs x)).getD i 0)-cy)-(((digs y)).getD i 0))+65536)):=hA.g rfl;simp [go_sem,e36,Tryz.underlying37]))<|c_ (s_app rfl rfl rfl rfl rfl rfl (fun _=>trivial) rfl (fun _ h=>h) ((((((digs x)).getD i 0)-cy)-(((digs y)).getD i 0))+65536) rfl (by omega) 2 0 rfl rfl rfl rfl rfl (fun _=>rfl) (fun hA=>hA.e rfl))<|c_ mv_<|e_) (k:=fun E13 ac wd h_13=>?_)
 clear h_12
 refine blk_n (then_n ?_)
 refine rg_ h_13 (tri 3) [K_ (vN i),K_ (vI (((i:Nat):Int)+1)),K_ (vI (((i:Nat):Int)+1))] (fun E14=>[(0,rS x A0 c0),(1,rS y B0 k0),(4,.slice none 0 0),(5,(E13 3)),(6,vI 1),(7,vI (((i:Nat):Int)+1)),(8,vI ((((((digs x)).getD i 0)-cy)-(((digs y)).getD i 0))+65536)),(9,vN i),(10,rS x A0 c0),(11,vN ((digs x).length)),(12,bT),(13,vN i),(14,vI (((i:Nat):Int)+1)),(15,rS x A0 c0),(16,vN i),(17,elt (rS x A0 c0) i),(18,vI (((digs x)).getD i 0)),(19,vI cy),(20,vI ((((digs x)).getD i 0)-cy)),(21,vN i),(22,rS y B0 k0),(23,vN ((digs y).length)),(24,bT),(25,vI ((((digs x)).getD i 0)-cy)),(26,rS y B0 k0),(27,vN i),(28,elt (rS y B0 k0) i),(29,vI (((digs y)).getD i 0)),(30,vI (((((digs x)).getD i 0)-cy)-(((digs y)).getD i 0))),(31,vI (((((digs x)).getD i 0)-cy)-(((digs y)).getD i 0))),(32,bT),(33,vI (((((digs x)).getD i 0)-cy)-(((digs y)).getD i 0))),(34,vI ((((((digs x)).getD i 0)-cy)-(((digs y)).getD i 0))+65536)),(35,.slice A ds.length cp),(36,vI ((((((digs x)).getD i 0)-cy)-(((digs y)).getD i 0))+65536)),(37,.slice (some ⟨(pb E13 2),0,none⟩) 1 1),(38,(E13 3))]) (hs:=c_ mv_<|c_ (bi0 (vN i) (vI 1) (h:=by intro env w;(first | (simp [go_sem];done) | (have gx:=(rg_digs x).getD i;have gy:=(rg_digs y).getD i;have hi64:=hil;simp only [List.getD_eq_getElem?_getD] at gx gy;simp [go_sem];exact IntWalk.i64_in _ (by omega)))))<|c_ mv_<|e_) (k:=fun E14 ac wd h_14=>?_)
 clear h_13
 refine then_n ?_
 have eC:((digs x).getD i 0-cy)-(digs y).getD i 0=(digs x).getD i 0-cy-(digs y).getD i 0:=by omega
 obtain ⟨A2,c2,e2⟩:=OwnR.form h_14.st.nowT
 rw [e2] at h_14
 have hS:=(hI.step (rg_digs x) (rg_digs y) eC).2 (by omega)
 exact ⟨⟨A2,c2,ds ++ [((digs x).getD i 0-cy)-(digs y).getD i 0+65536],i+1,1,⟨hS,by omega⟩,(h_14.take (M1:=[]) rfl).re rfl⟩,by rw [sI_eq (h_14.g (t:=7) rfl),hmu];omega⟩
 have h3q:=h3;simp only [List.getD_eq_getElem?_getD] at h3q
 refine rg_ h_10 [[0],[0,1]] [K_ (vI (((((digs x)).getD i 0)-cy)-(((digs y)).getD i 0))),K_ bF] (fun E11=>[(0,rS x A0 c0),(1,rS y B0 k0),(4,.slice none 0 0),(5,.slice A ds.length cp),(6,vI 0),(7,vN i),(8,vI (((((digs x)).getD i 0)-cy)-(((digs y)).getD i 0))),(9,vN i),(10,rS x A0 c0),(11,vN ((digs x).length)),(12,bT),(15,rS x A0 c0),(16,vN i),(17,elt (rS x A0 c0) i),(18,vI (((digs x)).getD i 0)),(19,vI cy),(20,vI ((((digs x)).getD i 0)-cy)),(21,vN i),(22,rS y B0 k0),(23,vN ((digs y).length)),(24,bT),(25,vI ((((digs x)).getD i 0)-cy)),(26,rS y B0 k0),(27,vN i),(28,elt (rS y B0 k0) i),(29,vI (((digs y)).getD i 0)),(30,vI (((((digs x)).getD i 0)-cy)-(((digs y)).getD i 0))),(31,vI (((((digs x)).getD i 0)-cy)-(((digs y)).getD i 0))),(32,bF)]) (hs:=c_ mv_<|c_ (bi0 (vI (((((digs x)).getD i 0)-cy)-(((digs y)).getD i 0))) (vI 0) (h:=by intro env w;(first | (simp [go_sem];done) | (simp [go_sem];omega) | (have gx:=(rg_digs x).getD i;have gy:=(rg_digs y).getD i;have hi64:=hil;simp only [List.getD_eq_getElem?_getD] at gx gy;simp [go_sem];omega))))<|e_) (k:=fun E11 ac wd h_11=>?_)
 clear h_10
 refine then_n ?_
 refine wp_cond_false (eval_tmp (h_11.g (t:=32) rfl)) ?_
 refine wp_skip (then_n ?_)
 refine rg_ h_11 [[0],[1],[1,2],r_ 4,r_ 5] [K_ (.slice A ds.length cp),K_ (vI (((((digs x)).getD i 0)-cy)-(((digs y)).getD i 0))),KE_ fun env=>.slice (some ⟨(pb env 2),0,none⟩) 1 1,KE_ fun env=>(env 3),KE_ fun env=>(env 3)] (fun E12=>[(0,rS x A0 c0),(1,rS y B0 k0),(4,.slice none 0 0),(5,(E12 3)),(6,vI 0),(7,vN i),(8,vI (((((digs x)).getD i 0)-cy)-(((digs y)).getD i 0))),(9,vN i),(10,rS x A0 c0),(11,vN ((digs x).length)),(12,bT),(15,rS x A0 c0),(16,vN i),(17,elt (rS x A0 c0) i),(18,vI (((digs x)).getD i 0)),(19,vI cy),(20,vI ((((digs x)).getD i 0)-cy)),(21,vN i),(22,rS y B0 k0),(23,vN ((digs y).length)),(24,bT),(25,vI ((((digs x)).getD i 0)-cy)),(26,rS y B0 k0),(27,vN i),(28,elt (rS y B0 k0) i),(29,vI (((digs y)).getD i 0)),(30,vI (((((digs x)).getD i 0)-cy)-(((digs y)).getD i 0))),(31,vI (((((digs x)).getD i 0)-cy)-(((digs y)).getD i 0))),(32,bF),(35,.slice A ds.length cp),(36,vI (((((digs x)).getD i 0)-cy)-(((digs y)).getD i 0))),(37,.slice (some ⟨(pb E12 2),0,none⟩) 1 1),(38,(E12 3))]) (W:=[{ i:=2,T:=3,c0:=[vI (((((digs x)).getD i 0)-cy)-(((digs y)).getD i 0))] }]) (th:=(some (3,fun env w=>OwnR w w0.heap.size (env 3) (ds ++ [((((digs x)).getD i 0)-cy)-(((digs y)).getD i 0)])))) (T:=fun E12=>fun w=>OwnR w w0.heap.size (E12 3) (ds ++ [((((digs x)).getD i 0)-cy)-(((digs y)).getD i 0)])) (M':=fun E12=>[((pb E12 2),3,[vI (((((digs x)).getD i 0)-cy)-(((digs y)).getD i 0))])]) (hs:=c_ mv_<|c_ mv_<|c_ (s_bsM rfl rfl 0 rfl rfl 1 rfl (fun {D env ac wd} hA=>by have e36:ac.tmps[36]? = some (vI (((((digs x)).getD i 0)-cy)-(((digs y)).getD i 0))):=hA.g rfl;simp [go_sem,e36,Tryz.underlying37]))<|c_ (s_app rfl rfl rfl rfl rfl rfl (fun _=>trivial) rfl (fun _ h=>h) (((((digs x)).getD i 0)-cy)-(((digs y)).getD i 0)) rfl (by omega) 2 0 rfl rfl rfl rfl rfl (fun _=>rfl) (fun hA=>hA.e rfl))<|c_ mv_<|e_) (k:=fun E12 ac wd h_12=>?_)
 clear h_11
 refine blk_n (then_n ?_)
 refine rg_ h_12 (tri 3) [K_ (vN i),K_ (vI (((i:Nat):Int)+1)),K_ (vI (((i:Nat):Int)+1))] (fun E13=>[(0,rS x A0 c0),(1,rS y B0 k0),(4,.slice none 0 0),(5,(E12 3)),(6,vI 0),(7,vI (((i:Nat):Int)+1)),(8,vI (((((digs x)).getD i 0)-cy)-(((digs y)).getD i 0))),(9,vN i),(10,rS x A0 c0),(11,vN ((digs x).length)),(12,bT),(13,vN i),(14,vI (((i:Nat):Int)+1)),(15,rS x A0 c0),(16,vN i),(17,elt (rS x A0 c0) i),(18,vI (((digs x)).getD i 0)),(19,vI cy),(20,vI ((((digs x)).getD i 0)-cy)),(21,vN i),(22,rS y B0 k0),(23,vN ((digs y).length)),(24,bT),(25,vI ((((digs x)).getD i 0)-cy)),(26,rS y B0 k0),(27,vN i),(28,elt (rS y B0 k0) i),(29,vI (((digs y)).getD i 0)),(30,vI (((((digs x)).getD i 0)-cy)-(((digs y)).getD i 0))),(31,vI (((((digs x)).getD i 0)-cy)-(((digs y)).getD i 0))),(32,bF),(35,.slice A ds.length cp),(36,vI (((((digs x)).getD i 0)-cy)-(((digs y)).getD i 0))),(37,.slice (some ⟨(pb E12 2),0,none⟩) 1 1),(38,(E12 3))]) (hs:=c_ mv_<|c_ (bi0 (vN i) (vI 1) (h:=by intro env w;(first | (simp [go_sem];done) | (have gx:=(rg_digs x).getD i;have gy:=(rg_digs y).getD i;have hi64:=hil;simp only [List.getD_eq_getElem?_getD] at gx gy;simp [go_sem];exact IntWalk.i64_in _ (by omega)))))<|c_ mv_<|e_) (k:=fun E13 ac wd h_13=>?_)
 clear h_12
 refine then_n ?_
 have eC:((digs x).getD i 0-cy)-(digs y).getD i 0=(digs x).getD i 0-cy-(digs y).getD i 0:=by omega
 obtain ⟨A2,c2,e2⟩:=OwnR.form h_13.st.nowT
 rw [e2] at h_13
 have hS:=(hI.step (rg_digs x) (rg_digs y) eC).1 (by omega)
 exact ⟨⟨A2,c2,ds ++ [((digs x).getD i 0-cy)-(digs y).getD i 0],i+1,0,⟨hS,by omega⟩,(h_13.take (M1:=[]) rfl).re rfl⟩,by rw [sI_eq (h_13.g (t:=7) rfl),hmu];omega⟩
 refine rg_ h_7 [[0],[1],[1,2],r_ 4] [K_ (vN i),K_ (rS y B0 k0),K_ (vN ((digs y).length)),K_ bF] (fun E8=>[(0,rS x A0 c0),(1,rS y B0 k0),(4,.slice none 0 0),(5,.slice A ds.length cp),(6,vI cy),(7,vN i),(8,vI ((((digs x)).getD i 0)-cy)),(9,vN i),(10,rS x A0 c0),(11,vN ((digs x).length)),(12,bT),(15,rS x A0 c0),(16,vN i),(17,elt (rS x A0 c0) i),(18,vI (((digs x)).getD i 0)),(19,vI cy),(20,vI ((((digs x)).getD i 0)-cy)),(21,vN i),(22,rS y B0 k0),(23,vN ((digs y).length)),(24,bF)]) (hs:=c_ mv_<|c_ mv_<|c_ (ln_ Tryz.underlying37 fun _ env _ wd hA=>(hr2.grown hA.j.st.gr).els)<|c_ (bi0 (vN i) (vN ((digs y).length)) (h:=by intro env w;(first | (simp [go_sem];done) | (simp [go_sem];omega) | (have gx:=(rg_digs x).getD i;have gy:=(rg_digs y).getD i;have hi64:=hil;simp only [List.getD_eq_getElem?_getD] at gx gy;simp [go_sem];omega))))<|e_) (k:=fun E8 ac wd h_8=>?_)
 clear h_7
 refine then_n ?_
 refine wp_cond_false (eval_tmp (h_8.g (t:=24) rfl)) ?_
 refine wp_skip (then_n (wp_seq ?_))
 refine rg_ h_8 [[0]] [K_ (vI 0)] (fun E9=>[(0,rS x A0 c0),(1,rS y B0 k0),(4,.slice none 0 0),(5,.slice A ds.length cp),(6,vI 0),(7,vN i),(8,vI ((((digs x)).getD i 0)-cy)),(9,vN i),(10,rS x A0 c0),(11,vN ((digs x).length)),(12,bT),(15,rS x A0 c0),(16,vN i),(17,elt (rS x A0 c0) i),(18,vI (((digs x)).getD i 0)),(19,vI cy),(20,vI ((((digs x)).getD i 0)-cy)),(21,vN i),(22,rS y B0 k0),(23,vN ((digs y).length)),(24,bF)]) (hs:=c_ mv_<|e_) (k:=fun E9 ac wd h_9=>?_)
 clear h_8
 refine then_n (wp_seq (wp_seq ?_))
 by_cases h3:(digs x).getD i 0-cy < 0
 have h3q:=h3;simp only [List.getD_eq_getElem?_getD] at h3q
 refine rg_ h_9 [[0],[0,1]] [K_ (vI ((((digs x)).getD i 0)-cy)),K_ bT] (fun E10=>[(0,rS x A0 c0),(1,rS y B0 k0),(4,.slice none 0 0),(5,.slice A ds.length cp),(6,vI 0),(7,vN i),(8,vI ((((digs x)).getD i 0)-cy)),(9,vN i),(10,rS x A0 c0),(11,vN ((digs x).length)),(12,bT),(15,rS x A0 c0),(16,vN i),(17,elt (rS x A0 c0) i),(18,vI (((digs x)).getD i 0)),(19,vI cy),(20,vI ((((digs x)).getD i 0)-cy)),(21,vN i),(22,rS y B0 k0),(23,vN ((digs y).length)),(24,bF),(31,vI ((((digs x)).getD i 0)-cy)),(32,bT)]) (hs:=c_ mv_<|c_ (bi0 (vI ((((digs x)).getD i 0)-cy)) (vI 0) (h:=by intro env w;(first | (simp [go_sem];done) | (simp [go_sem];omega) | (have gx:=(rg_digs x).getD i;have gy:=(rg_digs y).getD i;have hi64:=hil;simp only [List.getD_eq_getElem?_getD] at gx gy;simp [go_sem];omega))))<|e_) (k:=fun E10 ac wd h_10=>?_)
 clear h_9
 refine then_n ?_
 refine wp_cond_true (eval_tmp (h_10.g (t:=32) rfl)) ?_
 refine rg_ h_10 (tri 4) [K_ (vI ((((digs x)).getD i 0)-cy)),K_ (vI (((((digs x)).getD i 0)-cy)+65536)),K_ (vI (((((digs x)).getD i 0)-cy)+65536)),K_ (vI 1)] (fun E11=>[(0,rS x A0 c0),(1,rS y B0 k0),(4,.slice none 0 0),(5,.slice A ds.length cp),(6,vI 1),(7,vN i),(8,vI (((((digs x)).getD i 0)-cy)+65536)),(9,vN i),(10,rS x A0 c0),(11,vN ((digs x).length)),(12,bT),(15,rS x A0 c0),(16,vN i),(17,elt (rS x A0 c0) i),(18,vI (((digs x)).getD i 0)),(19,vI cy),(20,vI ((((digs x)).getD i 0)-cy)),(21,vN i),(22,rS y B0 k0),(23,vN ((digs y).length)),(24,bF),(31,vI ((((digs x)).getD i 0)-cy)),(32,bT),(33,vI ((((digs x)).getD i 0)-cy)),(34,vI (((((digs x)).getD i 0)-cy)+65536))]) (hs:=c_ mv_<|c_ (bi0 (vI ((((digs x)).getD i 0)-cy)) (vI 65536) (h:=by intro env w;(first | (simp [go_sem];done) | (have gx:=(rg_digs x).getD i;have gy:=(rg_digs y).getD i;have hi64:=hil;simp only [List.getD_eq_getElem?_getD] at gx gy;simp [go_sem];exact IntWalk.i64_in _ (by omega)))))<|c_ mv_<|c_ mv_<|e_) (k:=fun E11 ac wd h_11=>?_)
 clear h_10
 refine then_n ?_
 refine rg_ h_11 [[0],[1],[1,2],r_ 4,r_ 5] [K_ (.slice A ds.length cp),K_ (vI (((((digs x)).getD i 0)-cy)+65536)),KE_ fun env=>.slice (some ⟨(pb env 2),0,none⟩) 1 1,KE_ fun env=>(env 3),KE_ fun env=>(env 3)] (fun E12=>[(0,rS x A0 c0),(1,rS y B0 k0),(4,.slice none 0 0),(5,(E12 3)),(6,vI 1),(7,vN i),(8,vI (((((digs x)).getD i 0)-cy)+65536)),(9,vN i),(10,rS x A0 c0),(11,vN ((digs x).length)),(12,bT),(15,rS x A0 c0),(16,vN i),(17,elt (rS x A0 c0) i),(18,vI (((digs x)).getD i 0)),(19,vI cy),(20,vI ((((digs x)).getD i 0)-cy)),(21,vN i),(22,rS y B0 k0),(23,vN ((digs y).length)),(24,bF),(31,vI ((((digs x)).getD i 0)-cy)),(32,bT),(33,vI ((((digs x)).getD i 0)-cy)),(34,vI (((((digs x)).getD i 0)-cy)+65536)),(35,.slice A ds.length cp),(36,vI (((((digs x)).getD i 0)-cy)+65536)),(37,.slice (some ⟨(pb E12 2),0,none⟩) 1 1),(38,(E12 3))]) (W:=[{ i:=2,T:=3,c0:=[vI (((((digs x)).getD i 0)-cy)+65536)] }]) (th:=(some (3,fun env w=>OwnR w w0.heap.size (env 3) (ds ++ [((((digs x)).getD i 0)-cy)+65536])))) (T:=fun E12=>fun w=>OwnR w w0.heap.size (E12 3) (ds ++ [((((digs x)).getD i 0)-cy)+65536])) (M':=fun E12=>[((pb E12 2),3,[vI (((((digs x)).getD i 0)-cy)+65536)])]) (hs:=c_ mv_<|c_ mv_<|c_ (s_bsM rfl rfl 0 rfl rfl 1 rfl (fun {D env ac wd} hA=>by have e36:ac.tmps[36]? = some (vI (((((digs x)).getD i 0)-cy)+65536)):=hA.g rfl;simp [go_sem,e36,Tryz.underlying37]))<|c_ (s_app rfl rfl rfl rfl rfl rfl (fun _=>trivial) rfl (fun _ h=>h) (((((digs x)).getD i 0)-cy)+65536) rfl (by omega) 2 0 rfl rfl rfl rfl rfl (fun _=>rfl) (fun hA=>hA.e rfl))<|c_ mv_<|e_) (k:=fun E12 ac wd h_12=>?_)
 clear h_11
 refine blk_n (then_n ?_)
 refine rg_ h_12 (tri 3) [K_ (vN i),K_ (vI (((i:Nat):Int)+1)),K_ (vI (((i:Nat):Int)+1))] (fun E13=>[(0,rS x A0 c0),(1,rS y B0 k0),(4,.slice none 0 0),(5,(E12 3)),(6,vI 1),(7,vI (((i:Nat):Int)+1)),(8,vI (((((digs x)).getD i 0)-cy)+65536)),(9,vN i),(10,rS x A0 c0),(11,vN ((digs x).length)),(12,bT),(13,vN i),(14,vI (((i:Nat):Int)+1)),(15,rS x A0 c0),(16,vN i),(17,elt (rS x A0 c0) i),(18,vI (((digs x)).getD i 0)),(19,vI cy),(20,vI ((((digs x)).getD i 0)-cy)),(21,vN i),(22,rS y B0 k0),(23,vN ((digs y).length)),(24,bF),(31,vI ((((digs x)).getD i 0)-cy)),(32,bT),(33,vI ((((digs x)).getD i 0)-cy)),(34,vI (((((digs x)).getD i 0)-cy)+65536)),(35,.slice A ds.length cp),(36,vI (((((digs x)).getD i 0)-cy)+65536)),(37,.slice (some ⟨(pb E12 2),0,none⟩) 1 1),(38,(E12 3))]) (hs:=c_ mv_<|c_ (bi0 (vN i) (vI 1) (h:=by intro env w;(first | (simp [go_sem];done) | (have gx:=(rg_digs x).getD i;have gy:=(rg_digs y).getD i;have hi64:=hil;simp only [List.getD_eq_getElem?_getD] at gx gy;simp [go_sem];exact IntWalk.i64_in _ (by omega)))))<|c_ mv_<|e_) (k:=fun E13 ac wd h_13=>?_)
 clear h_12
 refine then_n ?_
 have eC:(digs x).getD i 0-cy=(digs x).getD i 0-cy-(digs y).getD i 0:=by have z2:(digs y).getD i 0=0:=getD_out (by omega);omega
 obtain ⟨A2,c2,e2⟩:=OwnR.form h_13.st.nowT
 rw [e2] at h_13
 have hS:=(hI.step (rg_digs x) (rg_digs y) eC).2 (by omega)
 exact ⟨⟨A2,c2,ds ++ [(digs x).getD i 0-cy+65536],i+1,1,⟨hS,by omega⟩,(h_13.take (M1:=[]) rfl).re rfl⟩,by rw [sI_eq (h_13.g (t:=7) rfl),hmu];omega⟩
 have h3q:=h3;simp only [List.getD_eq_getElem?_getD] at h3q
 refine rg_ h_9 [[0],[0,1]] [K_ (vI ((((digs x)).getD i 0)-cy)),K_ bF] (fun E10=>[(0,rS x A0 c0),(1,rS y B0 k0),(4,.slice none 0 0),(5,.slice A ds.length cp),(6,vI 0),(7,vN i),(8,vI ((((digs x)).getD i 0)-cy)),(9,vN i),(10,rS x A0 c0),(11,vN ((digs x).length)),(12,bT),(15,rS x A0 c0),(16,vN i),(17,elt (rS x A0 c0) i),(18,vI (((digs x)).getD i 0)),(19,vI cy),(20,vI ((((digs x)).getD i 0)-cy)),(21,vN i),(22,rS y B0 k0),(23,vN ((digs y).length)),(24,bF),(31,vI ((((digs x)).getD i 0)-cy)),(32,bF)]) (hs:=c_ mv_<|c_ (bi0 (vI ((((digs x)).getD i 0)-cy)) (vI 0) (h:=by intro env w;(first | (simp [go_sem];done) | (simp [go_sem];omega) | (have gx:=(rg_digs x).getD i;have gy:=(rg_digs y).getD i;have hi64:=hil;simp only [List.getD_eq_getElem?_getD] at gx gy;simp [go_sem];omega))))<|e_) (k:=fun E10 ac wd h_10=>?_)
 clear h_9
 refine then_n ?_
 refine wp_cond_false (eval_tmp (h_10.g (t:=32) rfl)) ?_
 refine wp_skip (then_n ?_)
 refine rg_ h_10 [[0],[1],[1,2],r_ 4,r_ 5] [K_ (.slice A ds.length cp),K_ (vI ((((digs x)).getD i 0)-cy)),KE_ fun env=>.slice (some ⟨(pb env 2),0,none⟩) 1 1,KE_ fun env=>(env 3),KE_ fun env=>(env 3)] (fun E11=>[(0,rS x A0 c0),(1,rS y B0 k0),(4,.slice none 0 0),(5,(E11 3)),(6,vI 0),(7,vN i),(8,vI ((((digs x)).getD i 0)-cy)),(9,vN i),(10,rS x A0 c0),(11,vN ((digs x).length)),(12,bT),(15,rS x A0 c0),(16,vN i),(17,elt (rS x A0 c0) i),(18,vI (((digs x)).getD i 0)),(19,vI cy),(20,vI ((((digs x)).getD i 0)-cy)),(21,vN i),(22,rS y B0 k0),(23,vN ((digs y).length)),(24,bF),(31,vI ((((digs x)).getD i 0)-cy)),(32,bF),(35,.slice A ds.length cp),(36,vI ((((digs x)).getD i 0)-cy)),(37,.slice (some ⟨(pb E11 2),0,none⟩) 1 1),(38,(E11 3))]) (W:=[{ i:=2,T:=3,c0:=[vI ((((digs x)).getD i 0)-cy)] }]) (th:=(some (3,fun env w=>OwnR w w0.heap.size (env 3) (ds ++ [(((digs x)).getD i 0)-cy])))) (T:=fun E11=>fun w=>OwnR w w0.heap.size (E11 3) (ds ++ [(((digs x)).getD i 0)-cy])) (M':=fun E11=>[((pb E11 2),3,[vI ((((digs x)).getD i 0)-cy)])]) (hs:=c_ mv_<|c_ mv_<|c_ (s_bsM rfl rfl 0 rfl rfl 1 rfl (fun {D env ac wd} hA=>by have e36:ac.tmps[36]? = some (vI ((((digs x)).getD i 0)-cy)):=hA.g rfl;simp [go_sem,e36,Tryz.underlying37]))<|c_ (s_app rfl rfl rfl rfl rfl rfl (fun _=>trivial) rfl (fun _ h=>h) ((((digs x)).getD i 0)-cy) rfl (by omega) 2 0 rfl rfl rfl rfl rfl (fun _=>rfl) (fun hA=>hA.e rfl))<|c_ mv_<|e_) (k:=fun E11 ac wd h_11=>?_)
 clear h_10
 refine blk_n (then_n ?_)
 refine rg_ h_11 (tri 3) [K_ (vN i),K_ (vI (((i:Nat):Int)+1)),K_ (vI (((i:Nat):Int)+1))] (fun E12=>[(0,rS x A0 c0),(1,rS y B0 k0),(4,.slice none 0 0),(5,(E11 3)),(6,vI 0),(7,vI (((i:Nat):Int)+1)),(8,vI ((((digs x)).getD i 0)-cy)),(9,vN i),(10,rS x A0 c0),(11,vN ((digs x).length)),(12,bT),(13,vN i),(14,vI (((i:Nat):Int)+1)),(15,rS x A0 c0),(16,vN i),(17,elt (rS x A0 c0) i),(18,vI (((digs x)).getD i 0)),(19,vI cy),(20,vI ((((digs x)).getD i 0)-cy)),(21,vN i),(22,rS y B0 k0),(23,vN ((digs y).length)),(24,bF),(31,vI ((((digs x)).getD i 0)-cy)),(32,bF),(35,.slice A ds.length cp),(36,vI ((((digs x)).getD i 0)-cy)),(37,.slice (some ⟨(pb E11 2),0,none⟩) 1 1),(38,(E11 3))]) (hs:=c_ mv_<|c_ (bi0 (vN i) (vI 1) (h:=by intro env w;(first | (simp [go_sem];done) | (have gx:=(rg_digs x).getD i;have gy:=(rg_digs y).getD i;have hi64:=hil;simp only [List.getD_eq_getElem?_getD] at gx gy;simp [go_sem];exact IntWalk.i64_in _ (by omega)))))<|c_ mv_<|e_) (k:=fun E12 ac wd h_12=>?_)
 clear h_11
 refine then_n ?_
 have eC:(digs x).getD i 0-cy=(digs x).getD i 0-cy-(digs y).getD i 0:=by have z2:(digs y).getD i 0=0:=getD_out (by omega);omega
 obtain ⟨A2,c2,e2⟩:=OwnR.form h_12.st.nowT
 rw [e2] at h_12
 have hS:=(hI.step (rg_digs x) (rg_digs y) eC).1 (by omega)
 exact ⟨⟨A2,c2,ds ++ [(digs x).getD i 0-cy],i+1,0,⟨hS,by omega⟩,(h_12.take (M1:=[]) rfl).re rfl⟩,by rw [sI_eq (h_12.g (t:=7) rfl),hmu];omega⟩
 refine rg_ h_5 [[0],[1],[1,2],r_ 4] [K_ (vN i),K_ (rS x A0 c0),K_ (vN ((digs x).length)),K_ bF] (fun E6=>[(0,rS x A0 c0),(1,rS y B0 k0),(4,.slice none 0 0),(5,.slice A ds.length cp),(6,vI cy),(7,vN i),(9,vN i),(10,rS x A0 c0),(11,vN ((digs x).length)),(12,bF)]) (hs:=c_ mv_<|c_ mv_<|c_ (ln_ Tryz.underlying37 fun _ env _ wd hA=>(hr.grown hA.j.st.gr).els)<|c_ (bi0 (vN i) (vN ((digs x).length)) (h:=by intro env w;(first | (simp [go_sem];done) | (simp [go_sem];omega) | (have gx:=(rg_digs x).getD i;have gy:=(rg_digs y).getD i;have hi64:=hil;simp only [List.getD_eq_getElem?_getD] at gx gy;simp [go_sem];omega))))<|e_) (k:=fun E6 ac wd h_6=>?_)
 clear h_5
 refine then_n ?_
 refine wp_cond_false (eval_tmp (h_6.g (t:=12) rfl)) ?_
 refine wp_exit (then_e (then_e (blk_x (then_n (wp_seq ?_)))))
 refine rg_ h_6 (tri 3) [K_ (.slice A ds.length cp),K_ (rS (nat ds) A cp),K_ (rS (nat ds) A cp)] (fun E7=>[(4,rS (nat ds) A cp)]) (hs:=c_ mv_<|c_ (cw_ Tryz.func84 (h:=fun _ env _ wd hA=>⟨_,trim_core wd A cp ds (OwnR.row (by omega) (hA.thO rfl)) hI.g,rfl⟩))<|c_ mv_<|e_) (k:=fun E7 ac wd h_7=>?_)
 clear h_6
 refine then_n (wp_ret ?_)
 have s4:=h_7.g (t:=4) rfl
 refine leave (v:=.slice A ((digs (nat ds)).length) cp) h_7.df (by simp [results,Tryz.results83,go_sem,Array.getD_eq_getD_getElem?,s4]) ?_
 have hT:=h_7.st.nowT
 have hm:=digs_mono hy hle
 have eN:nat ds=x-y:=by rw [hI.done (by omega) (by omega) (by rw [nat_digs' (Int.le_trans hy hle),nat_digs' hy];exact hle),nat_digs' (Int.le_trans hy hle),nat_digs' hy]
 refine ⟨_,rfl,h_7.st.below,?_,OwnR.new hT _⟩
 rw [← eN]
 exact Row.trim hI.g (OwnR.row (by omega) hT)
end Go.Proofs.YtdfkghpgekmmlaaGreat
namespace Go.Proofs.YtdfkghpgekmmlaaGreat
open Go.RowKit
def Sm (z:Int):Prop:=-10000000000000000000000000000000000000000000000000000000000000000000000000000000000000000000000000000≤z∧z≤10000000000000000000000000000000000000000000000000000000000000000000000000000000000000000000000000000
theorem Sm.len {z:Int} (h:Sm z):(digs z).length≤21:=by
 refine digs_len_le ?_
 have e:(65536:Int) ^ 21=139984046386112763159840142535527767382602843577165595931249318810236991948760059086304843329475444736:=by rfl
 rw [e]
 unfold Sm at h
 omega
abbrev vB (z:Int) (A:Option Addr) (c:Nat):Value:=.agg #[.bool (decide (z < 0)),.slice A (digs z).length c]
def bA:Value→Option Addr
  | .agg #[_,s]=>sA s
  | _=>none
def bC:Value→Nat
  | .agg #[_,s]=>sC s
  | _=>0
def bigF (z:Int) (v:Value):Value:=vB z (bA v) (bC v)
def BigX (ex:Option Nat) (w:World) (v:Value) (z:Int):Prop:=∃ A c,v=vB z A c∧RowX ex w (.slice A (digs z).length c) (digs z)
theorem BigX.form {ex:Option Nat} {w:World} {v:Value} {z:Int} (h:BigX ex w v z):v=bigF z v:=by
 obtain ⟨A,c,rfl,_⟩:=h;rfl
theorem BigX.keep {ex:Option Nat} {w w':World} {v:Value} {z:Int} (h:BigX ex w v z) (hk:Keep ex w w'):BigX ex w' v z:=by
 obtain ⟨A,c,rfl,h⟩:=h;exact ⟨A,c,rfl,h.keep hk⟩
theorem BigX.row {ex:Option Nat} {w:World} {v:Value} {z:Int} (h:BigX ex w v z):Row w (.slice (bA v) (digs z).length (bC v)) (digs z):=by
 obtain ⟨A,c,rfl,h⟩:=h;exact h.1
theorem Facts.big {L:List (World→Prop)} {w:World} {ex:Option Nat} {v:Value} {z:Int} (h:Facts L w) (k:Nat) (hk:L[k]? = some (fun w=>BigX ex w v z)):Row w (.slice (bA v) (digs z).length (bC v)) (digs z):=
 BigX.row (ex:=ex) (h.get k hk)
theorem At.big {R:Reg} {i:Nat} {D:Nat→Bool} {env:Env} {a:Act} {w:World} (h:At R i D env a w) (j:Nat) {ex:Option Nat} {z:Int} (hj:((R.cl.getD i []).contains j && !(j == i))=true) (hs:((R.cl.getD j []).contains j)=true) (hF:R.F.filter (fun p=>Nat.beq p.1 j)=[(j,fun env w=>BigX ex w (env j) z)]):Row w (.slice (bA (env j)) (digs z).length (bC (env j))) (digs z):=
 BigX.row (h.fact j (φ:=fun v w=>BigX ex w v z) hj hs hF)
def BigN (B:Nat) (w:World) (v:Value) (z:Int):Prop:=∃ A c,v=vB z A c∧RowN B w (.slice A (digs z).length c) (digs z)
theorem toG {P:Program} {f:FuncId} {args:Array Value} {w:World} {z:Int} {g:Nat} (hg:g < w.heap.size) (h:Calls P f args w fun e w'=>∃ v,e = .returned v∧Below w.heap.size w w'∧BigN w.heap.size w' v z):Calls P f args w fun e w'=>∃ v,e = .returned v∧Below w.heap.size w w'∧BigX (some g) w' v z:=by
 refine h.mono ?_
 rintro e w' ⟨v,h1,h2,A,c,h3,h4⟩
 refine ⟨v,h1,h2,A,c,h3,h4.1,fun g' hg' hb=>?_⟩
 obtain rfl:=Option.some.inj hg'
 have:=h4.2 _ hb
 omega
theorem rowG {P:Program} {f:FuncId} {args:Array Value} {w:World} {ds:List Int} {g:Nat} (hg:g < w.heap.size) (h:Calls P f args w fun e w'=>∃ v,e = .returned v∧Below w.heap.size w w'∧RowN w.heap.size w' v ds):Calls P f args w fun e w'=>∃ v,e = .returned v∧Below w.heap.size w w'∧RowX (some g) w' v ds:=by
 refine h.mono ?_
 rintro e w' ⟨v,h1,h2,h4⟩
 refine ⟨v,h1,h2,h4.1,fun g' hg' hb=>?_⟩
 obtain rfl:=Option.some.inj hg'
 have:=h4.2 _ hb
 omega
theorem RowN.keep {B:Nat} {w w':World} {v:Value} {ds:List Int} (h:RowN B w v ds) (hk:Keep none w w'):RowN B w' v ds:=⟨(RowX.keep ⟨h.1,Off.none _⟩ hk).1,h.2⟩
theorem RowN.form {B:Nat} {w:World} {v:Value} {ds:List Int} (h:RowN B w v ds):v=slF ds v:=RowX.form (ex:=none) ⟨h.1,Off.none _⟩
theorem RowN.row {B:Nat} {w:World} {v:Value} {ds:List Int} (h:RowN B w v ds):RowN B w (.slice (sA v) ds.length (sC v)) ds:=by
 have e:=h.form
 unfold slF at e
 rw [← e];exact h
theorem BigN.keep {B:Nat} {w w':World} {v:Value} {z:Int} (h:BigN B w v z) (hk:Keep none w w'):BigN B w' v z:=by
 obtain ⟨A,c,rfl,h⟩:=h;exact ⟨A,c,rfl,h.keep hk⟩
theorem BigN.form {B:Nat} {w:World} {v:Value} {z:Int} (h:BigN B w v z):v=bigF z v:=by
 obtain ⟨A,c,rfl,_⟩:=h;rfl
theorem BigN.row {B:Nat} {w:World} {v:Value} {z:Int} (h:BigN B w v z):RowN B w (.slice (bA v) (digs z).length (bC v)) (digs z):=by
 obtain ⟨A,c,rfl,h⟩:=h;exact h
theorem Facts.rowN {L:List (World→Prop)} {w:World} {B:Nat} {v:Value} {ds:List Int} (h:Facts L w) (k:Nat) (hk:L[k]? = some (fun w=>RowN B w v ds)):Row w (.slice (sA v) ds.length (sC v)) ds:=(RowN.row (B:=B) (h.get k hk)).1
theorem Facts.bigN {L:List (World→Prop)} {w:World} {B:Nat} {v:Value} {z:Int} (h:Facts L w) (k:Nat) (hk:L[k]? = some (fun w=>BigN B w v z)):Row w (.slice (bA v) (digs z).length (bC v)) (digs z):=(BigN.row (B:=B) (h.get k hk)).1
theorem At.rowN {R:Reg} {i:Nat} {D:Nat→Bool} {env:Env} {a:Act} {w:World} (h:At R i D env a w) (j:Nat) {B:Nat} {ds:List Int} (hj:((R.cl.getD i []).contains j && !(j == i))=true) (hs:((R.cl.getD j []).contains j)=true) (hF:R.F.filter (fun p=>Nat.beq p.1 j)=[(j,fun env w=>RowN B w (env j) ds)]):Row w (.slice (sA (env j)) ds.length (sC (env j))) ds:=(RowN.row (B:=B) (h.fact j (φ:=fun v w=>RowN B w v ds) hj hs hF)).1
theorem At.bigN {R:Reg} {i:Nat} {D:Nat→Bool} {env:Env} {a:Act} {w:World} (h:At R i D env a w) (j:Nat) {B:Nat} {z:Int} (hj:((R.cl.getD i []).contains j && !(j == i))=true) (hs:((R.cl.getD j []).contains j)=true) (hF:R.F.filter (fun p=>Nat.beq p.1 j)=[(j,fun env w=>BigN B w (env j) z)]):Row w (.slice (bA (env j)) (digs z).length (bC (env j))) (digs z):=(BigN.row (B:=B) (h.fact j (φ:=fun v w=>BigN B w v z) hj hs hF)).1
theorem upN {P:Program} {f:FuncId} {args:Array Value} {w:World} {z:Int} {B:Nat} (hB:B≤w.heap.size) (h:Calls P f args w fun e w'=>∃ v,e = .returned v∧Below w.heap.size w w'∧BigN w.heap.size w' v z):Calls P f args w fun e w'=>∃ v,e = .returned v∧Below w.heap.size w w'∧BigN B w' v z:=by
 refine h.mono ?_
 rintro e w' ⟨v,h1,h2,A,c,h3,h4,h5⟩
 exact ⟨v,h1,h2,A,c,h3,h4,fun b hb=>Nat.le_trans hB (h5 b hb)⟩
theorem upR {P:Program} {f:FuncId} {args:Array Value} {w:World} {ds:List Int} {B:Nat} (hB:B≤w.heap.size) (h:Calls P f args w fun e w'=>∃ v,e = .returned v∧Below w.heap.size w w'∧RowN w.heap.size w' v ds):Calls P f args w fun e w'=>∃ v,e = .returned v∧Below w.heap.size w w'∧RowN B w' v ds:=by
 refine h.mono ?_
 rintro e w' ⟨v,h1,h2,h4,h5⟩
 exact ⟨v,h1,h2,h4,fun b hb=>Nat.le_trans hB (h5 b hb)⟩
theorem BigN.mk {B:Nat} {w:World} {b:Bool} {A:Option Addr} {c:Nat} {z z':Int} (hb:b=decide (z' < 0)) (hd:digs z=digs z') (h:RowN B w (.slice A (digs z).length c) (digs z)):BigN B w (.agg #[.bool b,.slice A (digs z).length c]) z':=by
 subst hb
 rw [hd] at h ⊢
 exact ⟨A,c,rfl,h⟩
theorem Facts.rN {L:List (World→Prop)} {w:World} {B:Nat} {v:Value} {ds:List Int} (h:Facts L w) (k:Nat) (hk:L[k]? = some (fun w=>RowN B w v ds)):RowN B w (.slice (sA v) ds.length (sC v)) ds:=RowN.row (h.get k hk)
theorem Facts.bN {L:List (World→Prop)} {w:World} {B:Nat} {v:Value} {z:Int} (h:Facts L w) (k:Nat) (hk:L[k]? = some (fun w=>BigN B w v z)):RowN B w (.slice (bA v) (digs z).length (bC v)) (digs z):=BigN.row (h.get k hk)
theorem RowN.trim {B:Nat} {w:World} {A:Option Addr} {c:Nat} {ds:List Int} (hg:Rg ds) (h:RowN B w (.slice A ds.length c) ds):RowN B w (.slice A (digs (nat ds)).length c) (digs (nat ds)):=⟨Row.trim hg h.1,fun b hb=>h.2 b (by cases A <;> exact hb)⟩
theorem RowN.neg {B:Nat} {w:World} {A:Option Addr} {c:Nat} {z:Int} (h:RowN B w (.slice A (digs z).length c) (digs z)):RowN B w (.slice A (digs (-z)).length c) (digs (-z)):=by rw [digs_neg];exact h
theorem s_bsN {P:Program} {R:Reg} {Q:Exit→Act→World→Prop} {i:Nat} {o:Oper} (ho:R.ops[i]? = some o) (hf:free' R i=true) (hw:∀ {D env a w},At R i D env a w→Region.wanted o (yielded R.ops a.tmps)=true) (zs:List Int) (hlen:0 < zs.length∧zs.length≤64) (hV:R.v? i=some fun env=>slF zs (env i)) (hF:R.F.filter (fun p=>Nat.beq p.1 i)=[(i,fun env w=>RowN R.w0.heap.size w (env i) zs)]) (hint:intFree R=true) (hex:R.ex=none)
    (hrun:∀ {D env a w},At R i D env a w→(execOp a.eval o).run P w = .ok (.value (.slice (some ⟨w.heap.size,0,none⟩) zs.length zs.length)) (w.alloc (.cells (zs.map vi).toArray 3 (0,0)))):SR P Q R i:=
  s_gen ho hf (fun {D env a w} hA K hK=>by
    rw [if_pos (hw hA)]
    unfold Oper.wp
    rw [hrun hA]
    have hs':=hA.j.st.call (w':=w.alloc (.cells (zs.map vi).toArray 3 (0,0))) ⟨rfl,rfl,rfl,by simp,fun k hk=>Below.heap_alloc _ _ _ hk⟩
    have h0:=hA.j.st.gr.size
    refine hK _ _ hs' (fun w'' ha=>f_fact (φ:=fun v w=>RowN R.w0.heap.size w v zs) (form:=slF zs) hV (fun v w h=>h.form) hF hA.ok ho (RowN.keep ?_ (by have:=apart_keep hint hs' ha;rwa [hex] at this)))
    refine ⟨⟨_,_,rfl,Nat.le_refl _,by omega,.inr ⟨w.heap.size,0,_,_,rfl,heap_alloc_new w _,fun j hj=>?_⟩⟩,fun b hb=>?_⟩
    · simp only [Nat.zero_add,List.getElem?_toArray,List.getElem?_map,List.getD_eq_getElem?_getD]
      rw [List.getElem?_eq_getElem hj]
      rfl
    · simp only [Value.ownBlock,Option.some.injEq] at hb
      omega)
theorem Row.neg {w:World} {A:Option Addr} {c:Nat} {z:Int} (h:Row w (.slice A (digs z).length c) (digs z)):Row w (.slice A (digs (-z)).length c) (digs (-z)):=by rw [digs_neg];exact h
end Go.Proofs.YtdfkghpgekmmlaaGreat
namespace Go.Proofs.YtdfkghpgekmmlaaGreat
open Go.RowKit
section
variable {P:Program} {Q:Exit→Act→World→Prop} {R:Reg} {i:Nat} {o:Oper}
theorem cb_ {f:FuncId} {fn:Func} {ps:Array Operand} {ts:Array TypeId} (hfn:P.funcs[f]? = some fn) (z:Int) (ho:R.ops[i]? = some o:=by rfl) (hf:free' R i=true:=by rfl) (hop:o.op = .call { callee:=.value (.func f),args:=ps,argTypes:=ts }:=by rfl) (hname:(fn.name == "runtime.NumGoroutine")=false:=by kernel_rfl) (hb:fn.body.isSome=true:=by rfl) (hw:∀ D env a w,At R i D env a w→Region.wanted o (yielded R.ops a.tmps)=true:=by intro D env a w hA;first | exact wanted_none rfl _ | exact hA.gy rfl rfl rfl) (hV:R.v? i=some (fun env=>bigF z (env i)):=by rfl) (hF:R.F.filter (fun p=>Nat.beq p.1 i)=[(i,fun env w=>BigN R.w0.heap.size w (env i) z)]:=by rfl) (hint:intFree R=true:=by rfl) (hex:R.ex=none:=by rfl) (h:∀ D env a w,At R i D env a w→∃ vs:List Value,(Calls P f vs.toArray w fun e w'=>∃ v,e = .returned v∧Below w.heap.size w w'∧BigN w.heap.size w' v z)∧ps.toList.map (opAt R i env)=vs.map some):SR P Q R i:=
  cf_ hfn (fun v w=>BigN R.w0.heap.size w v z) (bigF z) ho hf hop hname hb hw hV hF hint (fun v w h=>h.form) (fun v w w' hk h=>by rw [hex] at hk;exact h.keep hk) (fun D env a w hA=>by
    obtain ⟨vs,h1,h2⟩:=h D env a w hA
    exact ⟨vs,upN hA.j.st.gr.size h1,h2⟩)
end
end Go.Proofs.YtdfkghpgekmmlaaGreat
namespace Go.Proofs.YtdfkghpgekmmlaaGreat
open Go.RowKit
abbrev vG (g n:Nat):Value:=.slice (some ⟨g,0,none⟩) n n
section
variable {R:Reg} {Q:Exit→Act→World→Prop} {i:Nat} {o:Oper}
theorem s_mk (ho:R.ops[i]? = some o) (hf:free R i=true) (hg:o.guard=none) {x y:Operand} (hop:o.op = .makeSlice 37 x y) (n:Nat) (hV:R.v? i=some fun env=>vG (pb env i) n) (hF:noF R i=true) (hth:R.th=some (i,fun env w=>OwnR w R.w0.heap.size (vG (pb env i) n) (List.replicate n 0)))
    (z:Int) (hz:z=(n:Int)) (hn:n≤1000000) (hx:∀ env,opAt R i env x=some (vI z)) (hy:∀ env,opAt R i env y=some (vI z)):SR Tryz.prog Q R i:=
  s_th ho hf (fun {D env a w} hA K hK=>by
    rw [if_pos (wanted_none hg _)]
    have hnD:D i=false:=hA.i
    have hst0:=hA.j.st
    obtain ⟨i0,hi,hz0,hz1,hz2⟩:=info_parts (show (Tryz.prog.info? 3).map (fun i=>(i.zero,i.size,i.bytes))=some (some (.int .i64 0),1,8) by kernel_rfl)
    obtain ⟨w',hr,h2,h3⟩:=run_make_full (P:=Tryz.prog) w R.w0.heap.size 37 3 i0 (.int .i64 0) 1 Tryz.underlying37 hi hz0 hz1 .i64 .i64 n (by rw [hz2];omega) (by unfold maxLen;omega) hst0.gr.size
    have hrun:(execOp a.eval o).run Tryz.prog w = .ok (.value (vG w.heap.size n)) w':=by
      have e1:=hA.e (hx env)
      have e2:=hA.e (hy env)
      subst hz
      unfold execOp
      simp [hop,e1,e2,hr]
    unfold Oper.wp
    rw [hrun]
    have hown:OwnR w' R.w0.heap.size (vG w.heap.size n) (List.replicate n 0):=by
      unfold OwnR
      rw [List.length_replicate,List.map_replicate]
      have e:(madeCells (Value.int .i64 0).cells (n*1)).toList=List.replicate n (vi 0):=by
        rw [Nat.mul_one];exact toList_madeCells_one _ _
      rw [e] at h2
      exact h2
    have hself:=cl_self hA.ok ho
    have hb:Below w.heap.size w w':=⟨h3.os,h3.tape,h3.output,h3.size,fun k hk=>h3.block k hk (by simp)⟩
    have hst1:=hst0.call hb
    have e1:restr (R.cl.getD i []) (upd env i (vG w.heap.size n)) i=vG w.heap.size n:=by unfold restr upd;rw [if_pos (List.contains_iff_mem.2 hself),if_pos rfl]
    refine hK (vG w.heap.size n) w' ?_ (fun w'' _=>⟨fun V' hV'=>?_,fun p hp he=>?_⟩)
    · have ht1:R.tht (upB D i) (upd env i (vG w.heap.size n))=fun w''=>OwnR w'' R.w0.heap.size (vG w.heap.size n) (List.replicate n 0):=by
        unfold Reg.tht
        rw [hth]
        simp only [upB_self,if_true,pb,e1]
        rfl
      rw [ht1]
      refine ⟨hst1.gr,hst1.nod,hst1.own,hst1.exb,hst1.psi,fun w'' ha=>hown.stab (fun m e hm=>?_) ha⟩
      have:=hst0.lt hm
      exact fun e'=>by simp [vG,Value.ownBlock] at e';omega
    · rw [hV] at hV'
      obtain rfl:=Option.some.inj hV'
      simp only [pb,e1]
      rfl
    · have:=List.all_eq_true.1 hF p hp
      rw [he] at this
      simp at this)
theorem s_sr (ho:R.ops[i]? = some o) (hf:free R i=true) (hg:o.guard=none) {x y:Operand} (hop:o.op = .store 3 x y) (hV:R.v? i=none) (hF:noF R i=true) {g n:Nat} {ds:List Int} (hex:R.ex=some g) (hΘ:∀ w,R.Θ w→OwnR w R.w0.heap.size (vG g n) ds)
    (j:Nat) (z:Int) (hth:R.th=some (i,fun _ w=>OwnR w R.w0.heap.size (vG g n) (ds.set j z))) (hx:∀ env,opAt R i env x=some (elt (vG g n) j)) (hy:∀ env,opAt R i env y=some (vI z)) (hj:j < ds.length):SR Tryz.prog Q R i:=
  s_th ho hf (fun {D env a w} hA K hK=>by
    rw [if_pos (wanted_none hg _)]
    have hnD:D i=false:=hA.i
    have ht0:R.tht D env=R.Θ:=by unfold Reg.tht;rw [hth];simp [hnD]
    have hst0:=hA.j.st
    rw [ht0] at hst0
    have hO:=hΘ w hst0.nowT
    obtain ⟨hO1,hO2⟩:=hO
    rcases hO2 with ⟨hO2,_⟩ | ⟨g',cap,cur,hv,hB,hh,hn,hc,hs,ht⟩
    · cases hO2
    simp only [vG,Value.slice.injEq,Option.some.injEq,Addr.mk.injEq,and_true] at hv
    obtain ⟨rfl,hnl,rfl⟩:=hv
    have hlen':ds.length=n:=hnl.symm
    rw [hlen'] at ht
    have hu:cur.toList[0+j]? = some (vi (ds.getD j 0)):=by
      have e:(ds.map vi)[j]? = some (vi (ds.getD j 0)):=by
        rw [List.getElem?_map,List.getD_eq_getElem?_getD,List.getElem?_eq_getElem hj];rfl
      rw [← ht,List.getElem?_take,if_pos (by omega)] at e
      rw [Nat.zero_add];exact e
    obtain ⟨w',hr,hp⟩:=st3 (b:=g) (off:=0+j) (T0:=3) (cs:=cur.toList) (n0:=z) hu rfl (w:=w) (by rw [Array.toArray_toList];exact hh)
    have hrun:(execOp a.eval o).run Tryz.prog w = .ok .skip w':=by
      have e1:=hA.e (hx env)
      have e2:=hA.e (hy env)
      unfold execOp
      simp only [elt,vG] at e1
      simp [hop,e1,e2]
      simp at hr
      simp [hr]
    unfold Oper.wp
    rw [hrun]
    have hown:OwnR w' R.w0.heap.size (vG g n) (ds.set j z):=by
      refine ⟨by simp,.inr ⟨g,n,_,by simp [hlen'],hB,hp.here,by simp [hlen'],hc,by simpa using hs,?_⟩⟩
      rw [Nat.zero_add,List.take_set,List.map_set,← ht]
      simp [hlen']
    have hgb:w.grownBy w' (some g):=⟨hp.os,hp.tape,hp.output,by rw [hp.size];exact Nat.le_refl _,fun k _ hk=>hp.off k (fun e=>hk (by rw [e]))⟩
    have hM:∀ m e,R.mem D env m=some e→(vG g n).ownBlock≠some e.1:=fun m e hm e'=>by
      simp only [vG,Value.ownBlock,Option.some.injEq] at e'
      exact (hst0.exb g hex).2.1 m e hm e'.symm
    refine hK undef w' ?_ (fun w'' _=>f_none hV hF _ w'')
    have ht1:R.tht (upB D i) (upd env i undef)=fun w''=>OwnR w'' R.w0.heap.size (vG g n) (ds.set j z):=by
      unfold Reg.tht
      rw [hth]
      simp only [upB_self,if_true]
    rw [ht1]
    exact hst0.callg hex hgb (fun w'' ha=>hown.stab hM ha))
end
theorem Cur.exIn {n:Nat} {w0:World} {Θ:World→Prop} {L:Slots} {M:List Ent} {a:Act} {w:World} (h:Cur n w0 none none (Facts []) Θ L M a w) {g k:Nat} {ds:List Int} (hΘ:∀ w,Θ w→OwnR w w0.heap.size (vG g k) ds):Cur n w0 none (some g) (Facts []) Θ L M a w:=by
 refine ⟨h.sz,h.df,⟨h.st.gr,h.st.nod,h.st.own,fun g' hg'=>?_,fun _ _ φ hφ=>(by cases hφ),h.st.the⟩,h.sl⟩
 obtain rfl:=Option.some.inj hg'
 have h1:=hΘ w h.st.nowT
 have h2:=h1.lt g rfl
 exact ⟨h2.2,fun m e hm he=>own_off (fun w' ha=>hΘ w' (h.st.the w' ha)) hm (by rw [he];rfl),.inl h2.1⟩
theorem Cur.exOut {n:Nat} {w0:World} {row ex:Option Nat} {Ψ Θ:World→Prop} {L:Slots} {M:List Ent} {a:Act} {w:World} (h:Cur n w0 row ex Ψ Θ L M a w):Cur n w0 row none Ψ Θ L M a w:=
 ⟨h.sz,h.df,⟨h.st.gr,h.st.nod,h.st.own,fun g' hg'=>(by cases hg'),fun w' ha=>h.st.psi w' ⟨ha.1,fun k hk hM _=>ha.2 k hk hM (by simp)⟩,h.st.the⟩,h.sl⟩
end Go.Proofs.YtdfkghpgekmmlaaGreat
namespace Go.Proofs.YtdfkghpgekmmlaaGreat
theorem mul16 {u v:Int} (u0:0≤u) (u1:u < 65536) (v0:0≤v) (v1:v < 65536):0≤u*v∧u*v≤4294836225:=by
 have h:=Int.mul_nonneg u0 v0
 have h1:0≤(65535-u)*(65535+v):=Int.mul_nonneg (by omega) (by omega)
 have h2:0≤(65535+u)*(65535-v):=Int.mul_nonneg (by omega) (by omega)
 rw [Int.sub_mul,Int.mul_add,Int.mul_add] at h1
 rw [Int.add_mul,Int.mul_sub,Int.mul_sub] at h2
 omega
structure MulI (xs ys ds:List Int) (i:Nat):Prop where
 l:ds.length=xs.length+ys.length
 g:Rg ds
 hi:i≤xs.length
 s:nat ds=nat (xs.take i)*nat ys
 z:∀ k,i+ys.length≤k→ds.getD k 0=0
theorem MulI.start (xs ys:List Int):MulI xs ys (List.replicate (xs.length+ys.length) 0) 0:=by
  refine ⟨by simp,fun d hd=>?_,by omega,by rw [nat_replicate];simp [nat],fun k _=>?_⟩
  · rw [List.eq_of_mem_replicate hd];omega
  · rw [List.getD_eq_getElem?_getD,List.getElem?_replicate];split <;> rfl
theorem MulI.done {xs ys ds:List Int} {i:Nat} (h:MulI xs ys ds i) (hi:xs.length≤i):nat ds=nat xs*nat ys:=by rw [h.s,nat_take_all xs hi]
structure MulJ (xs ys ds es:List Int) (i j:Nat) (cy:Int):Prop where
 l:es.length=xs.length+ys.length
 g:Rg es
 hj:j≤ys.length
 c0:0≤cy
 c1:cy < 65536
 s:nat es+65536 ^ (i+j)*cy=nat ds+65536 ^ i*(xs.getD i 0*nat (ys.take j))
 z:∀ k,i+ys.length≤k→es.getD k 0=0
theorem MulI.open {xs ys ds:List Int} {i:Nat} (h:MulI xs ys ds i):MulJ xs ys ds ds i 0 0:=⟨h.l,h.g,by omega,by omega,by omega,by simp [nat],h.z⟩
theorem getD_set_ne {ds:List Int} {i k:Nat} (h:i≠k) (d:Int):(ds.set i d).getD k 0=ds.getD k 0:=by
 rw [List.getD_eq_getElem?_getD,List.getD_eq_getElem?_getD,List.getElem?_set_ne h]
theorem MulJ.step {xs ys ds es:List Int} {i j:Nat} {cy n:Int} (h:MulJ xs ys ds es i j cy) (hx:Rg xs) (hy:Rg ys) (hi:i < xs.length) (hj:j < ys.length) (hn:n=es.getD (i+j) 0+xs.getD i 0*ys.getD j 0+cy):MulJ xs ys ds (es.set (i+j) (n % 65536)) i (j+1) (n / 65536):=by
  obtain ⟨hl,hg,hj',h0,h1,hs,hz⟩:=h
  have a:=hx.getD i
  have b:=hy.getD j
  have e:=hg.getD (i+j)
  have m:=mul16 a.1 a.2 b.1 b.2
  refine ⟨by simpa using hl,hg.set _ (by omega),hj,by omega,by omega,?_,fun k hk=>?_⟩
  · rw [nat_set (by omega),nat_take_succ',Int.mul_add,Int.mul_add,Int.mul_sub]
    have q1:(65536:Int) ^ (i+(j+1))*(n / 65536)=65536 ^ (i+j)*(65536*(n / 65536)):=by
      rw [← Nat.add_assoc,Int.pow_succ,Int.mul_assoc]
    have q2:(65536:Int) ^ (i+j)*n=65536 ^ (i+j)*(65536*(n / 65536))+65536 ^ (i+j)*(n % 65536):=by
      rw [← Int.mul_add];congr 1;omega
    have q3:(65536:Int) ^ (i+j)*n=65536 ^ (i+j)*es.getD (i+j) 0+65536 ^ (i+j)*(xs.getD i 0*ys.getD j 0)+65536 ^ (i+j)*cy:=by
      rw [← Int.mul_add,← Int.mul_add,← hn]
    have q4:(65536:Int) ^ i*(xs.getD i 0*(65536 ^ j*ys.getD j 0))=65536 ^ (i+j)*(xs.getD i 0*ys.getD j 0):=by
      rw [Int.pow_add]
      simp only [Int.mul_assoc,Int.mul_left_comm]
    omega
  · rw [getD_set_ne (by omega)];exact hz k hk
theorem MulJ.close {xs ys ds es:List Int} {i j:Nat} {cy:Int} (h:MulJ xs ys ds es i j cy) (hd:MulI xs ys ds i) (hi:i < xs.length) (hj:ys.length≤j):MulI xs ys (es.set (i+ys.length) cy) (i+1):=by
  obtain ⟨hl,hg,hj',h0,h1,hs,hz⟩:=h
  have ej:j=ys.length:=by omega
  subst ej
  refine ⟨by simpa using hl,hg.set _ ⟨h0,h1⟩,hi,?_,fun k hk=>?_⟩
  · rw [nat_set (by omega),hz _ (Nat.le_refl _),nat_take_succ',Int.add_mul,← hd.s]
    rw [nat_take_all ys (Nat.le_refl _)] at hs
    rw [Int.mul_assoc,← hs]
    simp
  · rw [getD_set_ne (by omega)];exact hz k (by omega)
theorem sg_same {x y:Int} (h:(0≤x∧0≤y)∨(x < 0∧y < 0)):¬ x*y < 0:=by
  rcases h with ⟨h1,h2⟩ | ⟨h1,h2⟩
  · have:=Int.mul_nonneg h1 h2;omega
  · have:=Int.mul_nonneg (show 0 ≤ -x by omega) (show 0 ≤ -y by omega)
    rw [Int.neg_mul_neg] at this;omega
theorem sg_diff {x y:Int} (h:(0≤x∧y < 0)∨(x < 0∧0≤y)):x*y≤0:=by
  rcases h with ⟨h1,h2⟩ | ⟨h1,h2⟩
  · have:=Int.mul_nonneg h1 (show 0 ≤ -y by omega)
    rw [Int.mul_neg] at this;omega
  · have:=Int.mul_nonneg (show 0 ≤ -x by omega) h2
    rw [Int.neg_mul] at this;omega
theorem pow_16 (n:Nat):(0:Int) < 2 ^ (n % 16)∧(2:Int) ^ (n % 16) < 65536:=by
  have hp:(0:Int) < 2 ^ (n % 16):=Int.pow_pos (by decide)
  have hlt:(2:Int) ^ (n % 16) < 65536:=by
    have h16:=Nat.mod_lt n (show 0 < 16 by decide)
    have h1:(2:Int) ^ (n % 16)*2 ^ (15-n % 16)=2 ^ 15:=by rw [← Int.pow_add];congr 1;omega
    have h2:(0:Int) < 2 ^ (15-n % 16):=Int.pow_pos (by decide)
    have h3:=Int.mul_le_mul_of_nonneg_left (show (1:Int)≤2 ^ (15-n % 16) by omega) (Int.le_of_lt hp)
    have e15:(2:Int) ^ 15=32768:=rfl
    rw [h1,e15] at h3
    omega
  exact ⟨hp,hlt⟩
theorem pow2_digs (n:Nat):digs (2 ^ n)=(List.replicate (n / 16+1) 0).set (n / 16) (2 ^ (n % 16)):=by
  have e:(List.replicate (n / 16+1) (0:Int)).set (n / 16) (2 ^ (n % 16))=List.replicate (n / 16) 0 ++ [2 ^ (n % 16)]:=by
    rw [List.replicate_succ',List.set_append_right _ _ (by simp)]
    simp
  obtain ⟨hp,hlt⟩:=pow_16 n
  rw [e]
  have hr:Rg (List.replicate (n / 16) (0:Int) ++ [2 ^ (n % 16)]):=Rg.append.2 ⟨fun d hd=>by rw [List.eq_of_mem_replicate hd];omega,Rg.cons.2 ⟨⟨by omega,hlt⟩,Rg.nil⟩⟩
  have hc:Can (List.replicate (n / 16) (0:Int) ++ [2 ^ (n % 16)]):=(can_snoc _ _).2 (by omega)
  rw [← digs_nat hr hc,nat_append,nat_replicate,List.length_replicate]
  simp only [nat]
  congr 1
  have:(65536:Int) ^ (n / 16)=2 ^ (16*(n / 16)):=by rw [Int.pow_mul];rfl
  rw [this]
  have h2:n=16*(n / 16)+n % 16:=by omega
  calc (2:Int) ^ n=2 ^ (16*(n / 16)+n % 16):=by rw [← h2]
    _=_:=by rw [Int.pow_add];simp
end Go.Proofs.YtdfkghpgekmmlaaGreat
namespace Go.Proofs.YtdfkghpgekmmlaaGreat
open Go.RowKit
attribute [local go_sem] vN bT bF rS vW vM vL vT2 vT3 vP vI execOp Act.eval evC bigF vB hi_zero lo_zero Tryz.underlying3 Tryz.underlying32 Tryz.underlying39
theorem word_nat {n:Int} (h0:0≤n) (h1:n < 18446744073709551616):nat [n % 65536,n / 65536 % 65536,n / 4294967296 % 65536,n / 281474976710656]=n:=by
 simp only [nat];omega
theorem word_rg {n:Int} (h0:0≤n) (h1:n < 18446744073709551616):Rg [n % 65536,n / 65536 % 65536,n / 4294967296 % 65536,n / 281474976710656]:=by
 intro d hd;simp at hd;omega
theorem and_16 {n:Int} (h0:0≤n) (h1:n < 18446744073709551616):bits .and .u64 n 65535=n % 65536:=by
 obtain ⟨m,rfl⟩:∃ m:Nat,n=(m:Int):=⟨n.toNat,by omega⟩
 have h:=bits_and_u64_nat m 65535 (by omega) (by omega)
 have h2:m &&& 65535=m % 65536:=Nat.and_two_pow_sub_one_eq_mod m 16
 rw [h2] at h
 simpa using h
theorem Word_any (w0:World) (n:Int) (h0:0≤n) (h1:n < 18446744073709551616):Calls Tryz.prog 54 #[.int .u64 n] w0 fun e w'=>∃ v,e = .returned v∧Below w0.heap.size w0 w'∧BigN w0.heap.size w' v (n):=by
 have hst:=St.start w0 (Θ:=fun _=>True) (fun _ _=>trivial)
 refine enter Tryz.func54 rfl (n:=20) rfl (Nat.le_of_ble_eq_true rfl) hst (L:=[(0,.int .u64 n)]) (lk_args rfl) (fun ac h=>?_)
 replace h:=h.facts
 refine wp_seq ?_
 refine rf_ h [[0]] [KE_ fun env=>vP (pb env 0) 0] (fun E1=>[(0,.int .u64 n),(2,vP (pb E1 0) 0)]) (W:=[{ i:=0,T:=39,c0:=[bF,.slice none 0 0] }]) (M':=fun E1=>[((pb E1 0),39,[bF,.slice none 0 0])]) (hs:=c_ (al_ 0)<|e_) (k:=fun E1 ac wd h_1=>?_)
 clear h
 refine then_n (wp_seq ?_)
 refine rf_ h_1 [[0],[0,1],[0,1,2],[3],[3,4],[3,4,5],[3,4,5,6],[7],[7,8],[7,8,9],[7,8,9,10],[11],[11,12],[11,12,13],r_ 15,r_ 16,r_ 17,r_ 18] [K_ (.int .u64 n),K_ (.int .u64 (n % 65536)),K_ (vI (n % 65536)),K_ (.int .u64 n),K_ (.int .u64 (n / 65536)),K_ (.int .u64 ((n / 65536) % 65536)),K_ (vI ((n / 65536) % 65536)),K_ (.int .u64 n),K_ (.int .u64 (n / 4294967296)),K_ (.int .u64 ((n / 4294967296) % 65536)),K_ (vI ((n / 4294967296) % 65536)),K_ (.int .u64 n),K_ (.int .u64 (n / 281474976710656)),K_ (vI (n / 281474976710656)),KE_ fun env=>.slice ((sA (env 14))) ([n % 65536,(n / 65536) % 65536,(n / 4294967296) % 65536,n / 281474976710656].length) ((sC (env 14))),KE_ fun env=>rS (nat [n % 65536,(n / 65536) % 65536,(n / 4294967296) % 65536,n / 281474976710656]) ((sA (env 14))) ((sC (env 14))),KE_ fun env=>.agg #[bF,rS (nat [n % 65536,(n / 65536) % 65536,(n / 4294967296) % 65536,n / 281474976710656]) ((sA (env 14))) ((sC (env 14)))],none] (fun E2=>[(2,vP (pb E1 0) 0)]) (S:=[⟨0,17,fun env=>[bF,rS (nat [n % 65536,(n / 65536) % 65536,(n / 4294967296) % 65536,n / 281474976710656]) ((sA (env 14))) ((sC (env 14)))]⟩]) (F:=[(14,fun env w=>RowN w0.heap.size w (env 14) [n % 65536,(n / 65536) % 65536,(n / 4294967296) % 65536,n / 281474976710656])]) (L1:=fun E2=>[fun w=>RowN w0.heap.size w (E2 14) [n % 65536,(n / 65536) % 65536,(n / 4294967296) % 65536,n / 281474976710656]]) (M':=fun E2=>[((pb E1 0),39,[bF,rS (nat [n % 65536,(n / 65536) % 65536,(n / 4294967296) % 65536,n / 281474976710656]) ((sA (E2 14))) ((sC (E2 14)))])]) (hs:=c_ mv_<|c_ (bi0 (.int .u64 n) (.int .u64 65535) (h:=by intro env w;simp [go_sem];exact and_16 (by omega) (by omega)))<|c_ (cv0 (.int .u64 (n % 65536)) (h:=by intro env w;simp [go_sem];exact IntWalk.i64_in _ (by omega)))<|c_ mv_<|c_ (bi0 (.int .u64 n) (.int .u64 16))<|c_ (bi0 (.int .u64 (n / 65536)) (.int .u64 65535) (h:=by intro env w;simp [go_sem];exact and_16 (by omega) (by omega)))<|c_ (cv0 (.int .u64 ((n / 65536) % 65536)) (h:=by intro env w;simp [go_sem];exact IntWalk.i64_in _ (by omega)))<|c_ mv_<|c_ (bi0 (.int .u64 n) (.int .u64 32))<|c_ (bi0 (.int .u64 (n / 4294967296)) (.int .u64 65535) (h:=by intro env w;simp [go_sem];exact and_16 (by omega) (by omega)))<|c_ (cv0 (.int .u64 ((n / 4294967296) % 65536)) (h:=by intro env w;simp [go_sem];exact IntWalk.i64_in _ (by omega)))<|c_ mv_<|c_ (bi0 (.int .u64 n) (.int .u64 48))<|c_ (cv0 (.int .u64 (n / 281474976710656)) (h:=by intro env w;simp [go_sem];exact IntWalk.i64_in _ (by omega)))<|c_ (by refine s_bsN rfl rfl (fun _=>wanted_none rfl _) [n % 65536,(n / 65536) % 65536,(n / 4294967296) % 65536,n / 281474976710656] ⟨by simp,by simp⟩ rfl rfl rfl rfl (fun {D env ac wd} hA=>?_);have e5:ac.tmps[5]? = some (vI (n % 65536)):=hA.g rfl;have e9:ac.tmps[9]? = some (vI ((n / 65536) % 65536)):=hA.g rfl;have e13:ac.tmps[13]? = some (vI ((n / 4294967296) % 65536)):=hA.g rfl;have e16:ac.tmps[16]? = some (vI (n / 281474976710656)):=hA.g rfl;simp [go_sem,e5,e9,e13,e16,Tryz.underlying37])<|c_ (cw_ Tryz.func84 (h:=fun _ env _ wd hA=>⟨_,trim_core wd (sA (env 14)) (sC (env 14)) [n % 65536,(n / 65536) % 65536,(n / 4294967296) % 65536,n / 281474976710656] (At.rowN hA 14 rfl rfl rfl) (word_rg h0 h1),rfl⟩))<|c_ (bd_ (fun env=>[rS (nat [n % 65536,(n / 65536) % 65536,(n / 4294967296) % 65536,n / 281474976710656]) ((sA (env 14))) ((sC (env 14)))]))<|c_ (se_ 0 (hst:=by exact fun _ _ _ hc=>st39 rfl rfl rfl hc))<|e_) (k:=fun E2 ac wd h_2=>?_)
 clear h_1
 refine then_n (wp_ret ?_)
 have s2:=h_2.g (t:=2) rfl
 have hc2:=(h_2.st.own 0 _ rfl).2
 have c2_0:=own_cell (o:=0) hc2 rfl
 have c2_1:=own_cell (o:=1) hc2 rfl
 refine leave (v:=.agg #[.bool false,.slice ((sA (E2 14))) ((digs (nat [n % 65536,(n / 65536) % 65536,(n / 4294967296) % 65536,n / 281474976710656])).length) ((sC (E2 14)))]) h_2.df (by simp [results,Tryz.results54,go_sem,Array.getD_eq_getD_getElem?,s2,c2_0,c2_1,Tryz.underlying39]) ?_
 refine ⟨_,rfl,h_2.st.below,?_⟩
 exact BigN.mk (decide_eq_false (by omega)).symm (congrArg digs (word_nat h0 h1)) (RowN.trim (word_rg h0 h1) (Facts.rN h_2.st.now 0 rfl))
theorem cmp_abs (w0:World) (A B:Option Addr) (c k:Nat) (x y:Int) (hr:Row w0 (.slice A (digs x).length c) (digs x)) (hr2:Row w0 (.slice B (digs y).length k) (digs y)):Calls Tryz.prog 81 #[.slice A ((digs x).length) c,.slice B ((digs y).length) k] w0 fun e w'=>e = .returned (vI (cmpZ x.natAbs y.natAbs))∧Below w0.heap.size w0 w':=by
 have:=cmp_any w0 A B c k x.natAbs y.natAbs (by omega) (by omega) (by rw [digs_natAbs];exact hr) (by rw [digs_natAbs];exact hr2)
 simp only [digs_natAbs] at this
 exact this
theorem add_abs (w0:World) (A B:Option Addr) (c k:Nat) (x y:Int) (hr:Row w0 (.slice A (digs x).length c) (digs x)) (hr2:Row w0 (.slice B (digs y).length k) (digs y)) (hx:Sm x) (hy:Sm y):Calls Tryz.prog 82 #[.slice A ((digs x).length) c,.slice B ((digs y).length) k] w0 fun e w'=>∃ v,e = .returned v∧Below w0.heap.size w0 w'∧RowN w0.heap.size w' v (digs ((x.natAbs:Int)+y.natAbs)):=by
 have:=add_core w0 A B c k x.natAbs y.natAbs (by omega) (by omega) (by rw [digs_natAbs];exact hr) (by rw [digs_natAbs];exact hr2) 21 (by omega) (by rw [digs_natAbs];exact hx.len) (by rw [digs_natAbs];exact hy.len)
 simp only [digs_natAbs] at this
 exact this
theorem sub_abs (w0:World) (A B:Option Addr) (c k:Nat) (x y:Int) (hr:Row w0 (.slice A (digs x).length c) (digs x)) (hr2:Row w0 (.slice B (digs y).length k) (digs y)) (hle:y.natAbs≤x.natAbs) (hx:Sm x):Calls Tryz.prog 83 #[.slice A ((digs x).length) c,.slice B ((digs y).length) k] w0 fun e w'=>∃ v,e = .returned v∧Below w0.heap.size w0 w'∧RowN w0.heap.size w' v (digs ((x.natAbs:Int)-y.natAbs)):=by
 have:=sub_core w0 A B c k x.natAbs y.natAbs (by omega) (by rw [digs_natAbs];exact hr) (by rw [digs_natAbs];exact hr2) (by omega) (by rw [digs_natAbs];have:=hx.len;omega)
 simp only [digs_natAbs] at this
 exact this
theorem Neg_any (w0:World) (p:Bool) (A0:Option Addr) (c0:Nat) (x:Int) (hp:p=decide (x < 0)) (hr:Row w0 (.slice A0 (digs x).length c0) (digs x)):Calls Tryz.prog 58 #[.agg #[.bool (p),.slice A0 ((digs x).length) c0]] w0 fun e w'=>e = .returned (.agg #[.bool (decide (-x < 0)),.slice A0 ((digs (-x)).length) c0])∧Below w0.heap.size w0 w':=by
 have hst:=St.start w0 (Θ:=fun _=>True) (fun _ _=>trivial)
 refine enter Tryz.func58 rfl (n:=15) rfl (Nat.le_of_ble_eq_true rfl) hst (L:=[(0,.agg #[.bool (p),.slice A0 ((digs x).length) c0])]) (lk_args rfl) (fun ac h=>?_)
 refine wp_seq ?_
 cases p
 have h1:0≤x:=by have:=of_decide_eq_false hp.symm;omega
 refine rg_ h [[0],[1]] [KE_ fun env=>vP (pb env 0) 0,KE_ fun env=>vP (pb env 1) 0] (fun E1=>[(1,vP (pb E1 0) 0),(2,vP (pb E1 1) 0)]) (W:=[{ i:=0,T:=39,c0:=[bF,rS x A0 c0] },{ i:=1,T:=39,c0:=[bF,.slice none 0 0] }]) (M':=fun E1=>[((pb E1 0),39,[bF,rS x A0 c0]),((pb E1 1),39,[bF,.slice none 0 0])]) (hs:=c_ (bx0 0 (.agg #[bF,rS x A0 c0]))<|c_ (al_ 1)<|e_) (k:=fun E1 ac wd h_1=>?_)
 clear h
 refine then_n (wp_seq ?_)
 by_cases h2:x=0
 refine rg_ h_1 [[0],[0,1],[0,1,2],r_ 4,r_ 5,r_ 6,r_ 7,r_ 8,r_ 9,[9],[9,10],r_ 12,r_ 13] [K_ (vP (pb E1 0) 0),K_ bF,K_ bT,K_ bT,K_ (vP (pb E1 0) 1),K_ (rS x A0 c0),K_ (vN ((digs x).length)),K_ bF,K_ bF,K_ (vP (pb E1 0) 1),K_ (rS x A0 c0),K_ (.agg #[bF,rS x A0 c0]),none] (fun E2=>[(2,vP (pb E1 1) 0)]) (S:=[⟨1,12,fun _=>[bF,rS x A0 c0]⟩]) (M':=fun E2=>[((pb E1 0),39,[bF,rS x A0 c0]),((pb E1 1),39,[bF,rS x A0 c0])]) (hs:=c_ (fa0 (vP (pb E1 0) 0))<|c_ (ld_ 0 (hrd:=by exact rd4 rfl))<|c_ (un0 bF)<|c_ mv_<|c_ (fa0 (vP (pb E1 0) 0))<|c_ (ld_ 0 (hrd:=by exact rd37 rfl))<|c_ (ln_ Tryz.underlying37 fun _ env _ wd hA=>(hr.grown hA.j.st.gr).els)<|c_ (bi0 (vN ((digs x).length)) (vI 0) (h:=by intro env w;have h3:digs x=[]:=(by subst h2;exact digs_zero);simp [go_sem,h3]))<|c_ (pk0 bT bF bF (h:=by intro env w;have h3:digs x=[]:=(by subst h2;exact digs_zero);simp [go_sem,h3]))<|c_ (fa0 (vP (pb E1 0) 0))<|c_ (ld_ 0 (hrd:=by exact rd37 rfl))<|c_ (bd0 ([bF,rS x A0 c0]))<|c_ (se_ 1 (hst:=by exact fun _ _ _ hc=>st39 rfl rfl rfl hc))<|e_) (k:=fun E2 ac wd h_2=>?_)
 clear h_1
 refine then_n (wp_ret ?_)
 have s2:=h_2.g (t:=2) rfl
 have hc2:=(h_2.st.own 1 _ rfl).2
 have c2_0:=own_cell (o:=0) hc2 rfl
 have c2_1:=own_cell (o:=1) hc2 rfl
 refine leave (v:=.agg #[.bool false,.slice A0 ((digs x).length) c0]) h_2.df (by simp [results,Tryz.results58,go_sem,Array.getD_eq_getD_getElem?,s2,c2_0,c2_1,Tryz.underlying39]) ?_
 exact ⟨by rw [show decide (-x < 0)=false from decide_eq_false (by omega),digs_neg],h_2.st.below⟩
 refine rg_ h_1 [[0],[0,1],[0,1,2],r_ 4,r_ 5,r_ 6,r_ 7,r_ 8,r_ 9,[9],[9,10],r_ 12,r_ 13] [K_ (vP (pb E1 0) 0),K_ bF,K_ bT,K_ bT,K_ (vP (pb E1 0) 1),K_ (rS x A0 c0),K_ (vN ((digs x).length)),K_ bT,K_ bT,K_ (vP (pb E1 0) 1),K_ (rS x A0 c0),K_ (.agg #[bT,rS x A0 c0]),none] (fun E2=>[(2,vP (pb E1 1) 0)]) (S:=[⟨1,12,fun _=>[bT,rS x A0 c0]⟩]) (M':=fun E2=>[((pb E1 0),39,[bF,rS x A0 c0]),((pb E1 1),39,[bT,rS x A0 c0])]) (hs:=c_ (fa0 (vP (pb E1 0) 0))<|c_ (ld_ 0 (hrd:=by exact rd4 rfl))<|c_ (un0 bF)<|c_ mv_<|c_ (fa0 (vP (pb E1 0) 0))<|c_ (ld_ 0 (hrd:=by exact rd37 rfl))<|c_ (ln_ Tryz.underlying37 fun _ env _ wd hA=>(hr.grown hA.j.st.gr).els)<|c_ (bi0 (vN ((digs x).length)) (vI 0) (h:=by intro env w;have h3:digs x≠[]:=fun e=>h2 (digs_nil.1 (by rw [e];rfl));first | (simp [go_sem];done) | (simp [go_sem];exact List.length_pos_iff.2 h3)))<|c_ (pk0 bT bT bF (h:=by intro env w;have h3:digs x≠[]:=fun e=>h2 (digs_nil.1 (by rw [e];rfl));first | (simp [go_sem];done) | (simp [go_sem];exact List.length_pos_iff.2 h3)))<|c_ (fa0 (vP (pb E1 0) 0))<|c_ (ld_ 0 (hrd:=by exact rd37 rfl))<|c_ (bd0 ([bT,rS x A0 c0]))<|c_ (se_ 1 (hst:=by exact fun _ _ _ hc=>st39 rfl rfl rfl hc))<|e_) (k:=fun E2 ac wd h_2=>?_)
 clear h_1
 refine then_n (wp_ret ?_)
 have s2:=h_2.g (t:=2) rfl
 have hc2:=(h_2.st.own 1 _ rfl).2
 have c2_0:=own_cell (o:=0) hc2 rfl
 have c2_1:=own_cell (o:=1) hc2 rfl
 refine leave (v:=.agg #[.bool true,.slice A0 ((digs x).length) c0]) h_2.df (by simp [results,Tryz.results58,go_sem,Array.getD_eq_getD_getElem?,s2,c2_0,c2_1,Tryz.underlying39]) ?_
 exact ⟨by rw [show decide (-x < 0)=true from decide_eq_true (by omega),digs_neg],h_2.st.below⟩
 have h1:x < 0:=of_decide_eq_true hp.symm
 refine rg_ h [[0],[1]] [KE_ fun env=>vP (pb env 0) 0,KE_ fun env=>vP (pb env 1) 0] (fun E1=>[(1,vP (pb E1 0) 0),(2,vP (pb E1 1) 0)]) (W:=[{ i:=0,T:=39,c0:=[bT,rS x A0 c0] },{ i:=1,T:=39,c0:=[bF,.slice none 0 0] }]) (M':=fun E1=>[((pb E1 0),39,[bT,rS x A0 c0]),((pb E1 1),39,[bF,.slice none 0 0])]) (hs:=c_ (bx0 0 (.agg #[bT,rS x A0 c0]))<|c_ (al_ 1)<|e_) (k:=fun E1 ac wd h_1=>?_)
 clear h
 refine then_n (wp_seq ?_)
 refine rg_ h_1 [[0],[0,1],[0,1,2],r_ 4,r_ 5,r_ 6,r_ 7,r_ 8,r_ 9,[9],[9,10],r_ 12,r_ 13] [K_ (vP (pb E1 0) 0),K_ bT,K_ bF,K_ bF,K_ undef,K_ undef,K_ undef,K_ undef,K_ bF,K_ (vP (pb E1 0) 1),K_ (rS x A0 c0),K_ (.agg #[bF,rS x A0 c0]),none] (fun E2=>[(2,vP (pb E1 1) 0)]) (S:=[⟨1,12,fun _=>[bF,rS x A0 c0]⟩]) (M':=fun E2=>[((pb E1 0),39,[bT,rS x A0 c0]),((pb E1 1),39,[bF,rS x A0 c0])]) (hs:=c_ (fa0 (vP (pb E1 0) 0))<|c_ (ld_ 0 (hrd:=by exact rd4 rfl))<|c_ (un0 bT)<|c_ mv_<|c_ off_<|c_ off_<|c_ off_<|c_ off_<|c_ (pk0 bF undef bF)<|c_ (fa0 (vP (pb E1 0) 0))<|c_ (ld_ 0 (hrd:=by exact rd37 rfl))<|c_ (bd0 ([bF,rS x A0 c0]))<|c_ (se_ 1 (hst:=by exact fun _ _ _ hc=>st39 rfl rfl rfl hc))<|e_) (k:=fun E2 ac wd h_2=>?_)
 clear h_1
 refine then_n (wp_ret ?_)
 have s2:=h_2.g (t:=2) rfl
 have hc2:=(h_2.st.own 1 _ rfl).2
 have c2_0:=own_cell (o:=0) hc2 rfl
 have c2_1:=own_cell (o:=1) hc2 rfl
 refine leave (v:=.agg #[.bool false,.slice A0 ((digs x).length) c0]) h_2.df (by simp [results,Tryz.results58,go_sem,Array.getD_eq_getD_getElem?,s2,c2_0,c2_1,Tryz.underlying39]) ?_
 exact ⟨by rw [show decide (-x < 0)=false from decide_eq_false (by omega),digs_neg],h_2.st.below⟩
theorem Cmp_any (w0:World) (p:Bool) (A0:Option Addr) (c0:Nat) (x:Int) (hp:p=decide (x < 0)) (hr:Row w0 (.slice A0 (digs x).length c0) (digs x))  (q:Bool) (B0:Option Addr) (k0:Nat) (y:Int) (hq:q=decide (y < 0)) (hr2:Row w0 (.slice B0 (digs y).length k0) (digs y))  : Calls Tryz.prog 50 #[.agg #[.bool (p),.slice A0 ((digs x).length) c0],.agg #[.bool (q),.slice B0 ((digs y).length) k0]] w0 fun e w'=>e = .returned (vI (cmpZ x y))∧Below w0.heap.size w0 w':=by
 have hst:=St.start w0 (Θ:=fun _=>True) (fun _ _=>trivial)
 refine enter Tryz.func50 rfl (n:=24) rfl (Nat.le_of_ble_eq_true rfl) hst (L:=[(0,.agg #[.bool (p),.slice A0 ((digs x).length) c0]),(1,.agg #[.bool (q),.slice B0 ((digs y).length) k0])]) (lk_args rfl) (fun ac h=>?_)
 refine wp_seq ?_
 cases p
 have h1:0≤x:=by have:=of_decide_eq_false hp.symm;omega
 cases q
 have h2:0≤y:=by have:=of_decide_eq_false hq.symm;omega
 refine rg_ h [[0],[1],[2]] [KE_ fun env=>vP (pb env 0) 0,KE_ fun env=>vP (pb env 1) 0,K_ (vI 0)] (fun E1=>[(2,vP (pb E1 0) 0),(3,vP (pb E1 1) 0),(4,vI 0)]) (W:=[{ i:=0,T:=39,c0:=[bF,rS x A0 c0] },{ i:=1,T:=39,c0:=[bF,rS y B0 k0] }]) (M':=fun E1=>[((pb E1 0),39,[bF,rS x A0 c0]),((pb E1 1),39,[bF,rS y B0 k0])]) (hs:=c_ (bx0 0 (.agg #[bF,rS x A0 c0]))<|c_ (bx0 1 (.agg #[bF,rS y B0 k0]))<|c_ mv_<|e_) (k:=fun E1 ac wd h_1=>?_)
 clear h
 refine then_n (wp_seq (wp_seq ?_))
 refine rg_ h_1 [[0],[0,1],[2],[2,3],r_ 5] [K_ (vP (pb E1 0) 0),K_ bF,K_ (vP (pb E1 1) 0),K_ bF,K_ bF] (fun E2=>[(2,vP (pb E1 0) 0),(3,vP (pb E1 1) 0),(4,vI 0),(9,bF)]) (hs:=c_ (fa0 (vP (pb E1 0) 0))<|c_ (ld_ 0 (hrd:=by exact rd4 rfl))<|c_ (fa0 (vP (pb E1 1) 0))<|c_ (ld_ 1 (hrd:=by exact rd4 rfl))<|c_ (bi0 bF bF)<|e_) (k:=fun E2 ac wd h_2=>?_)
 clear h_1
 refine then_n ?_
 refine wp_cond_false (eval_tmp (h_2.g (t:=9) rfl)) ?_
 refine wp_skip (then_n (wp_seq (wp_seq ?_)))
 refine rg_ h_2 [[0],[0,1]] [K_ (vP (pb E1 0) 0),K_ bF] (fun E3=>[(2,vP (pb E1 0) 0),(3,vP (pb E1 1) 0),(4,vI 0),(13,bF)]) (hs:=c_ (fa0 (vP (pb E1 0) 0))<|c_ (ld_ 0 (hrd:=by exact rd4 rfl))<|e_) (k:=fun E3 ac wd h_3=>?_)
 clear h_2
 refine then_n ?_
 refine wp_cond_false (eval_tmp (h_3.g (t:=13) rfl)) ?_
 refine wp_skip (then_n (wp_seq ?_))
 refine rg_ h_3 [[0],[0,1],[2],[2,3],r_ 5,r_ 6] [K_ (vP (pb E1 0) 1),K_ (rS x A0 c0),K_ (vP (pb E1 1) 1),K_ (rS y B0 k0),K_ (vI (cmpZ x.natAbs y.natAbs)),K_ (vI (cmpZ x.natAbs y.natAbs))] (fun E4=>[(4,vI (cmpZ x.natAbs y.natAbs))]) (hs:=c_ (fa0 (vP (pb E1 0) 0))<|c_ (ld_ 0 (hrd:=by exact rd37 rfl))<|c_ (fa0 (vP (pb E1 1) 0))<|c_ (ld_ 1 (hrd:=by exact rd37 rfl))<|c_ (cw_ Tryz.func81 (h:=fun _ env _ wd hA=>⟨_,cmp_abs wd A0 B0 c0 k0 x y (hr.grown hA.j.st.gr) (hr2.grown hA.j.st.gr),rfl⟩))<|c_ mv_<|e_) (k:=fun E4 ac wd h_4=>?_)
 clear h_3
 refine then_n (wp_ret ?_)
 have s4:=h_4.g (t:=4) rfl
 refine leave (v:=vI (cmpZ x.natAbs y.natAbs)) h_4.df (by simp [results,Tryz.results50,go_sem,Array.getD_eq_getD_getElem?,s4]) ?_
 exact ⟨by rw [show cmpZ x y=cmpZ x.natAbs y.natAbs by unfold cmpZ;split <;> (try split) <;> (try split) <;> (try split) <;> omega],h_4.st.below⟩
 have h2:y < 0:=of_decide_eq_true hq.symm
 refine rg_ h [[0],[1],[2]] [KE_ fun env=>vP (pb env 0) 0,KE_ fun env=>vP (pb env 1) 0,K_ (vI 0)] (fun E1=>[(2,vP (pb E1 0) 0),(3,vP (pb E1 1) 0),(4,vI 0)]) (W:=[{ i:=0,T:=39,c0:=[bF,rS x A0 c0] },{ i:=1,T:=39,c0:=[bT,rS y B0 k0] }]) (M':=fun E1=>[((pb E1 0),39,[bF,rS x A0 c0]),((pb E1 1),39,[bT,rS y B0 k0])]) (hs:=c_ (bx0 0 (.agg #[bF,rS x A0 c0]))<|c_ (bx0 1 (.agg #[bT,rS y B0 k0]))<|c_ mv_<|e_) (k:=fun E1 ac wd h_1=>?_)
 clear h
 refine then_n (wp_seq (wp_seq ?_))
 refine rg_ h_1 [[0],[0,1],[2],[2,3],r_ 5] [K_ (vP (pb E1 0) 0),K_ bF,K_ (vP (pb E1 1) 0),K_ bT,K_ bT] (fun E2=>[(2,vP (pb E1 0) 0),(3,vP (pb E1 1) 0),(4,vI 0),(9,bT)]) (hs:=c_ (fa0 (vP (pb E1 0) 0))<|c_ (ld_ 0 (hrd:=by exact rd4 rfl))<|c_ (fa0 (vP (pb E1 1) 0))<|c_ (ld_ 1 (hrd:=by exact rd4 rfl))<|c_ (bi0 bF bT)<|e_) (k:=fun E2 ac wd h_2=>?_)
 clear h_1
 refine then_n ?_
 refine wp_cond_true (eval_tmp (h_2.g (t:=9) rfl)) ?_
 refine wp_seq (wp_seq ?_)
 refine rg_ h_2 [[0],[0,1]] [K_ (vP (pb E1 0) 0),K_ bF] (fun E3=>[(2,vP (pb E1 0) 0),(3,vP (pb E1 1) 0),(4,vI 0),(11,bF)]) (hs:=c_ (fa0 (vP (pb E1 0) 0))<|c_ (ld_ 0 (hrd:=by exact rd4 rfl))<|e_) (k:=fun E3 ac wd h_3=>?_)
 clear h_2
 refine then_n ?_
 refine wp_cond_false (eval_tmp (h_3.g (t:=11) rfl)) ?_
 refine wp_skip (then_n (wp_seq ?_))
 refine rg_ h_3 [[0]] [K_ (vI 1)] (fun E4=>[(2,vP (pb E1 0) 0),(3,vP (pb E1 1) 0),(4,vI 1)]) (hs:=c_ mv_<|e_) (k:=fun E4 ac wd h_4=>?_)
 clear h_3
 refine then_n (wp_ret (then_ret ?_))
 have s4:=h_4.g (t:=4) rfl
 refine leave (v:=vI 1) h_4.df (by simp [results,Tryz.results50,go_sem,Array.getD_eq_getD_getElem?,s4]) ?_
 exact ⟨by rw [show cmpZ x y=1 by unfold cmpZ;first | (rw [if_pos (by omega)]) | (rw [if_neg (by omega),if_pos (by omega)])],h_4.st.below⟩
 have h1:x < 0:=of_decide_eq_true hp.symm
 cases q
 have h2:0≤y:=by have:=of_decide_eq_false hq.symm;omega
 refine rg_ h [[0],[1],[2]] [KE_ fun env=>vP (pb env 0) 0,KE_ fun env=>vP (pb env 1) 0,K_ (vI 0)] (fun E1=>[(2,vP (pb E1 0) 0),(3,vP (pb E1 1) 0),(4,vI 0)]) (W:=[{ i:=0,T:=39,c0:=[bT,rS x A0 c0] },{ i:=1,T:=39,c0:=[bF,rS y B0 k0] }]) (M':=fun E1=>[((pb E1 0),39,[bT,rS x A0 c0]),((pb E1 1),39,[bF,rS y B0 k0])]) (hs:=c_ (bx0 0 (.agg #[bT,rS x A0 c0]))<|c_ (bx0 1 (.agg #[bF,rS y B0 k0]))<|c_ mv_<|e_) (k:=fun E1 ac wd h_1=>?_)
 clear h
 refine then_n (wp_seq (wp_seq ?_))
 refine rg_ h_1 [[0],[0,1],[2],[2,3],r_ 5] [K_ (vP (pb E1 0) 0),K_ bT,K_ (vP (pb E1 1) 0),K_ bF,K_ bT] (fun E2=>[(2,vP (pb E1 0) 0),(3,vP (pb E1 1) 0),(4,vI 0),(9,bT)]) (hs:=c_ (fa0 (vP (pb E1 0) 0))<|c_ (ld_ 0 (hrd:=by exact rd4 rfl))<|c_ (fa0 (vP (pb E1 1) 0))<|c_ (ld_ 1 (hrd:=by exact rd4 rfl))<|c_ (bi0 bT bF)<|e_) (k:=fun E2 ac wd h_2=>?_)
 clear h_1
 refine then_n ?_
 refine wp_cond_true (eval_tmp (h_2.g (t:=9) rfl)) ?_
 refine wp_seq (wp_seq ?_)
 refine rg_ h_2 [[0],[0,1]] [K_ (vP (pb E1 0) 0),K_ bT] (fun E3=>[(2,vP (pb E1 0) 0),(3,vP (pb E1 1) 0),(4,vI 0),(11,bT)]) (hs:=c_ (fa0 (vP (pb E1 0) 0))<|c_ (ld_ 0 (hrd:=by exact rd4 rfl))<|e_) (k:=fun E3 ac wd h_3=>?_)
 clear h_2
 refine then_n ?_
 refine wp_cond_true (eval_tmp (h_3.g (t:=11) rfl)) ?_
 refine wp_seq ?_
 refine rg_ h_3 [[0]] [K_ (vI (-1))] (fun E4=>[(2,vP (pb E1 0) 0),(3,vP (pb E1 1) 0),(4,vI (-1))]) (hs:=c_ mv_<|e_) (k:=fun E4 ac wd h_4=>?_)
 clear h_3
 refine then_n (wp_ret (then_ret (then_ret ?_)))
 have s4:=h_4.g (t:=4) rfl
 refine leave (v:=vI (-1)) h_4.df (by simp [results,Tryz.results50,go_sem,Array.getD_eq_getD_getElem?,s4]) ?_
 exact ⟨by rw [show cmpZ x y = -1 by unfold cmpZ;first | (rw [if_pos (by omega)]) | (rw [if_neg (by omega),if_pos (by omega)])],h_4.st.below⟩
 have h2:y < 0:=of_decide_eq_true hq.symm
 refine rg_ h [[0],[1],[2]] [KE_ fun env=>vP (pb env 0) 0,KE_ fun env=>vP (pb env 1) 0,K_ (vI 0)] (fun E1=>[(2,vP (pb E1 0) 0),(3,vP (pb E1 1) 0),(4,vI 0)]) (W:=[{ i:=0,T:=39,c0:=[bT,rS x A0 c0] },{ i:=1,T:=39,c0:=[bT,rS y B0 k0] }]) (M':=fun E1=>[((pb E1 0),39,[bT,rS x A0 c0]),((pb E1 1),39,[bT,rS y B0 k0])]) (hs:=c_ (bx0 0 (.agg #[bT,rS x A0 c0]))<|c_ (bx0 1 (.agg #[bT,rS y B0 k0]))<|c_ mv_<|e_) (k:=fun E1 ac wd h_1=>?_)
 clear h
 refine then_n (wp_seq (wp_seq ?_))
 refine rg_ h_1 [[0],[0,1],[2],[2,3],r_ 5] [K_ (vP (pb E1 0) 0),K_ bT,K_ (vP (pb E1 1) 0),K_ bT,K_ bF] (fun E2=>[(2,vP (pb E1 0) 0),(3,vP (pb E1 1) 0),(4,vI 0),(9,bF)]) (hs:=c_ (fa0 (vP (pb E1 0) 0))<|c_ (ld_ 0 (hrd:=by exact rd4 rfl))<|c_ (fa0 (vP (pb E1 1) 0))<|c_ (ld_ 1 (hrd:=by exact rd4 rfl))<|c_ (bi0 bT bT)<|e_) (k:=fun E2 ac wd h_2=>?_)
 clear h_1
 refine then_n ?_
 refine wp_cond_false (eval_tmp (h_2.g (t:=9) rfl)) ?_
 refine wp_skip (then_n (wp_seq (wp_seq ?_)))
 refine rg_ h_2 [[0],[0,1]] [K_ (vP (pb E1 0) 0),K_ bT] (fun E3=>[(2,vP (pb E1 0) 0),(3,vP (pb E1 1) 0),(4,vI 0),(13,bT)]) (hs:=c_ (fa0 (vP (pb E1 0) 0))<|c_ (ld_ 0 (hrd:=by exact rd4 rfl))<|e_) (k:=fun E3 ac wd h_3=>?_)
 clear h_2
 refine then_n ?_
 refine wp_cond_true (eval_tmp (h_3.g (t:=13) rfl)) ?_
 refine wp_seq ?_
 refine rg_ h_3 [[0],[0,1],[2],[2,3],r_ 5,r_ 6] [K_ (vP (pb E1 1) 1),K_ (rS y B0 k0),K_ (vP (pb E1 0) 1),K_ (rS x A0 c0),K_ (vI (cmpZ y.natAbs x.natAbs)),K_ (vI (cmpZ y.natAbs x.natAbs))] (fun E4=>[(2,vP (pb E1 0) 0),(3,vP (pb E1 1) 0),(4,vI (cmpZ y.natAbs x.natAbs))]) (hs:=c_ (fa0 (vP (pb E1 1) 0))<|c_ (ld_ 1 (hrd:=by exact rd37 rfl))<|c_ (fa0 (vP (pb E1 0) 0))<|c_ (ld_ 0 (hrd:=by exact rd37 rfl))<|c_ (cw_ Tryz.func81 (h:=fun _ env _ wd hA=>⟨_,cmp_abs wd B0 A0 k0 c0 y x (hr2.grown hA.j.st.gr) (hr.grown hA.j.st.gr),rfl⟩))<|c_ mv_<|e_) (k:=fun E4 ac wd h_4=>?_)
 clear h_3
 refine then_n (wp_ret (then_ret ?_))
 have s4:=h_4.g (t:=4) rfl
 refine leave (v:=vI (cmpZ y.natAbs x.natAbs)) h_4.df (by simp [results,Tryz.results50,go_sem,Array.getD_eq_getD_getElem?,s4]) ?_
 exact ⟨by rw [show cmpZ x y=cmpZ y.natAbs x.natAbs by unfold cmpZ;split <;> (try split) <;> (try split) <;> (try split) <;> omega],h_4.st.below⟩
theorem Same_any (w0:World) (p:Bool) (A0:Option Addr) (c0:Nat) (x:Int) (hp:p=decide (x < 0)) (hr:Row w0 (.slice A0 (digs x).length c0) (digs x))  (q:Bool) (B0:Option Addr) (k0:Nat) (y:Int) (hq:q=decide (y < 0)) (hr2:Row w0 (.slice B0 (digs y).length k0) (digs y))  : Calls Tryz.prog 18 #[.agg #[.bool (p),.slice A0 ((digs x).length) c0],.agg #[.bool (q),.slice B0 ((digs y).length) k0]] w0 fun e w'=>e = .returned (.bool (decide (x=y)))∧Below w0.heap.size w0 w':=by
 have hst:=St.start w0 (Θ:=fun _=>True) (fun _ _=>trivial)
 refine enter Tryz.func18 rfl (n:=9) rfl (Nat.le_of_ble_eq_true rfl) hst (L:=[(0,.agg #[.bool (p),.slice A0 ((digs x).length) c0]),(1,.agg #[.bool (q),.slice B0 ((digs y).length) k0])]) (lk_args rfl) (fun ac h=>?_)
 refine wp_seq ?_
 refine rg_ h [[0],[1],[2]] [KE_ fun env=>vP (pb env 0) 0,KE_ fun env=>vP (pb env 1) 0,K_ bF] (fun E1=>[(2,vP (pb E1 0) 0),(3,vP (pb E1 1) 0),(4,bF)]) (W:=[{ i:=0,T:=39,c0:=[.bool (p),rS x A0 c0] },{ i:=1,T:=39,c0:=[.bool (q),rS y B0 k0] }]) (M':=fun E1=>[((pb E1 0),39,[.bool (p),rS x A0 c0]),((pb E1 1),39,[.bool (q),rS y B0 k0])]) (hs:=c_ (bx0 0 (.agg #[.bool (p),rS x A0 c0]))<|c_ (bx0 1 (.agg #[.bool (q),rS y B0 k0]))<|c_ mv_<|e_) (k:=fun E1 ac wd h_1=>?_)
 clear h
 refine then_n (wp_seq ?_)
 refine rg_ h_1 [[0],[1],[0,1,2],r_ 4,r_ 5] [K_ (.agg #[.bool (p),rS x A0 c0]),K_ (.agg #[.bool (q),rS y B0 k0]),K_ (vI (cmpZ x y)),K_ (.bool (decide (x=y))),K_ (.bool (decide (x=y)))] (fun E2=>[(4,.bool (decide (x=y)))]) (hs:=c_ (ld_ 0 (hrd:=by exact rd39 rfl rfl))<|c_ (ld_ 1 (hrd:=by exact rd39 rfl rfl))<|c_ (cw_ Tryz.func50 (h:=fun _ env _ wd hA=>⟨_,Cmp_any wd p A0 c0 x hp (hr.grown hA.j.st.gr) q B0 k0 y hq (hr2.grown hA.j.st.gr),rfl⟩))<|c_ (bi0 (vI (cmpZ x y)) (vI 0) (h:=by intro env w;simp [go_sem];unfold cmpZ;split <;> (try split) <;> simp <;> omega))<|c_ mv_<|e_) (k:=fun E2 ac wd h_2=>?_)
 clear h_1
 refine then_n (wp_ret ?_)
 have s4:=h_2.g (t:=4) rfl
 refine leave (v:=.bool (decide (x=y))) h_2.df (by simp [results,Tryz.results18,go_sem,Array.getD_eq_getD_getElem?,s4]) ?_
 exact ⟨rfl,h_2.st.below⟩
theorem Add_any (w0:World) (p:Bool) (A0:Option Addr) (c0:Nat) (x:Int) (hp:p=decide (x < 0)) (hr:Row w0 (.slice A0 (digs x).length c0) (digs x)) (hx:Sm x) (q:Bool) (B0:Option Addr) (k0:Nat) (y:Int) (hq:q=decide (y < 0)) (hr2:Row w0 (.slice B0 (digs y).length k0) (digs y)) (hy:Sm y):Calls Tryz.prog 51 #[.agg #[.bool (p),.slice A0 ((digs x).length) c0],.agg #[.bool (q),.slice B0 ((digs y).length) k0]] w0 fun e w'=>∃ v,e = .returned v∧Below w0.heap.size w0 w'∧BigN w0.heap.size w' v (x+y):=by
 have hst:=St.start w0 (Θ:=fun _=>True) (fun _ _=>trivial)
 refine enter Tryz.func51 rfl (n:=41) rfl (Nat.le_of_ble_eq_true rfl) hst (L:=[(0,.agg #[.bool (p),.slice A0 ((digs x).length) c0]),(1,.agg #[.bool (q),.slice B0 ((digs y).length) k0])]) (lk_args rfl) (fun ac h=>?_)
 replace h:=h.facts
 refine wp_seq ?_
 cases p
 have h1:0≤x:=by have:=of_decide_eq_false hp.symm;omega
 cases q
 have h2:0≤y:=by have:=of_decide_eq_false hq.symm;omega
 refine rf_ h [[0],[1],[2]] [KE_ fun env=>vP (pb env 0) 0,KE_ fun env=>vP (pb env 1) 0,KE_ fun env=>vP (pb env 2) 0] (fun E1=>[(2,vP (pb E1 0) 0),(3,vP (pb E1 1) 0),(4,vP (pb E1 2) 0)]) (W:=[{ i:=0,T:=39,c0:=[bF,rS x A0 c0] },{ i:=1,T:=39,c0:=[bF,rS y B0 k0] },{ i:=2,T:=39,c0:=[bF,.slice none 0 0] }]) (M':=fun E1=>[((pb E1 0),39,[bF,rS x A0 c0]),((pb E1 1),39,[bF,rS y B0 k0]),((pb E1 2),39,[bF,.slice none 0 0])]) (hs:=c_ (bx0 0 (.agg #[bF,rS x A0 c0]))<|c_ (bx0 1 (.agg #[bF,rS y B0 k0]))<|c_ (al_ 2)<|e_) (k:=fun E1 ac wd h_1=>?_)
 clear h
 refine then_n (wp_seq (wp_seq ?_))
 refine rf_ h_1 [[0],[0,1],[2],[2,3],r_ 5] [K_ (vP (pb E1 0) 0),K_ bF,K_ (vP (pb E1 1) 0),K_ bF,K_ bT] (fun E2=>[(2,vP (pb E1 0) 0),(3,vP (pb E1 1) 0),(4,vP (pb E1 2) 0),(10,bT)]) (hs:=c_ (fa0 (vP (pb E1 0) 0))<|c_ (ld_ 0 (hrd:=by exact rd4 rfl))<|c_ (fa0 (vP (pb E1 1) 0))<|c_ (ld_ 1 (hrd:=by exact rd4 rfl))<|c_ (bi0 bF bF)<|e_) (k:=fun E2 ac wd h_2=>?_)
 clear h_1
 refine then_n ?_
 refine wp_cond_true (eval_tmp (h_2.g (t:=10) rfl)) ?_
 refine wp_seq ?_
 refine rf_ h_2 [[0],[0,1],[2],[2,3],[4],[4,5],[2,3,4,5,6],r_ 8,r_ 9] [K_ (vP (pb E1 0) 0),K_ bF,K_ (vP (pb E1 0) 1),K_ (rS x A0 c0),K_ (vP (pb E1 1) 1),K_ (rS y B0 k0),KE_ fun env=>rS ((x.natAbs:Int)+y.natAbs) ((sA (env 6))) ((sC (env 6))),KE_ fun env=>.agg #[bF,rS ((x.natAbs:Int)+y.natAbs) ((sA (env 6))) ((sC (env 6)))],none] (fun E3=>[(2,vP (pb E1 0) 0),(3,vP (pb E1 1) 0),(4,vP (pb E1 2) 0)]) (S:=[⟨2,8,fun env=>[bF,rS ((x.natAbs:Int)+y.natAbs) ((sA (env 6))) ((sC (env 6)))]⟩]) (F:=[(6,fun env w=>RowN w0.heap.size w (env 6) (digs ((x.natAbs:Int)+y.natAbs)))]) (L1:=fun E3=>[fun w=>RowN w0.heap.size w (E3 6) (digs ((x.natAbs:Int)+y.natAbs))]) (M':=fun E3=>[((pb E1 0),39,[bF,rS x A0 c0]),((pb E1 1),39,[bF,rS y B0 k0]),((pb E1 2),39,[bF,rS ((x.natAbs:Int)+y.natAbs) ((sA (E3 6))) ((sC (E3 6)))])]) (hs:=c_ (fa0 (vP (pb E1 0) 0))<|c_ (ld_ 0 (hrd:=by exact rd4 rfl))<|c_ (fa0 (vP (pb E1 0) 0))<|c_ (ld_ 0 (hrd:=by exact rd37 rfl))<|c_ (fa0 (vP (pb E1 1) 0))<|c_ (ld_ 1 (hrd:=by exact rd37 rfl))<|c_ (cf_ Tryz.func82 (fun v w=>RowN w0.heap.size w v (digs ((x.natAbs:Int)+y.natAbs))) (slF (digs ((x.natAbs:Int)+y.natAbs))) (h:=fun _ env _ wd hA=>⟨_,upR hA.j.st.gr.size (add_abs wd A0 B0 c0 k0 x y (hr.grown hA.j.st.gr) (hr2.grown hA.j.st.gr) hx hy),rfl⟩))<|c_ (bd_ (fun env=>[bF,rS ((x.natAbs:Int)+y.natAbs) ((sA (env 6))) ((sC (env 6)))]))<|c_ (se_ 2 (hst:=by exact fun _ _ _ hc=>st39 rfl rfl rfl hc))<|e_) (k:=fun E3 ac wd h_3=>?_)
 clear h_2
 refine then_n (wp_ret (then_ret ?_))
 have s4:=h_3.g (t:=4) rfl
 have hc4:=(h_3.st.own 2 _ rfl).2
 have c4_0:=own_cell (o:=0) hc4 rfl
 have c4_1:=own_cell (o:=1) hc4 rfl
 refine leave (v:=.agg #[.bool false,.slice ((sA (E3 6))) ((digs ((x.natAbs:Int)+y.natAbs)).length) ((sC (E3 6)))]) h_3.df (by simp [results,Tryz.results51,go_sem,Array.getD_eq_getD_getElem?,s4,c4_0,c4_1,Tryz.underlying39]) ?_
 refine ⟨_,rfl,h_3.st.below,BigN.mk (decide_eq_false (by omega)).symm ?_ (Facts.rN h_3.st.now 0 rfl)⟩
 first | exact congrArg digs (by omega) | (rw [← digs_neg];exact congrArg digs (by omega))
 have h2:y < 0:=of_decide_eq_true hq.symm
 refine rf_ h [[0],[1],[2]] [KE_ fun env=>vP (pb env 0) 0,KE_ fun env=>vP (pb env 1) 0,KE_ fun env=>vP (pb env 2) 0] (fun E1=>[(2,vP (pb E1 0) 0),(3,vP (pb E1 1) 0),(4,vP (pb E1 2) 0)]) (W:=[{ i:=0,T:=39,c0:=[bF,rS x A0 c0] },{ i:=1,T:=39,c0:=[bT,rS y B0 k0] },{ i:=2,T:=39,c0:=[bF,.slice none 0 0] }]) (M':=fun E1=>[((pb E1 0),39,[bF,rS x A0 c0]),((pb E1 1),39,[bT,rS y B0 k0]),((pb E1 2),39,[bF,.slice none 0 0])]) (hs:=c_ (bx0 0 (.agg #[bF,rS x A0 c0]))<|c_ (bx0 1 (.agg #[bT,rS y B0 k0]))<|c_ (al_ 2)<|e_) (k:=fun E1 ac wd h_1=>?_)
 clear h
 refine then_n (wp_seq (wp_seq ?_))
 refine rf_ h_1 [[0],[0,1],[2],[2,3],r_ 5] [K_ (vP (pb E1 0) 0),K_ bF,K_ (vP (pb E1 1) 0),K_ bT,K_ bF] (fun E2=>[(2,vP (pb E1 0) 0),(3,vP (pb E1 1) 0),(4,vP (pb E1 2) 0),(10,bF)]) (hs:=c_ (fa0 (vP (pb E1 0) 0))<|c_ (ld_ 0 (hrd:=by exact rd4 rfl))<|c_ (fa0 (vP (pb E1 1) 0))<|c_ (ld_ 1 (hrd:=by exact rd4 rfl))<|c_ (bi0 bF bT)<|e_) (k:=fun E2 ac wd h_2=>?_)
 clear h_1
 refine then_n ?_
 refine wp_cond_false (eval_tmp (h_2.g (t:=10) rfl)) ?_
 refine wp_skip (then_n (wp_seq (wp_seq ?_)))
 by_cases h3:x.natAbs < y.natAbs
 refine rf_ h_2 [[0],[0,1],[2],[2,3],r_ 5,r_ 6] [K_ (vP (pb E1 0) 1),K_ (rS x A0 c0),K_ (vP (pb E1 1) 1),K_ (rS y B0 k0),K_ (vI (cmpZ x.natAbs y.natAbs)),K_ bT] (fun E3=>[(2,vP (pb E1 0) 0),(3,vP (pb E1 1) 0),(4,vP (pb E1 2) 0),(24,bT)]) (hs:=c_ (fa0 (vP (pb E1 0) 0))<|c_ (ld_ 0 (hrd:=by exact rd37 rfl))<|c_ (fa0 (vP (pb E1 1) 0))<|c_ (ld_ 1 (hrd:=by exact rd37 rfl))<|c_ (cw_ Tryz.func81 (h:=fun _ env _ wd hA=>⟨_,cmp_abs wd A0 B0 c0 k0 x y (hr.grown hA.j.st.gr) (hr2.grown hA.j.st.gr),rfl⟩))<|c_ (bi0 (vI (cmpZ x.natAbs y.natAbs)) (vI 0) (h:=by intro env w;simp [go_sem];unfold cmpZ;split <;> (try split) <;> omega))<|e_) (k:=fun E3 ac wd h_3=>?_)
 clear h_2
 refine then_n ?_
 refine wp_cond_true (eval_tmp (h_3.g (t:=24) rfl)) ?_
 refine rf_ h_3 [[0],[1],[0,1,2],r_ 4] [K_ (.agg #[bT,rS y B0 k0]),K_ (.agg #[bF,rS x A0 c0]),none,none] (fun E4=>[(2,vP (pb E1 0) 0),(3,vP (pb E1 1) 0),(4,vP (pb E1 2) 0)]) (S:=[⟨0,2,fun _=>[bT,rS y B0 k0]⟩,⟨1,3,fun _=>[bF,rS x A0 c0]⟩]) (M':=fun E4=>[((pb E1 0),39,[bT,rS y B0 k0]),((pb E1 1),39,[bF,rS x A0 c0]),((pb E1 2),39,[bF,.slice none 0 0])]) (hs:=c_ (ld_ 1 (hrd:=by exact rd39 rfl rfl))<|c_ (ld_ 0 (hrd:=by exact rd39 rfl rfl))<|c_ (se_ 0 (hst:=by exact fun _ _ _ hc=>st39 rfl rfl rfl hc))<|c_ (se_ 1 (hst:=by exact fun _ _ _ hc=>st39 rfl rfl rfl hc))<|e_) (k:=fun E4 ac wd h_4=>?_)
 clear h_3
 refine then_n (wp_seq ?_)
 refine rf_ h_4 [[0],[0,1],[2],[2,3],r_ 5,r_ 6] [K_ (vP (pb E1 0) 1),K_ (rS y B0 k0),K_ (vP (pb E1 1) 1),K_ (rS x A0 c0),KE_ fun env=>rS ((y.natAbs:Int)-x.natAbs) ((sA (env 4))) ((sC (env 4))),KE_ fun env=>rS ((y.natAbs:Int)-x.natAbs) ((sA (env 4))) ((sC (env 4)))] (fun E5=>[(2,vP (pb E1 0) 0),(4,vP (pb E1 2) 0),(5,rS ((y.natAbs:Int)-x.natAbs) ((sA (E5 4))) ((sC (E5 4))))]) (F:=[(4,fun env w=>RowN w0.heap.size w (env 4) (digs ((y.natAbs:Int)-x.natAbs)))]) (L1:=fun E5=>[fun w=>RowN w0.heap.size w (E5 4) (digs ((y.natAbs:Int)-x.natAbs))]) (hs:=c_ (fa0 (vP (pb E1 0) 0))<|c_ (ld_ 0 (hrd:=by exact rd37 rfl))<|c_ (fa0 (vP (pb E1 1) 0))<|c_ (ld_ 1 (hrd:=by exact rd37 rfl))<|c_ (cf_ Tryz.func83 (fun v w=>RowN w0.heap.size w v (digs ((y.natAbs:Int)-x.natAbs))) (slF (digs ((y.natAbs:Int)-x.natAbs))) (h:=fun _ env _ wd hA=>⟨_,upR hA.j.st.gr.size (sub_abs wd B0 A0 k0 c0 y x (hr2.grown hA.j.st.gr) (hr.grown hA.j.st.gr) (by omega) hy),rfl⟩))<|c_ mv_<|e_) (k:=fun E5 ac wd h_5=>?_)
 clear h_4
 refine then_n (wp_seq ?_)
 by_cases h4:x.natAbs=y.natAbs
 refine rf_ h_5 [[0],[0,1],[0,1,2],r_ 4,r_ 5,r_ 6,r_ 7,[7],r_ 9,r_ 10] [K_ (vP (pb E1 0) 0),K_ bT,K_ bT,K_ (rS ((y.natAbs:Int)-x.natAbs) ((sA (E5 4))) ((sC (E5 4)))),K_ (vN ((digs ((y.natAbs:Int)-x.natAbs)).length)),K_ bF,K_ bF,K_ (rS ((y.natAbs:Int)-x.natAbs) ((sA (E5 4))) ((sC (E5 4)))),K_ (.agg #[bF,rS ((y.natAbs:Int)-x.natAbs) ((sA (E5 4))) ((sC (E5 4)))]),none] (fun E6=>[(4,vP (pb E1 2) 0)]) (S:=[⟨2,9,fun _=>[bF,rS ((y.natAbs:Int)-x.natAbs) ((sA (E5 4))) ((sC (E5 4)))]⟩]) (M':=fun E6=>[((pb E1 0),39,[bT,rS y B0 k0]),((pb E1 1),39,[bF,rS x A0 c0]),((pb E1 2),39,[bF,rS ((y.natAbs:Int)-x.natAbs) ((sA (E5 4))) ((sC (E5 4)))])]) (hs:=c_ (fa0 (vP (pb E1 0) 0))<|c_ (ld_ 0 (hrd:=by exact rd4 rfl))<|c_ mv_<|c_ (gm0 (rS ((y.natAbs:Int)-x.natAbs) ((sA (E5 4))) ((sC (E5 4)))))<|c_ (ln_ Tryz.underlying37 fun _ env _ wd hA=>(Facts.rowN (hA.j.st.now).1 0 rfl).els)<|c_ (bi0 (vN ((digs ((y.natAbs:Int)-x.natAbs)).length)) (vI 0) (h:=by intro env w;have h5:digs ((y.natAbs:Int)-x.natAbs)=[]:=(congrArg digs (show ((y.natAbs:Int)-x.natAbs)=0 by omega)).trans digs_zero;simp [go_sem,h5]))<|c_ (pk0 bT bF bF (h:=by intro env w;have h5:digs ((y.natAbs:Int)-x.natAbs)=[]:=(congrArg digs (show ((y.natAbs:Int)-x.natAbs)=0 by omega)).trans digs_zero;simp [go_sem,h5]))<|c_ mv_<|c_ (bd0 ([bF,rS ((y.natAbs:Int)-x.natAbs) ((sA (E5 4))) ((sC (E5 4)))]))<|c_ (se_ 2 (hst:=by exact fun _ _ _ hc=>st39 rfl rfl rfl hc))<|e_) (k:=fun E6 ac wd h_6=>?_)
 clear h_5
 refine then_n (wp_ret ?_)
 have s4:=h_6.g (t:=4) rfl
 have hc4:=(h_6.st.own 2 _ rfl).2
 have c4_0:=own_cell (o:=0) hc4 rfl
 have c4_1:=own_cell (o:=1) hc4 rfl
 refine leave (v:=.agg #[.bool false,.slice ((sA (E5 4))) ((digs ((y.natAbs:Int)-x.natAbs)).length) ((sC (E5 4)))]) h_6.df (by simp [results,Tryz.results51,go_sem,Array.getD_eq_getD_getElem?,s4,c4_0,c4_1,Tryz.underlying39]) ?_
 refine ⟨_,rfl,h_6.st.below,BigN.mk (decide_eq_false (by omega)).symm ?_ (Facts.rN h_6.st.now 0 rfl)⟩
 first | exact congrArg digs (by omega) | (rw [← digs_neg];exact congrArg digs (by omega))
 refine rf_ h_5 [[0],[0,1],[0,1,2],r_ 4,r_ 5,r_ 6,r_ 7,[7],r_ 9,r_ 10] [K_ (vP (pb E1 0) 0),K_ bT,K_ bT,K_ (rS ((y.natAbs:Int)-x.natAbs) ((sA (E5 4))) ((sC (E5 4)))),K_ (vN ((digs ((y.natAbs:Int)-x.natAbs)).length)),K_ bT,K_ bT,K_ (rS ((y.natAbs:Int)-x.natAbs) ((sA (E5 4))) ((sC (E5 4)))),K_ (.agg #[bT,rS ((y.natAbs:Int)-x.natAbs) ((sA (E5 4))) ((sC (E5 4)))]),none] (fun E6=>[(4,vP (pb E1 2) 0)]) (S:=[⟨2,9,fun _=>[bT,rS ((y.natAbs:Int)-x.natAbs) ((sA (E5 4))) ((sC (E5 4)))]⟩]) (M':=fun E6=>[((pb E1 0),39,[bT,rS y B0 k0]),((pb E1 1),39,[bF,rS x A0 c0]),((pb E1 2),39,[bT,rS ((y.natAbs:Int)-x.natAbs) ((sA (E5 4))) ((sC (E5 4)))])]) (hs:=c_ (fa0 (vP (pb E1 0) 0))<|c_ (ld_ 0 (hrd:=by exact rd4 rfl))<|c_ mv_<|c_ (gm0 (rS ((y.natAbs:Int)-x.natAbs) ((sA (E5 4))) ((sC (E5 4)))))<|c_ (ln_ Tryz.underlying37 fun _ env _ wd hA=>(Facts.rowN (hA.j.st.now).1 0 rfl).els)<|c_ (bi0 (vN ((digs ((y.natAbs:Int)-x.natAbs)).length)) (vI 0) (h:=by intro env w;have h5:digs ((y.natAbs:Int)-x.natAbs)≠[]:=fun e=>(show ¬ ((y.natAbs:Int)-x.natAbs)=0 by omega) (digs_nil.1 (by rw [e];rfl));first | (simp [go_sem];done) | (simp [go_sem];exact List.length_pos_iff.2 h5)))<|c_ (pk0 bT bT bF (h:=by intro env w;have h5:digs ((y.natAbs:Int)-x.natAbs)≠[]:=fun e=>(show ¬ ((y.natAbs:Int)-x.natAbs)=0 by omega) (digs_nil.1 (by rw [e];rfl));first | (simp [go_sem];done) | (simp [go_sem];exact List.length_pos_iff.2 h5)))<|c_ mv_<|c_ (bd0 ([bT,rS ((y.natAbs:Int)-x.natAbs) ((sA (E5 4))) ((sC (E5 4)))]))<|c_ (se_ 2 (hst:=by exact fun _ _ _ hc=>st39 rfl rfl rfl hc))<|e_) (k:=fun E6 ac wd h_6=>?_)
 clear h_5
 refine then_n (wp_ret ?_)
 have s4:=h_6.g (t:=4) rfl
 have hc4:=(h_6.st.own 2 _ rfl).2
 have c4_0:=own_cell (o:=0) hc4 rfl
 have c4_1:=own_cell (o:=1) hc4 rfl
 refine leave (v:=.agg #[.bool true,.slice ((sA (E5 4))) ((digs ((y.natAbs:Int)-x.natAbs)).length) ((sC (E5 4)))]) h_6.df (by simp [results,Tryz.results51,go_sem,Array.getD_eq_getD_getElem?,s4,c4_0,c4_1,Tryz.underlying39]) ?_
 refine ⟨_,rfl,h_6.st.below,BigN.mk (decide_eq_true (by omega)).symm ?_ (Facts.rN h_6.st.now 0 rfl)⟩
 first | exact congrArg digs (by omega) | (rw [← digs_neg];exact congrArg digs (by omega))
 refine rf_ h_2 [[0],[0,1],[2],[2,3],r_ 5,r_ 6] [K_ (vP (pb E1 0) 1),K_ (rS x A0 c0),K_ (vP (pb E1 1) 1),K_ (rS y B0 k0),K_ (vI (cmpZ x.natAbs y.natAbs)),K_ bF] (fun E3=>[(2,vP (pb E1 0) 0),(3,vP (pb E1 1) 0),(4,vP (pb E1 2) 0),(24,bF)]) (hs:=c_ (fa0 (vP (pb E1 0) 0))<|c_ (ld_ 0 (hrd:=by exact rd37 rfl))<|c_ (fa0 (vP (pb E1 1) 0))<|c_ (ld_ 1 (hrd:=by exact rd37 rfl))<|c_ (cw_ Tryz.func81 (h:=fun _ env _ wd hA=>⟨_,cmp_abs wd A0 B0 c0 k0 x y (hr.grown hA.j.st.gr) (hr2.grown hA.j.st.gr),rfl⟩))<|c_ (bi0 (vI (cmpZ x.natAbs y.natAbs)) (vI 0) (h:=by intro env w;simp [go_sem];unfold cmpZ;split <;> (try split) <;> omega))<|e_) (k:=fun E3 ac wd h_3=>?_)
 clear h_2
 refine then_n ?_
 refine wp_cond_false (eval_tmp (h_3.g (t:=24) rfl)) ?_
 refine wp_skip (then_n (wp_seq ?_))
 refine rf_ h_3 [[0],[0,1],[2],[2,3],r_ 5,r_ 6] [K_ (vP (pb E1 0) 1),K_ (rS x A0 c0),K_ (vP (pb E1 1) 1),K_ (rS y B0 k0),KE_ fun env=>rS ((x.natAbs:Int)-y.natAbs) ((sA (env 4))) ((sC (env 4))),KE_ fun env=>rS ((x.natAbs:Int)-y.natAbs) ((sA (env 4))) ((sC (env 4)))] (fun E4=>[(2,vP (pb E1 0) 0),(4,vP (pb E1 2) 0),(5,rS ((x.natAbs:Int)-y.natAbs) ((sA (E4 4))) ((sC (E4 4))))]) (F:=[(4,fun env w=>RowN w0.heap.size w (env 4) (digs ((x.natAbs:Int)-y.natAbs)))]) (L1:=fun E4=>[fun w=>RowN w0.heap.size w (E4 4) (digs ((x.natAbs:Int)-y.natAbs))]) (hs:=c_ (fa0 (vP (pb E1 0) 0))<|c_ (ld_ 0 (hrd:=by exact rd37 rfl))<|c_ (fa0 (vP (pb E1 1) 0))<|c_ (ld_ 1 (hrd:=by exact rd37 rfl))<|c_ (cf_ Tryz.func83 (fun v w=>RowN w0.heap.size w v (digs ((x.natAbs:Int)-y.natAbs))) (slF (digs ((x.natAbs:Int)-y.natAbs))) (h:=fun _ env _ wd hA=>⟨_,upR hA.j.st.gr.size (sub_abs wd A0 B0 c0 k0 x y (hr.grown hA.j.st.gr) (hr2.grown hA.j.st.gr) (by omega) hx),rfl⟩))<|c_ mv_<|e_) (k:=fun E4 ac wd h_4=>?_)
 clear h_3
 refine then_n (wp_seq ?_)
 refine rf_ h_4 [[0],[0,1],[0,1,2],r_ 4,r_ 5,r_ 6,r_ 7,[7],r_ 9,r_ 10] [K_ (vP (pb E1 0) 0),K_ bF,K_ bF,K_ undef,K_ undef,K_ undef,K_ bF,K_ (rS ((x.natAbs:Int)-y.natAbs) ((sA (E4 4))) ((sC (E4 4)))),K_ (.agg #[bF,rS ((x.natAbs:Int)-y.natAbs) ((sA (E4 4))) ((sC (E4 4)))]),none] (fun E5=>[(4,vP (pb E1 2) 0)]) (S:=[⟨2,9,fun _=>[bF,rS ((x.natAbs:Int)-y.natAbs) ((sA (E4 4))) ((sC (E4 4)))]⟩]) (M':=fun E5=>[((pb E1 0),39,[bF,rS x A0 c0]),((pb E1 1),39,[bT,rS y B0 k0]),((pb E1 2),39,[bF,rS ((x.natAbs:Int)-y.natAbs) ((sA (E4 4))) ((sC (E4 4)))])]) (hs:=c_ (fa0 (vP (pb E1 0) 0))<|c_ (ld_ 0 (hrd:=by exact rd4 rfl))<|c_ mv_<|c_ off_<|c_ off_<|c_ off_<|c_ (pk0 bF undef bF)<|c_ mv_<|c_ (bd0 ([bF,rS ((x.natAbs:Int)-y.natAbs) ((sA (E4 4))) ((sC (E4 4)))]))<|c_ (se_ 2 (hst:=by exact fun _ _ _ hc=>st39 rfl rfl rfl hc))<|e_) (k:=fun E5 ac wd h_5=>?_)
 clear h_4
 refine then_n (wp_ret ?_)
 have s4:=h_5.g (t:=4) rfl
 have hc4:=(h_5.st.own 2 _ rfl).2
 have c4_0:=own_cell (o:=0) hc4 rfl
 have c4_1:=own_cell (o:=1) hc4 rfl
 refine leave (v:=.agg #[.bool false,.slice ((sA (E4 4))) ((digs ((x.natAbs:Int)-y.natAbs)).length) ((sC (E4 4)))]) h_5.df (by simp [results,Tryz.results51,go_sem,Array.getD_eq_getD_getElem?,s4,c4_0,c4_1,Tryz.underlying39]) ?_
 refine ⟨_,rfl,h_5.st.below,BigN.mk (decide_eq_false (by omega)).symm ?_ (Facts.rN h_5.st.now 0 rfl)⟩
 first | exact congrArg digs (by omega) | (rw [← digs_neg];exact congrArg digs (by omega))
 have h1:x < 0:=of_decide_eq_true hp.symm
 cases q
 have h2:0≤y:=by have:=of_decide_eq_false hq.symm;omega
 refine rf_ h [[0],[1],[2]] [KE_ fun env=>vP (pb env 0) 0,KE_ fun env=>vP (pb env 1) 0,KE_ fun env=>vP (pb env 2) 0] (fun E1=>[(2,vP (pb E1 0) 0),(3,vP (pb E1 1) 0),(4,vP (pb E1 2) 0)]) (W:=[{ i:=0,T:=39,c0:=[bT,rS x A0 c0] },{ i:=1,T:=39,c0:=[bF,rS y B0 k0] },{ i:=2,T:=39,c0:=[bF,.slice none 0 0] }]) (M':=fun E1=>[((pb E1 0),39,[bT,rS x A0 c0]),((pb E1 1),39,[bF,rS y B0 k0]),((pb E1 2),39,[bF,.slice none 0 0])]) (hs:=c_ (bx0 0 (.agg #[bT,rS x A0 c0]))<|c_ (bx0 1 (.agg #[bF,rS y B0 k0]))<|c_ (al_ 2)<|e_) (k:=fun E1 ac wd h_1=>?_)
 clear h
 refine then_n (wp_seq (wp_seq ?_))
 refine rf_ h_1 [[0],[0,1],[2],[2,3],r_ 5] [K_ (vP (pb E1 0) 0),K_ bT,K_ (vP (pb E1 1) 0),K_ bF,K_ bF] (fun E2=>[(2,vP (pb E1 0) 0),(3,vP (pb E1 1) 0),(4,vP (pb E1 2) 0),(10,bF)]) (hs:=c_ (fa0 (vP (pb E1 0) 0))<|c_ (ld_ 0 (hrd:=by exact rd4 rfl))<|c_ (fa0 (vP (pb E1 1) 0))<|c_ (ld_ 1 (hrd:=by exact rd4 rfl))<|c_ (bi0 bT bF)<|e_) (k:=fun E2 ac wd h_2=>?_)
 clear h_1
 refine then_n ?_
 refine wp_cond_false (eval_tmp (h_2.g (t:=10) rfl)) ?_
 refine wp_skip (then_n (wp_seq (wp_seq ?_)))
 by_cases h3:x.natAbs < y.natAbs
 refine rf_ h_2 [[0],[0,1],[2],[2,3],r_ 5,r_ 6] [K_ (vP (pb E1 0) 1),K_ (rS x A0 c0),K_ (vP (pb E1 1) 1),K_ (rS y B0 k0),K_ (vI (cmpZ x.natAbs y.natAbs)),K_ bT] (fun E3=>[(2,vP (pb E1 0) 0),(3,vP (pb E1 1) 0),(4,vP (pb E1 2) 0),(24,bT)]) (hs:=c_ (fa0 (vP (pb E1 0) 0))<|c_ (ld_ 0 (hrd:=by exact rd37 rfl))<|c_ (fa0 (vP (pb E1 1) 0))<|c_ (ld_ 1 (hrd:=by exact rd37 rfl))<|c_ (cw_ Tryz.func81 (h:=fun _ env _ wd hA=>⟨_,cmp_abs wd A0 B0 c0 k0 x y (hr.grown hA.j.st.gr) (hr2.grown hA.j.st.gr),rfl⟩))<|c_ (bi0 (vI (cmpZ x.natAbs y.natAbs)) (vI 0) (h:=by intro env w;simp [go_sem];unfold cmpZ;split <;> (try split) <;> omega))<|e_) (k:=fun E3 ac wd h_3=>?_)
 clear h_2
 refine then_n ?_
 refine wp_cond_true (eval_tmp (h_3.g (t:=24) rfl)) ?_
 refine rf_ h_3 [[0],[1],[0,1,2],r_ 4] [K_ (.agg #[bF,rS y B0 k0]),K_ (.agg #[bT,rS x A0 c0]),none,none] (fun E4=>[(2,vP (pb E1 0) 0),(3,vP (pb E1 1) 0),(4,vP (pb E1 2) 0)]) (S:=[⟨0,2,fun _=>[bF,rS y B0 k0]⟩,⟨1,3,fun _=>[bT,rS x A0 c0]⟩]) (M':=fun E4=>[((pb E1 0),39,[bF,rS y B0 k0]),((pb E1 1),39,[bT,rS x A0 c0]),((pb E1 2),39,[bF,.slice none 0 0])]) (hs:=c_ (ld_ 1 (hrd:=by exact rd39 rfl rfl))<|c_ (ld_ 0 (hrd:=by exact rd39 rfl rfl))<|c_ (se_ 0 (hst:=by exact fun _ _ _ hc=>st39 rfl rfl rfl hc))<|c_ (se_ 1 (hst:=by exact fun _ _ _ hc=>st39 rfl rfl rfl hc))<|e_) (k:=fun E4 ac wd h_4=>?_)
 clear h_3
 refine then_n (wp_seq ?_)
 refine rf_ h_4 [[0],[0,1],[2],[2,3],r_ 5,r_ 6] [K_ (vP (pb E1 0) 1),K_ (rS y B0 k0),K_ (vP (pb E1 1) 1),K_ (rS x A0 c0),KE_ fun env=>rS ((y.natAbs:Int)-x.natAbs) ((sA (env 4))) ((sC (env 4))),KE_ fun env=>rS ((y.natAbs:Int)-x.natAbs) ((sA (env 4))) ((sC (env 4)))] (fun E5=>[(2,vP (pb E1 0) 0),(4,vP (pb E1 2) 0),(5,rS ((y.natAbs:Int)-x.natAbs) ((sA (E5 4))) ((sC (E5 4))))]) (F:=[(4,fun env w=>RowN w0.heap.size w (env 4) (digs ((y.natAbs:Int)-x.natAbs)))]) (L1:=fun E5=>[fun w=>RowN w0.heap.size w (E5 4) (digs ((y.natAbs:Int)-x.natAbs))]) (hs:=c_ (fa0 (vP (pb E1 0) 0))<|c_ (ld_ 0 (hrd:=by exact rd37 rfl))<|c_ (fa0 (vP (pb E1 1) 0))<|c_ (ld_ 1 (hrd:=by exact rd37 rfl))<|c_ (cf_ Tryz.func83 (fun v w=>RowN w0.heap.size w v (digs ((y.natAbs:Int)-x.natAbs))) (slF (digs ((y.natAbs:Int)-x.natAbs))) (h:=fun _ env _ wd hA=>⟨_,upR hA.j.st.gr.size (sub_abs wd B0 A0 k0 c0 y x (hr2.grown hA.j.st.gr) (hr.grown hA.j.st.gr) (by omega) hy),rfl⟩))<|c_ mv_<|e_) (k:=fun E5 ac wd h_5=>?_)
 clear h_4
 refine then_n (wp_seq ?_)
 refine rf_ h_5 [[0],[0,1],[0,1,2],r_ 4,r_ 5,r_ 6,r_ 7,[7],r_ 9,r_ 10] [K_ (vP (pb E1 0) 0),K_ bF,K_ bF,K_ undef,K_ undef,K_ undef,K_ bF,K_ (rS ((y.natAbs:Int)-x.natAbs) ((sA (E5 4))) ((sC (E5 4)))),K_ (.agg #[bF,rS ((y.natAbs:Int)-x.natAbs) ((sA (E5 4))) ((sC (E5 4)))]),none] (fun E6=>[(4,vP (pb E1 2) 0)]) (S:=[⟨2,9,fun _=>[bF,rS ((y.natAbs:Int)-x.natAbs) ((sA (E5 4))) ((sC (E5 4)))]⟩]) (M':=fun E6=>[((pb E1 0),39,[bF,rS y B0 k0]),((pb E1 1),39,[bT,rS x A0 c0]),((pb E1 2),39,[bF,rS ((y.natAbs:Int)-x.natAbs) ((sA (E5 4))) ((sC (E5 4)))])]) (hs:=c_ (fa0 (vP (pb E1 0) 0))<|c_ (ld_ 0 (hrd:=by exact rd4 rfl))<|c_ mv_<|c_ off_<|c_ off_<|c_ off_<|c_ (pk0 bF undef bF)<|c_ mv_<|c_ (bd0 ([bF,rS ((y.natAbs:Int)-x.natAbs) ((sA (E5 4))) ((sC (E5 4)))]))<|c_ (se_ 2 (hst:=by exact fun _ _ _ hc=>st39 rfl rfl rfl hc))<|e_) (k:=fun E6 ac wd h_6=>?_)
 clear h_5
 refine then_n (wp_ret ?_)
 have s4:=h_6.g (t:=4) rfl
 have hc4:=(h_6.st.own 2 _ rfl).2
 have c4_0:=own_cell (o:=0) hc4 rfl
 have c4_1:=own_cell (o:=1) hc4 rfl
 refine leave (v:=.agg #[.bool false,.slice ((sA (E5 4))) ((digs ((y.natAbs:Int)-x.natAbs)).length) ((sC (E5 4)))]) h_6.df (by simp [results,Tryz.results51,go_sem,Array.getD_eq_getD_getElem?,s4,c4_0,c4_1,Tryz.underlying39]) ?_
 refine ⟨_,rfl,h_6.st.below,BigN.mk (decide_eq_false (by omega)).symm ?_ (Facts.rN h_6.st.now 0 rfl)⟩
 first | exact congrArg digs (by omega) | (rw [← digs_neg];exact congrArg digs (by omega))
 refine rf_ h_2 [[0],[0,1],[2],[2,3],r_ 5,r_ 6] [K_ (vP (pb E1 0) 1),K_ (rS x A0 c0),K_ (vP (pb E1 1) 1),K_ (rS y B0 k0),K_ (vI (cmpZ x.natAbs y.natAbs)),K_ bF] (fun E3=>[(2,vP (pb E1 0) 0),(3,vP (pb E1 1) 0),(4,vP (pb E1 2) 0),(24,bF)]) (hs:=c_ (fa0 (vP (pb E1 0) 0))<|c_ (ld_ 0 (hrd:=by exact rd37 rfl))<|c_ (fa0 (vP (pb E1 1) 0))<|c_ (ld_ 1 (hrd:=by exact rd37 rfl))<|c_ (cw_ Tryz.func81 (h:=fun _ env _ wd hA=>⟨_,cmp_abs wd A0 B0 c0 k0 x y (hr.grown hA.j.st.gr) (hr2.grown hA.j.st.gr),rfl⟩))<|c_ (bi0 (vI (cmpZ x.natAbs y.natAbs)) (vI 0) (h:=by intro env w;simp [go_sem];unfold cmpZ;split <;> (try split) <;> omega))<|e_) (k:=fun E3 ac wd h_3=>?_)
 clear h_2
 refine then_n ?_
 refine wp_cond_false (eval_tmp (h_3.g (t:=24) rfl)) ?_
 refine wp_skip (then_n (wp_seq ?_))
 refine rf_ h_3 [[0],[0,1],[2],[2,3],r_ 5,r_ 6] [K_ (vP (pb E1 0) 1),K_ (rS x A0 c0),K_ (vP (pb E1 1) 1),K_ (rS y B0 k0),KE_ fun env=>rS ((x.natAbs:Int)-y.natAbs) ((sA (env 4))) ((sC (env 4))),KE_ fun env=>rS ((x.natAbs:Int)-y.natAbs) ((sA (env 4))) ((sC (env 4)))] (fun E4=>[(2,vP (pb E1 0) 0),(4,vP (pb E1 2) 0),(5,rS ((x.natAbs:Int)-y.natAbs) ((sA (E4 4))) ((sC (E4 4))))]) (F:=[(4,fun env w=>RowN w0.heap.size w (env 4) (digs ((x.natAbs:Int)-y.natAbs)))]) (L1:=fun E4=>[fun w=>RowN w0.heap.size w (E4 4) (digs ((x.natAbs:Int)-y.natAbs))]) (hs:=c_ (fa0 (vP (pb E1 0) 0))<|c_ (ld_ 0 (hrd:=by exact rd37 rfl))<|c_ (fa0 (vP (pb E1 1) 0))<|c_ (ld_ 1 (hrd:=by exact rd37 rfl))<|c_ (cf_ Tryz.func83 (fun v w=>RowN w0.heap.size w v (digs ((x.natAbs:Int)-y.natAbs))) (slF (digs ((x.natAbs:Int)-y.natAbs))) (h:=fun _ env _ wd hA=>⟨_,upR hA.j.st.gr.size (sub_abs wd A0 B0 c0 k0 x y (hr.grown hA.j.st.gr) (hr2.grown hA.j.st.gr) (by omega) hx),rfl⟩))<|c_ mv_<|e_) (k:=fun E4 ac wd h_4=>?_)
 clear h_3
 refine then_n (wp_seq ?_)
 by_cases h4:x.natAbs=y.natAbs
 refine rf_ h_4 [[0],[0,1],[0,1,2],r_ 4,r_ 5,r_ 6,r_ 7,[7],r_ 9,r_ 10] [K_ (vP (pb E1 0) 0),K_ bT,K_ bT,K_ (rS ((x.natAbs:Int)-y.natAbs) ((sA (E4 4))) ((sC (E4 4)))),K_ (vN ((digs ((x.natAbs:Int)-y.natAbs)).length)),K_ bF,K_ bF,K_ (rS ((x.natAbs:Int)-y.natAbs) ((sA (E4 4))) ((sC (E4 4)))),K_ (.agg #[bF,rS ((x.natAbs:Int)-y.natAbs) ((sA (E4 4))) ((sC (E4 4)))]),none] (fun E5=>[(4,vP (pb E1 2) 0)]) (S:=[⟨2,9,fun _=>[bF,rS ((x.natAbs:Int)-y.natAbs) ((sA (E4 4))) ((sC (E4 4)))]⟩]) (M':=fun E5=>[((pb E1 0),39,[bT,rS x A0 c0]),((pb E1 1),39,[bF,rS y B0 k0]),((pb E1 2),39,[bF,rS ((x.natAbs:Int)-y.natAbs) ((sA (E4 4))) ((sC (E4 4)))])]) (hs:=c_ (fa0 (vP (pb E1 0) 0))<|c_ (ld_ 0 (hrd:=by exact rd4 rfl))<|c_ mv_<|c_ (gm0 (rS ((x.natAbs:Int)-y.natAbs) ((sA (E4 4))) ((sC (E4 4)))))<|c_ (ln_ Tryz.underlying37 fun _ env _ wd hA=>(Facts.rowN (hA.j.st.now).1 0 rfl).els)<|c_ (bi0 (vN ((digs ((x.natAbs:Int)-y.natAbs)).length)) (vI 0) (h:=by intro env w;have h5:digs ((x.natAbs:Int)-y.natAbs)=[]:=(congrArg digs (show ((x.natAbs:Int)-y.natAbs)=0 by omega)).trans digs_zero;simp [go_sem,h5]))<|c_ (pk0 bT bF bF (h:=by intro env w;have h5:digs ((x.natAbs:Int)-y.natAbs)=[]:=(congrArg digs (show ((x.natAbs:Int)-y.natAbs)=0 by omega)).trans digs_zero;simp [go_sem,h5]))<|c_ mv_<|c_ (bd0 ([bF,rS ((x.natAbs:Int)-y.natAbs) ((sA (E4 4))) ((sC (E4 4)))]))<|c_ (se_ 2 (hst:=by exact fun _ _ _ hc=>st39 rfl rfl rfl hc))<|e_) (k:=fun E5 ac wd h_5=>?_)
 clear h_4
 refine then_n (wp_ret ?_)
 have s4:=h_5.g (t:=4) rfl
 have hc4:=(h_5.st.own 2 _ rfl).2
 have c4_0:=own_cell (o:=0) hc4 rfl
 have c4_1:=own_cell (o:=1) hc4 rfl
 refine leave (v:=.agg #[.bool false,.slice ((sA (E4 4))) ((digs ((x.natAbs:Int)-y.natAbs)).length) ((sC (E4 4)))]) h_5.df (by simp [results,Tryz.results51,go_sem,Array.getD_eq_getD_getElem?,s4,c4_0,c4_1,Tryz.underlying39]) ?_
 refine ⟨_,rfl,h_5.st.below,BigN.mk (decide_eq_false (by omega)).symm ?_ (Facts.rN h_5.st.now 0 rfl)⟩
 first | exact congrArg digs (by omega) | (rw [← digs_neg];exact congrArg digs (by omega))
 refine rf_ h_4 [[0],[0,1],[0,1,2],r_ 4,r_ 5,r_ 6,r_ 7,[7],r_ 9,r_ 10] [K_ (vP (pb E1 0) 0),K_ bT,K_ bT,K_ (rS ((x.natAbs:Int)-y.natAbs) ((sA (E4 4))) ((sC (E4 4)))),K_ (vN ((digs ((x.natAbs:Int)-y.natAbs)).length)),K_ bT,K_ bT,K_ (rS ((x.natAbs:Int)-y.natAbs) ((sA (E4 4))) ((sC (E4 4)))),K_ (.agg #[bT,rS ((x.natAbs:Int)-y.natAbs) ((sA (E4 4))) ((sC (E4 4)))]),none] (fun E5=>[(4,vP (pb E1 2) 0)]) (S:=[⟨2,9,fun _=>[bT,rS ((x.natAbs:Int)-y.natAbs) ((sA (E4 4))) ((sC (E4 4)))]⟩]) (M':=fun E5=>[((pb E1 0),39,[bT,rS x A0 c0]),((pb E1 1),39,[bF,rS y B0 k0]),((pb E1 2),39,[bT,rS ((x.natAbs:Int)-y.natAbs) ((sA (E4 4))) ((sC (E4 4)))])]) (hs:=c_ (fa0 (vP (pb E1 0) 0))<|c_ (ld_ 0 (hrd:=by exact rd4 rfl))<|c_ mv_<|c_ (gm0 (rS ((x.natAbs:Int)-y.natAbs) ((sA (E4 4))) ((sC (E4 4)))))<|c_ (ln_ Tryz.underlying37 fun _ env _ wd hA=>(Facts.rowN (hA.j.st.now).1 0 rfl).els)<|c_ (bi0 (vN ((digs ((x.natAbs:Int)-y.natAbs)).length)) (vI 0) (h:=by intro env w;have h5:digs ((x.natAbs:Int)-y.natAbs)≠[]:=fun e=>(show ¬ ((x.natAbs:Int)-y.natAbs)=0 by omega) (digs_nil.1 (by rw [e];rfl));first | (simp [go_sem];done) | (simp [go_sem];exact List.length_pos_iff.2 h5)))<|c_ (pk0 bT bT bF (h:=by intro env w;have h5:digs ((x.natAbs:Int)-y.natAbs)≠[]:=fun e=>(show ¬ ((x.natAbs:Int)-y.natAbs)=0 by omega) (digs_nil.1 (by rw [e];rfl));first | (simp [go_sem];done) | (simp [go_sem];exact List.length_pos_iff.2 h5)))<|c_ mv_<|c_ (bd0 ([bT,rS ((x.natAbs:Int)-y.natAbs) ((sA (E4 4))) ((sC (E4 4)))]))<|c_ (se_ 2 (hst:=by exact fun _ _ _ hc=>st39 rfl rfl rfl hc))<|e_) (k:=fun E5 ac wd h_5=>?_)
 clear h_4
 refine then_n (wp_ret ?_)
 have s4:=h_5.g (t:=4) rfl
 have hc4:=(h_5.st.own 2 _ rfl).2
 have c4_0:=own_cell (o:=0) hc4 rfl
 have c4_1:=own_cell (o:=1) hc4 rfl
 refine leave (v:=.agg #[.bool true,.slice ((sA (E4 4))) ((digs ((x.natAbs:Int)-y.natAbs)).length) ((sC (E4 4)))]) h_5.df (by simp [results,Tryz.results51,go_sem,Array.getD_eq_getD_getElem?,s4,c4_0,c4_1,Tryz.underlying39]) ?_
 refine ⟨_,rfl,h_5.st.below,BigN.mk (decide_eq_true (by omega)).symm ?_ (Facts.rN h_5.st.now 0 rfl)⟩
 first | exact congrArg digs (by omega) | (rw [← digs_neg];exact congrArg digs (by omega))
 have h2:y < 0:=of_decide_eq_true hq.symm
 refine rf_ h [[0],[1],[2]] [KE_ fun env=>vP (pb env 0) 0,KE_ fun env=>vP (pb env 1) 0,KE_ fun env=>vP (pb env 2) 0] (fun E1=>[(2,vP (pb E1 0) 0),(3,vP (pb E1 1) 0),(4,vP (pb E1 2) 0)]) (W:=[{ i:=0,T:=39,c0:=[bT,rS x A0 c0] },{ i:=1,T:=39,c0:=[bT,rS y B0 k0] },{ i:=2,T:=39,c0:=[bF,.slice none 0 0] }]) (M':=fun E1=>[((pb E1 0),39,[bT,rS x A0 c0]),((pb E1 1),39,[bT,rS y B0 k0]),((pb E1 2),39,[bF,.slice none 0 0])]) (hs:=c_ (bx0 0 (.agg #[bT,rS x A0 c0]))<|c_ (bx0 1 (.agg #[bT,rS y B0 k0]))<|c_ (al_ 2)<|e_) (k:=fun E1 ac wd h_1=>?_)
 clear h
 refine then_n (wp_seq (wp_seq ?_))
 refine rf_ h_1 [[0],[0,1],[2],[2,3],r_ 5] [K_ (vP (pb E1 0) 0),K_ bT,K_ (vP (pb E1 1) 0),K_ bT,K_ bT] (fun E2=>[(2,vP (pb E1 0) 0),(3,vP (pb E1 1) 0),(4,vP (pb E1 2) 0),(10,bT)]) (hs:=c_ (fa0 (vP (pb E1 0) 0))<|c_ (ld_ 0 (hrd:=by exact rd4 rfl))<|c_ (fa0 (vP (pb E1 1) 0))<|c_ (ld_ 1 (hrd:=by exact rd4 rfl))<|c_ (bi0 bT bT)<|e_) (k:=fun E2 ac wd h_2=>?_)
 clear h_1
 refine then_n ?_
 refine wp_cond_true (eval_tmp (h_2.g (t:=10) rfl)) ?_
 refine wp_seq ?_
 refine rf_ h_2 [[0],[0,1],[2],[2,3],[4],[4,5],[2,3,4,5,6],r_ 8,r_ 9] [K_ (vP (pb E1 0) 0),K_ bT,K_ (vP (pb E1 0) 1),K_ (rS x A0 c0),K_ (vP (pb E1 1) 1),K_ (rS y B0 k0),KE_ fun env=>rS ((x.natAbs:Int)+y.natAbs) ((sA (env 6))) ((sC (env 6))),KE_ fun env=>.agg #[bT,rS ((x.natAbs:Int)+y.natAbs) ((sA (env 6))) ((sC (env 6)))],none] (fun E3=>[(2,vP (pb E1 0) 0),(3,vP (pb E1 1) 0),(4,vP (pb E1 2) 0)]) (S:=[⟨2,8,fun env=>[bT,rS ((x.natAbs:Int)+y.natAbs) ((sA (env 6))) ((sC (env 6)))]⟩]) (F:=[(6,fun env w=>RowN w0.heap.size w (env 6) (digs ((x.natAbs:Int)+y.natAbs)))]) (L1:=fun E3=>[fun w=>RowN w0.heap.size w (E3 6) (digs ((x.natAbs:Int)+y.natAbs))]) (M':=fun E3=>[((pb E1 0),39,[bT,rS x A0 c0]),((pb E1 1),39,[bT,rS y B0 k0]),((pb E1 2),39,[bT,rS ((x.natAbs:Int)+y.natAbs) ((sA (E3 6))) ((sC (E3 6)))])]) (hs:=c_ (fa0 (vP (pb E1 0) 0))<|c_ (ld_ 0 (hrd:=by exact rd4 rfl))<|c_ (fa0 (vP (pb E1 0) 0))<|c_ (ld_ 0 (hrd:=by exact rd37 rfl))<|c_ (fa0 (vP (pb E1 1) 0))<|c_ (ld_ 1 (hrd:=by exact rd37 rfl))<|c_ (cf_ Tryz.func82 (fun v w=>RowN w0.heap.size w v (digs ((x.natAbs:Int)+y.natAbs))) (slF (digs ((x.natAbs:Int)+y.natAbs))) (h:=fun _ env _ wd hA=>⟨_,upR hA.j.st.gr.size (add_abs wd A0 B0 c0 k0 x y (hr.grown hA.j.st.gr) (hr2.grown hA.j.st.gr) hx hy),rfl⟩))<|c_ (bd_ (fun env=>[bT,rS ((x.natAbs:Int)+y.natAbs) ((sA (env 6))) ((sC (env 6)))]))<|c_ (se_ 2 (hst:=by exact fun _ _ _ hc=>st39 rfl rfl rfl hc))<|e_) (k:=fun E3 ac wd h_3=>?_)
 clear h_2
 refine then_n (wp_ret (then_ret ?_))
 have s4:=h_3.g (t:=4) rfl
 have hc4:=(h_3.st.own 2 _ rfl).2
 have c4_0:=own_cell (o:=0) hc4 rfl
 have c4_1:=own_cell (o:=1) hc4 rfl
 refine leave (v:=.agg #[.bool true,.slice ((sA (E3 6))) ((digs ((x.natAbs:Int)+y.natAbs)).length) ((sC (E3 6)))]) h_3.df (by simp [results,Tryz.results51,go_sem,Array.getD_eq_getD_getElem?,s4,c4_0,c4_1,Tryz.underlying39]) ?_
 refine ⟨_,rfl,h_3.st.below,BigN.mk (decide_eq_true (by omega)).symm ?_ (Facts.rN h_3.st.now 0 rfl)⟩
 first | exact congrArg digs (by omega) | (rw [← digs_neg];exact congrArg digs (by omega))
theorem Sm.neg {z:Int} (h:Sm z):Sm (-z):=by unfold Sm at *;omega
theorem Sub_any (w0:World) (p:Bool) (A0:Option Addr) (c0:Nat) (x:Int) (hp:p=decide (x < 0)) (hr:Row w0 (.slice A0 (digs x).length c0) (digs x)) (hx:Sm x) (q:Bool) (B0:Option Addr) (k0:Nat) (y:Int) (hq:q=decide (y < 0)) (hr2:Row w0 (.slice B0 (digs y).length k0) (digs y)) (hy:Sm y):Calls Tryz.prog 22 #[.agg #[.bool (p),.slice A0 ((digs x).length) c0],.agg #[.bool (q),.slice B0 ((digs y).length) k0]] w0 fun e w'=>∃ v,e = .returned v∧Below w0.heap.size w0 w'∧BigN w0.heap.size w' v (x-y):=by
  have hst:=St.start w0 (Θ:=fun _=>True) (fun _ _=>trivial)
  refine enter Tryz.func22 rfl (n:=9) rfl (Nat.le_of_ble_eq_true rfl) hst (L:=[(0,.agg #[.bool (p),.slice A0 ((digs x).length) c0]),(1,.agg #[.bool (q),.slice B0 ((digs y).length) k0])]) (lk_args rfl) (fun ac h=>?_)
  replace h:=h.facts
  refine wp_seq ?_
  refine rf_ h [[0],[1],[2]] [KE_ fun env=>vP (pb env 0) 0,KE_ fun env=>vP (pb env 1) 0,KE_ fun env=>vP (pb env 2) 0] (fun E1=>[(2,vP (pb E1 0) 0),(3,vP (pb E1 1) 0),(4,vP (pb E1 2) 0)]) (W:=[{ i:=0,T:=39,c0:=[.bool (p),rS x A0 c0] },{ i:=1,T:=39,c0:=[.bool (q),rS y B0 k0] },{ i:=2,T:=39,c0:=[bF,.slice none 0 0] }]) (M':=fun E1=>[((pb E1 0),39,[.bool (p),rS x A0 c0]),((pb E1 1),39,[.bool (q),rS y B0 k0]),((pb E1 2),39,[bF,.slice none 0 0])]) (hs:=c_ (bx0 0 (.agg #[.bool (p),rS x A0 c0]))<|c_ (bx0 1 (.agg #[.bool (q),rS y B0 k0]))<|c_ (al_ 2)<|e_) (k:=fun E1 ac wd h_1=>?_)
  clear h
  refine then_n (wp_seq ?_)
  refine rf_ h_1 [[0],[1],[1,2],r_ 4,r_ 5] [K_ (.agg #[.bool (p),rS x A0 c0]),K_ (.agg #[.bool (q),rS y B0 k0]),K_ (.agg #[.bool (decide (-y < 0)),rS (-y) B0 k0]),KE_ fun env=>bigF (x + -y) (env 3),none] (fun E2=>[(4,vP (pb E1 2) 0)]) (S:=[⟨2,4,fun env=>[.bool (decide (x + -y < 0)),rS (x + -y) ((bA (env 3))) ((bC (env 3)))]⟩]) (F:=[(3,fun env w=>BigN w0.heap.size w (env 3) (x + -y))]) (L1:=fun E2=>[fun w=>BigN w0.heap.size w (E2 3) (x + -y)]) (M':=fun E2=>[((pb E1 0),39,[.bool (p),rS x A0 c0]),((pb E1 1),39,[.bool (q),rS y B0 k0]),((pb E1 2),39,[.bool (decide (x + -y < 0)),rS (x + -y) ((bA (E2 3))) ((bC (E2 3)))])]) (hs:=c_ (ld_ 0 (hrd:=by exact rd39 rfl rfl))<|c_ (ld_ 1 (hrd:=by exact rd39 rfl rfl))<|c_ (cw_ Tryz.func58 (h:=fun _ env _ wd hA=>⟨_,Neg_any wd q B0 k0 y hq (hr2.grown hA.j.st.gr),rfl⟩))<|c_ (cb_ Tryz.func51 (x + -y) (h:=fun _ env _ wd hA=>⟨_,Add_any wd p A0 c0 x hp (hr.grown hA.j.st.gr) hx (decide (-y < 0)) B0 k0 (-y) rfl (Row.neg (hr2.grown hA.j.st.gr)) hy.neg,rfl⟩))<|c_ (se_ 2 (hst:=by exact fun _ _ _ hc=>st39 rfl rfl rfl hc))<|e_) (k:=fun E2 ac wd h_2=>?_)
  clear h_1
  refine then_n (wp_ret ?_)
  have s4:=h_2.g (t:=4) rfl
  have hc4:=(h_2.st.own 2 _ rfl).2
  have c4_0:=own_cell (o:=0) hc4 rfl
  have c4_1:=own_cell (o:=1) hc4 rfl
  refine leave (v:=bigF (x + -y) (E2 3)) h_2.df (by simp [results,Tryz.results22,go_sem,Array.getD_eq_getD_getElem?,s4,c4_0,c4_1,Tryz.underlying39]) ?_
  refine ⟨_,rfl,h_2.st.below,BigN.mk ?_ ?_ (Facts.bN h_2.st.now 0 rfl)⟩
  · rw [Int.sub_eq_add_neg]
  · rw [Int.sub_eq_add_neg]
theorem Int_any (w0:World) (n:Int) (h0:-9223372036854775808≤n) (h1:n < 9223372036854775808):Calls Tryz.prog 23 #[vI n] w0 fun e w'=>∃ v,e = .returned v∧Below w0.heap.size w0 w'∧BigN w0.heap.size w' v (n):=by
 have hst:=St.start w0 (Θ:=fun _=>True) (fun _ _=>trivial)
 refine enter Tryz.func23 rfl (n:=18) rfl (Nat.le_of_ble_eq_true rfl) hst (L:=[(0,vI n)]) (lk_args rfl) (fun ac h=>?_)
 replace h:=h.facts
 refine wp_seq ?_
 refine rf_ h [[0]] [KE_ fun env=>vP (pb env 0) 0] (fun E1=>[(0,vI n),(2,vP (pb E1 0) 0)]) (W:=[{ i:=0,T:=39,c0:=[bF,.slice none 0 0] }]) (M':=fun E1=>[((pb E1 0),39,[bF,.slice none 0 0])]) (hs:=c_ (al_ 0)<|e_) (k:=fun E1 ac wd h_1=>?_)
 clear h
 refine then_n (wp_seq (wp_seq ?_))
 by_cases h2:0≤n
 refine rf_ h_1 [[0],[0,1]] [K_ (vI n),K_ bT] (fun E2=>[(0,vI n),(2,vP (pb E1 0) 0),(5,bT)]) (hs:=c_ mv_<|c_ (bi0 (vI n) (vI 0))<|e_) (k:=fun E2 ac wd h_2=>?_)
 clear h_1
 refine then_n ?_
 refine wp_cond_true (eval_tmp (h_2.g (t:=5) rfl)) ?_
 refine wp_seq ?_
 refine rf_ h_2 (tri 4) [K_ (vI n),K_ (.int .u64 n),KE_ fun env=>bigF n (env 2),none] (fun E3=>[(0,vI n),(2,vP (pb E1 0) 0)]) (S:=[⟨0,3,fun env=>[.bool (decide (n < 0)),rS n ((bA (env 2))) ((bC (env 2)))]⟩]) (F:=[(2,fun env w=>BigN w0.heap.size w (env 2) n)]) (L1:=fun E3=>[fun w=>BigN w0.heap.size w (E3 2) n]) (M':=fun E3=>[((pb E1 0),39,[.bool (decide (n < 0)),rS n ((bA (E3 2))) ((bC (E3 2)))])]) (hs:=c_ mv_<|c_ (cv0 (vI n) (h:=by intro env w;simp [go_sem];first | done | exact IntWalk.u64_in _ (by omega) (by omega) | exact IntWalk.u64_in _ (by omega)))<|c_ (cb_ Tryz.func54 n (h:=fun _ env _ wd hA=>⟨_,Word_any wd n (by omega) (by omega),rfl⟩))<|c_ (se_ 0 (hst:=by exact fun _ _ _ hc=>st39 rfl rfl rfl hc))<|e_) (k:=fun E3 ac wd h_3=>?_)
 clear h_2
 refine then_n (wp_ret (then_ret ?_))
 have s2:=h_3.g (t:=2) rfl
 have hc2:=(h_3.st.own 0 _ rfl).2
 have c2_0:=own_cell (o:=0) hc2 rfl
 have c2_1:=own_cell (o:=1) hc2 rfl
 refine leave (v:=bigF n (E3 2)) h_3.df (by simp [results,Tryz.results23,go_sem,Array.getD_eq_getD_getElem?,s2,c2_0,c2_1,Tryz.underlying39]) ?_
 exact ⟨_,rfl,h_3.st.below,BigN.mk rfl rfl (Facts.bN h_3.st.now 0 rfl)⟩
 refine rf_ h_1 [[0],[0,1]] [K_ (vI n),K_ bF] (fun E2=>[(0,vI n),(2,vP (pb E1 0) 0),(5,bF)]) (hs:=c_ mv_<|c_ (bi0 (vI n) (vI 0))<|e_) (k:=fun E2 ac wd h_2=>?_)
 clear h_1
 refine then_n ?_
 refine wp_cond_false (eval_tmp (h_2.g (t:=5) rfl)) ?_
 refine wp_skip (then_n (wp_seq ?_))
 refine rf_ h_2 [[0],[0,1],[0,1,2],r_ 4,r_ 5,[5],r_ 7] [K_ (vI n),K_ (vI (n+1)),K_ (vI (-n-1)),K_ (.int .u64 (-n-1)),KE_ fun env=>bigF (-n-1) (env 4),KE_ fun env=>vP (pb env 5) 0,none] (fun E3=>[(2,vP (pb E1 0) 0),(3,vP (pb E3 5) 0)]) (W:=[{ i:=5,T:=39,c0:=[bF,.slice none 0 0],s:=some 6,c1:=fun env=>[.bool (decide (-n-1 < 0)),rS (-n-1) ((bA (env 4))) ((bC (env 4)))] }]) (F:=[(4,fun env w=>BigN w0.heap.size w (env 4) (-n-1))]) (L1:=fun E3=>[fun w=>BigN w0.heap.size w (E3 4) (-n-1)]) (M':=fun E3=>[((pb E1 0),39,[bF,.slice none 0 0]),((pb E3 5),39,[.bool (decide (-n-1 < 0)),rS (-n-1) ((bA (E3 4))) ((bC (E3 4)))])]) (hs:=c_ mv_<|c_ (bi0 (vI n) (vI 1))<|c_ (un0 (vI (n+1)) (h:=by intro env w;simp [go_sem];rw [show (-(n+1)) = -n-1 by omega];exact IntWalk.i64_in _ (by omega)))<|c_ (cv0 (vI (-n-1)) (h:=by intro env w;simp [go_sem];first | done | exact IntWalk.u64_in _ (by omega) (by omega) | exact IntWalk.u64_in _ (by omega)))<|c_ (cb_ Tryz.func54 (-n-1) (h:=fun _ env _ wd hA=>⟨_,Word_any wd (-n-1) (by omega) (by omega),rfl⟩))<|c_ (al_ 1)<|c_ (sw_ 1 5 (hst:=by exact fun _ _ _ hc=>st39 rfl rfl rfl hc))<|e_) (k:=fun E3 ac wd h_3=>?_)
 clear h_2
 refine then_n (wp_seq ?_)
 refine rf_ h_3 [[0],[1],[0,1,2],r_ 4,r_ 5] [K_ (bigF (-n-1) (E3 4)),KE_ fun env=>bigF 1 (env 1),KE_ fun env=>bigF (-n-1+1) (env 2),KE_ fun env=>bigF (-(-n-1+1)) (env 2),none] (fun E4=>[(2,vP (pb E1 0) 0)]) (S:=[⟨0,4,fun env=>[.bool (decide (-(-n-1+1) < 0)),rS (-(-n-1+1)) ((bA (env 2))) ((bC (env 2)))]⟩]) (F:=[(1,fun env w=>BigN w0.heap.size w (env 1) 1),(2,fun env w=>BigN w0.heap.size w (env 2) (-n-1+1))]) (L1:=fun E4=>[fun w=>BigN w0.heap.size w (E3 4) (-n-1),fun w=>BigN w0.heap.size w (E4 1) 1,fun w=>BigN w0.heap.size w (E4 2) (-n-1+1)]) (M':=fun E4=>[((pb E1 0),39,[.bool (decide (-(-n-1+1) < 0)),rS (-(-n-1+1)) ((bA (E4 2))) ((bC (E4 2)))]),((pb E3 5),39,[.bool (decide (-n-1 < 0)),rS (-n-1) ((bA (E3 4))) ((bC (E3 4)))])]) (hs:=c_ (ld_ 1 (hrd:=by exact rd39 rfl rfl))<|c_ (cb_ Tryz.func54 1 (h:=fun _ env _ wd hA=>⟨_,Word_any wd 1 (by omega) (by omega),rfl⟩))<|c_ (cb_ Tryz.func51 (-n-1+1) (h:=fun _ env _ wd hA=>⟨_,Add_any wd (decide (-n-1 < 0)) (bA (E3 4)) (bC (E3 4)) (-n-1) rfl (Facts.bigN (hA.j.st.now).1 0 rfl) (by unfold Sm;omega) (decide (1 < 0)) (bA (env 1)) (bC (env 1)) 1 rfl (At.bigN hA 1 rfl rfl rfl) (by unfold Sm;omega),rfl⟩))<|c_ (cw_ Tryz.func58 (h:=fun _ env _ wd hA=>⟨_,Neg_any wd _ (bA (env 2)) (bC (env 2)) (-n-1+1) rfl (At.bigN hA 2 rfl rfl rfl),rfl⟩))<|c_ (se_ 0 (hst:=by exact fun _ _ _ hc=>st39 rfl rfl rfl hc))<|e_) (k:=fun E4 ac wd h_4=>?_)
 clear h_3
 refine then_n (wp_ret ?_)
 have s2:=h_4.g (t:=2) rfl
 have hc2:=(h_4.st.own 0 _ rfl).2
 have c2_0:=own_cell (o:=0) hc2 rfl
 have c2_1:=own_cell (o:=1) hc2 rfl
 refine leave (v:=bigF (-(-n-1+1)) (E4 2)) h_4.df (by simp [results,Tryz.results23,go_sem,Array.getD_eq_getD_getElem?,s2,c2_0,c2_1,Tryz.underlying39]) ?_
 exact ⟨_,rfl,h_4.st.below,BigN.mk (by rw [show -(-n-1+1)=n by omega]) (by rw [show -(-n-1+1)=n by omega]) (RowN.neg (Facts.bN h_4.st.now 2 rfl))⟩
end Go.Proofs.YtdfkghpgekmmlaaGreat
namespace Go.Proofs.YtdfkghpgekmmlaaGreat
open Go.RowKit
def One (ex:Option Nat) (w:World) (v:Value) (z:Int):Prop:=∃ b,v = .slice (some ⟨b,0,none⟩) 1 1∧w.heap[b]? = some (.cells #[vi z] 3 (0,0))∧ex≠some b
theorem One.keep {ex:Option Nat} {w w':World} {v:Value} {z:Int} (h:One ex w v z) (hk:Keep ex w w'):One ex w' v z:=by
 obtain ⟨b,rfl,h1,h2⟩:=h
 exact ⟨b,rfl,by rw [hk b _ _ h1 h2];exact h1,h2⟩
theorem One.form {ex:Option Nat} {w:World} {v:Value} {z:Int} (h:One ex w v z):v = .slice (sA v) 1 1:=by
 obtain ⟨b,rfl,_⟩:=h;rfl
theorem One.re {ex:Option Nat} {w:World} {v:Value} {z:Int} (h:One ex w v z):One ex w (.slice (sA v) 1 1) z:=by
 obtain ⟨b,rfl,h1,h2⟩:=h
 exact ⟨b,rfl,h1,h2⟩
theorem Cur.nilRow {n:Nat} {w0:World} {row ex:Option Nat} {Θ:World→Prop} {L:Slots} {M:List Ent} {a:Act} {w:World} (h:Cur n w0 row ex (Facts []) Θ L M a w):Cur n w0 row ex (Facts [fun w=>RowX ex w (.slice none 0 0) []]) Θ L M a w:=
  ⟨h.sz,h.df,h.st.mono (fun w' _ φ hφ=>by
    rw [List.mem_singleton] at hφ
    subst hφ
    exact ⟨⟨none,0,rfl,by simp,by simp,.inl rfl⟩,fun g _ e=>by cases e⟩) (fun _ h=>h),h.sl⟩
section
variable {R:Reg} {Q:Exit→Act→World→Prop} {i:Nat} {o:Oper}
theorem s_bs1 (ho:R.ops[i]? = some o) (hf:free' R i=true) (hw:∀ {D env a w},At R i D env a w→Region.wanted o (yielded R.ops a.tmps)=true) (z:Int) (hV:R.v? i=some fun env=>.slice (sA (env i)) 1 1) (hF:R.F.filter (fun p=>Nat.beq p.1 i)=[(i,fun env w=>One R.ex w (env i) z)]) (hint:intFree R=true)
    (hrun:∀ {D env a w},At R i D env a w→(execOp a.eval o).run Tryz.prog w = .ok (.value (.slice (some ⟨w.heap.size,0,none⟩) 1 1)) (w.alloc (.cells #[vi z] 3 (0,0)))):SR Tryz.prog Q R i:=
  s_gen ho hf (fun {D env a w} hA K hK=>by
    rw [if_pos (hw hA)]
    unfold Oper.wp
    rw [hrun hA]
    have hs':=hA.j.st.call (w':=w.alloc (.cells #[vi z] 3 (0,0))) ⟨rfl,rfl,rfl,by simp,fun k hk=>Below.heap_alloc _ _ _ hk⟩
    refine hK _ _ hs' (fun w'' ha=>f_fact (φ:=fun v w=>One R.ex w v z) (form:=fun v=>.slice (sA v) 1 1) hV (fun v w h=>h.form) hF hA.ok ho (One.keep ⟨w.heap.size,rfl,heap_alloc_new w _,fun hg=>?_⟩ (apart_keep hint hs' ha)))
    have:=(hA.j.st.exb _ hg).1
    omega)
theorem s_apR (ho:R.ops[i]? = some o) (hf:free' R i=true) (hg:o.guard=none) {s x:Operand} (hop:o.op = .call { callee:=.builtin .append,args:=#[s,x],argTypes:=#[37,37] })
    (z:Int) (ds:List Int) (hlen:ds.length≤1000000) (hV:R.v? i=some fun env=>slF (z :: ds) (env i)) (hF:R.F.filter (fun p=>Nat.beq p.1 i)=[(i,fun env w=>RowX R.ex w (env i) (z :: ds))]) (hint:intFree R=true)
    {vs vx:Env→Value} (hs:∀ env,opAt R i env s=some (vs env)) (hx:∀ env,opAt R i env x=some (vx env)) (h1:∀ {D env a w},At R i D env a w→One R.ex w (vs env) z) (h2:∀ {D env a w},At R i D env a w→Row w (vx env) ds):SR Tryz.prog Q R i:=
  s_gen ho hf (fun {D env a w} hA K hK=>by
    rw [if_pos (wanted_none hg _)]
    obtain ⟨i0,hi,hz0,hz1,hz2⟩:=info_parts (show (Tryz.prog.info? 3).map (fun i=>(i.zero,i.size,i.bytes))=some (some (.int .i64 0),1,8) by kernel_rfl)
    have e1:=hA.e (hs env)
    have e2:=hA.e (hx env)
    obtain ⟨b,hb1,hb2,hb3⟩:=h1 hA
    have hrow:=h2 hA
    obtain ⟨A,c,hv,hc1,hc2,hc3⟩:=h2 hA
    rw [hb1] at e1
    rw [hv] at e2
    have key:∃ v' w',(Builtin.append_ #[37,37] o.type #[.slice (some ⟨b,0,none⟩) 1 1,.slice A ds.length c]).run Tryz.prog w = .ok v' w'∧Below w.heap.size w w'∧RowX R.ex w' v' (z :: ds):=by
      rcases Nat.eq_zero_or_pos ds.length with hc4 | hc4
      · have hnil:ds=[]:=List.length_eq_zero_iff.1 hc4
        subst hnil
        refine ⟨_,w,?_,⟨rfl,rfl,rfl,Nat.le_refl _,fun _ _=>rfl⟩,⟨_,1,rfl,by simp,by simp,.inr ⟨b,0,_,_,rfl,hb2,fun j hj=>?_⟩⟩,fun g hg e=>?_⟩
        · cases A with
          | none=>simp [Builtin.append_,run_underlying Tryz.underlying37,sizeOf,typeInfo,hi,hz1,Builtin.lenOf,run_firstCells_none,storeCells]
          | some a0 =>
            have hf:=run_firstCells_some (P:=Tryz.prog) w 1 0 a0 0 c [] rfl (by simp)
            simp [Builtin.append_,run_underlying Tryz.underlying37,sizeOf,typeInfo,hi,hz1,Builtin.lenOf,hf,storeCells]
        · simp at hj;subst hj;rfl
        · simp only [Value.ownBlock,Option.some.injEq] at e
          exact hb3 (by rw [hg,e])
      · rcases hc3 with hc3 | ⟨b',off,cur,fz,rfl,hb',hcell⟩
        · omega
        obtain ⟨v',w',hr,how,hgr⟩:=run_append_arg_grows (P:=Tryz.prog) w 37 o.type 3 i0 (.int .i64 0) 1 8 Tryz.underlying37 hi hz0 hz1 hz2 rfl (by decide) ⟨b,0,none⟩ 1 1 [vi z] rfl (fun q u hq=>by
            cases q with
            | zero=>simp only [List.getElem?_cons_zero,Option.some.injEq] at hq;subst hq;simp [World.cell?,Addr.add,hb2]
            | succ q=>simp at hq) ⟨b',off,none⟩ ds.length c (ds.map vi) (by simp) (fun q u hq=>by
            rw [List.getElem?_map] at hq
            have hq2:q < ds.length:=by
              rcases Nat.lt_or_ge q ds.length with h | h
              · exact h
              · rw [List.getElem?_eq_none h] at hq;cases hq
            rw [List.getElem?_eq_getElem hq2] at hq
            have hcq:=hcell q hq2
            rw [List.getD_eq_getElem?_getD,List.getElem?_eq_getElem hq2] at hcq
            simp only [Option.map_some,Option.some.injEq] at hq
            subst hq
            have ea:(⟨b',off,none⟩:Addr).add q=⟨b',off+q,none⟩:=by unfold Addr.add;split <;> simp_all
            rw [ea]
            simp [World.cell?,hb',hcq]) (by omega) (by unfold maxLen;omega) (by omega)
        · refine ⟨v',w',hr,⟨hgr.os,hgr.tape,hgr.output,hgr.size,fun k hk=>hgr.block k hk (by simp)⟩,?_⟩
          have ho':OwnR w' w.heap.size v' (z :: ds):=by
            unfold OwnR
            rw [List.length_cons,Nat.add_comm,List.map_cons]
            exact how
          refine ⟨ho'.row (by simp;omega),fun g hg e=>?_⟩
          have:=(ho'.lt g e).1
          have:=(hA.j.st.exb g hg).1
          omega
    obtain ⟨v',w',hr,hbel,hres⟩:=key
    have hrun:(execOp a.eval o).run Tryz.prog w = .ok (.value v') w':=by
      unfold execOp
      simp [hop,resolve,Deferred.ofValue,invoke,builtin,e1,e2,hr]
    unfold Oper.wp
    rw [hrun]
    have hs':=hA.j.st.call hbel
    exact hK _ _ hs' (fun w'' ha=>f_fact (φ:=fun v w=>RowX R.ex w v (z :: ds)) (form:=slF (z :: ds)) hV (fun v w h=>h.form) hF hA.ok ho (hres.keep (apart_keep hint hs' ha))))
end
end Go.Proofs.YtdfkghpgekmmlaaGreat
namespace Go.Proofs.YtdfkghpgekmmlaaGreat
open Go.RowKit
def tp (v:Value) (i:Nat):Value:=match v with
  | .tuple xs=>xs.getD i undef
  | _=>undef
def DivX (w:World) (v:Value) (z1 z2:Int):Prop:=v = .tuple #[tp v 0,tp v 1]∧BigX none w (tp v 0) z1∧BigX none w (tp v 1) z2
def divF (z1 z2:Int) (v:Value):Value:=.tuple #[bigF z1 (tp v 0),bigF z2 (tp v 1)]
theorem DivX.form {w:World} {v:Value} {z1 z2:Int} (h:DivX w v z1 z2):v=divF z1 z2 v:=by
 obtain ⟨h0,h1,h2⟩:=h
 unfold divF
 rw [← h1.form,← h2.form]
 exact h0
theorem DivX.keep {w w':World} {v:Value} {z1 z2:Int} (h:DivX w v z1 z2) (hk:Keep none w w'):DivX w' v z1 z2:=⟨h.1,h.2.1.keep hk,h.2.2.keep hk⟩
theorem Facts.div1 {L:List (World→Prop)} {w:World} {v:Value} {z1 z2:Int} (h:Facts L w) (k:Nat) (hk:L[k]? = some (fun w=>DivX w v z1 z2)):Row w (.slice (bA (tp v 0)) (digs z1).length (bC (tp v 0))) (digs z1):=BigX.row (show DivX w v z1 z2 from h.get k hk).2.1
theorem Facts.div2 {L:List (World→Prop)} {w:World} {v:Value} {z1 z2:Int} (h:Facts L w) (k:Nat) (hk:L[k]? = some (fun w=>DivX w v z1 z2)):Row w (.slice (bA (tp v 1)) (digs z2).length (bC (tp v 1))) (digs z2):=BigX.row (show DivX w v z1 z2 from h.get k hk).2.2
theorem At.div1 {R:Reg} {i:Nat} {D:Nat→Bool} {env:Env} {a:Act} {w:World} (h:At R i D env a w) (j:Nat) {z1 z2:Int} (hj:((R.cl.getD i []).contains j && !(j == i))=true) (hs:((R.cl.getD j []).contains j)=true) (hF:R.F.filter (fun p=>Nat.beq p.1 j)=[(j,fun env w=>DivX w (env j) z1 z2)]):Row w (.slice (bA (tp (env j) 0)) (digs z1).length (bC (tp (env j) 0))) (digs z1):=BigX.row (h.fact j (φ:=fun v w=>DivX w v z1 z2) hj hs hF).2.1
theorem At.div2 {R:Reg} {i:Nat} {D:Nat→Bool} {env:Env} {a:Act} {w:World} (h:At R i D env a w) (j:Nat) {z1 z2:Int} (hj:((R.cl.getD i []).contains j && !(j == i))=true) (hs:((R.cl.getD j []).contains j)=true) (hF:R.F.filter (fun p=>Nat.beq p.1 j)=[(j,fun env w=>DivX w (env j) z1 z2)]):Row w (.slice (bA (tp (env j) 1)) (digs z2).length (bC (tp (env j) 1))) (digs z2):=BigX.row (h.fact j (φ:=fun v w=>DivX w v z1 z2) hj hs hF).2.2
theorem toD {P:Program} {f:FuncId} {args:Array Value} {w:World} {z1 z2:Int} (h:Calls P f args w fun e w'=>∃ v1 v2,e = .returned (.tuple #[v1,v2])∧Below w.heap.size w w'∧BigX none w' v1 z1∧BigX none w' v2 z2):Calls P f args w fun e w'=>∃ v,e = .returned v∧Below w.heap.size w w'∧DivX w' v z1 z2:=by
 refine h.mono ?_
 rintro e w' ⟨v1,v2,h1,h2,h3,h4⟩
 exact ⟨_,h1,h2,rfl,h3,h4⟩
end Go.Proofs.YtdfkghpgekmmlaaGreat
namespace Go.Proofs.YtdfkghpgekmmlaaGreat
structure DivI (xs qs:List Int) (y r:Int) (k:Nat):Prop where
 l:qs.length=xs.length
 g:Rg qs
 hk:k≤xs.length
 r0:0≤r
 r1:r < y
 s:nat (xs.drop k)=nat (qs.drop k)*y+r
theorem DivI.start (xs:List Int) {y:Int} (hy:0 < y):DivI xs (List.replicate xs.length 0) y 0 xs.length:=by
  refine ⟨by simp,fun d hd=>?_,Nat.le_refl _,by omega,hy,?_⟩
  · rw [List.eq_of_mem_replicate hd];omega
  · rw [List.drop_of_length_le (Nat.le_refl _),List.drop_of_length_le (by simp)];simp [nat]
theorem nat_drop (xs:List Int) {k:Nat} (hk:k < xs.length):nat (xs.drop k)=xs.getD k 0+65536*nat (xs.drop (k+1)):=by
 rw [List.drop_eq_getElem_cons hk,nat,List.getD_eq_getElem?_getD,List.getElem?_eq_getElem hk]
 rfl
theorem div_digit {y r d:Int} (r0:0≤r) (r1:r < y) (d0:0≤d) (d1:d < 65536):0≤d+65536*r∧(d+65536*r) / y≤65535∧0≤(d+65536*r) / y:=by
 refine ⟨by omega,?_,Int.ediv_nonneg (by omega) (by omega)⟩
 have h:(d+65536*r) / y < 65536:=Int.ediv_lt_of_lt_mul (by omega) (by omega)
 omega
theorem DivI.step {xs qs:List Int} {y r:Int} {k:Nat} (h:DivI xs qs y r (k+1)) (hx:Rg xs):DivI xs (qs.set k ((xs.getD k 0+65536*r) / y)) y (xs.getD k 0+65536*r-y*((xs.getD k 0+65536*r) / y)) k:=by
  obtain ⟨hl,hg,hk,h0,h1,hs⟩:=h
  have hd:=hx.getD k
  have hq:=div_digit h0 h1 hd.1 hd.2
  have hm:=Int.emod_nonneg (xs.getD k 0+65536*r) (show y≠0 by omega)
  have hm2:=Int.emod_lt_of_pos (xs.getD k 0+65536*r) (show 0 < y by omega)
  have he:=Int.emod_def (xs.getD k 0+65536*r) y
  refine ⟨by simpa using hl,hg.set _ (by omega),by omega,by omega,by omega,?_⟩
  rw [nat_drop xs (k:=k) (by omega),hs,nat_drop (qs.set k ((xs.getD k 0+65536*r) / y)) (k:=k) (by rw [List.length_set];omega)]
  have e1:(qs.set k ((xs.getD k 0+65536*r) / y)).getD k 0=(xs.getD k 0+65536*r) / y:=by
    rw [List.getD_eq_getElem?_getD,List.getElem?_set_self (by omega)];rfl
  have e2:(qs.set k ((xs.getD k 0+65536*r) / y)).drop (k+1)=qs.drop (k+1):=by
    rw [List.drop_set_of_lt (by omega)]
  rw [e1,e2,Int.add_mul,Int.mul_add,Int.mul_assoc,Int.mul_comm y]
  omega
theorem DivI.done {xs qs:List Int} {y r:Int} (h:DivI xs qs y r 0):nat qs=nat xs / y∧r=nat xs % y:=by
  have hs:=h.s
  rw [List.drop_zero,List.drop_zero] at hs
  have h0:=h.r0
  have h1:=h.r1
  rw [hs]
  constructor
  · rw [Int.add_comm,Int.add_mul_ediv_right _ _ (by omega),Int.ediv_eq_zero_of_lt h0 h1];omega
  · rw [Int.add_comm,Int.add_mul_emod_self_right,Int.emod_eq_of_lt h0 h1]
end Go.Proofs.YtdfkghpgekmmlaaGreat
