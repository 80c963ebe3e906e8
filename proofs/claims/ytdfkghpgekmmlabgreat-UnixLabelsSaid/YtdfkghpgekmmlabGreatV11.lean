/- Texts Y2b, Y5, Y6, P19, Y7, P20, P21, X1, X2, X3, X4 of one proof, one behind the other; what nothing here names is left out. -/
import Derived.Test.YtdfkghpgekmmlabGreatV10
import Derived.Test.YtdfkghpgekmmlabGreatV5
import Derived.Test.YtdfkghpgekmmlabGreatV8
import Derived.Test.YtdfkghpgekmmlabGreatV3
import Derived.Test.YtdfkghpgekmmlabGreatV4
import Derived.IntWalk
import Derived.Test.YtdfkghpgekmmlabGreatV7
import Derived.Test.YtdfkghpgekmmlabGreatV9
set_option maxRecDepth 100000
set_option maxHeartbeats 8000000
set_option linter.unusedVariables false
set_option linter.unusedSimpArgs false
namespace Go.Proofs.YtdfkghpgekmmlabGreat
open Go.RowKit
attribute [local go_sem] vN bT bF rS vW vM vL vT2 vT3 vP vI execOp Act.eval evC bigF vB hi_zero lo_zero Tryz.underlying128 Tryz.underlying167
def sgR (k:Nat):List Value:=(List.range (k*4)).map (sgC pubS)
theorem sgR_succ (k:Nat):sgR (k+1)=sgR k ++ [vI (sgi pubS k).d,vI (sgi pubS k).b,vI (sgi pubS k).f,vI (sgi pubS k).r]:=by
 unfold sgR
 rw [show (k+1)*4=k*4+4 by omega,List.range_add,List.map_append]
 congr 1
 rw [show List.range 4=[0,1,2,3] from rfl]
 simp only [List.map_cons,List.map_nil,Nat.add_zero,sgC_0,sgC_1,sgC_2,sgC_3]
theorem seg_info:(Tryz.prog.info? 128).map (fun i=>(i.zero,i.size,i.bytes))=some (some (.agg #[vI 0,vI 0,vI 0,vI 0]),4,32):=by kernel_rfl
def RowC (T:TypeId) (cs:Array Value) (n:Nat) (w:World) (v:Value):Prop:=∃ b,v = .slice (some ⟨b,0,none⟩) n n∧w.heap[b]? = some (Obj.cells cs T (0,0))
theorem RowC.form {T:TypeId} {cs:Array Value} {n:Nat} {w:World} {v:Value} (h:RowC T cs n w v):v=entF n v:=by obtain ⟨b,rfl,_⟩:=h;rfl
theorem RowC.keep {T:TypeId} {cs:Array Value} {n:Nat} {w w':World} {v:Value} (h:RowC T cs n w v) (hk:KeepT [T] none w w'):RowC T cs n w' v:=by
 obtain ⟨b,rfl,hb⟩:=h
 exact ⟨b,rfl,(hk _ _ _ _ hb (by simp) (by simp)).trans hb⟩
theorem RowC.seg {T:TypeId} {w:World} {v:Value} (h:RowC T pubC 13 w v):SegU w (.slice (sA v) 13 13) pubS:=by
  obtain ⟨b,rfl,hb⟩:=h
  exact ⟨_,13,rfl,by decide,by decide,.inr ⟨b,0,T,pubC,_,rfl,hb,fun i hi=>by
    have hi':i < 52:=by have:pubS.length=13:=rfl;omega
    simp [pubC,hi']⟩⟩
section
variable {P:Program} {R:Reg} {Q:Exit→Act→World→Prop} {i:Nat} {o:Oper}
theorem s_bsC (ho:R.ops[i]? = some o) (hf:free' R i=true) (hw:∀ {D env a w},At R i D env a w→Region.wanted o (yielded R.ops a.tmps)=true) (T:TypeId) (n:Nat) (cs cs':Array Value) (hcs:cs=cs') (hV:R.v? i=some fun env=>entF n (env i)) (hF:R.F.filter (fun p=>Nat.beq p.1 i)=[(i,fun env w=>RowC T cs' n w (env i))]) (hint:tFree [T] R=true) (hx:R.ex=none)
    (hrun:∀ {D env a w},At R i D env a w→(execOp a.eval o).run P w = .ok (.value (.slice (some ⟨w.heap.size,0,none⟩) n n)) (w.alloc (.cells cs T (0,0)))):SR P Q R i:=
  s_gen ho hf (fun {D env a w} hA K hK=>by
    subst hcs
    rw [if_pos (hw hA)]
    unfold Oper.wp
    rw [hrun hA]
    have hs':=hA.j.st.call (w':=w.alloc (.cells cs T (0,0))) ⟨rfl,rfl,rfl,by simp,fun k hk=>Below.heap_alloc _ _ _ hk⟩
    have hkt:=fun w'' (ha:Apart (R.mem _ _) none _ w'')=>apart_keepT (w':=w'') hint hs' (.inl hx.symm) ha
    rw [hx] at hkt
    refine hK _ _ hs' (fun w'' ha=>f_fact (φ:=fun v w=>RowC T cs n w v) (form:=entF n) hV (fun v w h=>h.form) hF hA.ok ho (RowC.keep ⟨w.heap.size,rfl,heap_alloc_new w _⟩ (hkt w'' (by rw [hx] at ha;exact ha)))))
theorem s_ra (ho:R.ops[i]? = some o) (hf:free' R i=true) {T:TypeId} {x y:Operand} (hop:o.op = .indexAddr T x y) (hw:∀ {D env a w},At R i D env a w→Region.wanted o (yielded R.ops a.tmps)=true)
    {n k:Nat} {f:Nat→Value} (q off q':Nat) (hq:q+off=q') {s:Env→Value} (hV:R.v? i=some fun env=>elt (s env) q')
    (hx:∀ env,opAt R i env x=some (elt (s env) q)) (hy:∀ env,opAt R i env y=some (vI (off:Int))) (hs:∀ {D env a w},At R i D env a w→Els w (s env) n k f) (hj:0 < n) (hrd:∀ (b q:Nat) (w:World),(Instr.indexAt T (.pointer (some ⟨b,q,none⟩)) (vI (off:Int))).run Tryz.prog w = .ok (.pointer (some ⟨b,q+off,none⟩)) w) (hn:noF R i=true:=by rfl) (hr:∀ env x,s (restr (R.cl.getD i []) (upd env i x))=s env:=by intros;rfl):SR Tryz.prog Q R i:=
  s_val ho hf hV (fun {D env a w} hA=>⟨hw hA,by
    subst hq
    obtain ⟨A,c,e,h1,h2⟩:=hs hA
    have e1:=hA.e (hx env)
    have e2:=hA.e (hy env)
    rw [e] at e1
    rcases h2 with h2 | ⟨b,off',rfl,_⟩
    · omega
    · simp only [elt] at e1
      rw [e]
      simp [execOp,hop,e1,e2,hrd,elt,Nat.add_assoc]⟩) hn (fun env x=>by simp only [hr])
end
theorem Facts.rowC {L:List (World→Prop)} {w:World} {T:TypeId} {v:Value} (h:Facts L w) (k:Nat) (hk:L[k]? = some (fun w=>RowC T pubC 13 w v)):SegU w (.slice (sA v) 13 13) pubS:=(show RowC T pubC 13 w v from h.get k hk).seg
theorem gr_below {w w':World} (h:w.grownBy w' none):Below w.heap.size w w':=⟨h.os,h.tape,h.output,h.size,fun i hi=>h.block i hi (by simp)⟩
theorem own_ge {T:TypeId} {k:Nat} {w:World} {B:Nat} {v:Value} {n:Nat} {cs:List Value} (h:OwnK T k w B v n cs) {b:Nat} (hb:v.ownBlock=some b):B≤b:=by
  obtain ⟨_,h2⟩:=h
  rcases h2 with ⟨rfl,_⟩ | ⟨g,cap,cur,rfl,hB,_⟩
  · cases hb
  · simp only [Value.ownBlock,Option.some.injEq] at hb;omega
theorem rsegments_w (w0:World)  : Calls Tryz.prog 74 #[] w0 fun e w'=>∃ v,e = .returned v∧Below w0.heap.size w0 w'∧SegN w0.heap.size w' v pubS:=by
 have hpl:pubS.length=13:=rfl
 have hst:=St.start w0 (Θ:=fun _=>True) (fun _ _=>trivial)
 refine en_ Tryz.func74 hst 49 [] (fun ac h=>?_)
 replace h:=h.facts
 refine wp_seq ?_
 refine rf_ h [[0]] [K_ (.slice none 0 0)] (fun E1=>[(0,.slice none 0 0)]) (hs:=c_ mv_<|e_) (k:=fun E1 ac wd h_1=>?_)
 clear h
 refine then_n (wp_seq ?_)
 refine rf_ h_1 [[0],[1],[2],[3],[4],[5],[6],[7],[8],[9],[10],[11],[12],r_ 14,r_ 15] [K_ (.agg #[vI 37300,vI 14228180,vI 37300,vI 12960]),K_ (.agg #[vI 37512,vI 13728180,vI 37300,vI 12960]),K_ (.agg #[vI 37665,vI 18458580,vI 37665,vI 11232]),K_ (.agg #[vI 38334,vI 19458580,vI 37665,vI 11232]),K_ (.agg #[vI 38395,vI 32401300,vI 38761,vI 12960]),K_ (.agg #[vI 38486,vI 33401300,vI 38761,vI 12960]),K_ (.agg #[vI 38639,vI 34401300,vI 38761,vI 12960]),K_ (.agg #[vI 38761,vI 35401300,vI 38761,vI 12960]),K_ (.agg #[vI 38820,vI 36401300,vI 38761,vI 12960]),K_ (.agg #[vI 38942,vI 37401300,vI 38761,vI 12960]),K_ (.agg #[vI 39004,vI 38401300,vI 38761,vI 12960]),K_ (.agg #[vI 39126,vI 43131700,vI 39126,vI 25920]),K_ (.agg #[vI 39887,vI 42131700,vI 39126,vI 25920]),KE_ fun env=>.slice ((sA (env 13))) 13 13,KE_ fun env=>.slice ((sA (env 13))) 13 13] (fun E2=>[(0,.slice none 0 0),(1,.slice ((sA (E2 13))) 13 13)]) (F:=[(13,fun env w=>RowC 167 pubC 13 w (env 13))]) (L1:=fun E2=>[fun w=>RowC 167 pubC 13 w (E2 13)]) (hs:=c_ (by refine s_v rfl rfl rfl rfl (fun {D env ac wd} hA=>?_);simp [go_sem,Tryz.underlying167])<|c_ (by refine s_v rfl rfl rfl rfl (fun {D env ac wd} hA=>?_);simp [go_sem,Tryz.underlying167])<|c_ (by refine s_v rfl rfl rfl rfl (fun {D env ac wd} hA=>?_);simp [go_sem,Tryz.underlying167])<|c_ (by refine s_v rfl rfl rfl rfl (fun {D env ac wd} hA=>?_);simp [go_sem,Tryz.underlying167])<|c_ (by refine s_v rfl rfl rfl rfl (fun {D env ac wd} hA=>?_);simp [go_sem,Tryz.underlying167])<|c_ (by refine s_v rfl rfl rfl rfl (fun {D env ac wd} hA=>?_);simp [go_sem,Tryz.underlying167])<|c_ (by refine s_v rfl rfl rfl rfl (fun {D env ac wd} hA=>?_);simp [go_sem,Tryz.underlying167])<|c_ (by refine s_v rfl rfl rfl rfl (fun {D env ac wd} hA=>?_);simp [go_sem,Tryz.underlying167])<|c_ (by refine s_v rfl rfl rfl rfl (fun {D env ac wd} hA=>?_);simp [go_sem,Tryz.underlying167])<|c_ (by refine s_v rfl rfl rfl rfl (fun {D env ac wd} hA=>?_);simp [go_sem,Tryz.underlying167])<|c_ (by refine s_v rfl rfl rfl rfl (fun {D env ac wd} hA=>?_);simp [go_sem,Tryz.underlying167])<|c_ (by refine s_v rfl rfl rfl rfl (fun {D env ac wd} hA=>?_);simp [go_sem,Tryz.underlying167])<|c_ (by refine s_v rfl rfl rfl rfl (fun {D env ac wd} hA=>?_);simp [go_sem,Tryz.underlying167])<|c_ (s_bsC rfl rfl (fun _=>wanted_none rfl _) 167 13 #[vI 37300,vI 14228180,vI 37300,vI 12960,vI 37512,vI 13728180,vI 37300,vI 12960,vI 37665,vI 18458580,vI 37665,vI 11232,vI 38334,vI 19458580,vI 37665,vI 11232,vI 38395,vI 32401300,vI 38761,vI 12960,vI 38486,vI 33401300,vI 38761,vI 12960,vI 38639,vI 34401300,vI 38761,vI 12960,vI 38761,vI 35401300,vI 38761,vI 12960,vI 38820,vI 36401300,vI 38761,vI 12960,vI 38942,vI 37401300,vI 38761,vI 12960,vI 39004,vI 38401300,vI 38761,vI 12960,vI 39126,vI 43131700,vI 39126,vI 25920,vI 39887,vI 42131700,vI 39126,vI 25920] pubC (by kernel_rfl) rfl rfl rfl rfl (fun {D env ac wd} hA=>by have e4:ac.tmps[4]? = some (.agg #[vI 37300,vI 14228180,vI 37300,vI 12960]):=hA.g rfl;have e5:ac.tmps[5]? = some (.agg #[vI 37512,vI 13728180,vI 37300,vI 12960]):=hA.g rfl;have e6:ac.tmps[6]? = some (.agg #[vI 37665,vI 18458580,vI 37665,vI 11232]):=hA.g rfl;have e7:ac.tmps[7]? = some (.agg #[vI 38334,vI 19458580,vI 37665,vI 11232]):=hA.g rfl;have e8:ac.tmps[8]? = some (.agg #[vI 38395,vI 32401300,vI 38761,vI 12960]):=hA.g rfl;have e9:ac.tmps[9]? = some (.agg #[vI 38486,vI 33401300,vI 38761,vI 12960]):=hA.g rfl;have e10:ac.tmps[10]? = some (.agg #[vI 38639,vI 34401300,vI 38761,vI 12960]):=hA.g rfl;have e11:ac.tmps[11]? = some (.agg #[vI 38761,vI 35401300,vI 38761,vI 12960]):=hA.g rfl;have e12:ac.tmps[12]? = some (.agg #[vI 38820,vI 36401300,vI 38761,vI 12960]):=hA.g rfl;have e13:ac.tmps[13]? = some (.agg #[vI 38942,vI 37401300,vI 38761,vI 12960]):=hA.g rfl;have e14:ac.tmps[14]? = some (.agg #[vI 39004,vI 38401300,vI 38761,vI 12960]):=hA.g rfl;have e15:ac.tmps[15]? = some (.agg #[vI 39126,vI 43131700,vI 39126,vI 25920]):=hA.g rfl;have e16:ac.tmps[16]? = some (.agg #[vI 39887,vI 42131700,vI 39126,vI 25920]):=hA.g rfl;simp [go_sem,e4,e5,e6,e7,e8,e9,e10,e11,e12,e13,e14,e15,e16,Tryz.underlying168]))<|c_ mv_<|e_) (k:=fun E2 ac wd h_2=>?_)
 clear h_1
 have hq:=Facts.rowC h_2.st.now 0 rfl
 have hg0:=h_2.st.gr
 obtain ⟨w1,rfl⟩:∃ x,x=wd:=⟨_,rfl⟩
 replace h_2:Cur 49 w1 none none (fun _=>True) (fun _=>True) [(0,.slice none 0 0),(1,.slice ((sA (E2 13))) 13 13)] [] ac w1:=(⟨h_2.sz,h_2.df,St.start w1 (fun _ _=>trivial),h_2.sl⟩:Cur 49 w1 none none (fun _=>True) (fun _=>True) _ [] ac w1).re rfl
 refine then_n (wp_seq ?_)
 refine rg_ h_2 [[0]] [K_ (.slice none 0 0)] (fun E3=>[(0,.slice none 0 0),(1,.slice ((sA (E2 13))) 13 13),(2,.slice none 0 0)]) (hs:=c_ mv_<|e_) (k:=fun E3 ac wd h_3=>?_)
 clear h_2
 refine then_n (wp_seq (wp_seq ?_))
 refine rg_ h_3 [[0]] [K_ (vI 0)] (fun E4=>[(0,.slice none 0 0),(1,.slice ((sA (E2 13))) 13 13),(2,.slice none 0 0),(3,vI 0)]) (hs:=c_ mv_<|e_) (k:=fun E4 ac wd h_4=>?_)
 clear h_3
 refine then_n (wp_block ?_)
 refine wp_loop (fun ac wd=>∃ (v:Value) (i:Nat),i≤13∧Cur 49 w1 none none (fun _=>True) (fun w=>OwnK 128 4 w w1.heap.size v i (sgR i)) [(0,.slice none 0 0),(1,.slice ((sA (E2 13))) 13 13),(2,v),(3,vN i)] [] ac wd) (fun ac _=>((13:Int)-sI ac 3).toNat) ⟨.slice none 0 0,0,by omega,(h_4.re rfl).th (fun w _=>OwnK.nil w _)⟩ ?_
 rintro ac wd ⟨v,i,hi1,h_5⟩
 clear h_4
 have hmu:sI ac 3=((i:Nat):Int):=sI_eq (h_5.g (t:=3) rfl)
 refine wp_seq (wp_seq ?_)
 by_cases h1:i < 13
 refine rg_ h_5 [[0],[1],[1,2],r_ 4] [K_ (vN i),K_ (.slice ((sA (E2 13))) 13 13),K_ (vI ((13:Int))),K_ bT] (fun E6=>[(0,.slice none 0 0),(1,.slice ((sA (E2 13))) 13 13),(2,v),(3,vN i),(18,vN i),(19,.slice ((sA (E2 13))) 13 13),(20,vI ((13:Int))),(21,bT)]) (hs:=c_ mv_<|c_ mv_<|c_ (ln_ Tryz.underlying168 fun _ env _ wd hA=>(hq.grown hA.j.st.gr).els)<|c_ (bi0 (vN i) (vI ((13:Int))))<|e_) (k:=fun E6 ac wd h_6=>?_)
 clear h_5
 refine then_n ?_
 refine cT_ h_6 ?_
 refine wp_skip (then_n (wp_seq (wp_block ?_)))
 refine rg_ h_6 [[0],[1],[2],[1,2,3],[1,2,3,4],[1,2,3,4,5],[6],[7],[6,7,8],[6,7,8,9],[6,7,8,9,10],[11],[12],[11,12,13],[11,12,13,14],[11,12,13,14,15],[16],[17],[16,17,18],[16,17,18,19],[16,17,18,19,20],[1,2,3,4,5,6,7,8,9,10,11,12,13,14,15,16,17,18,19,20,21],[1,2,3,4,5,6,7,8,9,10,11,12,13,14,15,16,17,18,19,20,21,22],r_ 24,r_ 25] [K_ v,K_ (.slice ((sA (E2 13))) 13 13),K_ (vN i),K_ (elt (.slice ((sA (E2 13))) 13 13) (i*4)),K_ (elt (.slice ((sA (E2 13))) 13 13) (i*4)),K_ (vI ((sgi pubS i).d)),K_ (.slice ((sA (E2 13))) 13 13),K_ (vN i),K_ (elt (.slice ((sA (E2 13))) 13 13) (i*4)),K_ (elt (.slice ((sA (E2 13))) 13 13) (i*4+1)),K_ (vI ((sgi pubS i).b)),K_ (.slice ((sA (E2 13))) 13 13),K_ (vN i),K_ (elt (.slice ((sA (E2 13))) 13 13) (i*4)),K_ (elt (.slice ((sA (E2 13))) 13 13) (i*4+2)),K_ (vI ((sgi pubS i).f)),K_ (.slice ((sA (E2 13))) 13 13),K_ (vN i),K_ (elt (.slice ((sA (E2 13))) 13 13) (i*4)),K_ (elt (.slice ((sA (E2 13))) 13 13) (i*4+3)),K_ (vI ((sgi pubS i).r)),K_ (vSg (sgi pubS i)),KE_ fun env=>.slice (some ⟨(pb env 22),0,none⟩) 1 1,KE_ fun env=>.slice (sA (env 23)) (i+1) (sC (env 23)),KE_ fun env=>.slice (sA (env 23)) (i+1) (sC (env 23))] (fun E7=>[(0,.slice none 0 0),(1,.slice ((sA (E2 13))) 13 13),(2,.slice (sA (E7 23)) (i+1) (sC (E7 23))),(3,vN i),(18,vN i),(19,.slice ((sA (E2 13))) 13 13),(20,vI ((13:Int))),(21,bT),(24,v),(25,.slice ((sA (E2 13))) 13 13),(26,vN i),(27,elt (.slice ((sA (E2 13))) 13 13) (i*4)),(28,elt (.slice ((sA (E2 13))) 13 13) (i*4)),(29,vI ((sgi pubS i).d)),(30,.slice ((sA (E2 13))) 13 13),(31,vN i),(32,elt (.slice ((sA (E2 13))) 13 13) (i*4)),(33,elt (.slice ((sA (E2 13))) 13 13) (i*4+1)),(34,vI ((sgi pubS i).b)),(35,.slice ((sA (E2 13))) 13 13),(36,vN i),(37,elt (.slice ((sA (E2 13))) 13 13) (i*4)),(38,elt (.slice ((sA (E2 13))) 13 13) (i*4+2)),(39,vI ((sgi pubS i).f)),(40,.slice ((sA (E2 13))) 13 13),(41,vN i),(42,elt (.slice ((sA (E2 13))) 13 13) (i*4)),(43,elt (.slice ((sA (E2 13))) 13 13) (i*4+3)),(44,vI ((sgi pubS i).r)),(45,vSg (sgi pubS i)),(46,.slice (some ⟨(pb E7 22),0,none⟩) 1 1),(47,.slice (sA (E7 23)) (i+1) (sC (E7 23)))]) (W:=[{ i:=22,T:=128,c0:=[vI ((sgi pubS i).d),vI ((sgi pubS i).b),vI ((sgi pubS i).f),vI ((sgi pubS i).r)] }]) (th:=(some (23,fun env w=>OwnK 128 4 w w1.heap.size (.slice (sA (env 23)) (i+1) (sC (env 23))) (i+1) (sgR i ++ [vI ((sgi pubS i).d),vI ((sgi pubS i).b),vI ((sgi pubS i).f),vI ((sgi pubS i).r)])))) (T:=fun E7=>fun w=>OwnK 128 4 w w1.heap.size (.slice (sA (E7 23)) (i+1) (sC (E7 23))) (i+1) (sgR i ++ [vI ((sgi pubS i).d),vI ((sgi pubS i).b),vI ((sgi pubS i).f),vI ((sgi pubS i).r)])) (M':=fun E7=>[((pb E7 22),128,[vI ((sgi pubS i).d),vI ((sgi pubS i).b),vI ((sgi pubS i).f),vI ((sgi pubS i).r)])]) (hs:=c_ mv_<|c_ mv_<|c_ mv_<|c_ (ia_ Tryz.underlying168 sz167 i (i*4) ((i:Nat):Int) (fun _ env _ wd hA=>(hq.grown hA.j.st.gr).els) (rfl) (by omega) rfl)<|c_ (s_ra rfl rfl rfl (fun _=>wanted_none rfl _) (i*4) 0 (i*4) rfl (s:=fun _=>.slice ((sA (E2 13))) 13 13) rfl (fun _=>rfl) (fun _=>rfl) (fun {D env ac wd} hA=>(hq.grown hA.j.st.gr).els) (by omega) (fun b q w=>by simp [go_sem,Tryz.underlying167,sz3]))<|c_ (le_ (i*4) (fun _ env _ wd hA=>(hq.grown hA.j.st.gr).els) (by omega) (le3 (by exact sgC_0 pubS i)))<|c_ mv_<|c_ mv_<|c_ (ia_ Tryz.underlying168 sz167 i (i*4) ((i:Nat):Int) (fun _ env _ wd hA=>(hq.grown hA.j.st.gr).els) (rfl) (by omega) rfl)<|c_ (s_ra rfl rfl rfl (fun _=>wanted_none rfl _) (i*4) 1 (i*4+1) rfl (s:=fun _=>.slice ((sA (E2 13))) 13 13) rfl (fun _=>rfl) (fun _=>rfl) (fun {D env ac wd} hA=>(hq.grown hA.j.st.gr).els) (by omega) (fun b q w=>by simp [go_sem,Tryz.underlying167,sz3]))<|c_ (le_ (i*4+1) (fun _ env _ wd hA=>(hq.grown hA.j.st.gr).els) (by omega) (le3 (by exact sgC_1 pubS i)))<|c_ mv_<|c_ mv_<|c_ (ia_ Tryz.underlying168 sz167 i (i*4) ((i:Nat):Int) (fun _ env _ wd hA=>(hq.grown hA.j.st.gr).els) (rfl) (by omega) rfl)<|c_ (s_ra rfl rfl rfl (fun _=>wanted_none rfl _) (i*4) 2 (i*4+2) rfl (s:=fun _=>.slice ((sA (E2 13))) 13 13) rfl (fun _=>rfl) (fun _=>rfl) (fun {D env ac wd} hA=>(hq.grown hA.j.st.gr).els) (by omega) (fun b q w=>by simp [go_sem,Tryz.underlying167,sz3]))<|c_ (le_ (i*4+2) (fun _ env _ wd hA=>(hq.grown hA.j.st.gr).els) (by omega) (le3 (by exact sgC_2 pubS i)))<|c_ mv_<|c_ mv_<|c_ (ia_ Tryz.underlying168 sz167 i (i*4) ((i:Nat):Int) (fun _ env _ wd hA=>(hq.grown hA.j.st.gr).els) (rfl) (by omega) rfl)<|c_ (s_ra rfl rfl rfl (fun _=>wanted_none rfl _) (i*4) 3 (i*4+3) rfl (s:=fun _=>.slice ((sA (E2 13))) 13 13) rfl (fun _=>rfl) (fun _=>rfl) (fun {D env ac wd} hA=>(hq.grown hA.j.st.gr).els) (by omega) (fun b q w=>by simp [go_sem,Tryz.underlying167,sz3]))<|c_ (le_ (i*4+3) (fun _ env _ wd hA=>(hq.grown hA.j.st.gr).els) (by omega) (le3 (by exact sgC_3 pubS i)))<|c_ (bd0 ([vI ((sgi pubS i).d),vI ((sgi pubS i).b),vI ((sgi pubS i).f),vI ((sgi pubS i).r)]))<|c_ (s_bsM rfl rfl 0 rfl rfl 1 rfl (fun {D env ac wd} hA=>by have e45:ac.tmps[45]? = some (vSg (sgi pubS i)):=hA.g rfl;simp [go_sem,e45,Tryz.underlying79]))<|c_ (s_appS rfl rfl rfl rfl Tryz.underlying79 seg_info rfl (by omega) (by omega) rfl rfl (fun _=>trivial) rfl (fun _ h=>h) [vI ((sgi pubS i).d),vI ((sgi pubS i).b),vI ((sgi pubS i).f),vI ((sgi pubS i).r)] rfl (by simp [Value.oneCell']) rfl (by omega) 22 0 rfl rfl rfl rfl rfl (fun _=>rfl) (fun hA=>hA.e rfl))<|c_ mv_<|e_) (k:=fun E7 ac wd h_7=>?_)
 clear h_6
 refine blk_n (then_n ?_)
 refine rg_ h_7 (tri 3) [K_ (vN i),K_ (vI (((i:Nat):Int)+1)),K_ (vI (((i:Nat):Int)+1))] (fun E8=>[(0,.slice none 0 0),(1,.slice ((sA (E2 13))) 13 13),(2,.slice (sA (E7 23)) (i+1) (sC (E7 23))),(3,vI (((i:Nat):Int)+1)),(18,vN i),(19,.slice ((sA (E2 13))) 13 13),(20,vI ((13:Int))),(21,bT),(22,vN i),(23,vI (((i:Nat):Int)+1)),(24,v),(25,.slice ((sA (E2 13))) 13 13),(26,vN i),(27,elt (.slice ((sA (E2 13))) 13 13) (i*4)),(28,elt (.slice ((sA (E2 13))) 13 13) (i*4)),(29,vI ((sgi pubS i).d)),(30,.slice ((sA (E2 13))) 13 13),(31,vN i),(32,elt (.slice ((sA (E2 13))) 13 13) (i*4)),(33,elt (.slice ((sA (E2 13))) 13 13) (i*4+1)),(34,vI ((sgi pubS i).b)),(35,.slice ((sA (E2 13))) 13 13),(36,vN i),(37,elt (.slice ((sA (E2 13))) 13 13) (i*4)),(38,elt (.slice ((sA (E2 13))) 13 13) (i*4+2)),(39,vI ((sgi pubS i).f)),(40,.slice ((sA (E2 13))) 13 13),(41,vN i),(42,elt (.slice ((sA (E2 13))) 13 13) (i*4)),(43,elt (.slice ((sA (E2 13))) 13 13) (i*4+3)),(44,vI ((sgi pubS i).r)),(45,vSg (sgi pubS i)),(46,.slice (some ⟨(pb E7 22),0,none⟩) 1 1),(47,.slice (sA (E7 23)) (i+1) (sC (E7 23)))]) (hs:=c_ mv_<|c_ (bi0 (vN i) (vI 1))<|c_ mv_<|e_) (k:=fun E8 ac wd h_8=>?_)
 clear h_7
 refine then_n ?_
 exact ⟨⟨.slice (sA (E7 23)) (i+1) (sC (E7 23)),i+1,by omega,((h_8.take (M1:=[]) rfl).re rfl).th (fun w hw=>by rw [sgR_succ];exact hw)⟩,by rw [sI_eq (h_8.g (t:=3) rfl),hmu];omega⟩
 obtain rfl:i=13:=by omega
 refine rg_ h_5 [[0],[1],[1,2],r_ 4] [K_ (vN 13),K_ (.slice ((sA (E2 13))) 13 13),K_ (vI ((13:Int))),K_ bF] (fun E6=>[(0,.slice none 0 0),(1,.slice ((sA (E2 13))) 13 13),(2,v),(3,vN 13),(18,vN 13),(19,.slice ((sA (E2 13))) 13 13),(20,vI ((13:Int))),(21,bF)]) (hs:=c_ mv_<|c_ mv_<|c_ (ln_ Tryz.underlying168 fun _ env _ wd hA=>(hq.grown hA.j.st.gr).els)<|c_ (bi0 (vN 13) (vI ((13:Int))))<|e_) (k:=fun E6 ac wd h_6=>?_)
 clear h_5
 refine then_n ?_
 refine cF_ h_6 ?_
 refine wp_exit (then_e (then_e (blk_x (then_n (wp_seq ?_)))))
 refine rg_ h_6 [[0],[0,1]] [K_ v,K_ v] (fun E7=>[(0,v)]) (hs:=c_ mv_<|c_ mv_<|e_) (k:=fun E7 ac wd h_7=>?_)
 clear h_6
 refine then_n (wp_ret ?_)
 refine lvT Tryz.results74 h_7 ?_
 have hO:OwnK 128 4 _ w1.heap.size v 13 (sgR 13):=h_7.st.nowT
 exact ⟨_,rfl,below_to (gr_below hg0) h_7.st.below,OwnK.rowP (by intro i hi;have hi2:i < 52:=hi;simp [sgR,hi2]) (by omega) hO,fun b hb=>Nat.le_trans hg0.size (own_ge hO hb)⟩
theorem rsegments_up {B:Nat} {w:World} (hB:B≤w.heap.size):Calls Tryz.prog 74 #[] w fun e w'=>∃ v,e = .returned v∧Below w.heap.size w w'∧SegN B w' v pubS:=by
 refine (rsegments_w w).mono ?_
 rintro e w' ⟨v,rfl,hb,h1,h2⟩
 exact ⟨v,rfl,hb,h1,fun b hb'=>Nat.le_trans hB (h2 b hb')⟩
end Go.Proofs.YtdfkghpgekmmlabGreat
namespace Go.Proofs.YtdfkghpgekmmlabGreat
open Go.RowKit
attribute [local go_sem] vN bT bF rS vW vM vL vT2 vT3 vP vI execOp Act.eval evC bigF vB hi_zero lo_zero Tryz.underlying23 Tryz.underlying36 Tryz.underlying41
theorem rOld15_any (w0:World) (A0:Option Addr) (c0:Nat) (es:List (Int × Int)) (u x:Int) (hv:Ents w0 w0.heap.size (.slice A0 es.length c0) es) (hp:okPre es es.length=true) (hn0:0 < es.length):Calls Tryz.prog 72 #[.agg #[vI u,vI x,.slice A0 es.length c0]] w0 fun e w'=>e = .returned (.bool (oldB es))∧Below w0.heap.size w0 w':=by
 have hb0:=okPre_num hp (i:=0) hn0
 have hst:=St.start w0 (Θ:=fun _=>True) (fun _ _=>trivial)
 refine en_ Tryz.func72 hst 17 [(0,.agg #[vI u,vI x,.slice A0 es.length c0])] (fun ac h=>?_)
 refine wp_seq ?_
 refine rg_ h [[0],[1]] [KE_ fun env=>vP (pb env 0) 0,K_ bF] (fun E1=>[(1,vP (pb E1 0) 0),(2,bF)]) (W:=[{ i:=0,T:=41,c0:=[vI u,vI x,.slice A0 es.length c0] }]) (M':=fun E1=>[((pb E1 0),41,[vI u,vI x,.slice A0 es.length c0])]) (hs:=c_ (bx0 0 (.agg #[vI u,vI x,.slice A0 es.length c0]))<|c_ mv_<|e_) (k:=fun E1 ac wd h_1=>?_)
 clear h
 refine then_n (wp_seq ?_)
 by_cases h1:day0 es=41317
 by_cases h2:(es.getD 0 (0,0)).2=10
 have hob:oldB es=true:=oldB_iff.2 ⟨h1,h2⟩
 refine rg_ h_1 (tri 15) [K_ (vP (pb E1 0) 2),K_ (.slice A0 es.length c0),K_ (elt (.slice A0 es.length c0) (0*2)),K_ (.agg #[vI ((es.getD 0 (0,0)).1),vI ((es.getD 0 (0,0)).2)]),K_ (vI (day0 es)),K_ bT,K_ bT,K_ (vP (pb E1 0) 2),K_ (.slice A0 es.length c0),K_ (elt (.slice A0 es.length c0) (0*2)),K_ (elt (.slice A0 es.length c0) (0*2+1)),K_ (vI ((es.getD 0 (0,0)).2)),K_ bT,K_ bT,K_ bT] (fun E2=>[(2,bT)]) (hs:=c_ (fa0 (vP (pb E1 0) 0))<|c_ (ld_ 0 (hrd:=by exact rd39 rfl))<|c_ (ia_ Tryz.underlying39 sz56 0 (0*2) 0 (fun _ env _ wd hA=>(hv.gn hA.j.st.gr).els) (rfl) (hn0) rfl)<|c_ (le_ (0*2) (fun _ env _ wd hA=>(hv.gn hA.j.st.gr).els) (by omega) (le56 (by exact enC_0 es 0) (by exact enC_1 es 0)))<|c_ (cl_ Tryz.func21 (h:=fun env=>⟨_,(Ret.eq (rday_any (es.getD 0 (0,0)).1 (es.getD 0 (0,0)).2 hb0.1 hb0.2.1) (y_day0 es)),rfl⟩))<|c_ (bi0 (vI (day0 es)) (vI 41317) (h:=by intro env w;simp [go_sem,h1]))<|c_ mv_<|c_ (fa0 (vP (pb E1 0) 0))<|c_ (ld_ 0 (hrd:=by exact rd39 rfl))<|c_ (ia_ Tryz.underlying39 sz56 0 (0*2) 0 (fun _ env _ wd hA=>(hv.gn hA.j.st.gr).els) (rfl) (hn0) rfl)<|c_ (s_fa rfl rfl rfl (fun hA=>hA.gy rfl rfl rfl) (0*2) 1 (0*2+1) rfl (s:=fun _=>.slice A0 es.length c0) rfl (fun _=>rfl) (fun {D env ac wd} hA=>(hv.gn hA.j.st.gr).els) (by omega) (fun b q w=>by simp [go_sem,Tryz.underlying56]))<|c_ (le_ (0*2+1) (fun _ env _ wd hA=>(hv.gn hA.j.st.gr).els) (by omega) (le3 (by exact enC_1 es 0)))<|c_ (bi0 (vI ((es.getD 0 (0,0)).2)) (vI 10) (h:=by intro env w;(first | (simp [go_sem,h2];done) | (simp [go_sem];simp only [List.getD_eq_getElem?_getD] at h2;simp [h2]))))<|c_ (pk0 bT bT bF (h:=by intro env w;(first | (simp [go_sem,h2];done) | (simp [go_sem];simp only [List.getD_eq_getElem?_getD] at h2;simp [h2]))))<|c_ mv_<|e_) (k:=fun E2 ac wd h_2=>?_)
 clear h_1
 refine then_n (wp_ret ?_)
 refine lvT Tryz.results72 h_2 ?_
 exact ⟨by rw [hob],h_2.st.below⟩
 have hob:oldB es=false:=by unfold oldB;simp only [h1,h2,decide_true,decide_false,Bool.and_false]
 refine rg_ h_1 (tri 15) [K_ (vP (pb E1 0) 2),K_ (.slice A0 es.length c0),K_ (elt (.slice A0 es.length c0) (0*2)),K_ (.agg #[vI ((es.getD 0 (0,0)).1),vI ((es.getD 0 (0,0)).2)]),K_ (vI (day0 es)),K_ bT,K_ bT,K_ (vP (pb E1 0) 2),K_ (.slice A0 es.length c0),K_ (elt (.slice A0 es.length c0) (0*2)),K_ (elt (.slice A0 es.length c0) (0*2+1)),K_ (vI ((es.getD 0 (0,0)).2)),K_ bF,K_ bF,K_ bF] (fun E2=>[(2,bF)]) (hs:=c_ (fa0 (vP (pb E1 0) 0))<|c_ (ld_ 0 (hrd:=by exact rd39 rfl))<|c_ (ia_ Tryz.underlying39 sz56 0 (0*2) 0 (fun _ env _ wd hA=>(hv.gn hA.j.st.gr).els) (rfl) (hn0) rfl)<|c_ (le_ (0*2) (fun _ env _ wd hA=>(hv.gn hA.j.st.gr).els) (by omega) (le56 (by exact enC_0 es 0) (by exact enC_1 es 0)))<|c_ (cl_ Tryz.func21 (h:=fun env=>⟨_,(Ret.eq (rday_any (es.getD 0 (0,0)).1 (es.getD 0 (0,0)).2 hb0.1 hb0.2.1) (y_day0 es)),rfl⟩))<|c_ (bi0 (vI (day0 es)) (vI 41317) (h:=by intro env w;simp [go_sem,h1]))<|c_ mv_<|c_ (fa0 (vP (pb E1 0) 0))<|c_ (ld_ 0 (hrd:=by exact rd39 rfl))<|c_ (ia_ Tryz.underlying39 sz56 0 (0*2) 0 (fun _ env _ wd hA=>(hv.gn hA.j.st.gr).els) (rfl) (hn0) rfl)<|c_ (s_fa rfl rfl rfl (fun hA=>hA.gy rfl rfl rfl) (0*2) 1 (0*2+1) rfl (s:=fun _=>.slice A0 es.length c0) rfl (fun _=>rfl) (fun {D env ac wd} hA=>(hv.gn hA.j.st.gr).els) (by omega) (fun b q w=>by simp [go_sem,Tryz.underlying56]))<|c_ (le_ (0*2+1) (fun _ env _ wd hA=>(hv.gn hA.j.st.gr).els) (by omega) (le3 (by exact enC_1 es 0)))<|c_ (bi0 (vI ((es.getD 0 (0,0)).2)) (vI 10) (h:=by intro env w;(first | (simp [go_sem,h2];done) | (simp [go_sem];simp only [List.getD_eq_getElem?_getD] at h2;simp [h2]))))<|c_ (pk0 bT bF bF (h:=by intro env w;(first | (simp [go_sem,h2];done) | (simp [go_sem];simp only [List.getD_eq_getElem?_getD] at h2;simp [h2]))))<|c_ mv_<|e_) (k:=fun E2 ac wd h_2=>?_)
 clear h_1
 refine then_n (wp_ret ?_)
 refine lvT Tryz.results72 h_2 ?_
 exact ⟨by rw [hob],h_2.st.below⟩
 have hob:oldB es=false:=by unfold oldB;simp [h1]
 refine rg_ h_1 (tri 15) [K_ (vP (pb E1 0) 2),K_ (.slice A0 es.length c0),K_ (elt (.slice A0 es.length c0) (0*2)),K_ (.agg #[vI ((es.getD 0 (0,0)).1),vI ((es.getD 0 (0,0)).2)]),K_ (vI (day0 es)),K_ bF,K_ bF,K_ undef,K_ undef,K_ undef,K_ undef,K_ undef,K_ undef,K_ bF,K_ bF] (fun E2=>[(2,bF)]) (hs:=c_ (fa0 (vP (pb E1 0) 0))<|c_ (ld_ 0 (hrd:=by exact rd39 rfl))<|c_ (ia_ Tryz.underlying39 sz56 0 (0*2) 0 (fun _ env _ wd hA=>(hv.gn hA.j.st.gr).els) (rfl) (hn0) rfl)<|c_ (le_ (0*2) (fun _ env _ wd hA=>(hv.gn hA.j.st.gr).els) (by omega) (le56 (by exact enC_0 es 0) (by exact enC_1 es 0)))<|c_ (cl_ Tryz.func21 (h:=fun env=>⟨_,(Ret.eq (rday_any (es.getD 0 (0,0)).1 (es.getD 0 (0,0)).2 hb0.1 hb0.2.1) (y_day0 es)),rfl⟩))<|c_ (bi0 (vI (day0 es)) (vI 41317) (h:=by intro env w;simp [go_sem,h1]))<|c_ mv_<|c_ off_<|c_ off_<|c_ off_<|c_ off_<|c_ off_<|c_ off_<|c_ (pk0 bF undef bF)<|c_ mv_<|e_) (k:=fun E2 ac wd h_2=>?_)
 clear h_1
 refine then_n (wp_ret ?_)
 refine lvT Tryz.results72 h_2 ?_
 exact ⟨by rw [hob],h_2.st.below⟩
theorem rOver15_any (w0:World) (A0:Option Addr) (c0:Nat) (es:List (Int × Int)) (u x:Int) (hv:Ents w0 w0.heap.size (.slice A0 es.length c0) es) (d s a:Int) (q4:-1099511627776≤d) (q5:d≤1099511627776) (q0:0≤s) (q1:s≤86400):Calls Tryz.prog 76 #[.agg #[vI u,vI x,.slice A0 es.length c0],vL d s a] w0 fun e w'=>e = .returned (.bool (overB x d s))∧Below w0.heap.size w0 w':=by
 have hst:=St.start w0 (Θ:=fun _=>True) (fun _ _=>trivial)
 refine en_ Tryz.func76 hst 15 [(0,.agg #[vI u,vI x,.slice A0 es.length c0]),(1,vL d s a)] (fun ac h=>?_)
 refine wp_seq ?_
 refine rg_ h [[0],[1],[2]] [KE_ fun env=>vP (pb env 0) 0,KE_ fun env=>vP (pb env 1) 0,K_ bF] (fun E1=>[(2,vP (pb E1 0) 0),(3,vP (pb E1 1) 0),(4,bF)]) (W:=[{ i:=0,T:=41,c0:=[vI u,vI x,.slice A0 es.length c0] },{ i:=1,T:=23,c0:=[vI d,vI s,vI a] }]) (M':=fun E1=>[((pb E1 0),41,[vI u,vI x,.slice A0 es.length c0]),((pb E1 1),23,[vI d,vI s,vI a])]) (hs:=c_ (bx0 0 (.agg #[vI u,vI x,.slice A0 es.length c0]))<|c_ (bx0 1 (vL d s a))<|c_ mv_<|e_) (k:=fun E1 ac wd h_1=>?_)
 clear h
 refine then_n (wp_seq ?_)
 refine rg_ h_1 [[0],[0,1],[0,1,2],r_ 4,[4],[4,5],r_ 7,[7],[7,8],r_ 10,r_ 11] [K_ (vP (pb E1 1) 0),K_ (vI d),K_ (vI (d-15020)),K_ (vI ((d-15020)*86400)),K_ (vP (pb E1 1) 1),K_ (vI s),K_ (vI (((d-15020)*86400)+s)),K_ (vP (pb E1 0) 1),K_ (vI x),K_ (.bool (decide (x≤((d-15020)*86400)+s))),K_ (.bool (decide (x≤((d-15020)*86400)+s)))] (fun E2=>[(4,.bool (decide (x≤((d-15020)*86400)+s)))]) (hs:=c_ (fa0 (vP (pb E1 1) 0))<|c_ (ld_ 1 (hrd:=by exact rd3 rfl))<|c_ (bi0 (vI d) (vI 15020))<|c_ (bi0 (vI (d-15020)) (vI 86400))<|c_ (fa0 (vP (pb E1 1) 0))<|c_ (ld_ 1 (hrd:=by exact rd3 rfl))<|c_ (bi0 (vI ((d-15020)*86400)) (vI s))<|c_ (fa0 (vP (pb E1 0) 0))<|c_ (ld_ 0 (hrd:=by exact rd3 rfl))<|c_ (bi0 (vI (((d-15020)*86400)+s)) (vI x))<|c_ mv_<|e_) (k:=fun E2 ac wd h_2=>?_)
 clear h_1
 refine then_n (wp_ret ?_)
 refine lvT Tryz.results76 h_2 ?_
 exact ⟨rfl,h_2.st.below⟩
theorem y_tai_jn {es:List (Int × Int)} {d s a:Int} (h:whyU es d s a=0):taiU es d s a=jn d (s+offV es d) a:=by unfold taiU jn;rw [if_pos h];omega
theorem rTai15_any (w0:World) (A0:Option Addr) (c0:Nat) (es:List (Int × Int)) (u x:Int) (hv:Ents w0 w0.heap.size (.slice A0 es.length c0) es) (hp:okPre es es.length=true) (hn0:0 < es.length) (d s a:Int) (hx0:-9223372036854775808≤d) (hx1:d < 9223372036854775808) (hx2:-9223372036854775808≤s) (hx3:s < 9223372036854775808) (hx4:-9223372036854775808≤a) (hx5:a < 9223372036854775808) (lax:Bool):Calls Tryz.prog 45 #[.agg #[vI u,vI x,.slice A0 es.length c0],vL d s a,.bool (lax)] w0 fun e w'=>∃ v,e = .returned (.tuple #[v,vI (tE es x lax d s a)])∧Below w0.heap.size w0 w'∧BigN w0.heap.size w' v (tV es x lax d s a):=by
 have hst:=St.start w0 (Θ:=fun _=>True) (fun _ _=>trivial)
 refine en_ Tryz.func45 hst 45 [(0,.agg #[vI u,vI x,.slice A0 es.length c0]),(1,vL d s a),(2,.bool (lax))] (fun ac h=>?_)
 replace h:=h.facts
 refine wp_seq ?_
 refine rf_ h [[0],[1],[2],[3]] [KE_ fun env=>vP (pb env 0) 0,KE_ fun env=>vP (pb env 1) 0,KE_ fun env=>vP (pb env 2) 0,K_ (vI 0)] (fun E1=>[(2,.bool (lax)),(3,vP (pb E1 0) 0),(4,vP (pb E1 1) 0),(6,vP (pb E1 2) 0),(7,vI 0)]) (W:=[{ i:=0,T:=41,c0:=[vI u,vI x,.slice A0 es.length c0] },{ i:=1,T:=23,c0:=[vI d,vI s,vI a] },{ i:=2,T:=36,c0:=[bF,.slice none 0 0] }]) (M':=fun E1=>[((pb E1 0),41,[vI u,vI x,.slice A0 es.length c0]),((pb E1 1),23,[vI d,vI s,vI a]),((pb E1 2),36,[bF,.slice none 0 0])]) (hs:=c_ (bx0 0 (.agg #[vI u,vI x,.slice A0 es.length c0]))<|c_ (bx0 1 (vL d s a))<|c_ (al_ 2)<|c_ mv_<|e_) (k:=fun E1 ac wd h_1=>?_)
 clear h
 refine then_n (wp_seq ?_)
 refine rf_ h_1 [[0],[1],[2],[1,2,3],[4],r_ 6,r_ 7] [K_ (.agg #[bF,.slice none 0 0]),K_ (.agg #[vI u,vI x,.slice A0 es.length c0]),K_ (vL d s a),K_ (vI (whyU es d s a)),KE_ fun env=>vP (pb env 4) 0,none,K_ (vI (whyU es d s a))] (fun E2=>[(2,.bool (lax)),(3,vP (pb E1 0) 0),(4,vP (pb E1 1) 0),(6,vP (pb E1 2) 0),(7,vI 0),(8,vP (pb E2 4) 0),(9,vI (whyU es d s a))]) (W:=[{ i:=4,T:=36,c0:=[bF,.slice none 0 0],s:=some 5,c1:=fun _=>[bF,.slice none 0 0] }]) (M':=fun E2=>[((pb E1 0),41,[vI u,vI x,.slice A0 es.length c0]),((pb E1 1),23,[vI d,vI s,vI a]),((pb E1 2),36,[bF,.slice none 0 0]),((pb E2 4),36,[bF,.slice none 0 0])]) (hs:=c_ (bd0 ([]))<|c_ (ld_ 0 (hrd:=by exact rd41 rfl rfl rfl))<|c_ (ld_ 1 (hrd:=by exact rd23 rfl rfl rfl))<|c_ (cw_ Tryz.func71 (h:=fun _ env _ wd hA=>⟨_,(rWhy_any wd A0 c0 es u x (hv.gn hA.j.st.gr) hp hn0 d s a),rfl⟩))<|c_ (al_ 3)<|c_ (sw_ 3 4 (hst:=by exact fun _ _ _ hc=>st36 rfl rfl rfl hc))<|c_ mv_<|e_) (k:=fun E2 ac wd h_2=>?_)
 clear h_1
 refine then_n (wp_seq (wp_seq ?_))
 cases ho:oldB es
 refine rf_ h_2 (tri 7) [K_ (.agg #[vI u,vI x,.slice A0 es.length c0]),K_ bF,K_ bF,K_ undef,K_ undef,K_ undef,K_ bF] (fun E3=>[(2,.bool (lax)),(3,vP (pb E1 0) 0),(4,vP (pb E1 1) 0),(6,vP (pb E1 2) 0),(7,vI 0),(8,vP (pb E2 4) 0),(9,vI (whyU es d s a)),(20,bF)]) (hs:=c_ (ld_ 0 (hrd:=by exact rd41 rfl rfl rfl))<|c_ (cw_ Tryz.func72 (h:=fun _ env _ wd hA=>⟨_,(u_res_eq (rOld15_any wd A0 c0 es u x (hv.gn hA.j.st.gr) hp hn0) (congrArg Value.bool ho)),rfl⟩))<|c_ mv_<|c_ off_<|c_ off_<|c_ off_<|c_ (pk0 bF undef bF)<|e_) (k:=fun E3 ac wd h_3=>?_)
 clear h_2
 refine then_n ?_
 refine cF_ h_3 ?_
 refine wp_seq ?_
 have hct:=ct_utc (d:=d) (s:=s) (a:=a) (.inl ho)
 by_cases hw:whyU es d s a=0
 obtain ⟨q0,q1,q2,q3,q4,q5,_,_⟩:=whyU_ok hw;have he:ctE es d s a=0:=hct.2.trans hw;have htj:=y_tai_jn hw
 refine rf_ h_3 [[0],[0,1]] [K_ (vI (whyU es d s a)),K_ bT] (fun E4=>[(2,.bool (lax)),(3,vP (pb E1 0) 0),(4,vP (pb E1 1) 0),(6,vP (pb E1 2) 0),(7,vI 0),(8,vP (pb E2 4) 0),(9,vI (whyU es d s a)),(28,bT)]) (hs:=c_ mv_<|c_ (bi0 (vI (whyU es d s a)) (vI 0) (h:=by intro env w;simp [go_sem,hw]))<|e_) (k:=fun E4 ac wd h_4=>?_)
 clear h_3
 refine then_n ?_
 refine cT_ h_4 ?_
 refine rf_ h_4 [[0],[1],[0,1,2],r_ 4] [K_ (.agg #[vI u,vI x,.slice A0 es.length c0]),K_ (vL d s a),KE_ fun env=>bigF (jn d (s+offV es d) a) (env 2),none] (fun E5=>[(2,.bool (lax)),(3,vP (pb E1 0) 0),(4,vP (pb E1 1) 0),(6,vP (pb E1 2) 0),(7,vI 0),(8,vP (pb E2 4) 0),(9,vI (whyU es d s a))]) (S:=[⟨3,3,fun env=>[.bool (decide (jn d (s+offV es d) a < 0)),rS (jn d (s+offV es d) a) ((bA (env 2))) ((bC (env 2)))]⟩]) (F:=[(2,fun env w=>BigN w0.heap.size w (env 2) (jn d (s+offV es d) a))]) (L1:=fun E5=>[fun w=>BigN w0.heap.size w (E5 2) (jn d (s+offV es d) a)]) (M':=fun E5=>[((pb E1 0),41,[vI u,vI x,.slice A0 es.length c0]),((pb E1 1),23,[vI d,vI s,vI a]),((pb E1 2),36,[bF,.slice none 0 0]),((pb E2 4),36,[.bool (decide (jn d (s+offV es d) a < 0)),rS (jn d (s+offV es d) a) ((bA (E5 2))) ((bC (E5 2)))])]) (hs:=c_ (ld_ 0 (hrd:=by exact rd41 rfl rfl rfl))<|c_ (ld_ 1 (hrd:=by exact rd23 rfl rfl rfl))<|c_ (cb_ Tryz.func75 (jn d (s+offV es d) a) (h:=fun _ env _ wd hA=>⟨_,rTai12_any wd A0 c0 es u x (hv.gn hA.j.st.gr) hp d s a q0 q1 q2 q3 q4 q5,rfl⟩))<|c_ (se_ 3 (hst:=by exact fun _ _ _ hc=>st36 rfl rfl rfl hc))<|e_) (k:=fun E5 ac wd h_5=>?_)
 clear h_4
 refine then_n (wp_seq (wp_seq ?_))
 refine rf_ h_5 [[0],[0,1]] [K_ (vI (whyU es d s a)),K_ bF] (fun E6=>[(2,.bool (lax)),(3,vP (pb E1 0) 0),(4,vP (pb E1 1) 0),(6,vP (pb E1 2) 0),(7,vI 0),(8,vP (pb E2 4) 0),(9,vI (whyU es d s a)),(33,bF)]) (hs:=c_ mv_<|c_ (bi0 (vI (whyU es d s a)) (vI 0) (h:=by intro env w;simp [go_sem,hw]))<|e_) (k:=fun E6 ac wd h_6=>?_)
 clear h_5
 refine then_n ?_
 refine cF_ h_6 ?_
 refine wp_skip (then_n (wp_seq (wp_seq ?_)))
 rcases lax with _ | _
 cases hov:overB x d s
 refine rf_ h_6 [[0],[0,1],[0,1,2],r_ 4,[0,1,2,4],r_ 6,r_ 7] [K_ bF,K_ bT,K_ bT,K_ (.agg #[vI u,vI x,.slice A0 es.length c0]),K_ (vL d s a),K_ bF,K_ bF] (fun E7=>[(6,vP (pb E1 2) 0),(7,vI 0),(8,vP (pb E2 4) 0),(42,bF)]) (hs:=c_ mv_<|c_ (un0 bF)<|c_ mv_<|c_ (ld_ 0 (hrd:=by exact rd41 rfl rfl rfl))<|c_ (ld_ 1 (hrd:=by exact rd23 rfl rfl rfl))<|c_ (cw_ Tryz.func76 (h:=fun _ env _ wd hA=>⟨_,(u_res_eq (rOver15_any wd A0 c0 es u x (hv.gn hA.j.st.gr) d s a q4 q5 q0 q1) (congrArg Value.bool hov)),rfl⟩))<|c_ (pk0 bT bF bF)<|e_) (k:=fun E7 ac wd h_7=>?_)
 clear h_6
 refine then_n ?_
 refine cF_ h_7 ?_
 refine wp_skip (then_n (wp_seq ?_))
 refine rf_ h_7 (tri 3) [K_ (bigF (jn d (s+offV es d) a) (E5 2)),none,K_ (vI 0)] (fun E8=>[(6,vP (pb E1 2) 0),(7,vI 0)]) (S:=[⟨2,1,fun _=>[.bool (decide (jn d (s+offV es d) a < 0)),rS (jn d (s+offV es d) a) ((bA (E5 2))) ((bC (E5 2)))]⟩]) (M':=fun E8=>[((pb E1 0),41,[vI u,vI x,.slice A0 es.length c0]),((pb E1 1),23,[vI d,vI s,vI a]),((pb E1 2),36,[.bool (decide (jn d (s+offV es d) a < 0)),rS (jn d (s+offV es d) a) ((bA (E5 2))) ((bC (E5 2)))]),((pb E2 4),36,[.bool (decide (jn d (s+offV es d) a < 0)),rS (jn d (s+offV es d) a) ((bA (E5 2))) ((bC (E5 2)))])]) (hs:=c_ (ld_ 3 (hrd:=by exact rd36 rfl rfl))<|c_ (se_ 2 (hst:=by exact fun _ _ _ hc=>st36 rfl rfl rfl hc))<|c_ mv_<|e_) (k:=fun E8 ac wd h_8=>?_)
 clear h_7
 refine then_n (wp_ret ?_)
 refine lvCT (v:=bigF (jn d (s+offV es d) a) (E5 2)) Tryz.results45 h_8 2 (rd36 rfl rfl) ?_
 have e1:tE es x false d s a=0:=by unfold tE expB;rw [if_pos he];simp [hov]
 have e2:tV es x false d s a=jn d (s+offV es d) a:=by unfold tV;rw [e1,if_pos rfl,hct.1,htj]
 exact ⟨bigF (jn d (s+offV es d) a) (E5 2),by rw [e1],h_8.st.below,BigN.eq (BigN.mk rfl rfl (Facts.bN h_8.st.now 0 rfl)) e2.symm⟩
 refine rf_ h_6 [[0],[0,1],[0,1,2],r_ 4,[0,1,2,4],r_ 6,r_ 7] [K_ bF,K_ bT,K_ bT,K_ (.agg #[vI u,vI x,.slice A0 es.length c0]),K_ (vL d s a),K_ bT,K_ bT] (fun E7=>[(6,vP (pb E1 2) 0),(7,vI 0),(8,vP (pb E2 4) 0),(42,bT)]) (hs:=c_ mv_<|c_ (un0 bF)<|c_ mv_<|c_ (ld_ 0 (hrd:=by exact rd41 rfl rfl rfl))<|c_ (ld_ 1 (hrd:=by exact rd23 rfl rfl rfl))<|c_ (cw_ Tryz.func76 (h:=fun _ env _ wd hA=>⟨_,(u_res_eq (rOver15_any wd A0 c0 es u x (hv.gn hA.j.st.gr) d s a q4 q5 q0 q1) (congrArg Value.bool hov)),rfl⟩))<|c_ (pk0 bT bT bF)<|e_) (k:=fun E7 ac wd h_7=>?_)
 clear h_6
 refine then_n ?_
 refine cT_ h_7 ?_
 refine wp_seq ?_
 refine rf_ h_7 (tri 3) [K_ (.agg #[bF,.slice none 0 0]),none,K_ (vI 9)] (fun E8=>[(6,vP (pb E1 2) 0),(7,vI 9),(8,vP (pb E2 4) 0)]) (S:=[⟨2,1,fun _=>[bF,.slice none 0 0]⟩]) (M':=fun E8=>[((pb E1 0),41,[vI u,vI x,.slice A0 es.length c0]),((pb E1 1),23,[vI d,vI s,vI a]),((pb E1 2),36,[bF,.slice none 0 0]),((pb E2 4),36,[.bool (decide (jn d (s+offV es d) a < 0)),rS (jn d (s+offV es d) a) ((bA (E5 2))) ((bC (E5 2)))])]) (hs:=c_ (bd0 ([]))<|c_ (se_ 2 (hst:=by exact fun _ _ _ hc=>st36 rfl rfl rfl hc))<|c_ mv_<|e_) (k:=fun E8 ac wd h_8=>?_)
 clear h_7
 refine then_n (wp_ret (then_ret ?_))
 refine lvCT (v:=.agg #[.bool false,.slice none 0 0]) Tryz.results45 h_8 2 (rd36 rfl rfl) ?_
 have e1:tE es x false d s a=9:=by unfold tE expB;rw [if_pos he];simp [hov]
 have e2:tV es x false d s a=0:=by unfold tV;rw [e1,if_neg (by omega)]
 exact ⟨.agg #[.bool false,.slice none 0 0],by rw [e1],h_8.st.below,BigN.nil e2⟩
 refine rf_ h_6 [[0],[0,1],[0,1,2],r_ 4,[0,1,2,4],r_ 6,r_ 7] [K_ bT,K_ bF,K_ bF,K_ undef,K_ undef,K_ undef,K_ bF] (fun E7=>[(6,vP (pb E1 2) 0),(7,vI 0),(8,vP (pb E2 4) 0),(42,bF)]) (hs:=c_ mv_<|c_ (un0 bT)<|c_ mv_<|c_ off_<|c_ off_<|c_ off_<|c_ (pk0 bF undef bF)<|e_) (k:=fun E7 ac wd h_7=>?_)
 clear h_6
 refine then_n ?_
 refine cF_ h_7 ?_
 refine wp_skip (then_n (wp_seq ?_))
 refine rf_ h_7 (tri 3) [K_ (bigF (jn d (s+offV es d) a) (E5 2)),none,K_ (vI 0)] (fun E8=>[(6,vP (pb E1 2) 0),(7,vI 0)]) (S:=[⟨2,1,fun _=>[.bool (decide (jn d (s+offV es d) a < 0)),rS (jn d (s+offV es d) a) ((bA (E5 2))) ((bC (E5 2)))]⟩]) (M':=fun E8=>[((pb E1 0),41,[vI u,vI x,.slice A0 es.length c0]),((pb E1 1),23,[vI d,vI s,vI a]),((pb E1 2),36,[.bool (decide (jn d (s+offV es d) a < 0)),rS (jn d (s+offV es d) a) ((bA (E5 2))) ((bC (E5 2)))]),((pb E2 4),36,[.bool (decide (jn d (s+offV es d) a < 0)),rS (jn d (s+offV es d) a) ((bA (E5 2))) ((bC (E5 2)))])]) (hs:=c_ (ld_ 3 (hrd:=by exact rd36 rfl rfl))<|c_ (se_ 2 (hst:=by exact fun _ _ _ hc=>st36 rfl rfl rfl hc))<|c_ mv_<|e_) (k:=fun E8 ac wd h_8=>?_)
 clear h_7
 refine then_n (wp_ret ?_)
 refine lvCT (v:=bigF (jn d (s+offV es d) a) (E5 2)) Tryz.results45 h_8 2 (rd36 rfl rfl) ?_
 have e1:tE es x true d s a=0:=by unfold tE expB;rw [if_pos he];simp
 have e2:tV es x true d s a=jn d (s+offV es d) a:=by unfold tV;rw [e1,if_pos rfl,hct.1,htj]
 exact ⟨bigF (jn d (s+offV es d) a) (E5 2),by rw [e1],h_8.st.below,BigN.eq (BigN.mk rfl rfl (Facts.bN h_8.st.now 0 rfl)) e2.symm⟩
 have he:¬ ctE es d s a=0:=fun h=>hw (hct.2.symm.trans h)
 refine rf_ h_3 [[0],[0,1]] [K_ (vI (whyU es d s a)),K_ bF] (fun E4=>[(2,.bool (lax)),(3,vP (pb E1 0) 0),(4,vP (pb E1 1) 0),(6,vP (pb E1 2) 0),(7,vI 0),(8,vP (pb E2 4) 0),(9,vI (whyU es d s a)),(28,bF)]) (hs:=c_ mv_<|c_ (bi0 (vI (whyU es d s a)) (vI 0) (h:=by intro env w;simp [go_sem,hw]))<|e_) (k:=fun E4 ac wd h_4=>?_)
 clear h_3
 refine then_n ?_
 refine cF_ h_4 ?_
 refine wp_skip (then_n (wp_seq (wp_seq ?_)))
 refine rf_ h_4 [[0],[0,1]] [K_ (vI (whyU es d s a)),K_ bT] (fun E5=>[(2,.bool (lax)),(3,vP (pb E1 0) 0),(4,vP (pb E1 1) 0),(6,vP (pb E1 2) 0),(7,vI 0),(8,vP (pb E2 4) 0),(9,vI (whyU es d s a)),(33,bT)]) (hs:=c_ mv_<|c_ (bi0 (vI (whyU es d s a)) (vI 0) (h:=by intro env w;simp [go_sem,hw]))<|e_) (k:=fun E5 ac wd h_5=>?_)
 clear h_4
 refine then_n ?_
 refine cT_ h_5 ?_
 refine wp_seq ?_
 refine rf_ h_5 [[0],[1],[0,2],r_ 4] [K_ (.agg #[bF,.slice none 0 0]),K_ (vI (whyU es d s a)),none,K_ (vI (whyU es d s a))] (fun E6=>[(2,.bool (lax)),(3,vP (pb E1 0) 0),(4,vP (pb E1 1) 0),(6,vP (pb E1 2) 0),(7,vI (whyU es d s a)),(8,vP (pb E2 4) 0)]) (S:=[⟨2,2,fun _=>[bF,.slice none 0 0]⟩]) (M':=fun E6=>[((pb E1 0),41,[vI u,vI x,.slice A0 es.length c0]),((pb E1 1),23,[vI d,vI s,vI a]),((pb E1 2),36,[bF,.slice none 0 0]),((pb E2 4),36,[bF,.slice none 0 0])]) (hs:=c_ (bd0 ([]))<|c_ mv_<|c_ (se_ 2 (hst:=by exact fun _ _ _ hc=>st36 rfl rfl rfl hc))<|c_ mv_<|e_) (k:=fun E6 ac wd h_6=>?_)
 clear h_5
 refine then_n (wp_ret (then_ret ?_))
 refine lvCT (v:=.agg #[.bool false,.slice none 0 0]) Tryz.results45 h_6 2 (rd36 rfl rfl) ?_
 have e1:tE es x lax d s a=whyU es d s a:=by unfold tE;rw [if_neg he,hct.2]
 have e2:tV es x lax d s a=0:=by unfold tV;rw [e1,if_neg hw]
 exact ⟨.agg #[.bool false,.slice none 0 0],by rw [e1],h_6.st.below,BigN.nil e2⟩
 by_cases hd:d < 41317
 have hct:=ct_rub (s:=s) (a:=a) ho hd
 refine rf_ h_2 (tri 7) [K_ (.agg #[vI u,vI x,.slice A0 es.length c0]),K_ bT,K_ bT,K_ (vP (pb E1 1) 0),K_ (vI d),K_ bT,K_ bT] (fun E3=>[(2,.bool (lax)),(3,vP (pb E1 0) 0),(4,vP (pb E1 1) 0),(6,vP (pb E1 2) 0),(7,vI 0),(8,vP (pb E2 4) 0),(9,vI (whyU es d s a)),(20,bT)]) (hs:=c_ (ld_ 0 (hrd:=by exact rd41 rfl rfl rfl))<|c_ (cw_ Tryz.func72 (h:=fun _ env _ wd hA=>⟨_,(u_res_eq (rOld15_any wd A0 c0 es u x (hv.gn hA.j.st.gr) hp hn0) (congrArg Value.bool ho)),rfl⟩))<|c_ mv_<|c_ (fa0 (vP (pb E1 1) 0))<|c_ (ld_ 1 (hrd:=by exact rd3 rfl))<|c_ (bi0 (vI d) (vI 41317) (h:=by intro env w;simp [go_sem,hd]))<|c_ (pk0 bT bT bF (h:=by intro env w;simp [go_sem,hd]))<|e_) (k:=fun E3 ac wd h_3=>?_)
 clear h_2
 refine then_n ?_
 refine cT_ h_3 ?_
 refine rf_ h_3 [[0],[1],[0,1,2],r_ 4,r_ 5,[0,1,2,3,5],[0,1,2,3,4,6],r_ 8] [KE_ fun env=>.slice ((sA (env 0))) pubS.length ((sC (env 0))),K_ (vL d s a),KE_ fun env=>vT2 (bigF (taiV pubS 41317 10 d s a) (tp (env 2) 0)) (vI (taiE pubS 41317 10 d s a)),KE_ fun env=>vT2 (bigF (taiV pubS 41317 10 d s a) (tp (env 2) 0)) (vI (taiE pubS 41317 10 d s a)),KE_ fun env=>bigF (taiV pubS 41317 10 d s a) (tp (env 2) 0),K_ (vI (taiE pubS 41317 10 d s a)),none,K_ (vI (taiE pubS 41317 10 d s a))] (fun E4=>[(2,.bool (lax)),(3,vP (pb E1 0) 0),(4,vP (pb E1 1) 0),(6,vP (pb E1 2) 0),(7,vI 0),(8,vP (pb E2 4) 0),(9,vI (taiE pubS 41317 10 d s a))]) (S:=[⟨3,6,fun env=>[.bool (decide (taiV pubS 41317 10 d s a < 0)),rS (taiV pubS 41317 10 d s a) ((bA (tp (env 2) 0))) ((bC (tp (env 2) 0)))]⟩]) (F:=[(0,fun env w=>SegN w0.heap.size w (env 0) pubS),(2,fun env w=>TaiX w0.heap.size w (env 2) (taiV pubS 41317 10 d s a) (taiE pubS 41317 10 d s a))]) (L1:=fun E4=>[fun w=>SegN w0.heap.size w (E4 0) pubS,fun w=>TaiX w0.heap.size w (E4 2) (taiV pubS 41317 10 d s a) (taiE pubS 41317 10 d s a)]) (M':=fun E4=>[((pb E1 0),41,[vI u,vI x,.slice A0 es.length c0]),((pb E1 1),23,[vI d,vI s,vI a]),((pb E1 2),36,[bF,.slice none 0 0]),((pb E2 4),36,[.bool (decide (taiV pubS 41317 10 d s a < 0)),rS (taiV pubS 41317 10 d s a) ((bA (tp (E4 2) 0))) ((bC (tp (E4 2) 0)))])]) (hs:=c_ (s_factT rfl rfl rfl Tryz.func74 (by kernel_rfl) rfl (fun _=>wanted_none rfl _) (fun v w=>SegN w0.heap.size w v pubS) (segF pubS) rfl rfl [128] rfl (fun v w h=>h.form) (fun v w w' hk h=>h.keep hk) (fun {D env ac wd} hA=>⟨_,hA.args (vs:=[]) rfl,rsegments_up hA.j.st.gr.size⟩))<|c_ (ld_ 1 (hrd:=by exact rd23 rfl rfl rfl))<|c_ (cf_ Tryz.func73 (fun v w=>TaiX w0.heap.size w v (taiV pubS 41317 10 d s a) (taiE pubS 41317 10 d s a)) (taiF (taiV pubS 41317 10 d s a) (taiE pubS 41317 10 d s a)) (h:=fun _ env _ wd hA=>⟨_,toTaiX hA.j.st.gr.size (rTai_any wd ((sA (env 0))) ((sC (env 0))) pubS (At.segN hA 0 rfl rfl rfl) 41317 10 pub_ok.toLOk d s a hx0 hx1 hx2 hx3 hx4 hx5),rfl⟩))<|c_ mv_<|c_ ext_<|c_ ext_<|c_ (se_ 3 (hst:=by exact fun _ _ _ hc=>st36 rfl rfl rfl hc))<|c_ mv_<|e_) (k:=fun E4 ac wd h_4=>?_)
 clear h_3
 refine then_n (wp_seq (wp_seq ?_))
 by_cases hw:taiE pubS 41317 10 d s a=0
 have he:ctE es d s a=0:=hct.2.trans hw;obtain ⟨q0,q1,q2,q3,q4,q5⟩:=ctE_bd he
 refine rf_ h_4 [[0],[0,1]] [K_ (vI (taiE pubS 41317 10 d s a)),K_ bF] (fun E5=>[(2,.bool (lax)),(3,vP (pb E1 0) 0),(4,vP (pb E1 1) 0),(6,vP (pb E1 2) 0),(7,vI 0),(8,vP (pb E2 4) 0),(9,vI (taiE pubS 41317 10 d s a)),(33,bF)]) (hs:=c_ mv_<|c_ (bi0 (vI (taiE pubS 41317 10 d s a)) (vI 0) (h:=by intro env w;simp [go_sem,hw]))<|e_) (k:=fun E5 ac wd h_5=>?_)
 clear h_4
 refine then_n ?_
 refine cF_ h_5 ?_
 refine wp_skip (then_n (wp_seq (wp_seq ?_)))
 rcases lax with _ | _
 cases hov:overB x d s
 refine rf_ h_5 [[0],[0,1],[0,1,2],r_ 4,[0,1,2,4],r_ 6,r_ 7] [K_ bF,K_ bT,K_ bT,K_ (.agg #[vI u,vI x,.slice A0 es.length c0]),K_ (vL d s a),K_ bF,K_ bF] (fun E6=>[(6,vP (pb E1 2) 0),(7,vI 0),(8,vP (pb E2 4) 0),(42,bF)]) (hs:=c_ mv_<|c_ (un0 bF)<|c_ mv_<|c_ (ld_ 0 (hrd:=by exact rd41 rfl rfl rfl))<|c_ (ld_ 1 (hrd:=by exact rd23 rfl rfl rfl))<|c_ (cw_ Tryz.func76 (h:=fun _ env _ wd hA=>⟨_,(u_res_eq (rOver15_any wd A0 c0 es u x (hv.gn hA.j.st.gr) d s a q4 q5 q0 q1) (congrArg Value.bool hov)),rfl⟩))<|c_ (pk0 bT bF bF)<|e_) (k:=fun E6 ac wd h_6=>?_)
 clear h_5
 refine then_n ?_
 refine cF_ h_6 ?_
 refine wp_skip (then_n (wp_seq ?_))
 refine rf_ h_6 (tri 3) [K_ (bigF (taiV pubS 41317 10 d s a) (tp (E4 2) 0)),none,K_ (vI 0)] (fun E7=>[(6,vP (pb E1 2) 0),(7,vI 0)]) (S:=[⟨2,1,fun _=>[.bool (decide (taiV pubS 41317 10 d s a < 0)),rS (taiV pubS 41317 10 d s a) ((bA (tp (E4 2) 0))) ((bC (tp (E4 2) 0)))]⟩]) (M':=fun E7=>[((pb E1 0),41,[vI u,vI x,.slice A0 es.length c0]),((pb E1 1),23,[vI d,vI s,vI a]),((pb E1 2),36,[.bool (decide (taiV pubS 41317 10 d s a < 0)),rS (taiV pubS 41317 10 d s a) ((bA (tp (E4 2) 0))) ((bC (tp (E4 2) 0)))]),((pb E2 4),36,[.bool (decide (taiV pubS 41317 10 d s a < 0)),rS (taiV pubS 41317 10 d s a) ((bA (tp (E4 2) 0))) ((bC (tp (E4 2) 0)))])]) (hs:=c_ (ld_ 3 (hrd:=by exact rd36 rfl rfl))<|c_ (se_ 2 (hst:=by exact fun _ _ _ hc=>st36 rfl rfl rfl hc))<|c_ mv_<|e_) (k:=fun E7 ac wd h_7=>?_)
 clear h_6
 refine then_n (wp_ret ?_)
 refine lvCT (v:=bigF (taiV pubS 41317 10 d s a) (tp (E4 2) 0)) Tryz.results45 h_7 2 (rd36 rfl rfl) ?_
 have e1:tE es x false d s a=0:=by unfold tE expB;rw [if_pos he];simp [hov]
 have e2:tV es x false d s a=taiV pubS 41317 10 d s a:=by unfold tV;rw [e1,if_pos rfl,hct.1]
 exact ⟨bigF (taiV pubS 41317 10 d s a) (tp (E4 2) 0),by rw [e1],h_7.st.below,BigN.eq (BigN.mk rfl rfl (Facts.tN h_7.st.now 1 rfl)) e2.symm⟩
 refine rf_ h_5 [[0],[0,1],[0,1,2],r_ 4,[0,1,2,4],r_ 6,r_ 7] [K_ bF,K_ bT,K_ bT,K_ (.agg #[vI u,vI x,.slice A0 es.length c0]),K_ (vL d s a),K_ bT,K_ bT] (fun E6=>[(6,vP (pb E1 2) 0),(7,vI 0),(8,vP (pb E2 4) 0),(42,bT)]) (hs:=c_ mv_<|c_ (un0 bF)<|c_ mv_<|c_ (ld_ 0 (hrd:=by exact rd41 rfl rfl rfl))<|c_ (ld_ 1 (hrd:=by exact rd23 rfl rfl rfl))<|c_ (cw_ Tryz.func76 (h:=fun _ env _ wd hA=>⟨_,(u_res_eq (rOver15_any wd A0 c0 es u x (hv.gn hA.j.st.gr) d s a q4 q5 q0 q1) (congrArg Value.bool hov)),rfl⟩))<|c_ (pk0 bT bT bF)<|e_) (k:=fun E6 ac wd h_6=>?_)
 clear h_5
 refine then_n ?_
 refine cT_ h_6 ?_
 refine wp_seq ?_
 refine rf_ h_6 (tri 3) [K_ (.agg #[bF,.slice none 0 0]),none,K_ (vI 9)] (fun E7=>[(6,vP (pb E1 2) 0),(7,vI 9),(8,vP (pb E2 4) 0)]) (S:=[⟨2,1,fun _=>[bF,.slice none 0 0]⟩]) (M':=fun E7=>[((pb E1 0),41,[vI u,vI x,.slice A0 es.length c0]),((pb E1 1),23,[vI d,vI s,vI a]),((pb E1 2),36,[bF,.slice none 0 0]),((pb E2 4),36,[.bool (decide (taiV pubS 41317 10 d s a < 0)),rS (taiV pubS 41317 10 d s a) ((bA (tp (E4 2) 0))) ((bC (tp (E4 2) 0)))])]) (hs:=c_ (bd0 ([]))<|c_ (se_ 2 (hst:=by exact fun _ _ _ hc=>st36 rfl rfl rfl hc))<|c_ mv_<|e_) (k:=fun E7 ac wd h_7=>?_)
 clear h_6
 refine then_n (wp_ret (then_ret ?_))
 refine lvCT (v:=.agg #[.bool false,.slice none 0 0]) Tryz.results45 h_7 2 (rd36 rfl rfl) ?_
 have e1:tE es x false d s a=9:=by unfold tE expB;rw [if_pos he];simp [hov]
 have e2:tV es x false d s a=0:=by unfold tV;rw [e1,if_neg (by omega)]
 exact ⟨.agg #[.bool false,.slice none 0 0],by rw [e1],h_7.st.below,BigN.nil e2⟩
 refine rf_ h_5 [[0],[0,1],[0,1,2],r_ 4,[0,1,2,4],r_ 6,r_ 7] [K_ bT,K_ bF,K_ bF,K_ undef,K_ undef,K_ undef,K_ bF] (fun E6=>[(6,vP (pb E1 2) 0),(7,vI 0),(8,vP (pb E2 4) 0),(42,bF)]) (hs:=c_ mv_<|c_ (un0 bT)<|c_ mv_<|c_ off_<|c_ off_<|c_ off_<|c_ (pk0 bF undef bF)<|e_) (k:=fun E6 ac wd h_6=>?_)
 clear h_5
 refine then_n ?_
 refine cF_ h_6 ?_
 refine wp_skip (then_n (wp_seq ?_))
 refine rf_ h_6 (tri 3) [K_ (bigF (taiV pubS 41317 10 d s a) (tp (E4 2) 0)),none,K_ (vI 0)] (fun E7=>[(6,vP (pb E1 2) 0),(7,vI 0)]) (S:=[⟨2,1,fun _=>[.bool (decide (taiV pubS 41317 10 d s a < 0)),rS (taiV pubS 41317 10 d s a) ((bA (tp (E4 2) 0))) ((bC (tp (E4 2) 0)))]⟩]) (M':=fun E7=>[((pb E1 0),41,[vI u,vI x,.slice A0 es.length c0]),((pb E1 1),23,[vI d,vI s,vI a]),((pb E1 2),36,[.bool (decide (taiV pubS 41317 10 d s a < 0)),rS (taiV pubS 41317 10 d s a) ((bA (tp (E4 2) 0))) ((bC (tp (E4 2) 0)))]),((pb E2 4),36,[.bool (decide (taiV pubS 41317 10 d s a < 0)),rS (taiV pubS 41317 10 d s a) ((bA (tp (E4 2) 0))) ((bC (tp (E4 2) 0)))])]) (hs:=c_ (ld_ 3 (hrd:=by exact rd36 rfl rfl))<|c_ (se_ 2 (hst:=by exact fun _ _ _ hc=>st36 rfl rfl rfl hc))<|c_ mv_<|e_) (k:=fun E7 ac wd h_7=>?_)
 clear h_6
 refine then_n (wp_ret ?_)
 refine lvCT (v:=bigF (taiV pubS 41317 10 d s a) (tp (E4 2) 0)) Tryz.results45 h_7 2 (rd36 rfl rfl) ?_
 have e1:tE es x true d s a=0:=by unfold tE expB;rw [if_pos he];simp
 have e2:tV es x true d s a=taiV pubS 41317 10 d s a:=by unfold tV;rw [e1,if_pos rfl,hct.1]
 exact ⟨bigF (taiV pubS 41317 10 d s a) (tp (E4 2) 0),by rw [e1],h_7.st.below,BigN.eq (BigN.mk rfl rfl (Facts.tN h_7.st.now 1 rfl)) e2.symm⟩
 have he:¬ ctE es d s a=0:=fun h=>hw (hct.2.symm.trans h)
 refine rf_ h_4 [[0],[0,1]] [K_ (vI (taiE pubS 41317 10 d s a)),K_ bT] (fun E5=>[(2,.bool (lax)),(3,vP (pb E1 0) 0),(4,vP (pb E1 1) 0),(6,vP (pb E1 2) 0),(7,vI 0),(8,vP (pb E2 4) 0),(9,vI (taiE pubS 41317 10 d s a)),(33,bT)]) (hs:=c_ mv_<|c_ (bi0 (vI (taiE pubS 41317 10 d s a)) (vI 0) (h:=by intro env w;simp [go_sem,hw]))<|e_) (k:=fun E5 ac wd h_5=>?_)
 clear h_4
 refine then_n ?_
 refine cT_ h_5 ?_
 refine wp_seq ?_
 refine rf_ h_5 [[0],[1],[0,2],r_ 4] [K_ (.agg #[bF,.slice none 0 0]),K_ (vI (taiE pubS 41317 10 d s a)),none,K_ (vI (taiE pubS 41317 10 d s a))] (fun E6=>[(2,.bool (lax)),(3,vP (pb E1 0) 0),(4,vP (pb E1 1) 0),(6,vP (pb E1 2) 0),(7,vI (taiE pubS 41317 10 d s a)),(8,vP (pb E2 4) 0)]) (S:=[⟨2,2,fun _=>[bF,.slice none 0 0]⟩]) (M':=fun E6=>[((pb E1 0),41,[vI u,vI x,.slice A0 es.length c0]),((pb E1 1),23,[vI d,vI s,vI a]),((pb E1 2),36,[bF,.slice none 0 0]),((pb E2 4),36,[.bool (decide (taiV pubS 41317 10 d s a < 0)),rS (taiV pubS 41317 10 d s a) ((bA (tp (E4 2) 0))) ((bC (tp (E4 2) 0)))])]) (hs:=c_ (bd0 ([]))<|c_ mv_<|c_ (se_ 2 (hst:=by exact fun _ _ _ hc=>st36 rfl rfl rfl hc))<|c_ mv_<|e_) (k:=fun E6 ac wd h_6=>?_)
 clear h_5
 refine then_n (wp_ret (then_ret ?_))
 refine lvCT (v:=.agg #[.bool false,.slice none 0 0]) Tryz.results45 h_6 2 (rd36 rfl rfl) ?_
 have e1:tE es x lax d s a=taiE pubS 41317 10 d s a:=by unfold tE;rw [if_neg he,hct.2]
 have e2:tV es x lax d s a=0:=by unfold tV;rw [e1,if_neg hw]
 exact ⟨.agg #[.bool false,.slice none 0 0],by rw [e1],h_6.st.below,BigN.nil e2⟩
 have hct:=ct_utc (s:=s) (a:=a) (es:=es) (.inr hd)
 refine rf_ h_2 (tri 7) [K_ (.agg #[vI u,vI x,.slice A0 es.length c0]),K_ bT,K_ bT,K_ (vP (pb E1 1) 0),K_ (vI d),K_ bF,K_ bF] (fun E3=>[(2,.bool (lax)),(3,vP (pb E1 0) 0),(4,vP (pb E1 1) 0),(6,vP (pb E1 2) 0),(7,vI 0),(8,vP (pb E2 4) 0),(9,vI (whyU es d s a)),(20,bF)]) (hs:=c_ (ld_ 0 (hrd:=by exact rd41 rfl rfl rfl))<|c_ (cw_ Tryz.func72 (h:=fun _ env _ wd hA=>⟨_,(u_res_eq (rOld15_any wd A0 c0 es u x (hv.gn hA.j.st.gr) hp hn0) (congrArg Value.bool ho)),rfl⟩))<|c_ mv_<|c_ (fa0 (vP (pb E1 1) 0))<|c_ (ld_ 1 (hrd:=by exact rd3 rfl))<|c_ (bi0 (vI d) (vI 41317) (h:=by intro env w;simp [go_sem,hd]))<|c_ (pk0 bT bF bF (h:=by intro env w;simp [go_sem,hd]))<|e_) (k:=fun E3 ac wd h_3=>?_)
 clear h_2
 refine then_n ?_
 refine cF_ h_3 ?_
 refine wp_seq ?_
 skip
 by_cases hw:whyU es d s a=0
 obtain ⟨q0,q1,q2,q3,q4,q5,_,_⟩:=whyU_ok hw;have he:ctE es d s a=0:=hct.2.trans hw;have htj:=y_tai_jn hw
 refine rf_ h_3 [[0],[0,1]] [K_ (vI (whyU es d s a)),K_ bT] (fun E4=>[(2,.bool (lax)),(3,vP (pb E1 0) 0),(4,vP (pb E1 1) 0),(6,vP (pb E1 2) 0),(7,vI 0),(8,vP (pb E2 4) 0),(9,vI (whyU es d s a)),(28,bT)]) (hs:=c_ mv_<|c_ (bi0 (vI (whyU es d s a)) (vI 0) (h:=by intro env w;simp [go_sem,hw]))<|e_) (k:=fun E4 ac wd h_4=>?_)
 clear h_3
 refine then_n ?_
 refine cT_ h_4 ?_
 refine rf_ h_4 [[0],[1],[0,1,2],r_ 4] [K_ (.agg #[vI u,vI x,.slice A0 es.length c0]),K_ (vL d s a),KE_ fun env=>bigF (jn d (s+offV es d) a) (env 2),none] (fun E5=>[(2,.bool (lax)),(3,vP (pb E1 0) 0),(4,vP (pb E1 1) 0),(6,vP (pb E1 2) 0),(7,vI 0),(8,vP (pb E2 4) 0),(9,vI (whyU es d s a))]) (S:=[⟨3,3,fun env=>[.bool (decide (jn d (s+offV es d) a < 0)),rS (jn d (s+offV es d) a) ((bA (env 2))) ((bC (env 2)))]⟩]) (F:=[(2,fun env w=>BigN w0.heap.size w (env 2) (jn d (s+offV es d) a))]) (L1:=fun E5=>[fun w=>BigN w0.heap.size w (E5 2) (jn d (s+offV es d) a)]) (M':=fun E5=>[((pb E1 0),41,[vI u,vI x,.slice A0 es.length c0]),((pb E1 1),23,[vI d,vI s,vI a]),((pb E1 2),36,[bF,.slice none 0 0]),((pb E2 4),36,[.bool (decide (jn d (s+offV es d) a < 0)),rS (jn d (s+offV es d) a) ((bA (E5 2))) ((bC (E5 2)))])]) (hs:=c_ (ld_ 0 (hrd:=by exact rd41 rfl rfl rfl))<|c_ (ld_ 1 (hrd:=by exact rd23 rfl rfl rfl))<|c_ (cb_ Tryz.func75 (jn d (s+offV es d) a) (h:=fun _ env _ wd hA=>⟨_,rTai12_any wd A0 c0 es u x (hv.gn hA.j.st.gr) hp d s a q0 q1 q2 q3 q4 q5,rfl⟩))<|c_ (se_ 3 (hst:=by exact fun _ _ _ hc=>st36 rfl rfl rfl hc))<|e_) (k:=fun E5 ac wd h_5=>?_)
 clear h_4
 refine then_n (wp_seq (wp_seq ?_))
 refine rf_ h_5 [[0],[0,1]] [K_ (vI (whyU es d s a)),K_ bF] (fun E6=>[(2,.bool (lax)),(3,vP (pb E1 0) 0),(4,vP (pb E1 1) 0),(6,vP (pb E1 2) 0),(7,vI 0),(8,vP (pb E2 4) 0),(9,vI (whyU es d s a)),(33,bF)]) (hs:=c_ mv_<|c_ (bi0 (vI (whyU es d s a)) (vI 0) (h:=by intro env w;simp [go_sem,hw]))<|e_) (k:=fun E6 ac wd h_6=>?_)
 clear h_5
 refine then_n ?_
 refine cF_ h_6 ?_
 refine wp_skip (then_n (wp_seq (wp_seq ?_)))
 rcases lax with _ | _
 cases hov:overB x d s
 refine rf_ h_6 [[0],[0,1],[0,1,2],r_ 4,[0,1,2,4],r_ 6,r_ 7] [K_ bF,K_ bT,K_ bT,K_ (.agg #[vI u,vI x,.slice A0 es.length c0]),K_ (vL d s a),K_ bF,K_ bF] (fun E7=>[(6,vP (pb E1 2) 0),(7,vI 0),(8,vP (pb E2 4) 0),(42,bF)]) (hs:=c_ mv_<|c_ (un0 bF)<|c_ mv_<|c_ (ld_ 0 (hrd:=by exact rd41 rfl rfl rfl))<|c_ (ld_ 1 (hrd:=by exact rd23 rfl rfl rfl))<|c_ (cw_ Tryz.func76 (h:=fun _ env _ wd hA=>⟨_,(u_res_eq (rOver15_any wd A0 c0 es u x (hv.gn hA.j.st.gr) d s a q4 q5 q0 q1) (congrArg Value.bool hov)),rfl⟩))<|c_ (pk0 bT bF bF)<|e_) (k:=fun E7 ac wd h_7=>?_)
 clear h_6
 refine then_n ?_
 refine cF_ h_7 ?_
 refine wp_skip (then_n (wp_seq ?_))
 refine rf_ h_7 (tri 3) [K_ (bigF (jn d (s+offV es d) a) (E5 2)),none,K_ (vI 0)] (fun E8=>[(6,vP (pb E1 2) 0),(7,vI 0)]) (S:=[⟨2,1,fun _=>[.bool (decide (jn d (s+offV es d) a < 0)),rS (jn d (s+offV es d) a) ((bA (E5 2))) ((bC (E5 2)))]⟩]) (M':=fun E8=>[((pb E1 0),41,[vI u,vI x,.slice A0 es.length c0]),((pb E1 1),23,[vI d,vI s,vI a]),((pb E1 2),36,[.bool (decide (jn d (s+offV es d) a < 0)),rS (jn d (s+offV es d) a) ((bA (E5 2))) ((bC (E5 2)))]),((pb E2 4),36,[.bool (decide (jn d (s+offV es d) a < 0)),rS (jn d (s+offV es d) a) ((bA (E5 2))) ((bC (E5 2)))])]) (hs:=c_ (ld_ 3 (hrd:=by exact rd36 rfl rfl))<|c_ (se_ 2 (hst:=by exact fun _ _ _ hc=>st36 rfl rfl rfl hc))<|c_ mv_<|e_) (k:=fun E8 ac wd h_8=>?_)
 clear h_7
 refine then_n (wp_ret ?_)
 refine lvCT (v:=bigF (jn d (s+offV es d) a) (E5 2)) Tryz.results45 h_8 2 (rd36 rfl rfl) ?_
 have e1:tE es x false d s a=0:=by unfold tE expB;rw [if_pos he];simp [hov]
 have e2:tV es x false d s a=jn d (s+offV es d) a:=by unfold tV;rw [e1,if_pos rfl,hct.1,htj]
 exact ⟨bigF (jn d (s+offV es d) a) (E5 2),by rw [e1],h_8.st.below,BigN.eq (BigN.mk rfl rfl (Facts.bN h_8.st.now 0 rfl)) e2.symm⟩
 refine rf_ h_6 [[0],[0,1],[0,1,2],r_ 4,[0,1,2,4],r_ 6,r_ 7] [K_ bF,K_ bT,K_ bT,K_ (.agg #[vI u,vI x,.slice A0 es.length c0]),K_ (vL d s a),K_ bT,K_ bT] (fun E7=>[(6,vP (pb E1 2) 0),(7,vI 0),(8,vP (pb E2 4) 0),(42,bT)]) (hs:=c_ mv_<|c_ (un0 bF)<|c_ mv_<|c_ (ld_ 0 (hrd:=by exact rd41 rfl rfl rfl))<|c_ (ld_ 1 (hrd:=by exact rd23 rfl rfl rfl))<|c_ (cw_ Tryz.func76 (h:=fun _ env _ wd hA=>⟨_,(u_res_eq (rOver15_any wd A0 c0 es u x (hv.gn hA.j.st.gr) d s a q4 q5 q0 q1) (congrArg Value.bool hov)),rfl⟩))<|c_ (pk0 bT bT bF)<|e_) (k:=fun E7 ac wd h_7=>?_)
 clear h_6
 refine then_n ?_
 refine cT_ h_7 ?_
 refine wp_seq ?_
 refine rf_ h_7 (tri 3) [K_ (.agg #[bF,.slice none 0 0]),none,K_ (vI 9)] (fun E8=>[(6,vP (pb E1 2) 0),(7,vI 9),(8,vP (pb E2 4) 0)]) (S:=[⟨2,1,fun _=>[bF,.slice none 0 0]⟩]) (M':=fun E8=>[((pb E1 0),41,[vI u,vI x,.slice A0 es.length c0]),((pb E1 1),23,[vI d,vI s,vI a]),((pb E1 2),36,[bF,.slice none 0 0]),((pb E2 4),36,[.bool (decide (jn d (s+offV es d) a < 0)),rS (jn d (s+offV es d) a) ((bA (E5 2))) ((bC (E5 2)))])]) (hs:=c_ (bd0 ([]))<|c_ (se_ 2 (hst:=by exact fun _ _ _ hc=>st36 rfl rfl rfl hc))<|c_ mv_<|e_) (k:=fun E8 ac wd h_8=>?_)
 clear h_7
 refine then_n (wp_ret (then_ret ?_))
 refine lvCT (v:=.agg #[.bool false,.slice none 0 0]) Tryz.results45 h_8 2 (rd36 rfl rfl) ?_
 have e1:tE es x false d s a=9:=by unfold tE expB;rw [if_pos he];simp [hov]
 have e2:tV es x false d s a=0:=by unfold tV;rw [e1,if_neg (by omega)]
 exact ⟨.agg #[.bool false,.slice none 0 0],by rw [e1],h_8.st.below,BigN.nil e2⟩
 refine rf_ h_6 [[0],[0,1],[0,1,2],r_ 4,[0,1,2,4],r_ 6,r_ 7] [K_ bT,K_ bF,K_ bF,K_ undef,K_ undef,K_ undef,K_ bF] (fun E7=>[(6,vP (pb E1 2) 0),(7,vI 0),(8,vP (pb E2 4) 0),(42,bF)]) (hs:=c_ mv_<|c_ (un0 bT)<|c_ mv_<|c_ off_<|c_ off_<|c_ off_<|c_ (pk0 bF undef bF)<|e_) (k:=fun E7 ac wd h_7=>?_)
 clear h_6
 refine then_n ?_
 refine cF_ h_7 ?_
 refine wp_skip (then_n (wp_seq ?_))
 refine rf_ h_7 (tri 3) [K_ (bigF (jn d (s+offV es d) a) (E5 2)),none,K_ (vI 0)] (fun E8=>[(6,vP (pb E1 2) 0),(7,vI 0)]) (S:=[⟨2,1,fun _=>[.bool (decide (jn d (s+offV es d) a < 0)),rS (jn d (s+offV es d) a) ((bA (E5 2))) ((bC (E5 2)))]⟩]) (M':=fun E8=>[((pb E1 0),41,[vI u,vI x,.slice A0 es.length c0]),((pb E1 1),23,[vI d,vI s,vI a]),((pb E1 2),36,[.bool (decide (jn d (s+offV es d) a < 0)),rS (jn d (s+offV es d) a) ((bA (E5 2))) ((bC (E5 2)))]),((pb E2 4),36,[.bool (decide (jn d (s+offV es d) a < 0)),rS (jn d (s+offV es d) a) ((bA (E5 2))) ((bC (E5 2)))])]) (hs:=c_ (ld_ 3 (hrd:=by exact rd36 rfl rfl))<|c_ (se_ 2 (hst:=by exact fun _ _ _ hc=>st36 rfl rfl rfl hc))<|c_ mv_<|e_) (k:=fun E8 ac wd h_8=>?_)
 clear h_7
 refine then_n (wp_ret ?_)
 refine lvCT (v:=bigF (jn d (s+offV es d) a) (E5 2)) Tryz.results45 h_8 2 (rd36 rfl rfl) ?_
 have e1:tE es x true d s a=0:=by unfold tE expB;rw [if_pos he];simp
 have e2:tV es x true d s a=jn d (s+offV es d) a:=by unfold tV;rw [e1,if_pos rfl,hct.1,htj]
 exact ⟨bigF (jn d (s+offV es d) a) (E5 2),by rw [e1],h_8.st.below,BigN.eq (BigN.mk rfl rfl (Facts.bN h_8.st.now 0 rfl)) e2.symm⟩
 have he:¬ ctE es d s a=0:=fun h=>hw (hct.2.symm.trans h)
 refine rf_ h_3 [[0],[0,1]] [K_ (vI (whyU es d s a)),K_ bF] (fun E4=>[(2,.bool (lax)),(3,vP (pb E1 0) 0),(4,vP (pb E1 1) 0),(6,vP (pb E1 2) 0),(7,vI 0),(8,vP (pb E2 4) 0),(9,vI (whyU es d s a)),(28,bF)]) (hs:=c_ mv_<|c_ (bi0 (vI (whyU es d s a)) (vI 0) (h:=by intro env w;simp [go_sem,hw]))<|e_) (k:=fun E4 ac wd h_4=>?_)
 clear h_3
 refine then_n ?_
 refine cF_ h_4 ?_
 refine wp_skip (then_n (wp_seq (wp_seq ?_)))
 refine rf_ h_4 [[0],[0,1]] [K_ (vI (whyU es d s a)),K_ bT] (fun E5=>[(2,.bool (lax)),(3,vP (pb E1 0) 0),(4,vP (pb E1 1) 0),(6,vP (pb E1 2) 0),(7,vI 0),(8,vP (pb E2 4) 0),(9,vI (whyU es d s a)),(33,bT)]) (hs:=c_ mv_<|c_ (bi0 (vI (whyU es d s a)) (vI 0) (h:=by intro env w;simp [go_sem,hw]))<|e_) (k:=fun E5 ac wd h_5=>?_)
 clear h_4
 refine then_n ?_
 refine cT_ h_5 ?_
 refine wp_seq ?_
 refine rf_ h_5 [[0],[1],[0,2],r_ 4] [K_ (.agg #[bF,.slice none 0 0]),K_ (vI (whyU es d s a)),none,K_ (vI (whyU es d s a))] (fun E6=>[(2,.bool (lax)),(3,vP (pb E1 0) 0),(4,vP (pb E1 1) 0),(6,vP (pb E1 2) 0),(7,vI (whyU es d s a)),(8,vP (pb E2 4) 0)]) (S:=[⟨2,2,fun _=>[bF,.slice none 0 0]⟩]) (M':=fun E6=>[((pb E1 0),41,[vI u,vI x,.slice A0 es.length c0]),((pb E1 1),23,[vI d,vI s,vI a]),((pb E1 2),36,[bF,.slice none 0 0]),((pb E2 4),36,[bF,.slice none 0 0])]) (hs:=c_ (bd0 ([]))<|c_ mv_<|c_ (se_ 2 (hst:=by exact fun _ _ _ hc=>st36 rfl rfl rfl hc))<|c_ mv_<|e_) (k:=fun E6 ac wd h_6=>?_)
 clear h_5
 refine then_n (wp_ret (then_ret ?_))
 refine lvCT (v:=.agg #[.bool false,.slice none 0 0]) Tryz.results45 h_6 2 (rd36 rfl rfl) ?_
 have e1:tE es x lax d s a=whyU es d s a:=by unfold tE;rw [if_neg he,hct.2]
 have e2:tV es x lax d s a=0:=by unfold tV;rw [e1,if_neg hw]
 exact ⟨.agg #[.bool false,.slice none 0 0],by rw [e1],h_6.st.below,BigN.nil e2⟩
end Go.Proofs.YtdfkghpgekmmlabGreat
namespace Go.Proofs.YtdfkghpgekmmlabGreat
open Go.RowKit
attribute [local go_sem] vN bT bF rS vW vM vL vT2 vT3 vP vI execOp Act.eval evC bigF vB hi_zero lo_zero
end Go.Proofs.YtdfkghpgekmmlabGreat
namespace Go.Proofs.YtdfkghpgekmmlabGreat
open Go.RowKit
section
variable {es:List (Int × Int)} (hp:okPre es es.length=true) (hn:0 < es.length)
include hp hn
end
end Go.Proofs.YtdfkghpgekmmlabGreat
namespace Go.Proofs.YtdfkghpgekmmlabGreat
open Go.RowKit
attribute [local go_sem] vN bT bF rS vW vM vL vT2 vT3 vP vI execOp Act.eval evC bigF vB hi_zero lo_zero
theorem y_tt {a b c d:Int} (h1:a=c) (h2:b=d):vT2 (vW a) (vI b)=vT2 (vW c) (vI d):=by rw [h1,h2]
theorem y_lab {p q:Int × Int × Int × Int} (h:p=q):vT2 (vL p.2.1 p.2.2.1 p.2.2.2) (vI p.1)=vT2 (vL q.2.1 q.2.2.1 q.2.2.2) (vI q.1):=by rw [h]
theorem y_lab4 {p:Int × Int × Int × Int} {e d s a:Int} (h:p=(e,d,s,a)):vT2 (vL p.2.1 p.2.2.1 p.2.2.2) (vI p.1)=vT2 (vL d s a) (vI e):=by rw [h]
theorem y_exy {es:List (Int × Int)} {d s a:Int} (h:ctE es d s a=0):Value.bool (ctE es d s a == 0) = .bool true:=by rw [h];rfl
theorem y_exn {es:List (Int × Int)} {d s a:Int} (h:¬ ctE es d s a=0):Value.bool (ctE es d s a == 0) = .bool false:=by rw [show (ctE es d s a == 0)=false from by simp [h]]
theorem y_smw {z:Int} (h:InW z):Sm z:=by unfold InW at h;unfold Sm;omega
end Go.Proofs.YtdfkghpgekmmlabGreat
namespace Go.Proofs.YtdfkghpgekmmlabGreat
open Go.RowKit
section
variable {es:List (Int × Int)} (hp:okPre es es.length=true) (hn:0 < es.length)
include hp hn
end
end Go.Proofs.YtdfkghpgekmmlabGreat
namespace Go.Proofs.YtdfkghpgekmmlabGreat
open Go.RowKit
def ucE (d s a:Int):Int:=if formB s a=false then 1 else if wthn d (-1099511627776) 1099511627776=false then 2 else 0
def ucV (d s a:Int):Int:=if ucE d s a=0 then jn d s a-jn 40587 0 0 else 0
def upZ (n:Int):Int:=n+jn 40587 0 0
def upD (n:Int):Int:=upZ n / 1000000000000000000 / 86400
def upS (n:Int):Int:=upZ n / 1000000000000000000 % 86400
def upA (n:Int):Int:=upZ n % 1000000000000000000
def upOk (n:Int):Bool:=wthn (upD n) (-1099511627776) 1099511627776
def upF (es:List (Int × Int)) (n:Int):Bool:=decide (upS n=0) && decide (ctE es (upD n-1) 86400 (upA n)=0)
def upL (es:List (Int × Int)) (n:Int):Int:=ctE es (upD n) (upS n) (upA n)
def ulK (es:List (Int × Int)) (n:Int):Int:=if upOk n=false then 0 else if upF es n=true then (if upL es n=0 then 2 else 1) else if upL es n=0 then 1 else 0
def ulE (es:List (Int × Int)) (n:Int):Int:=if upOk n=false then 2 else if upF es n=true then 0 else upL es n
def ulA (es:List (Int × Int)) (n:Int):Int × Int × Int:=if ulK es n=0 then (0,0,0) else if upF es n=true then (upD n-1,86400,upA n) else (upD n,upS n,upA n)
def ulB (es:List (Int × Int)) (n:Int):Int × Int × Int:=if ulK es n=0 then (0,0,0) else if upL es n=0 then (upD n,upS n,upA n) else (upD n-1,86400,upA n)
def ufE (es:List (Int × Int)) (n pick:Int):Int:=if ulE es n=0 then (if ulK es n=1∨pick=2∨pick=1 then 0 else 7) else ulE es n
def ufL (es:List (Int × Int)) (n pick:Int):Int × Int × Int:=if ulE es n=0 then (if ulK es n=1∨pick=2 then ulB es n else if pick=1 then ulA es n else (0,0,0)) else (0,0,0)
section
variable {es:List (Int × Int)} (hp:okPre es es.length=true) (hn:0 < es.length)
include hp
include hn
end
end Go.Proofs.YtdfkghpgekmmlabGreat
namespace Go.Proofs.YtdfkghpgekmmlabGreat
open Go.RowKit
attribute [local go_sem] vN bT bF rS vW vM vL vT2 vT3 vP vI execOp Act.eval evC bigF vB hi_zero lo_zero Tryz.underlying23 Tryz.underlying26
theorem xform_any (d s x:Int):Ret 29 #[vL d s x] (.bool (formB s x)):=by
 intro w0
 have hst:=St.start w0 (Θ:=fun _=>True) (fun _ _=>trivial)
 refine en_ Tryz.func29 hst 21 [(0,vL d s x)] (fun ac h=>?_)
 refine wp_seq ?_
 refine rg_ h [[0],[1]] [KE_ fun env=>vP (pb env 0) 0,K_ bF] (fun E1=>[(1,vP (pb E1 0) 0),(2,bF)]) (W:=[{ i:=0,T:=23,c0:=[vI d,vI s,vI x] }]) (M':=fun E1=>[((pb E1 0),23,[vI d,vI s,vI x])]) (hs:=c_ (bx0 0 (vL d s x))<|c_ mv_<|e_) (k:=fun E1 ac wd h_1=>?_)
 clear h
 refine then_n (wp_seq ?_)
 by_cases h0:0≤s
 by_cases h1:s≤86400
 by_cases h2:0≤x
 refine rg_ h_1 (tri 19) [K_ (vP (pb E1 0) 1),K_ (vI s),K_ bT,K_ bT,K_ (vP (pb E1 0) 1),K_ (vI s),K_ bT,K_ bT,K_ bT,K_ (vP (pb E1 0) 2),K_ (vI x),K_ bT,K_ bT,K_ bT,K_ (vP (pb E1 0) 2),K_ (vI x),K_ (.bool (decide (x < 1000000000000000000))),K_ (.bool (decide (x < 1000000000000000000))),K_ (.bool (decide (x < 1000000000000000000)))] (fun E2=>[(2,.bool (decide (x < 1000000000000000000)))]) (hs:=c_ (fa0 (vP (pb E1 0) 0))<|c_ (ld_ 0 (hrd:=by exact rd3 rfl))<|c_ (bi0 (vI s) (vI 0) (h:=by intro env w;simp [go_sem,h0]))<|c_ mv_<|c_ (fa0 (vP (pb E1 0) 0))<|c_ (ld_ 0 (hrd:=by exact rd3 rfl))<|c_ (bi0 (vI s) (vI 86400) (h:=by intro env w;simp [go_sem,h1]))<|c_ (pk0 bT bT bF (h:=by intro env w;simp [go_sem,h1]))<|c_ mv_<|c_ (fa0 (vP (pb E1 0) 0))<|c_ (ld_ 0 (hrd:=by exact rd3 rfl))<|c_ (bi0 (vI x) (vI 0) (h:=by intro env w;simp [go_sem,h2]))<|c_ (pk0 bT bT bF (h:=by intro env w;simp [go_sem,h2]))<|c_ mv_<|c_ (fa0 (vP (pb E1 0) 0))<|c_ (ld_ 0 (hrd:=by exact rd3 rfl))<|c_ (bi0 (vI x) (vI 1000000000000000000))<|c_ (pk0 bT (.bool (decide (x < 1000000000000000000))) bF)<|c_ mv_<|e_) (k:=fun E2 ac wd h_2=>?_)
 clear h_1
 refine then_n (wp_ret ?_)
 refine lvT Tryz.results29 h_2 ?_
 have e:formB s x=decide (x < 1000000000000000000):=by have e0:=decide_eq_true h0;have e1:=decide_eq_true h1;have e2:=decide_eq_true h2;unfold formB wthn;rw [e0,e1,e2];simp only [Bool.true_and];exact decide_eq_decide.2 (by omega)
 exact ⟨by rw [e],h_2.st.below⟩
 refine rg_ h_1 (tri 19) [K_ (vP (pb E1 0) 1),K_ (vI s),K_ bT,K_ bT,K_ (vP (pb E1 0) 1),K_ (vI s),K_ bT,K_ bT,K_ bT,K_ (vP (pb E1 0) 2),K_ (vI x),K_ bF,K_ bF,K_ bF,K_ undef,K_ undef,K_ undef,K_ bF,K_ bF] (fun E2=>[(2,bF)]) (hs:=c_ (fa0 (vP (pb E1 0) 0))<|c_ (ld_ 0 (hrd:=by exact rd3 rfl))<|c_ (bi0 (vI s) (vI 0) (h:=by intro env w;simp [go_sem,h0]))<|c_ mv_<|c_ (fa0 (vP (pb E1 0) 0))<|c_ (ld_ 0 (hrd:=by exact rd3 rfl))<|c_ (bi0 (vI s) (vI 86400) (h:=by intro env w;simp [go_sem,h1]))<|c_ (pk0 bT bT bF (h:=by intro env w;simp [go_sem,h1]))<|c_ mv_<|c_ (fa0 (vP (pb E1 0) 0))<|c_ (ld_ 0 (hrd:=by exact rd3 rfl))<|c_ (bi0 (vI x) (vI 0) (h:=by intro env w;simp [go_sem,h2]))<|c_ (pk0 bT bF bF (h:=by intro env w;simp [go_sem,h2]))<|c_ mv_<|c_ off_<|c_ off_<|c_ off_<|c_ (pk0 bF undef bF)<|c_ mv_<|e_) (k:=fun E2 ac wd h_2=>?_)
 clear h_1
 refine then_n (wp_ret ?_)
 refine lvT Tryz.results29 h_2 ?_
 have e:formB s x=false:=by simp [formB,wthn];omega
 exact ⟨by rw [e],h_2.st.below⟩
 refine rg_ h_1 (tri 19) [K_ (vP (pb E1 0) 1),K_ (vI s),K_ bT,K_ bT,K_ (vP (pb E1 0) 1),K_ (vI s),K_ bF,K_ bF,K_ bF,K_ undef,K_ undef,K_ undef,K_ bF,K_ bF,K_ undef,K_ undef,K_ undef,K_ bF,K_ bF] (fun E2=>[(2,bF)]) (hs:=c_ (fa0 (vP (pb E1 0) 0))<|c_ (ld_ 0 (hrd:=by exact rd3 rfl))<|c_ (bi0 (vI s) (vI 0) (h:=by intro env w;simp [go_sem,h0]))<|c_ mv_<|c_ (fa0 (vP (pb E1 0) 0))<|c_ (ld_ 0 (hrd:=by exact rd3 rfl))<|c_ (bi0 (vI s) (vI 86400) (h:=by intro env w;simp [go_sem,h1]))<|c_ (pk0 bT bF bF (h:=by intro env w;simp [go_sem,h1]))<|c_ mv_<|c_ off_<|c_ off_<|c_ off_<|c_ (pk0 bF undef bF)<|c_ mv_<|c_ off_<|c_ off_<|c_ off_<|c_ (pk0 bF undef bF)<|c_ mv_<|e_) (k:=fun E2 ac wd h_2=>?_)
 clear h_1
 refine then_n (wp_ret ?_)
 refine lvT Tryz.results29 h_2 ?_
 have e:formB s x=false:=by simp [formB,wthn];omega
 exact ⟨by rw [e],h_2.st.below⟩
 refine rg_ h_1 (tri 19) [K_ (vP (pb E1 0) 1),K_ (vI s),K_ bF,K_ bF,K_ undef,K_ undef,K_ undef,K_ bF,K_ bF,K_ undef,K_ undef,K_ undef,K_ bF,K_ bF,K_ undef,K_ undef,K_ undef,K_ bF,K_ bF] (fun E2=>[(2,bF)]) (hs:=c_ (fa0 (vP (pb E1 0) 0))<|c_ (ld_ 0 (hrd:=by exact rd3 rfl))<|c_ (bi0 (vI s) (vI 0) (h:=by intro env w;simp [go_sem,h0]))<|c_ mv_<|c_ off_<|c_ off_<|c_ off_<|c_ (pk0 bF undef bF)<|c_ mv_<|c_ off_<|c_ off_<|c_ off_<|c_ (pk0 bF undef bF)<|c_ mv_<|c_ off_<|c_ off_<|c_ off_<|c_ (pk0 bF undef bF)<|c_ mv_<|e_) (k:=fun E2 ac wd h_2=>?_)
 clear h_1
 refine then_n (wp_ret ?_)
 refine lvT Tryz.results29 h_2 ?_
 have e:formB s x=false:=by simp [formB,wthn];omega
 exact ⟨by rw [e],h_2.st.below⟩
theorem xin_any (n:Int):Ret 100 #[vI n] (.bool (wthn n (-1099511627776) 1099511627776)):=by
 intro w0
 have hst:=St.start w0 (Θ:=fun _=>True) (fun _ _=>trivial)
 refine en_ Tryz.func100 hst 9 [(0,vI n)] (fun ac h=>?_)
 refine wp_seq ?_
 refine rg_ h [[0]] [K_ bF] (fun E1=>[(0,vI n),(2,bF)]) (hs:=c_ mv_<|e_) (k:=fun E1 ac wd h_1=>?_)
 clear h
 refine then_n (wp_seq ?_)
 by_cases h:-1099511627776≤n
 refine rg_ h_1 (tri 7) [K_ (vI n),K_ bT,K_ bT,K_ (vI n),K_ (.bool (decide (n≤1099511627776))),K_ (.bool (decide (n≤1099511627776))),K_ (.bool (decide (n≤1099511627776)))] (fun E2=>[(2,.bool (decide (n≤1099511627776)))]) (hs:=c_ mv_<|c_ (bi0 (vI n) (vI (-1099511627776)) (h:=by intro env w;simp [go_sem,h]))<|c_ mv_<|c_ (gm0 (vI n))<|c_ (bi0 (vI n) (vI 1099511627776))<|c_ (pk0 bT (.bool (decide (n≤1099511627776))) bF)<|c_ mv_<|e_) (k:=fun E2 ac wd h_2=>?_)
 clear h_1
 refine then_n (wp_ret ?_)
 refine lvT Tryz.results100 h_2 ?_
 exact ⟨by simp [wthn,h],h_2.st.below⟩
 refine rg_ h_1 (tri 7) [K_ (vI n),K_ bF,K_ bF,K_ undef,K_ undef,K_ bF,K_ bF] (fun E2=>[(2,bF)]) (hs:=c_ mv_<|c_ (bi0 (vI n) (vI (-1099511627776)) (h:=by intro env w;simp [go_sem,h]))<|c_ mv_<|c_ off_<|c_ off_<|c_ (pk0 bF undef bF)<|c_ mv_<|e_) (k:=fun E2 ac wd h_2=>?_)
 clear h_1
 refine then_n (wp_ret ?_)
 refine lvT Tryz.results100 h_2 ?_
 exact ⟨by simp [wthn,h],h_2.st.below⟩
theorem xsecs_any (n:Int) (h0:-9223372036854775808≤n) (h1:n < 9223372036854775808):Ret 31 #[vI n] (vW (n*1000000000000000000)):=by
 intro w0
 have hst:=St.start w0 (Θ:=fun _=>True) (fun _ _=>trivial)
 refine en_ Tryz.func31 hst 13 [(0,vI n)] (fun ac h=>?_)
 refine wp_seq ?_
 refine rg_ h [[0]] [KE_ fun env=>vP (pb env 0) 0] (fun E1=>[(0,vI n),(2,vP (pb E1 0) 0)]) (W:=[{ i:=0,T:=26,c0:=[vI 0,.int .u64 0] }]) (M':=fun E1=>[((pb E1 0),26,[vI 0,.int .u64 0])]) (hs:=c_ (al_ 0)<|e_) (k:=fun E1 ac wd h_1=>?_)
 clear h
 refine then_n (wp_seq ?_)
 refine rg_ h_1 [[0],[0,1],[0,1,2],r_ 4,r_ 5,r_ 6,[0,1,2,3,4,6],[7],[0,1,2,3,4,5,7,8],r_ 10] [K_ (vI n),K_ (vW n),K_ (vW 1000000000000000000),K_ (vT2 (vW (n*1000000000000000000)) (vI 0)),K_ (vT2 (vW (n*1000000000000000000)) (vI 0)),K_ (vW (n*1000000000000000000)),K_ (vI 0),KE_ fun env=>vP (pb env 7) 0,none,K_ (vI 0)] (fun E2=>[(2,vP (pb E1 0) 0),(3,vP (pb E2 7) 0)]) (W:=[{ i:=7,T:=26,c0:=[vI 0,.int .u64 0],s:=some 8,c1:=fun _=>[vI (hi (n*1000000000000000000)),.int .u64 (lo (n*1000000000000000000))] }]) (M':=fun E2=>[((pb E1 0),26,[vI 0,.int .u64 0]),((pb E2 7),26,[vI (hi (n*1000000000000000000)),.int .u64 (lo (n*1000000000000000000))])]) (hs:=c_ mv_<|c_ (cl_ Tryz.func32 (h:=fun env=>⟨_,(of_any n (by omega) (by omega)),rfl⟩))<|c_ (cl_ Tryz.func32 (h:=fun env=>⟨_,(of_any 1000000000000000000 (by omega) (by omega)),rfl⟩))<|c_ (cl_ Tryz.func56 (h:=fun env=>⟨_,((wmul_any n 1000000000000000000 (by unfold InW;omega) (by unfold InW;omega)).eq (fit_tup (by unfold InW;omega))),rfl⟩))<|c_ mv_<|c_ ext_<|c_ ext_<|c_ (al_ 1)<|c_ (sw_ 1 7 (hst:=by exact fun _ _ _ hc=>st26 rfl rfl rfl hc))<|c_ mv_<|e_) (k:=fun E2 ac wd h_2=>?_)
 clear h_1
 refine then_n (wp_seq ?_)
 refine rg_ h_2 [[0],[0,1]] [K_ (vW (n*1000000000000000000)),none] (fun E3=>[(2,vP (pb E1 0) 0)]) (S:=[⟨0,1,fun _=>[vI (hi (n*1000000000000000000)),.int .u64 (lo (n*1000000000000000000))]⟩]) (M':=fun E3=>[((pb E1 0),26,[vI (hi (n*1000000000000000000)),.int .u64 (lo (n*1000000000000000000))]),((pb E2 7),26,[vI (hi (n*1000000000000000000)),.int .u64 (lo (n*1000000000000000000))])]) (hs:=c_ (ld_ 1 (hrd:=by exact rd26 rfl rfl))<|c_ (se_ 0 (hst:=by exact fun _ _ _ hc=>st26 rfl rfl rfl hc))<|e_) (k:=fun E3 ac wd h_3=>?_)
 clear h_2
 refine then_n (wp_ret ?_)
 refine lvC (v:=vW (n*1000000000000000000)) Tryz.results31 h_3 0 (rd26 rfl rfl) ?_
 exact ⟨rfl,h_3.st.below⟩
theorem formB_iff {s a:Int}:formB s a=true↔0≤s∧s≤86400∧0≤a∧a < 1000000000000000000:=by simp [formB,wthn];omega
theorem wth_iff {n l u:Int}:wthn n l u=true↔l≤n∧n≤u:=by simp [wthn]
theorem wth_no {n l u:Int}:wthn n l u=false↔¬ (l≤n∧n≤u):=by rw [← wth_iff];simp
theorem xcount_any (d s a:Int):Ret 9 #[vL d s a] (vT2 (vW (ucV d s a)) (vI (ucE d s a))):=by
 intro w0
 have hst:=St.start w0 (Θ:=fun _=>True) (fun _ _=>trivial)
 refine en_ Tryz.func9 hst 33 [(0,vL d s a)] (fun ac h=>?_)
 refine wp_seq ?_
 refine rg_ h [[0],[1],[2]] [KE_ fun env=>vP (pb env 0) 0,KE_ fun env=>vP (pb env 1) 0,K_ (vI 0)] (fun E1=>[(1,vP (pb E1 0) 0),(2,vP (pb E1 1) 0),(3,vI 0)]) (W:=[{ i:=0,T:=23,c0:=[vI d,vI s,vI a] },{ i:=1,T:=26,c0:=[vI 0,.int .u64 0] }]) (M':=fun E1=>[((pb E1 0),23,[vI d,vI s,vI a]),((pb E1 1),26,[vI 0,.int .u64 0])]) (hs:=c_ (bx0 0 (vL d s a))<|c_ (al_ 1)<|c_ mv_<|e_) (k:=fun E1 ac wd h_1=>?_)
 clear h
 refine then_n (wp_seq (wp_block (wp_seq ?_)))
 cases hf:formB s a
 refine rg_ h_1 (tri 4) [K_ (vL d s a),K_ bF,K_ bT,K_ bT] (fun E2=>[(1,vP (pb E1 0) 0),(2,vP (pb E1 1) 0),(3,vI 0),(4,bT)]) (hs:=c_ (ld_ 0 (hrd:=by exact rd23 rfl rfl rfl))<|c_ (cl_ Tryz.func29 (h:=fun env=>⟨_,((xform_any d s a).eq (congrArg Value.bool hf)),rfl⟩))<|c_ (un0 bF)<|c_ mv_<|e_) (k:=fun E2 ac wd h_2=>?_)
 clear h_1
 refine then_n ?_
 refine cT_ h_2 ?_
 refine wp_seq ?_
 refine rg_ h_2 (tri 3) [K_ (.agg #[vI 0,.int .u64 0]),none,K_ (vI 1)] (fun E3=>[(1,vP (pb E1 0) 0),(2,vP (pb E1 1) 0),(3,vI 1)]) (S:=[⟨1,1,fun _=>[vI 0,.int .u64 0]⟩]) (M':=fun E3=>[((pb E1 0),23,[vI d,vI s,vI a]),((pb E1 1),26,[vI 0,.int .u64 0])]) (hs:=c_ (bd0 ([]))<|c_ (se_ 1 (hst:=by exact fun _ _ _ hc=>st26 rfl rfl rfl hc))<|c_ mv_<|e_) (k:=fun E3 ac wd h_3=>?_)
 clear h_2
 refine then_n (wp_ret (blk_ret (then_ret ?_)))
 refine lvCT (v:=.agg #[vI 0,.int .u64 0]) Tryz.results9 h_3 1 (rd26 rfl rfl) ?_
 skip
 have e1:ucE d s a=1:=by unfold ucE;rw [hf];rfl
 have e2:ucV d s a=0:=by unfold ucV;rw [e1,if_neg (by omega)]
 exact ⟨by rw [e1,e2,vW,hi_zero,lo_zero],h_3.st.below⟩
 obtain ⟨q0,q1,q2,q3⟩:=formB_iff.1 hf
 refine rg_ h_1 (tri 4) [K_ (vL d s a),K_ bT,K_ bF,K_ bF] (fun E2=>[(1,vP (pb E1 0) 0),(2,vP (pb E1 1) 0),(3,vI 0),(4,bF)]) (hs:=c_ (ld_ 0 (hrd:=by exact rd23 rfl rfl rfl))<|c_ (cl_ Tryz.func29 (h:=fun env=>⟨_,((xform_any d s a).eq (congrArg Value.bool hf)),rfl⟩))<|c_ (un0 bT)<|c_ mv_<|e_) (k:=fun E2 ac wd h_2=>?_)
 clear h_1
 refine then_n ?_
 refine cF_ h_2 ?_
 refine wp_seq ?_
 by_cases g0:d < -1099511627776
 refine rg_ h_2 (tri 9) [K_ (vP (pb E1 0) 0),K_ (vI d),K_ bT,K_ bT,K_ undef,K_ undef,K_ undef,K_ bT,K_ bT] (fun E3=>[(1,vP (pb E1 0) 0),(2,vP (pb E1 1) 0),(3,vI 0),(9,bT)]) (hs:=c_ (fa0 (vP (pb E1 0) 0))<|c_ (ld_ 0 (hrd:=by exact rd3 rfl))<|c_ (bi0 (vI d) (vI (-1099511627776)) (h:=by intro env w;simp [go_sem,g0]))<|c_ mv_<|c_ off_<|c_ off_<|c_ off_<|c_ (pk0 bT bT undef)<|c_ mv_<|e_) (k:=fun E3 ac wd h_3=>?_)
 clear h_2
 refine then_n ?_
 refine cT_ h_3 ?_
 refine wp_seq ?_
 refine rg_ h_3 (tri 3) [K_ (.agg #[vI 0,.int .u64 0]),none,K_ (vI 2)] (fun E4=>[(1,vP (pb E1 0) 0),(2,vP (pb E1 1) 0),(3,vI 2)]) (S:=[⟨1,1,fun _=>[vI 0,.int .u64 0]⟩]) (M':=fun E4=>[((pb E1 0),23,[vI d,vI s,vI a]),((pb E1 1),26,[vI 0,.int .u64 0])]) (hs:=c_ (bd0 ([]))<|c_ (se_ 1 (hst:=by exact fun _ _ _ hc=>st26 rfl rfl rfl hc))<|c_ mv_<|e_) (k:=fun E4 ac wd h_4=>?_)
 clear h_3
 refine then_n (wp_ret (blk_ret (then_ret ?_)))
 refine lvCT (v:=.agg #[vI 0,.int .u64 0]) Tryz.results9 h_4 1 (rd26 rfl rfl) ?_
 have hw:wthn d (-1099511627776) 1099511627776=false:=wth_no.2 (by omega)
 have e1:ucE d s a=2:=by unfold ucE;rw [hf,hw];rfl
 have e2:ucV d s a=0:=by unfold ucV;rw [e1,if_neg (by omega)]
 exact ⟨by rw [e1,e2,vW,hi_zero,lo_zero],h_4.st.below⟩
 by_cases g1:1099511627776 < d
 refine rg_ h_2 (tri 9) [K_ (vP (pb E1 0) 0),K_ (vI d),K_ bF,K_ bF,K_ (vP (pb E1 0) 0),K_ (vI d),K_ bT,K_ bT,K_ bT] (fun E3=>[(1,vP (pb E1 0) 0),(2,vP (pb E1 1) 0),(3,vI 0),(9,bT)]) (hs:=c_ (fa0 (vP (pb E1 0) 0))<|c_ (ld_ 0 (hrd:=by exact rd3 rfl))<|c_ (bi0 (vI d) (vI (-1099511627776)) (h:=by intro env w;simp [go_sem,g0]))<|c_ mv_<|c_ (fa0 (vP (pb E1 0) 0))<|c_ (ld_ 0 (hrd:=by exact rd3 rfl))<|c_ (bi0 (vI d) (vI 1099511627776) (h:=by intro env w;simp [go_sem,g1]))<|c_ (pk0 bF bT bT (h:=by intro env w;simp [go_sem,g1]))<|c_ mv_<|e_) (k:=fun E3 ac wd h_3=>?_)
 clear h_2
 refine then_n ?_
 refine cT_ h_3 ?_
 refine wp_seq ?_
 refine rg_ h_3 (tri 3) [K_ (.agg #[vI 0,.int .u64 0]),none,K_ (vI 2)] (fun E4=>[(1,vP (pb E1 0) 0),(2,vP (pb E1 1) 0),(3,vI 2)]) (S:=[⟨1,1,fun _=>[vI 0,.int .u64 0]⟩]) (M':=fun E4=>[((pb E1 0),23,[vI d,vI s,vI a]),((pb E1 1),26,[vI 0,.int .u64 0])]) (hs:=c_ (bd0 ([]))<|c_ (se_ 1 (hst:=by exact fun _ _ _ hc=>st26 rfl rfl rfl hc))<|c_ mv_<|e_) (k:=fun E4 ac wd h_4=>?_)
 clear h_3
 refine then_n (wp_ret (blk_ret (then_ret ?_)))
 refine lvCT (v:=.agg #[vI 0,.int .u64 0]) Tryz.results9 h_4 1 (rd26 rfl rfl) ?_
 have hw:wthn d (-1099511627776) 1099511627776=false:=wth_no.2 (by omega)
 have e1:ucE d s a=2:=by unfold ucE;rw [hf,hw];rfl
 have e2:ucV d s a=0:=by unfold ucV;rw [e1,if_neg (by omega)]
 exact ⟨by rw [e1,e2,vW,hi_zero,lo_zero],h_4.st.below⟩
 refine rg_ h_2 (tri 9) [K_ (vP (pb E1 0) 0),K_ (vI d),K_ bF,K_ bF,K_ (vP (pb E1 0) 0),K_ (vI d),K_ bF,K_ bF,K_ bF] (fun E3=>[(1,vP (pb E1 0) 0),(2,vP (pb E1 1) 0),(3,vI 0),(9,bF)]) (hs:=c_ (fa0 (vP (pb E1 0) 0))<|c_ (ld_ 0 (hrd:=by exact rd3 rfl))<|c_ (bi0 (vI d) (vI (-1099511627776)) (h:=by intro env w;simp [go_sem,g0]))<|c_ mv_<|c_ (fa0 (vP (pb E1 0) 0))<|c_ (ld_ 0 (hrd:=by exact rd3 rfl))<|c_ (bi0 (vI d) (vI 1099511627776) (h:=by intro env w;simp [go_sem,g1]))<|c_ (pk0 bF bT bF (h:=by intro env w;simp [go_sem,g1]))<|c_ mv_<|e_) (k:=fun E3 ac wd h_3=>?_)
 clear h_2
 refine then_n ?_
 refine cF_ h_3 ?_
 refine wp_skip (blk_n (then_n (wp_seq ?_)))
 refine rg_ h_3 [[0],[0,1],[0,1,2],r_ 4,[4],[4,5],r_ 7,r_ 8,[8],[8,9],r_ 11,r_ 12,r_ 13,[0,1,2,3,4,5,6,7,8,9,10,11,13],r_ 15,r_ 16] [K_ (vP (pb E1 0) 0),K_ (vI d),K_ (vI (d-40587)),K_ (vI ((d-40587)*86400)),K_ (vP (pb E1 0) 1),K_ (vI s),K_ (vI (((d-40587)*86400)+s)),K_ (vW ((((d-40587)*86400)+s)*1000000000000000000)),K_ (vP (pb E1 0) 2),K_ (vI a),K_ (vW a),K_ (vT2 (vW (((((d-40587)*86400)+s)*1000000000000000000)+a)) (vI 0)),K_ (vW (((((d-40587)*86400)+s)*1000000000000000000)+a)),K_ (vI 0),none,K_ (vI 0)] (fun E4=>[(2,vP (pb E1 1) 0),(3,vI 0)]) (S:=[⟨1,14,fun _=>[vI (hi (((((d-40587)*86400)+s)*1000000000000000000)+a)),.int .u64 (lo (((((d-40587)*86400)+s)*1000000000000000000)+a))]⟩]) (M':=fun E4=>[((pb E1 0),23,[vI d,vI s,vI a]),((pb E1 1),26,[vI (hi (((((d-40587)*86400)+s)*1000000000000000000)+a)),.int .u64 (lo (((((d-40587)*86400)+s)*1000000000000000000)+a))])]) (hs:=c_ (fa0 (vP (pb E1 0) 0))<|c_ (ld_ 0 (hrd:=by exact rd3 rfl))<|c_ (bi0 (vI d) (vI 40587))<|c_ (bi0 (vI (d-40587)) (vI 86400))<|c_ (fa0 (vP (pb E1 0) 0))<|c_ (ld_ 0 (hrd:=by exact rd3 rfl))<|c_ (bi0 (vI ((d-40587)*86400)) (vI s))<|c_ (cl_ Tryz.func31 (h:=fun env=>⟨_,(xsecs_any (((d-40587)*86400)+s) (by omega) (by omega)),rfl⟩))<|c_ (fa0 (vP (pb E1 0) 0))<|c_ (ld_ 0 (hrd:=by exact rd3 rfl))<|c_ (cl_ Tryz.func32 (h:=fun env=>⟨_,(of_any a (by omega) (by omega)),rfl⟩))<|c_ (cl_ Tryz.func30 (h:=fun env=>⟨_,(Ret.eq (wadd_any ((((d-40587)*86400)+s)*1000000000000000000) a (by unfold InW;omega) (by unfold InW;omega)) (fit_tup (by unfold InW;omega))),rfl⟩))<|c_ ext_<|c_ ext_<|c_ (se_ 1 (hst:=by exact fun _ _ _ hc=>st26 rfl rfl rfl hc))<|c_ mv_<|e_) (k:=fun E4 ac wd h_4=>?_)
 clear h_3
 refine then_n (wp_ret ?_)
 refine lvCT (v:=vW (((((d-40587)*86400)+s)*1000000000000000000)+a)) Tryz.results9 h_4 1 (rd26 rfl rfl) ?_
 have hw:wthn d (-1099511627776) 1099511627776=true:=wth_iff.2 (by omega)
 have e1:ucE d s a=0:=by unfold ucE;rw [hf,hw];rfl
 have e2:ucV d s a=((((d-40587)*86400)+s)*1000000000000000000)+a:=by unfold ucV jn;rw [if_pos e1];omega
 exact ⟨by rw [e1,e2],h_4.st.below⟩
def dsV (z:Int):Int × Int × Int × Int:=if wthn (z / 1000000000000000000 / 86400) (-1099511627776) 1099511627776=true then (0,z / 1000000000000000000 / 86400,z / 1000000000000000000 % 86400,z % 1000000000000000000) else (2,0,0,0)
theorem dsplit_any (z:Int) (hz:InW z):Ret 67 #[vW z] (vT2 (vL ((dsV z).2.1) ((dsV z).2.2.1) ((dsV z).2.2.2)) (vI ((dsV z).1))):=by
 have hz2:=hz;unfold InW at hz2
 intro w0
 have hst:=St.start w0 (Θ:=fun _=>True) (fun _ _=>trivial)
 refine en_ Tryz.func67 hst 57 [(0,vW z)] (fun ac h=>?_)
 refine wp_seq ?_
 refine rg_ h [[0],[1],[2]] [KE_ fun env=>vP (pb env 0) 0,KE_ fun env=>vP (pb env 1) 0,K_ (vI 0)] (fun E1=>[(1,vP (pb E1 0) 0),(2,vP (pb E1 1) 0),(3,vI 0)]) (W:=[{ i:=0,T:=26,c0:=[vI (hi (z)),.int .u64 (lo (z))] },{ i:=1,T:=23,c0:=[vI 0,vI 0,vI 0] }]) (M':=fun E1=>[((pb E1 0),26,[vI (hi (z)),.int .u64 (lo (z))]),((pb E1 1),23,[vI 0,vI 0,vI 0])]) (hs:=c_ (bx0 0 (vW z))<|c_ (al_ 1)<|c_ mv_<|e_) (k:=fun E1 ac wd h_1=>?_)
 clear h
 refine then_n (wp_seq ?_)
 cases hin:wthn (z / 1000000000000000000 / 86400) (-1099511627776) 1099511627776
 refine rg_ h_1 [[0],[1],[0,1,2],r_ 4,r_ 5,[0,1,2,3,5],[0,1,2,3,6],[7],[8],[0,1,2,3,4,7,8,9],[0,1,2,3,4,5,7,8,9,10],r_ 12] [K_ (vW z),K_ (vW 1000000000000000000),K_ (vT3 (vW (z / 1000000000000000000)) (vW (z % 1000000000000000000)) (vI 0)),K_ (vT3 (vW (z / 1000000000000000000)) (vW (z % 1000000000000000000)) (vI 0)),K_ (vW (z / 1000000000000000000)),K_ (vW (z % 1000000000000000000)),K_ (vI 0),KE_ fun env=>vP (pb env 7) 0,KE_ fun env=>vP (pb env 8) 0,none,none,K_ (vI 0)] (fun E2=>[(2,vP (pb E1 1) 0),(3,vI 0),(4,vP (pb E2 7) 0),(5,vP (pb E2 8) 0)]) (W:=[{ i:=7,T:=26,c0:=[vI 0,.int .u64 0],s:=some 9,c1:=fun _=>[vI (hi (z / 1000000000000000000)),.int .u64 (lo (z / 1000000000000000000))] },{ i:=8,T:=26,c0:=[vI 0,.int .u64 0],s:=some 10,c1:=fun _=>[vI (hi (z % 1000000000000000000)),.int .u64 (lo (z % 1000000000000000000))] }]) (M':=fun E2=>[((pb E1 0),26,[vI (hi (z)),.int .u64 (lo (z))]),((pb E1 1),23,[vI 0,vI 0,vI 0]),((pb E2 7),26,[vI (hi (z / 1000000000000000000)),.int .u64 (lo (z / 1000000000000000000))]),((pb E2 8),26,[vI (hi (z % 1000000000000000000)),.int .u64 (lo (z % 1000000000000000000))])]) (hs:=c_ (ld_ 0 (hrd:=by exact rd26 rfl rfl))<|c_ (cl_ Tryz.func32 (h:=fun env=>⟨_,(of_any 1000000000000000000 (by omega) (by omega)),rfl⟩))<|c_ (cl_ Tryz.func98 (h:=fun env=>⟨_,(wdiv_any z 1000000000000000000 (by unfold InW;omega) (by unfold InW;omega) (by omega)),rfl⟩))<|c_ mv_<|c_ ext_<|c_ ext_<|c_ ext_<|c_ (al_ 2)<|c_ (al_ 3)<|c_ (sw_ 2 7 (hst:=by exact fun _ _ _ hc=>st26 rfl rfl rfl hc))<|c_ (sw_ 3 8 (hst:=by exact fun _ _ _ hc=>st26 rfl rfl rfl hc))<|c_ mv_<|e_) (k:=fun E2 ac wd h_2=>?_)
 clear h_1
 refine then_n (wp_seq ?_)
 refine rg_ h_2 [[0],[1],[0,1,2],r_ 4,r_ 5,[0,1,2,3,5],[0,1,2,3,6],[7],[8],[0,1,2,3,4,7,8,9],[0,1,2,3,4,5,7,8,9,10],r_ 12] [K_ (vW (z / 1000000000000000000)),K_ (vW 86400),K_ (vT3 (vW ((z / 1000000000000000000) / 86400)) (vW ((z / 1000000000000000000) % 86400)) (vI 0)),K_ (vT3 (vW ((z / 1000000000000000000) / 86400)) (vW ((z / 1000000000000000000) % 86400)) (vI 0)),K_ (vW ((z / 1000000000000000000) / 86400)),K_ (vW ((z / 1000000000000000000) % 86400)),K_ (vI 0),KE_ fun env=>vP (pb env 7) 0,KE_ fun env=>vP (pb env 8) 0,none,none,K_ (vI 0)] (fun E3=>[(2,vP (pb E1 1) 0),(3,vI 0),(5,vP (pb E2 8) 0),(7,vP (pb E3 7) 0),(8,vP (pb E3 8) 0)]) (W:=[{ i:=7,T:=26,c0:=[vI 0,.int .u64 0],s:=some 9,c1:=fun _=>[vI (hi ((z / 1000000000000000000) / 86400)),.int .u64 (lo ((z / 1000000000000000000) / 86400))] },{ i:=8,T:=26,c0:=[vI 0,.int .u64 0],s:=some 10,c1:=fun _=>[vI (hi ((z / 1000000000000000000) % 86400)),.int .u64 (lo ((z / 1000000000000000000) % 86400))] }]) (M':=fun E3=>[((pb E1 0),26,[vI (hi (z)),.int .u64 (lo (z))]),((pb E1 1),23,[vI 0,vI 0,vI 0]),((pb E2 7),26,[vI (hi (z / 1000000000000000000)),.int .u64 (lo (z / 1000000000000000000))]),((pb E2 8),26,[vI (hi (z % 1000000000000000000)),.int .u64 (lo (z % 1000000000000000000))]),((pb E3 7),26,[vI (hi ((z / 1000000000000000000) / 86400)),.int .u64 (lo ((z / 1000000000000000000) / 86400))]),((pb E3 8),26,[vI (hi ((z / 1000000000000000000) % 86400)),.int .u64 (lo ((z / 1000000000000000000) % 86400))])]) (hs:=c_ (ld_ 2 (hrd:=by exact rd26 rfl rfl))<|c_ (cl_ Tryz.func32 (h:=fun env=>⟨_,(of_any 86400 (by omega) (by omega)),rfl⟩))<|c_ (cl_ Tryz.func98 (h:=fun env=>⟨_,(wdiv_any (z / 1000000000000000000) 86400 (by unfold InW;omega) (by unfold InW;omega) (by omega)),rfl⟩))<|c_ mv_<|c_ ext_<|c_ ext_<|c_ ext_<|c_ (al_ 4)<|c_ (al_ 5)<|c_ (sw_ 4 7 (hst:=by exact fun _ _ _ hc=>st26 rfl rfl rfl hc))<|c_ (sw_ 5 8 (hst:=by exact fun _ _ _ hc=>st26 rfl rfl rfl hc))<|c_ mv_<|e_) (k:=fun E3 ac wd h_3=>?_)
 clear h_2
 refine then_n (wp_seq ?_)
 refine rg_ h_3 [[0],[0,1],[0,1,2],r_ 4,[0,1,2,4],[0,1,2,3,5],r_ 7] [K_ (vW ((z / 1000000000000000000) / 86400)),K_ (vT2 (vI ((z / 1000000000000000000) / 86400)) (vI 0)),K_ (vT2 (vI ((z / 1000000000000000000) / 86400)) (vI 0)),K_ (vI ((z / 1000000000000000000) / 86400)),K_ (vI 0),K_ (vI ((z / 1000000000000000000) / 86400)),K_ (vI 0)] (fun E4=>[(2,vP (pb E1 1) 0),(3,vI 0),(5,vP (pb E2 8) 0),(8,vP (pb E3 8) 0),(10,vI ((z / 1000000000000000000) / 86400)),(11,vI 0)]) (hs:=c_ (ld_ 4 (hrd:=by exact rd26 rfl rfl))<|c_ (cl_ Tryz.func99 (h:=fun env=>⟨_,(wint_yes ((z / 1000000000000000000) / 86400) (by omega) (by omega)),rfl⟩))<|c_ mv_<|c_ ext_<|c_ ext_<|c_ mv_<|c_ mv_<|e_) (k:=fun E4 ac wd h_4=>?_)
 clear h_3
 refine then_n (wp_seq (wp_seq ?_))
 refine rg_ h_4 (tri 7) [K_ (vI 0),K_ bF,K_ bF,K_ (vI ((z / 1000000000000000000) / 86400)),K_ bF,K_ bT,K_ bT] (fun E5=>[(2,vP (pb E1 1) 0),(3,vI 0),(5,vP (pb E2 8) 0),(8,vP (pb E3 8) 0),(10,vI ((z / 1000000000000000000) / 86400)),(41,bT)]) (hs:=c_ mv_<|c_ (bi0 (vI 0) (vI 0) (h:=by intro env w;(first | (simp [go_sem];done) | (simp [go_sem];rfl))))<|c_ mv_<|c_ (gm0 (vI ((z / 1000000000000000000) / 86400)))<|c_ (cl_ Tryz.func100 (h:=fun env=>⟨_,((xin_any ((z / 1000000000000000000) / 86400)).eq (congrArg Value.bool hin)),rfl⟩))<|c_ (un0 bF)<|c_ (pk0 bF bT bT)<|e_) (k:=fun E5 ac wd h_5=>?_)
 clear h_4
 refine then_n ?_
 refine cT_ h_5 ?_
 refine wp_seq ?_
 refine rg_ h_5 (tri 3) [K_ (vL 0 0 0),none,K_ (vI 2)] (fun E6=>[(2,vP (pb E1 1) 0),(3,vI 2),(5,vP (pb E2 8) 0),(8,vP (pb E3 8) 0),(10,vI ((z / 1000000000000000000) / 86400))]) (S:=[⟨1,1,fun _=>[vI 0,vI 0,vI 0]⟩]) (M':=fun E6=>[((pb E1 0),26,[vI (hi (z)),.int .u64 (lo (z))]),((pb E1 1),23,[vI 0,vI 0,vI 0]),((pb E2 7),26,[vI (hi (z / 1000000000000000000)),.int .u64 (lo (z / 1000000000000000000))]),((pb E2 8),26,[vI (hi (z % 1000000000000000000)),.int .u64 (lo (z % 1000000000000000000))]),((pb E3 7),26,[vI (hi ((z / 1000000000000000000) / 86400)),.int .u64 (lo ((z / 1000000000000000000) / 86400))]),((pb E3 8),26,[vI (hi ((z / 1000000000000000000) % 86400)),.int .u64 (lo ((z / 1000000000000000000) % 86400))])]) (hs:=c_ (bd0 ([]))<|c_ (se_ 1 (hst:=by exact fun _ _ _ hc=>st23 rfl rfl rfl rfl hc))<|c_ mv_<|e_) (k:=fun E6 ac wd h_6=>?_)
 clear h_5
 refine then_n (wp_ret (then_ret ?_))
 refine lvCT (v:=vL 0 0 0) Tryz.results67 h_6 1 (rd23 rfl rfl rfl) ?_
 exact ⟨by unfold dsV;rw [hin];rfl,h_6.st.below⟩
 refine rg_ h_1 [[0],[1],[0,1,2],r_ 4,r_ 5,[0,1,2,3,5],[0,1,2,3,6],[7],[8],[0,1,2,3,4,7,8,9],[0,1,2,3,4,5,7,8,9,10],r_ 12] [K_ (vW z),K_ (vW 1000000000000000000),K_ (vT3 (vW (z / 1000000000000000000)) (vW (z % 1000000000000000000)) (vI 0)),K_ (vT3 (vW (z / 1000000000000000000)) (vW (z % 1000000000000000000)) (vI 0)),K_ (vW (z / 1000000000000000000)),K_ (vW (z % 1000000000000000000)),K_ (vI 0),KE_ fun env=>vP (pb env 7) 0,KE_ fun env=>vP (pb env 8) 0,none,none,K_ (vI 0)] (fun E2=>[(2,vP (pb E1 1) 0),(3,vI 0),(4,vP (pb E2 7) 0),(5,vP (pb E2 8) 0)]) (W:=[{ i:=7,T:=26,c0:=[vI 0,.int .u64 0],s:=some 9,c1:=fun _=>[vI (hi (z / 1000000000000000000)),.int .u64 (lo (z / 1000000000000000000))] },{ i:=8,T:=26,c0:=[vI 0,.int .u64 0],s:=some 10,c1:=fun _=>[vI (hi (z % 1000000000000000000)),.int .u64 (lo (z % 1000000000000000000))] }]) (M':=fun E2=>[((pb E1 0),26,[vI (hi (z)),.int .u64 (lo (z))]),((pb E1 1),23,[vI 0,vI 0,vI 0]),((pb E2 7),26,[vI (hi (z / 1000000000000000000)),.int .u64 (lo (z / 1000000000000000000))]),((pb E2 8),26,[vI (hi (z % 1000000000000000000)),.int .u64 (lo (z % 1000000000000000000))])]) (hs:=c_ (ld_ 0 (hrd:=by exact rd26 rfl rfl))<|c_ (cl_ Tryz.func32 (h:=fun env=>⟨_,(of_any 1000000000000000000 (by omega) (by omega)),rfl⟩))<|c_ (cl_ Tryz.func98 (h:=fun env=>⟨_,(wdiv_any z 1000000000000000000 (by unfold InW;omega) (by unfold InW;omega) (by omega)),rfl⟩))<|c_ mv_<|c_ ext_<|c_ ext_<|c_ ext_<|c_ (al_ 2)<|c_ (al_ 3)<|c_ (sw_ 2 7 (hst:=by exact fun _ _ _ hc=>st26 rfl rfl rfl hc))<|c_ (sw_ 3 8 (hst:=by exact fun _ _ _ hc=>st26 rfl rfl rfl hc))<|c_ mv_<|e_) (k:=fun E2 ac wd h_2=>?_)
 clear h_1
 refine then_n (wp_seq ?_)
 refine rg_ h_2 [[0],[1],[0,1,2],r_ 4,r_ 5,[0,1,2,3,5],[0,1,2,3,6],[7],[8],[0,1,2,3,4,7,8,9],[0,1,2,3,4,5,7,8,9,10],r_ 12] [K_ (vW (z / 1000000000000000000)),K_ (vW 86400),K_ (vT3 (vW ((z / 1000000000000000000) / 86400)) (vW ((z / 1000000000000000000) % 86400)) (vI 0)),K_ (vT3 (vW ((z / 1000000000000000000) / 86400)) (vW ((z / 1000000000000000000) % 86400)) (vI 0)),K_ (vW ((z / 1000000000000000000) / 86400)),K_ (vW ((z / 1000000000000000000) % 86400)),K_ (vI 0),KE_ fun env=>vP (pb env 7) 0,KE_ fun env=>vP (pb env 8) 0,none,none,K_ (vI 0)] (fun E3=>[(2,vP (pb E1 1) 0),(3,vI 0),(5,vP (pb E2 8) 0),(7,vP (pb E3 7) 0),(8,vP (pb E3 8) 0)]) (W:=[{ i:=7,T:=26,c0:=[vI 0,.int .u64 0],s:=some 9,c1:=fun _=>[vI (hi ((z / 1000000000000000000) / 86400)),.int .u64 (lo ((z / 1000000000000000000) / 86400))] },{ i:=8,T:=26,c0:=[vI 0,.int .u64 0],s:=some 10,c1:=fun _=>[vI (hi ((z / 1000000000000000000) % 86400)),.int .u64 (lo ((z / 1000000000000000000) % 86400))] }]) (M':=fun E3=>[((pb E1 0),26,[vI (hi (z)),.int .u64 (lo (z))]),((pb E1 1),23,[vI 0,vI 0,vI 0]),((pb E2 7),26,[vI (hi (z / 1000000000000000000)),.int .u64 (lo (z / 1000000000000000000))]),((pb E2 8),26,[vI (hi (z % 1000000000000000000)),.int .u64 (lo (z % 1000000000000000000))]),((pb E3 7),26,[vI (hi ((z / 1000000000000000000) / 86400)),.int .u64 (lo ((z / 1000000000000000000) / 86400))]),((pb E3 8),26,[vI (hi ((z / 1000000000000000000) % 86400)),.int .u64 (lo ((z / 1000000000000000000) % 86400))])]) (hs:=c_ (ld_ 2 (hrd:=by exact rd26 rfl rfl))<|c_ (cl_ Tryz.func32 (h:=fun env=>⟨_,(of_any 86400 (by omega) (by omega)),rfl⟩))<|c_ (cl_ Tryz.func98 (h:=fun env=>⟨_,(wdiv_any (z / 1000000000000000000) 86400 (by unfold InW;omega) (by unfold InW;omega) (by omega)),rfl⟩))<|c_ mv_<|c_ ext_<|c_ ext_<|c_ ext_<|c_ (al_ 4)<|c_ (al_ 5)<|c_ (sw_ 4 7 (hst:=by exact fun _ _ _ hc=>st26 rfl rfl rfl hc))<|c_ (sw_ 5 8 (hst:=by exact fun _ _ _ hc=>st26 rfl rfl rfl hc))<|c_ mv_<|e_) (k:=fun E3 ac wd h_3=>?_)
 clear h_2
 refine then_n (wp_seq ?_)
 refine rg_ h_3 [[0],[0,1],[0,1,2],r_ 4,[0,1,2,4],[0,1,2,3,5],r_ 7] [K_ (vW ((z / 1000000000000000000) / 86400)),K_ (vT2 (vI ((z / 1000000000000000000) / 86400)) (vI 0)),K_ (vT2 (vI ((z / 1000000000000000000) / 86400)) (vI 0)),K_ (vI ((z / 1000000000000000000) / 86400)),K_ (vI 0),K_ (vI ((z / 1000000000000000000) / 86400)),K_ (vI 0)] (fun E4=>[(2,vP (pb E1 1) 0),(3,vI 0),(5,vP (pb E2 8) 0),(8,vP (pb E3 8) 0),(10,vI ((z / 1000000000000000000) / 86400)),(11,vI 0)]) (hs:=c_ (ld_ 4 (hrd:=by exact rd26 rfl rfl))<|c_ (cl_ Tryz.func99 (h:=fun env=>⟨_,(wint_yes ((z / 1000000000000000000) / 86400) (by omega) (by omega)),rfl⟩))<|c_ mv_<|c_ ext_<|c_ ext_<|c_ mv_<|c_ mv_<|e_) (k:=fun E4 ac wd h_4=>?_)
 clear h_3
 refine then_n (wp_seq (wp_seq ?_))
 refine rg_ h_4 (tri 7) [K_ (vI 0),K_ bF,K_ bF,K_ (vI ((z / 1000000000000000000) / 86400)),K_ bT,K_ bF,K_ bF] (fun E5=>[(2,vP (pb E1 1) 0),(3,vI 0),(5,vP (pb E2 8) 0),(8,vP (pb E3 8) 0),(10,vI ((z / 1000000000000000000) / 86400)),(41,bF)]) (hs:=c_ mv_<|c_ (bi0 (vI 0) (vI 0) (h:=by intro env w;(first | (simp [go_sem];done) | (simp [go_sem];rfl))))<|c_ mv_<|c_ (gm0 (vI ((z / 1000000000000000000) / 86400)))<|c_ (cl_ Tryz.func100 (h:=fun env=>⟨_,((xin_any ((z / 1000000000000000000) / 86400)).eq (congrArg Value.bool hin)),rfl⟩))<|c_ (un0 bT)<|c_ (pk0 bF bT bF)<|e_) (k:=fun E5 ac wd h_5=>?_)
 clear h_4
 refine then_n ?_
 refine cF_ h_5 ?_
 refine wp_skip (then_n (wp_seq ?_))
 refine rg_ h_5 [[0],[0,1],[0,1,2],r_ 4,[0,1,2,4],[0,1,2,3,5],r_ 7] [K_ (vW ((z / 1000000000000000000) % 86400)),K_ (vT2 (vI ((z / 1000000000000000000) % 86400)) (vI 0)),K_ (vT2 (vI ((z / 1000000000000000000) % 86400)) (vI 0)),K_ (vI ((z / 1000000000000000000) % 86400)),K_ (vI 0),K_ (vI ((z / 1000000000000000000) % 86400)),K_ (vI 0)] (fun E6=>[(2,vP (pb E1 1) 0),(3,vI 0),(5,vP (pb E2 8) 0),(10,vI ((z / 1000000000000000000) / 86400)),(12,vI ((z / 1000000000000000000) % 86400))]) (hs:=c_ (ld_ 5 (hrd:=by exact rd26 rfl rfl))<|c_ (cl_ Tryz.func99 (h:=fun env=>⟨_,(wint_yes ((z / 1000000000000000000) % 86400) (by omega) (by omega)),rfl⟩))<|c_ mv_<|c_ ext_<|c_ ext_<|c_ mv_<|c_ mv_<|e_) (k:=fun E6 ac wd h_6=>?_)
 clear h_5
 refine then_n (wp_seq ?_)
 refine rg_ h_6 [[0],[0,1],[0,1,2],r_ 4,[0,1,2,4],[0,1,2,3,5],r_ 7] [K_ (vW (z % 1000000000000000000)),K_ (vT2 (vI (z % 1000000000000000000)) (vI 0)),K_ (vT2 (vI (z % 1000000000000000000)) (vI 0)),K_ (vI (z % 1000000000000000000)),K_ (vI 0),K_ (vI (z % 1000000000000000000)),K_ (vI 0)] (fun E7=>[(2,vP (pb E1 1) 0),(3,vI 0),(10,vI ((z / 1000000000000000000) / 86400)),(12,vI ((z / 1000000000000000000) % 86400)),(14,vI (z % 1000000000000000000))]) (hs:=c_ (ld_ 3 (hrd:=by exact rd26 rfl rfl))<|c_ (cl_ Tryz.func99 (h:=fun env=>⟨_,(wint_yes (z % 1000000000000000000) (by omega) (by omega)),rfl⟩))<|c_ mv_<|c_ ext_<|c_ ext_<|c_ mv_<|c_ mv_<|e_) (k:=fun E7 ac wd h_7=>?_)
 clear h_6
 refine then_n (wp_seq ?_)
 refine rg_ h_7 [[0],[1],[2],r_ 4,r_ 5,r_ 6] [K_ (vI ((z / 1000000000000000000) / 86400)),K_ (vI ((z / 1000000000000000000) % 86400)),K_ (vI (z % 1000000000000000000)),K_ (vL ((z / 1000000000000000000) / 86400) ((z / 1000000000000000000) % 86400) (z % 1000000000000000000)),none,K_ (vI 0)] (fun E8=>[(2,vP (pb E1 1) 0),(3,vI 0)]) (S:=[⟨1,4,fun _=>[vI ((z / 1000000000000000000) / 86400),vI ((z / 1000000000000000000) % 86400),vI (z % 1000000000000000000)]⟩]) (M':=fun E8=>[((pb E1 0),26,[vI (hi (z)),.int .u64 (lo (z))]),((pb E1 1),23,[vI ((z / 1000000000000000000) / 86400),vI ((z / 1000000000000000000) % 86400),vI (z % 1000000000000000000)]),((pb E2 7),26,[vI (hi (z / 1000000000000000000)),.int .u64 (lo (z / 1000000000000000000))]),((pb E2 8),26,[vI (hi (z % 1000000000000000000)),.int .u64 (lo (z % 1000000000000000000))]),((pb E3 7),26,[vI (hi ((z / 1000000000000000000) / 86400)),.int .u64 (lo ((z / 1000000000000000000) / 86400))]),((pb E3 8),26,[vI (hi ((z / 1000000000000000000) % 86400)),.int .u64 (lo ((z / 1000000000000000000) % 86400))])]) (hs:=c_ mv_<|c_ mv_<|c_ mv_<|c_ (bd0 ([vI ((z / 1000000000000000000) / 86400),vI ((z / 1000000000000000000) % 86400),vI (z % 1000000000000000000)]))<|c_ (se_ 1 (hst:=by exact fun _ _ _ hc=>st23 rfl rfl rfl rfl hc))<|c_ mv_<|e_) (k:=fun E8 ac wd h_8=>?_)
 clear h_7
 refine then_n (wp_ret ?_)
 refine lvCT (v:=vL ((z / 1000000000000000000) / 86400) ((z / 1000000000000000000) % 86400) (z % 1000000000000000000)) Tryz.results67 h_8 1 (rd23 rfl rfl rfl) ?_
 exact ⟨by unfold dsV;rw [hin];rfl,h_8.st.below⟩
def upP (n:Int):Int × Int × Int × Int:=if upOk n=true then (0,upD n,upS n,upA n) else (2,0,0,0)
theorem upZ_eq (n:Int):upZ n=n+3506716800*1000000000000000000:=by unfold upZ jn;omega
theorem upP_in {n:Int}:dsV (n+3506716800*1000000000000000000)=upP n:=by
 unfold dsV upP upOk upD upS upA
 rw [upZ_eq]
theorem upP_out {n:Int} (h:¬ InW (n+3506716800*1000000000000000000)):upP n=(2,0,0,0):=by
 unfold upP
 rw [if_neg]
 unfold upOk upD
 rw [upZ_eq]
 intro hw
 have:=wth_iff.1 hw
 unfold InW at h
 omega
theorem upOk_no {n:Int} (h:upOk n=false):upP n=(2,0,0,0):=by unfold upP;rw [h];rfl
theorem upOk_yes {n:Int} (h:upOk n=true):upP n=(0,upD n,upS n,upA n):=by unfold upP;rw [h];rfl
theorem upOk_bd {n:Int} (h:upOk n=true):-1099511627776≤upD n∧upD n≤1099511627776∧0≤upS n∧upS n < 86400∧0≤upA n∧upA n < 1000000000000000000:=by
 have:=wth_iff.1 h
 unfold upS upA
 omega
theorem xplain_any (n:Int) (hn:InW n):Ret 42 #[vW n] (vT2 (vL ((upP n).2.1) ((upP n).2.2.1) ((upP n).2.2.2)) (vI ((upP n).1))):=by
 intro w0
 have hst:=St.start w0 (Θ:=fun _=>True) (fun _ _=>trivial)
 refine en_ Tryz.func42 hst 20 [(0,vW n)] (fun ac h=>?_)
 refine wp_seq ?_
 refine rg_ h [[0],[1],[2]] [KE_ fun env=>vP (pb env 0) 0,KE_ fun env=>vP (pb env 1) 0,K_ (vI 0)] (fun E1=>[(1,vP (pb E1 0) 0),(2,vP (pb E1 1) 0),(3,vI 0)]) (W:=[{ i:=0,T:=26,c0:=[vI (hi (n)),.int .u64 (lo (n))] },{ i:=1,T:=23,c0:=[vI 0,vI 0,vI 0] }]) (M':=fun E1=>[((pb E1 0),26,[vI (hi (n)),.int .u64 (lo (n))]),((pb E1 1),23,[vI 0,vI 0,vI 0])]) (hs:=c_ (bx0 0 (vW n))<|c_ (al_ 1)<|c_ mv_<|e_) (k:=fun E1 ac wd h_1=>?_)
 clear h
 refine then_n (wp_seq ?_)
 by_cases hw:InW (n+3506716800*1000000000000000000)
 refine rg_ h_1 [[0],[1],[0,1,2],r_ 4,r_ 5,[0,1,2,3,5],[6],[0,1,2,3,4,6,7],r_ 9] [K_ (vW n),K_ (vW (3506716800*1000000000000000000)),K_ (vT2 (vW (n+3506716800*1000000000000000000)) (vI 0)),K_ (vT2 (vW (n+3506716800*1000000000000000000)) (vI 0)),K_ (vW (n+3506716800*1000000000000000000)),K_ (vI 0),KE_ fun env=>vP (pb env 6) 0,none,K_ (vI 0)] (fun E2=>[(2,vP (pb E1 1) 0),(3,vI 0),(4,vP (pb E2 6) 0),(5,vI 0)]) (W:=[{ i:=6,T:=26,c0:=[vI 0,.int .u64 0],s:=some 7,c1:=fun _=>[vI (hi (n+3506716800*1000000000000000000)),.int .u64 (lo (n+3506716800*1000000000000000000))] }]) (M':=fun E2=>[((pb E1 0),26,[vI (hi (n)),.int .u64 (lo (n))]),((pb E1 1),23,[vI 0,vI 0,vI 0]),((pb E2 6),26,[vI (hi (n+3506716800*1000000000000000000)),.int .u64 (lo (n+3506716800*1000000000000000000))])]) (hs:=c_ (ld_ 0 (hrd:=by exact rd26 rfl rfl))<|c_ (cl_ Tryz.func31 (h:=fun env=>⟨_,(xsecs_any 3506716800 (by omega) (by omega)),rfl⟩))<|c_ (cl_ Tryz.func30 (h:=fun env=>⟨_,(Ret.eq (wadd_any n (3506716800*1000000000000000000) hn (by unfold InW;omega)) (fit_tup hw)),rfl⟩))<|c_ mv_<|c_ ext_<|c_ ext_<|c_ (al_ 2)<|c_ (sw_ 2 6 (hst:=by exact fun _ _ _ hc=>st26 rfl rfl rfl hc))<|c_ mv_<|e_) (k:=fun E2 ac wd h_2=>?_)
 clear h_1
 refine then_n (wp_seq (wp_seq ?_))
 refine rg_ h_2 [[0],[0,1]] [K_ (vI 0),K_ bF] (fun E3=>[(2,vP (pb E1 1) 0),(3,vI 0),(4,vP (pb E2 6) 0),(5,vI 0),(13,bF)]) (hs:=c_ mv_<|c_ (bi0 (vI 0) (vI 0) (h:=by intro env w;(first | (simp [go_sem];done) | (simp [go_sem];rfl))))<|e_) (k:=fun E3 ac wd h_3=>?_)
 clear h_2
 refine then_n ?_
 refine cF_ h_3 ?_
 refine wp_skip (then_n (wp_seq ?_))
 refine rg_ h_3 [[0],[0,1],[0,1,2],[0,1,3],r_ 5,r_ 6] [K_ (vW (n+3506716800*1000000000000000000)),K_ (vT2 (vL ((upP n).2.1) ((upP n).2.2.1) ((upP n).2.2.2)) (vI ((upP n).1))),K_ (vL ((upP n).2.1) ((upP n).2.2.1) ((upP n).2.2.2)),K_ (vI ((upP n).1)),none,K_ (vI ((upP n).1))] (fun E4=>[(2,vP (pb E1 1) 0),(3,vI ((upP n).1))]) (S:=[⟨1,4,fun _=>[vI ((upP n).2.1),vI ((upP n).2.2.1),vI ((upP n).2.2.2)]⟩]) (M':=fun E4=>[((pb E1 0),26,[vI (hi (n)),.int .u64 (lo (n))]),((pb E1 1),23,[vI ((upP n).2.1),vI ((upP n).2.2.1),vI ((upP n).2.2.2)]),((pb E2 6),26,[vI (hi (n+3506716800*1000000000000000000)),.int .u64 (lo (n+3506716800*1000000000000000000))])]) (hs:=c_ (ld_ 2 (hrd:=by exact rd26 rfl rfl))<|c_ (cl_ Tryz.func67 (h:=fun env=>⟨_,((dsplit_any (n+3506716800*1000000000000000000) hw).eq (y_lab upP_in)),rfl⟩))<|c_ ext_<|c_ ext_<|c_ (se_ 1 (hst:=by exact fun _ _ _ hc=>st23 rfl rfl rfl rfl hc))<|c_ mv_<|e_) (k:=fun E4 ac wd h_4=>?_)
 clear h_3
 refine then_n (wp_ret ?_)
 refine lvCT (v:=vL ((upP n).2.1) ((upP n).2.2.1) ((upP n).2.2.2)) Tryz.results42 h_4 1 (rd23 rfl rfl rfl) ?_
 exact ⟨rfl,h_4.st.below⟩
 refine rg_ h_1 [[0],[1],[0,1,2],r_ 4,r_ 5,[0,1,2,3,5],[6],[0,1,2,3,4,6,7],r_ 9] [K_ (vW n),K_ (vW (3506716800*1000000000000000000)),K_ (vT2 (vW 0) (vI 2)),K_ (vT2 (vW 0) (vI 2)),K_ (vW 0),K_ (vI 2),KE_ fun env=>vP (pb env 6) 0,none,K_ (vI 2)] (fun E2=>[(2,vP (pb E1 1) 0),(3,vI 0),(4,vP (pb E2 6) 0),(5,vI 2)]) (W:=[{ i:=6,T:=26,c0:=[vI 0,.int .u64 0],s:=some 7,c1:=fun _=>[vI (hi (0)),.int .u64 (lo (0))] }]) (M':=fun E2=>[((pb E1 0),26,[vI (hi (n)),.int .u64 (lo (n))]),((pb E1 1),23,[vI 0,vI 0,vI 0]),((pb E2 6),26,[vI (hi (0)),.int .u64 (lo (0))])]) (hs:=c_ (ld_ 0 (hrd:=by exact rd26 rfl rfl))<|c_ (cl_ Tryz.func31 (h:=fun env=>⟨_,(xsecs_any 3506716800 (by omega) (by omega)),rfl⟩))<|c_ (cl_ Tryz.func30 (h:=fun env=>⟨_,(Ret.eq (wadd_any n (3506716800*1000000000000000000) hn (by unfold InW;omega)) (fit_tup_no hw)),rfl⟩))<|c_ mv_<|c_ ext_<|c_ ext_<|c_ (al_ 2)<|c_ (sw_ 2 6 (hst:=by exact fun _ _ _ hc=>st26 rfl rfl rfl hc))<|c_ mv_<|e_) (k:=fun E2 ac wd h_2=>?_)
 clear h_1
 refine then_n (wp_seq (wp_seq ?_))
 refine rg_ h_2 [[0],[0,1]] [K_ (vI 2),K_ bT] (fun E3=>[(2,vP (pb E1 1) 0),(3,vI 0),(4,vP (pb E2 6) 0),(5,vI 2),(13,bT)]) (hs:=c_ mv_<|c_ (bi0 (vI 2) (vI 0))<|e_) (k:=fun E3 ac wd h_3=>?_)
 clear h_2
 refine then_n ?_
 refine cT_ h_3 ?_
 refine wp_seq ?_
 refine rg_ h_3 [[0],[1],[0,2],r_ 4] [K_ (vL 0 0 0),K_ (vI 2),none,K_ (vI 2)] (fun E4=>[(2,vP (pb E1 1) 0),(3,vI 2),(4,vP (pb E2 6) 0)]) (S:=[⟨1,2,fun _=>[vI 0,vI 0,vI 0]⟩]) (M':=fun E4=>[((pb E1 0),26,[vI (hi (n)),.int .u64 (lo (n))]),((pb E1 1),23,[vI 0,vI 0,vI 0]),((pb E2 6),26,[vI (hi (0)),.int .u64 (lo (0))])]) (hs:=c_ (bd0 ([]))<|c_ mv_<|c_ (se_ 1 (hst:=by exact fun _ _ _ hc=>st23 rfl rfl rfl rfl hc))<|c_ mv_<|e_) (k:=fun E4 ac wd h_4=>?_)
 clear h_3
 refine then_n (wp_ret (then_ret ?_))
 refine lvCT (v:=vL 0 0 0) Tryz.results42 h_4 1 (rd23 rfl rfl rfl) ?_
 have e:=upP_out hw
 exact ⟨by rw [e],h_4.st.below⟩
end Go.Proofs.YtdfkghpgekmmlabGreat
namespace Go.Proofs.YtdfkghpgekmmlabGreat
open Go.RowKit
attribute [local go_sem] vN bT bF rS vW vM vL vT2 vT3 vP vI execOp Act.eval evC bigF vB hi_zero lo_zero Tryz.underlying23 Tryz.underlying26
theorem xlabels_c (w0:World) (c g:Nat) (b:Value) (u x:Int) (es:List (Int × Int)) (hC:IsC w0 c g b u x es) (n:Int) (hn:InW n):ClkC Tryz.prog 17 [vP c 0,vW n] w0 c g b u x es (.tuple #[vL ((ulA es n).1) ((ulA es n).2.1) ((ulA es n).2.2),vL ((ulB es n).1) ((ulB es n).2.1) ((ulB es n).2.2),vI (ulK es n),vI (ulE es n)]):=by
 unfold ClkC
 have hst:=St.startC w0 hC
 refine en_ Tryz.func17 hst 65 [(0,vP c 0),(1,vW n)] (fun ac h=>?_)
 refine wp_seq ?_
 refine rg_ h [[0],[1],[2],[3],[3,4]] [KE_ fun env=>vP (pb env 0) 0,KE_ fun env=>vP (pb env 1) 0,KE_ fun env=>vP (pb env 2) 0,K_ (vI 0),K_ (vI 0)] (fun E1=>[(0,vP c 0),(3,vP (pb E1 0) 0),(4,vP (pb E1 1) 0),(5,vP (pb E1 2) 0),(6,vI 0),(7,vI 0)]) (W:=[{ i:=0,T:=26,c0:=[vI (hi (n)),.int .u64 (lo (n))] },{ i:=1,T:=23,c0:=[vI 0,vI 0,vI 0] },{ i:=2,T:=23,c0:=[vI 0,vI 0,vI 0] }]) (M':=fun E1=>[((pb E1 0),26,[vI (hi (n)),.int .u64 (lo (n))]),((pb E1 1),23,[vI 0,vI 0,vI 0]),((pb E1 2),23,[vI 0,vI 0,vI 0])]) (hs:=c_ (bx0 0 (vW n))<|c_ (al_ 1)<|c_ (al_ 2)<|c_ mv_<|c_ mv_<|e_) (k:=fun E1 ac wd h_1=>?_)
 clear h
 refine then_n (wp_seq (wp_seq ?_))
 refine rg_ h_1 [[0],[0,1]] [K_ (vP c 0),K_ bF] (fun E2=>[(0,vP c 0),(3,vP (pb E1 0) 0),(4,vP (pb E1 1) 0),(5,vP (pb E1 2) 0),(6,vI 0),(7,vI 0),(12,bF)]) (hs:=c_ mv_<|c_ (bi0 (vP c 0) (.pointer none))<|e_) (k:=fun E2 ac wd h_2=>?_)
 clear h_1
 refine then_n ?_
 refine cF_ h_2 ?_
 refine wp_skip (then_n (wp_seq ?_))
 cases hok:upOk n
 refine rg_ h_2 [[0],[0,1],[0,1,2],r_ 4,[0,1,2,4],[0,1,2,3,5],r_ 7] [K_ (vW n),K_ (vT2 (vL 0 0 0) (vI 2)),K_ (vT2 (vL 0 0 0) (vI 2)),K_ (vL 0 0 0),K_ (vI 2),none,K_ (vI 2)] (fun E3=>[(0,vP c 0),(4,vP (pb E1 1) 0),(5,vP (pb E1 2) 0),(6,vI 0),(7,vI 2)]) (S:=[⟨2,5,fun _=>[vI 0,vI 0,vI 0]⟩]) (M':=fun E3=>[((pb E1 0),26,[vI (hi (n)),.int .u64 (lo (n))]),((pb E1 1),23,[vI 0,vI 0,vI 0]),((pb E1 2),23,[vI 0,vI 0,vI 0])]) (hs:=c_ (ld_ 0 (hrd:=by exact rd26 rfl rfl))<|c_ (cl_ Tryz.func42 (h:=fun env=>⟨_,((xplain_any n hn).eq (y_lab4 (upOk_no hok))),rfl⟩))<|c_ mv_<|c_ ext_<|c_ ext_<|c_ (se_ 2 (hst:=by exact fun _ _ _ hc=>st23 rfl rfl rfl rfl hc))<|c_ mv_<|e_) (k:=fun E3 ac wd h_3=>?_)
 clear h_2
 refine then_n (wp_seq (wp_seq ?_))
 refine rg_ h_3 [[0],[0,1]] [K_ (vI 2),K_ bT] (fun E4=>[(0,vP c 0),(4,vP (pb E1 1) 0),(5,vP (pb E1 2) 0),(6,vI 0),(7,vI 2),(21,bT)]) (hs:=c_ mv_<|c_ (bi0 (vI 2) (vI 0))<|e_) (k:=fun E4 ac wd h_4=>?_)
 clear h_3
 refine then_n ?_
 refine cT_ h_4 ?_
 refine wp_seq ?_
 refine rg_ h_4 [[0],[1],[2],[0,3],[0,1,3,4],[0,1,3,4,5],r_ 7] [K_ (vL 0 0 0),K_ (vL 0 0 0),K_ (vI 2),none,none,K_ (vI 0),K_ (vI 2)] (fun E5=>[(0,vP c 0),(4,vP (pb E1 1) 0),(5,vP (pb E1 2) 0),(6,vI 0),(7,vI 2)]) (S:=[⟨1,3,fun _=>[vI 0,vI 0,vI 0]⟩,⟨2,4,fun _=>[vI 0,vI 0,vI 0]⟩]) (M':=fun E5=>[((pb E1 0),26,[vI (hi (n)),.int .u64 (lo (n))]),((pb E1 1),23,[vI 0,vI 0,vI 0]),((pb E1 2),23,[vI 0,vI 0,vI 0])]) (hs:=c_ (bd0 ([]))<|c_ (bd0 ([]))<|c_ mv_<|c_ (se_ 1 (hst:=by exact fun _ _ _ hc=>st23 rfl rfl rfl rfl hc))<|c_ (se_ 2 (hst:=by exact fun _ _ _ hc=>st23 rfl rfl rfl rfl hc))<|c_ mv_<|c_ mv_<|e_) (k:=fun E5 ac wd h_5=>?_)
 clear h_4
 refine then_n (wp_ret (then_ret ?_))
 have s4:=h_5.g (t:=4) rfl
 have hc4:=(h_5.st.own 1 _ rfl).2
 have c4_0:=own_cell (o:=0) hc4 rfl
 have c4_1:=own_cell (o:=1) hc4 rfl
 have c4_2:=own_cell (o:=2) hc4 rfl
 have s5:=h_5.g (t:=5) rfl
 have hc5:=(h_5.st.own 2 _ rfl).2
 have c5_0:=own_cell (o:=0) hc5 rfl
 have c5_1:=own_cell (o:=1) hc5 rfl
 have c5_2:=own_cell (o:=2) hc5 rfl
 have s6:=h_5.g (t:=6) rfl
 have s7:=h_5.g (t:=7) rfl
 refine leave (v:=.tuple #[vL 0 0 0,vL 0 0 0,vI 0,vI 2]) h_5.df (by simp [results,Tryz.results17,go_sem,Array.getD_eq_getD_getElem?,s4,c4_0,c4_1,c4_2,Tryz.underlying23,s5,c5_0,c5_1,c5_2,Tryz.underlying23,s6,s7]) ?_
 have eK:ulK es n=0:=by unfold ulK;simp [hok]
 have eE:ulE es n=2:=by unfold ulE;simp [hok]
 have eA:ulA es n=(0,0,0):=by unfold ulA;rw [eK];simp [hok]
 have eB:ulB es n=(0,0,0):=by unfold ulB;rw [eK];simp [hok]
 exact ⟨by rw [eK,eE,eA,eB],h_5.st.nowT,h_5.st.gr⟩
 obtain ⟨b1,b2,b3,b4,b5,b6⟩:=upOk_bd hok
 refine rg_ h_2 [[0],[0,1],[0,1,2],r_ 4,[0,1,2,4],[0,1,2,3,5],r_ 7] [K_ (vW n),K_ (vT2 (vL (upD n) (upS n) (upA n)) (vI 0)),K_ (vT2 (vL (upD n) (upS n) (upA n)) (vI 0)),K_ (vL (upD n) (upS n) (upA n)),K_ (vI 0),none,K_ (vI 0)] (fun E3=>[(0,vP c 0),(4,vP (pb E1 1) 0),(5,vP (pb E1 2) 0),(6,vI 0),(7,vI 0)]) (S:=[⟨2,5,fun _=>[vI (upD n),vI (upS n),vI (upA n)]⟩]) (M':=fun E3=>[((pb E1 0),26,[vI (hi (n)),.int .u64 (lo (n))]),((pb E1 1),23,[vI 0,vI 0,vI 0]),((pb E1 2),23,[vI (upD n),vI (upS n),vI (upA n)])]) (hs:=c_ (ld_ 0 (hrd:=by exact rd26 rfl rfl))<|c_ (cl_ Tryz.func42 (h:=fun env=>⟨_,((xplain_any n hn).eq (y_lab4 (upOk_yes hok))),rfl⟩))<|c_ mv_<|c_ ext_<|c_ ext_<|c_ (se_ 2 (hst:=by exact fun _ _ _ hc=>st23 rfl rfl rfl rfl hc))<|c_ mv_<|e_) (k:=fun E3 ac wd h_3=>?_)
 clear h_2
 refine then_n (wp_seq (wp_seq ?_))
 refine rg_ h_3 [[0],[0,1]] [K_ (vI 0),K_ bF] (fun E4=>[(0,vP c 0),(4,vP (pb E1 1) 0),(5,vP (pb E1 2) 0),(6,vI 0),(7,vI 0),(21,bF)]) (hs:=c_ mv_<|c_ (bi0 (vI 0) (vI 0) (h:=by intro env w;(first | (simp [go_sem];done) | (simp [go_sem];rfl))))<|e_) (k:=fun E4 ac wd h_4=>?_)
 clear h_3
 refine then_n ?_
 refine cF_ h_4 ?_
 refine wp_skip (then_n (wp_seq ?_))
 refine rg_ h_4 [[0],[0,1],[0,1,2],[3],[3,4],r_ 6,r_ 7] [K_ (vP (pb E1 2) 0),K_ (vI (upD n)),K_ (vI ((upD n)-1)),K_ (vP (pb E1 2) 2),K_ (vI (upA n)),K_ (vL ((upD n)-1) 86400 (upA n)),none] (fun E5=>[(0,vP c 0),(4,vP (pb E1 1) 0),(5,vP (pb E1 2) 0),(6,vI 0),(7,vI 0)]) (S:=[⟨1,6,fun _=>[vI ((upD n)-1),vI 86400,vI (upA n)]⟩]) (M':=fun E5=>[((pb E1 0),26,[vI (hi (n)),.int .u64 (lo (n))]),((pb E1 1),23,[vI ((upD n)-1),vI 86400,vI (upA n)]),((pb E1 2),23,[vI (upD n),vI (upS n),vI (upA n)])]) (hs:=c_ (fa0 (vP (pb E1 2) 0))<|c_ (ld_ 2 (hrd:=by exact rd3 rfl))<|c_ (bi0 (vI (upD n)) (vI 1))<|c_ (fa0 (vP (pb E1 2) 0))<|c_ (ld_ 2 (hrd:=by exact rd3 rfl))<|c_ (bd0 ([vI ((upD n)-1),vI 86400,vI (upA n)]))<|c_ (se_ 1 (hst:=by exact fun _ _ _ hc=>st23 rfl rfl rfl rfl hc))<|e_) (k:=fun E5 ac wd h_5=>?_)
 clear h_4
 refine then_n (wp_seq ?_)
 by_cases hS:upS n=0
 by_cases hE:ctE es (upD n-1) 86400 (upA n)=0
 have hF:upF es n=true:=by unfold upF;simp [hS,hE]
 refine rg_ h_5 [[0],[0,1],[0,1,2],r_ 4,r_ 5,[0,1,2,3,5],r_ 7,r_ 8,r_ 9] [K_ (vP (pb E1 2) 1),K_ (vI (upS n)),K_ bT,K_ bT,K_ (vP c 0),K_ (vL ((upD n)-1) 86400 (upA n)),K_ bT,K_ bT,K_ bT] (fun E6=>[(0,vP c 0),(4,vP (pb E1 1) 0),(5,vP (pb E1 2) 0),(6,vI 0),(7,vI 0),(8,bT)]) (hs:=c_ (fa0 (vP (pb E1 2) 0))<|c_ (ld_ 2 (hrd:=by exact rd3 rfl))<|c_ (bi0 (vI (upS n)) (vI 0) (h:=by intro env w;simp [go_sem,hS]))<|c_ mv_<|c_ (gm0 (vP c 0))<|c_ (ld_ 1 (hrd:=by exact rd23 rfl rfl rfl))<|c_ (s_clk (c:=c) (g:=g) (b:=b) (u:=u) (x:=x) (es:=es) Tryz.func20 (fun _ h=>h) (fun _ h=>h) (h:=fun D env ac wd hA hC=>⟨_,ClkC.eq (cexists_c _ c g b u x es hC (upD n-1) 86400 (upA n) (by omega) (by omega)) (y_exy hE),rfl⟩))<|c_ (pk0 bT bT bF)<|c_ mv_<|e_) (k:=fun E6 ac wd h_6=>?_)
 clear h_5
 refine then_n (wp_seq (wp_block (wp_seq ?_)))
 by_cases hL:upL es n=0
 have hL2:ctE es (upD n) (upS n) (upA n)=0:=hL
 refine rg_ h_6 [[0],[0,1],[0,1,2],[0,1,3],r_ 5,r_ 6,r_ 7] [K_ bT,K_ bT,K_ (vP c 0),K_ (vL (upD n) (upS n) (upA n)),K_ bT,K_ bT,K_ bT] (fun E7=>[(0,vP c 0),(4,vP (pb E1 1) 0),(5,vP (pb E1 2) 0),(6,vI 0),(7,vI 0),(8,bT),(39,bT)]) (hs:=c_ mv_<|c_ mv_<|c_ (gm0 (vP c 0))<|c_ (ld_ 2 (hrd:=by exact rd23 rfl rfl rfl))<|c_ (s_clk (c:=c) (g:=g) (b:=b) (u:=u) (x:=x) (es:=es) Tryz.func20 (fun _ h=>h) (fun _ h=>h) (h:=fun D env ac wd hA hC=>⟨_,ClkC.eq (cexists_c _ c g b u x es hC (upD n) (upS n) (upA n) (by omega) (by omega)) (y_exy hL2),rfl⟩))<|c_ (pk0 bT bT bF)<|c_ mv_<|e_) (k:=fun E7 ac wd h_7=>?_)
 clear h_6
 refine then_n ?_
 refine cT_ h_7 ?_
 refine wp_seq ?_
 refine rg_ h_7 [[0],[1],[0,2],r_ 4,r_ 5,r_ 6] [K_ (vL ((upD n)-1) 86400 (upA n)),K_ (vL (upD n) (upS n) (upA n)),none,none,K_ (vI 2),K_ (vI 0)] (fun E8=>[(0,vP c 0),(4,vP (pb E1 1) 0),(5,vP (pb E1 2) 0),(6,vI 2),(7,vI 0)]) (S:=[⟨1,2,fun _=>[vI ((upD n)-1),vI 86400,vI (upA n)]⟩,⟨2,3,fun _=>[vI (upD n),vI (upS n),vI (upA n)]⟩]) (M':=fun E8=>[((pb E1 0),26,[vI (hi (n)),.int .u64 (lo (n))]),((pb E1 1),23,[vI ((upD n)-1),vI 86400,vI (upA n)]),((pb E1 2),23,[vI (upD n),vI (upS n),vI (upA n)])]) (hs:=c_ (ld_ 1 (hrd:=by exact rd23 rfl rfl rfl))<|c_ (ld_ 2 (hrd:=by exact rd23 rfl rfl rfl))<|c_ (se_ 1 (hst:=by exact fun _ _ _ hc=>st23 rfl rfl rfl rfl hc))<|c_ (se_ 2 (hst:=by exact fun _ _ _ hc=>st23 rfl rfl rfl rfl hc))<|c_ mv_<|c_ mv_<|e_) (k:=fun E8 ac wd h_8=>?_)
 clear h_7
 refine then_n (wp_ret (blk_ret (then_ret ?_)))
 have s4:=h_8.g (t:=4) rfl
 have hc4:=(h_8.st.own 1 _ rfl).2
 have c4_0:=own_cell (o:=0) hc4 rfl
 have c4_1:=own_cell (o:=1) hc4 rfl
 have c4_2:=own_cell (o:=2) hc4 rfl
 have s5:=h_8.g (t:=5) rfl
 have hc5:=(h_8.st.own 2 _ rfl).2
 have c5_0:=own_cell (o:=0) hc5 rfl
 have c5_1:=own_cell (o:=1) hc5 rfl
 have c5_2:=own_cell (o:=2) hc5 rfl
 have s6:=h_8.g (t:=6) rfl
 have s7:=h_8.g (t:=7) rfl
 refine leave (v:=.tuple #[vL ((upD n)-1) 86400 (upA n),vL (upD n) (upS n) (upA n),vI 2,vI 0]) h_8.df (by simp [results,Tryz.results17,go_sem,Array.getD_eq_getD_getElem?,s4,c4_0,c4_1,c4_2,Tryz.underlying23,s5,c5_0,c5_1,c5_2,Tryz.underlying23,s6,s7]) ?_
 have eK:ulK es n=2:=by unfold ulK;simp [hok,hF,hL]
 have eE:ulE es n=0:=by unfold ulE;simp [hok,hF,hL]
 have eA:ulA es n=((upD n)-1,86400,upA n):=by unfold ulA;rw [eK];simp [hok,hF,hL]
 have eB:ulB es n=(upD n,upS n,upA n):=by unfold ulB;rw [eK];simp [hok,hF,hL]
 exact ⟨by rw [eK,eE,eA,eB],h_8.st.nowT,h_8.st.gr⟩
 have hL2:¬ ctE es (upD n) (upS n) (upA n)=0:=hL
 refine rg_ h_6 [[0],[0,1],[0,1,2],[0,1,3],r_ 5,r_ 6,r_ 7] [K_ bT,K_ bT,K_ (vP c 0),K_ (vL (upD n) (upS n) (upA n)),K_ bF,K_ bF,K_ bF] (fun E7=>[(0,vP c 0),(4,vP (pb E1 1) 0),(5,vP (pb E1 2) 0),(6,vI 0),(7,vI 0),(8,bT),(39,bF)]) (hs:=c_ mv_<|c_ mv_<|c_ (gm0 (vP c 0))<|c_ (ld_ 2 (hrd:=by exact rd23 rfl rfl rfl))<|c_ (s_clk (c:=c) (g:=g) (b:=b) (u:=u) (x:=x) (es:=es) Tryz.func20 (fun _ h=>h) (fun _ h=>h) (h:=fun D env ac wd hA hC=>⟨_,ClkC.eq (cexists_c _ c g b u x es hC (upD n) (upS n) (upA n) (by omega) (by omega)) (y_exn hL2),rfl⟩))<|c_ (pk0 bT bF bF)<|c_ mv_<|e_) (k:=fun E7 ac wd h_7=>?_)
 clear h_6
 refine then_n ?_
 refine cF_ h_7 ?_
 refine wp_seq ?_
 refine rg_ h_7 [[0],[0,1]] [K_ bT,K_ bT] (fun E8=>[(0,vP c 0),(4,vP (pb E1 1) 0),(5,vP (pb E1 2) 0),(6,vI 0),(7,vI 0),(48,bT)]) (hs:=c_ mv_<|c_ mv_<|e_) (k:=fun E8 ac wd h_8=>?_)
 clear h_7
 refine then_n ?_
 refine cT_ h_8 ?_
 refine wp_seq ?_
 refine rg_ h_8 [[0],[1],[0,1,2],r_ 4,r_ 5,r_ 6] [K_ (vL ((upD n)-1) 86400 (upA n)),K_ (vL ((upD n)-1) 86400 (upA n)),none,none,K_ (vI 1),K_ (vI 0)] (fun E9=>[(0,vP c 0),(4,vP (pb E1 1) 0),(5,vP (pb E1 2) 0),(6,vI 1),(7,vI 0)]) (S:=[⟨1,2,fun _=>[vI ((upD n)-1),vI 86400,vI (upA n)]⟩,⟨2,3,fun _=>[vI ((upD n)-1),vI 86400,vI (upA n)]⟩]) (M':=fun E9=>[((pb E1 0),26,[vI (hi (n)),.int .u64 (lo (n))]),((pb E1 1),23,[vI ((upD n)-1),vI 86400,vI (upA n)]),((pb E1 2),23,[vI ((upD n)-1),vI 86400,vI (upA n)])]) (hs:=c_ (ld_ 1 (hrd:=by exact rd23 rfl rfl rfl))<|c_ (ld_ 1 (hrd:=by exact rd23 rfl rfl rfl))<|c_ (se_ 1 (hst:=by exact fun _ _ _ hc=>st23 rfl rfl rfl rfl hc))<|c_ (se_ 2 (hst:=by exact fun _ _ _ hc=>st23 rfl rfl rfl rfl hc))<|c_ mv_<|c_ mv_<|e_) (k:=fun E9 ac wd h_9=>?_)
 clear h_8
 refine then_n (wp_ret (blk_ret (then_ret ?_)))
 have s4:=h_9.g (t:=4) rfl
 have hc4:=(h_9.st.own 1 _ rfl).2
 have c4_0:=own_cell (o:=0) hc4 rfl
 have c4_1:=own_cell (o:=1) hc4 rfl
 have c4_2:=own_cell (o:=2) hc4 rfl
 have s5:=h_9.g (t:=5) rfl
 have hc5:=(h_9.st.own 2 _ rfl).2
 have c5_0:=own_cell (o:=0) hc5 rfl
 have c5_1:=own_cell (o:=1) hc5 rfl
 have c5_2:=own_cell (o:=2) hc5 rfl
 have s6:=h_9.g (t:=6) rfl
 have s7:=h_9.g (t:=7) rfl
 refine leave (v:=.tuple #[vL ((upD n)-1) 86400 (upA n),vL ((upD n)-1) 86400 (upA n),vI 1,vI 0]) h_9.df (by simp [results,Tryz.results17,go_sem,Array.getD_eq_getD_getElem?,s4,c4_0,c4_1,c4_2,Tryz.underlying23,s5,c5_0,c5_1,c5_2,Tryz.underlying23,s6,s7]) ?_
 have eK:ulK es n=1:=by unfold ulK;simp [hok,hF,hL]
 have eE:ulE es n=0:=by unfold ulE;simp [hok,hF,hL]
 have eA:ulA es n=((upD n)-1,86400,upA n):=by unfold ulA;rw [eK];simp [hok,hF,hL]
 have eB:ulB es n=((upD n)-1,86400,upA n):=by unfold ulB;rw [eK];simp [hok,hF,hL]
 exact ⟨by rw [eK,eE,eA,eB],h_9.st.nowT,h_9.st.gr⟩
 have hF:upF es n=false:=by unfold upF;simp [hE]
 refine rg_ h_5 [[0],[0,1],[0,1,2],r_ 4,r_ 5,[0,1,2,3,5],r_ 7,r_ 8,r_ 9] [K_ (vP (pb E1 2) 1),K_ (vI (upS n)),K_ bT,K_ bT,K_ (vP c 0),K_ (vL ((upD n)-1) 86400 (upA n)),K_ bF,K_ bF,K_ bF] (fun E6=>[(0,vP c 0),(4,vP (pb E1 1) 0),(5,vP (pb E1 2) 0),(6,vI 0),(7,vI 0),(8,bF)]) (hs:=c_ (fa0 (vP (pb E1 2) 0))<|c_ (ld_ 2 (hrd:=by exact rd3 rfl))<|c_ (bi0 (vI (upS n)) (vI 0) (h:=by intro env w;simp [go_sem,hS]))<|c_ mv_<|c_ (gm0 (vP c 0))<|c_ (ld_ 1 (hrd:=by exact rd23 rfl rfl rfl))<|c_ (s_clk (c:=c) (g:=g) (b:=b) (u:=u) (x:=x) (es:=es) Tryz.func20 (fun _ h=>h) (fun _ h=>h) (h:=fun D env ac wd hA hC=>⟨_,ClkC.eq (cexists_c _ c g b u x es hC (upD n-1) 86400 (upA n) (by omega) (by omega)) (y_exn hE),rfl⟩))<|c_ (pk0 bT bF bF)<|c_ mv_<|e_) (k:=fun E6 ac wd h_6=>?_)
 clear h_5
 refine then_n (wp_seq (wp_block (wp_seq ?_)))
 by_cases hL:upL es n=0
 have hL2:ctE es (upD n) (upS n) (upA n)=0:=hL
 refine rg_ h_6 [[0],[0,1],[0,1,2],[0,1,3],r_ 5,r_ 6,r_ 7] [K_ bF,K_ bF,K_ undef,K_ undef,K_ undef,K_ bF,K_ bF] (fun E7=>[(0,vP c 0),(4,vP (pb E1 1) 0),(5,vP (pb E1 2) 0),(6,vI 0),(7,vI 0),(8,bF),(39,bF)]) (hs:=c_ mv_<|c_ mv_<|c_ off_<|c_ off_<|c_ off_<|c_ (pk0 bF undef bF)<|c_ mv_<|e_) (k:=fun E7 ac wd h_7=>?_)
 clear h_6
 refine then_n ?_
 refine cF_ h_7 ?_
 refine wp_seq ?_
 refine rg_ h_7 [[0],[0,1]] [K_ bF,K_ bF] (fun E8=>[(0,vP c 0),(4,vP (pb E1 1) 0),(5,vP (pb E1 2) 0),(6,vI 0),(7,vI 0),(48,bF)]) (hs:=c_ mv_<|c_ mv_<|e_) (k:=fun E8 ac wd h_8=>?_)
 clear h_7
 refine then_n ?_
 refine cF_ h_8 ?_
 refine wp_skip (blk_n (then_n (wp_seq (wp_seq ?_))))
 refine rg_ h_8 [[0],[1],[0,1,2],r_ 4,r_ 5,[0,1,2,3,5],[6],[0,1,2,3,4,6,7],r_ 9] [K_ (vP c 0),K_ (vL (upD n) (upS n) (upA n)),K_ (vT2 (vW (ctV es (upD n) (upS n) (upA n))) (vI (upL es n))),K_ (vT2 (vW (ctV es (upD n) (upS n) (upA n))) (vI (upL es n))),K_ (vW (ctV es (upD n) (upS n) (upA n))),K_ (vI (upL es n)),KE_ fun env=>vP (pb env 6) 0,none,K_ (vI (upL es n))] (fun E9=>[(4,vP (pb E1 1) 0),(5,vP (pb E1 2) 0),(6,vI 0),(7,vI 0),(10,vI (upL es n))]) (W:=[{ i:=6,T:=26,c0:=[vI 0,.int .u64 0],s:=some 7,c1:=fun _=>[vI (hi (ctV es (upD n) (upS n) (upA n))),.int .u64 (lo (ctV es (upD n) (upS n) (upA n)))] }]) (M':=fun E9=>[((pb E1 0),26,[vI (hi (n)),.int .u64 (lo (n))]),((pb E1 1),23,[vI ((upD n)-1),vI 86400,vI (upA n)]),((pb E1 2),23,[vI (upD n),vI (upS n),vI (upA n)]),((pb E9 6),26,[vI (hi (ctV es (upD n) (upS n) (upA n))),.int .u64 (lo (ctV es (upD n) (upS n) (upA n)))])]) (hs:=c_ mv_<|c_ (ld_ 2 (hrd:=by exact rd23 rfl rfl rfl))<|c_ (s_clk (c:=c) (g:=g) (b:=b) (u:=u) (x:=x) (es:=es) Tryz.func43 (fun _ h=>h) (fun _ h=>h) (h:=fun D env ac wd hA hC=>⟨_,ClkC.eq (cTai_c _ c g b u x es hC true (upD n) (upS n) (upA n) (by omega) (by omega)) (y_tt tV_lax (tE_lax.trans rfl)),rfl⟩))<|c_ mv_<|c_ ext_<|c_ ext_<|c_ (al_ 3)<|c_ (sw_ 3 6 (hst:=by exact fun _ _ _ hc=>st26 rfl rfl rfl hc))<|c_ mv_<|e_) (k:=fun E9 ac wd h_9=>?_)
 clear h_8
 refine then_n (wp_seq ?_)
 refine rg_ h_9 [[0],[0,1]] [K_ (vI (upL es n)),K_ bF] (fun E10=>[(4,vP (pb E1 1) 0),(5,vP (pb E1 2) 0),(6,vI 0),(7,vI 0),(10,vI (upL es n)),(59,bF)]) (hs:=c_ mv_<|c_ (bi0 (vI (upL es n)) (vI 0) (h:=by intro env w;simp [go_sem,hL]))<|e_) (k:=fun E10 ac wd h_10=>?_)
 clear h_9
 refine then_n ?_
 refine cF_ h_10 ?_
 refine wp_skip (then_n (wp_seq ?_))
 refine rg_ h_10 [[0],[1],[0,2],r_ 4,r_ 5,r_ 6] [K_ (vL (upD n) (upS n) (upA n)),K_ (vL (upD n) (upS n) (upA n)),none,none,K_ (vI 1),K_ (vI 0)] (fun E11=>[(4,vP (pb E1 1) 0),(5,vP (pb E1 2) 0),(6,vI 1),(7,vI 0)]) (S:=[⟨1,2,fun _=>[vI (upD n),vI (upS n),vI (upA n)]⟩,⟨2,3,fun _=>[vI (upD n),vI (upS n),vI (upA n)]⟩]) (M':=fun E11=>[((pb E1 0),26,[vI (hi (n)),.int .u64 (lo (n))]),((pb E1 1),23,[vI (upD n),vI (upS n),vI (upA n)]),((pb E1 2),23,[vI (upD n),vI (upS n),vI (upA n)]),((pb E9 6),26,[vI (hi (ctV es (upD n) (upS n) (upA n))),.int .u64 (lo (ctV es (upD n) (upS n) (upA n)))])]) (hs:=c_ (ld_ 2 (hrd:=by exact rd23 rfl rfl rfl))<|c_ (ld_ 2 (hrd:=by exact rd23 rfl rfl rfl))<|c_ (se_ 1 (hst:=by exact fun _ _ _ hc=>st23 rfl rfl rfl rfl hc))<|c_ (se_ 2 (hst:=by exact fun _ _ _ hc=>st23 rfl rfl rfl rfl hc))<|c_ mv_<|c_ mv_<|e_) (k:=fun E11 ac wd h_11=>?_)
 clear h_10
 refine then_n (wp_ret ?_)
 have s4:=h_11.g (t:=4) rfl
 have hc4:=(h_11.st.own 1 _ rfl).2
 have c4_0:=own_cell (o:=0) hc4 rfl
 have c4_1:=own_cell (o:=1) hc4 rfl
 have c4_2:=own_cell (o:=2) hc4 rfl
 have s5:=h_11.g (t:=5) rfl
 have hc5:=(h_11.st.own 2 _ rfl).2
 have c5_0:=own_cell (o:=0) hc5 rfl
 have c5_1:=own_cell (o:=1) hc5 rfl
 have c5_2:=own_cell (o:=2) hc5 rfl
 have s6:=h_11.g (t:=6) rfl
 have s7:=h_11.g (t:=7) rfl
 refine leave (v:=.tuple #[vL (upD n) (upS n) (upA n),vL (upD n) (upS n) (upA n),vI 1,vI 0]) h_11.df (by simp [results,Tryz.results17,go_sem,Array.getD_eq_getD_getElem?,s4,c4_0,c4_1,c4_2,Tryz.underlying23,s5,c5_0,c5_1,c5_2,Tryz.underlying23,s6,s7]) ?_
 have eK:ulK es n=1:=by unfold ulK;simp [hok,hF,hL]
 have eE:ulE es n=0:=by unfold ulE;simp [hok,hF,hL]
 have eA:ulA es n=(upD n,upS n,upA n):=by unfold ulA;rw [eK];simp [hok,hF,hL]
 have eB:ulB es n=(upD n,upS n,upA n):=by unfold ulB;rw [eK];simp [hok,hF,hL]
 exact ⟨by rw [eK,eE,eA,eB],h_11.st.nowT,h_11.st.gr⟩
 have hL2:¬ ctE es (upD n) (upS n) (upA n)=0:=hL
 refine rg_ h_6 [[0],[0,1],[0,1,2],[0,1,3],r_ 5,r_ 6,r_ 7] [K_ bF,K_ bF,K_ undef,K_ undef,K_ undef,K_ bF,K_ bF] (fun E7=>[(0,vP c 0),(4,vP (pb E1 1) 0),(5,vP (pb E1 2) 0),(6,vI 0),(7,vI 0),(8,bF),(39,bF)]) (hs:=c_ mv_<|c_ mv_<|c_ off_<|c_ off_<|c_ off_<|c_ (pk0 bF undef bF)<|c_ mv_<|e_) (k:=fun E7 ac wd h_7=>?_)
 clear h_6
 refine then_n ?_
 refine cF_ h_7 ?_
 refine wp_seq ?_
 refine rg_ h_7 [[0],[0,1]] [K_ bF,K_ bF] (fun E8=>[(0,vP c 0),(4,vP (pb E1 1) 0),(5,vP (pb E1 2) 0),(6,vI 0),(7,vI 0),(48,bF)]) (hs:=c_ mv_<|c_ mv_<|e_) (k:=fun E8 ac wd h_8=>?_)
 clear h_7
 refine then_n ?_
 refine cF_ h_8 ?_
 refine wp_skip (blk_n (then_n (wp_seq (wp_seq ?_))))
 refine rg_ h_8 [[0],[1],[0,1,2],r_ 4,r_ 5,[0,1,2,3,5],[6],[0,1,2,3,4,6,7],r_ 9] [K_ (vP c 0),K_ (vL (upD n) (upS n) (upA n)),K_ (vT2 (vW (ctV es (upD n) (upS n) (upA n))) (vI (upL es n))),K_ (vT2 (vW (ctV es (upD n) (upS n) (upA n))) (vI (upL es n))),K_ (vW (ctV es (upD n) (upS n) (upA n))),K_ (vI (upL es n)),KE_ fun env=>vP (pb env 6) 0,none,K_ (vI (upL es n))] (fun E9=>[(4,vP (pb E1 1) 0),(5,vP (pb E1 2) 0),(6,vI 0),(7,vI 0),(10,vI (upL es n))]) (W:=[{ i:=6,T:=26,c0:=[vI 0,.int .u64 0],s:=some 7,c1:=fun _=>[vI (hi (ctV es (upD n) (upS n) (upA n))),.int .u64 (lo (ctV es (upD n) (upS n) (upA n)))] }]) (M':=fun E9=>[((pb E1 0),26,[vI (hi (n)),.int .u64 (lo (n))]),((pb E1 1),23,[vI ((upD n)-1),vI 86400,vI (upA n)]),((pb E1 2),23,[vI (upD n),vI (upS n),vI (upA n)]),((pb E9 6),26,[vI (hi (ctV es (upD n) (upS n) (upA n))),.int .u64 (lo (ctV es (upD n) (upS n) (upA n)))])]) (hs:=c_ mv_<|c_ (ld_ 2 (hrd:=by exact rd23 rfl rfl rfl))<|c_ (s_clk (c:=c) (g:=g) (b:=b) (u:=u) (x:=x) (es:=es) Tryz.func43 (fun _ h=>h) (fun _ h=>h) (h:=fun D env ac wd hA hC=>⟨_,ClkC.eq (cTai_c _ c g b u x es hC true (upD n) (upS n) (upA n) (by omega) (by omega)) (y_tt tV_lax (tE_lax.trans rfl)),rfl⟩))<|c_ mv_<|c_ ext_<|c_ ext_<|c_ (al_ 3)<|c_ (sw_ 3 6 (hst:=by exact fun _ _ _ hc=>st26 rfl rfl rfl hc))<|c_ mv_<|e_) (k:=fun E9 ac wd h_9=>?_)
 clear h_8
 refine then_n (wp_seq ?_)
 refine rg_ h_9 [[0],[0,1]] [K_ (vI (upL es n)),K_ bT] (fun E10=>[(4,vP (pb E1 1) 0),(5,vP (pb E1 2) 0),(6,vI 0),(7,vI 0),(10,vI (upL es n)),(59,bT)]) (hs:=c_ mv_<|c_ (bi0 (vI (upL es n)) (vI 0) (h:=by intro env w;simp [go_sem,hL]))<|e_) (k:=fun E10 ac wd h_10=>?_)
 clear h_9
 refine then_n ?_
 refine cT_ h_10 ?_
 refine wp_seq ?_
 refine rg_ h_10 [[0],[1],[2],[0,3],[0,1,3,4],[0,1,3,4,5],r_ 7] [K_ (vL 0 0 0),K_ (vL 0 0 0),K_ (vI (upL es n)),none,none,K_ (vI 0),K_ (vI (upL es n))] (fun E11=>[(4,vP (pb E1 1) 0),(5,vP (pb E1 2) 0),(6,vI 0),(7,vI (upL es n))]) (S:=[⟨1,3,fun _=>[vI 0,vI 0,vI 0]⟩,⟨2,4,fun _=>[vI 0,vI 0,vI 0]⟩]) (M':=fun E11=>[((pb E1 0),26,[vI (hi (n)),.int .u64 (lo (n))]),((pb E1 1),23,[vI 0,vI 0,vI 0]),((pb E1 2),23,[vI 0,vI 0,vI 0]),((pb E9 6),26,[vI (hi (ctV es (upD n) (upS n) (upA n))),.int .u64 (lo (ctV es (upD n) (upS n) (upA n)))])]) (hs:=c_ (bd0 ([]))<|c_ (bd0 ([]))<|c_ mv_<|c_ (se_ 1 (hst:=by exact fun _ _ _ hc=>st23 rfl rfl rfl rfl hc))<|c_ (se_ 2 (hst:=by exact fun _ _ _ hc=>st23 rfl rfl rfl rfl hc))<|c_ mv_<|c_ mv_<|e_) (k:=fun E11 ac wd h_11=>?_)
 clear h_10
 refine then_n (wp_ret (then_ret ?_))
 have s4:=h_11.g (t:=4) rfl
 have hc4:=(h_11.st.own 1 _ rfl).2
 have c4_0:=own_cell (o:=0) hc4 rfl
 have c4_1:=own_cell (o:=1) hc4 rfl
 have c4_2:=own_cell (o:=2) hc4 rfl
 have s5:=h_11.g (t:=5) rfl
 have hc5:=(h_11.st.own 2 _ rfl).2
 have c5_0:=own_cell (o:=0) hc5 rfl
 have c5_1:=own_cell (o:=1) hc5 rfl
 have c5_2:=own_cell (o:=2) hc5 rfl
 have s6:=h_11.g (t:=6) rfl
 have s7:=h_11.g (t:=7) rfl
 refine leave (v:=.tuple #[vL 0 0 0,vL 0 0 0,vI 0,vI (upL es n)]) h_11.df (by simp [results,Tryz.results17,go_sem,Array.getD_eq_getD_getElem?,s4,c4_0,c4_1,c4_2,Tryz.underlying23,s5,c5_0,c5_1,c5_2,Tryz.underlying23,s6,s7]) ?_
 have eK:ulK es n=0:=by unfold ulK;simp [hok,hF,hL]
 have eE:ulE es n=upL es n:=by unfold ulE;simp [hok,hF,hL]
 have eA:ulA es n=(0,0,0):=by unfold ulA;rw [eK];simp [hok,hF,hL]
 have eB:ulB es n=(0,0,0):=by unfold ulB;rw [eK];simp [hok,hF,hL]
 exact ⟨by rw [eK,eE,eA,eB],h_11.st.nowT,h_11.st.gr⟩
 have hF:upF es n=false:=by unfold upF;simp [hS]
 refine rg_ h_5 [[0],[0,1],[0,1,2],r_ 4,r_ 5,[0,1,2,3,5],r_ 7,r_ 8,r_ 9] [K_ (vP (pb E1 2) 1),K_ (vI (upS n)),K_ bF,K_ bF,K_ undef,K_ undef,K_ undef,K_ bF,K_ bF] (fun E6=>[(0,vP c 0),(4,vP (pb E1 1) 0),(5,vP (pb E1 2) 0),(6,vI 0),(7,vI 0),(8,bF)]) (hs:=c_ (fa0 (vP (pb E1 2) 0))<|c_ (ld_ 2 (hrd:=by exact rd3 rfl))<|c_ (bi0 (vI (upS n)) (vI 0) (h:=by intro env w;simp [go_sem,hS]))<|c_ mv_<|c_ off_<|c_ off_<|c_ off_<|c_ (pk0 bF undef bF)<|c_ mv_<|e_) (k:=fun E6 ac wd h_6=>?_)
 clear h_5
 refine then_n (wp_seq (wp_block (wp_seq ?_)))
 by_cases hL:upL es n=0
 have hL2:ctE es (upD n) (upS n) (upA n)=0:=hL
 refine rg_ h_6 [[0],[0,1],[0,1,2],[0,1,3],r_ 5,r_ 6,r_ 7] [K_ bF,K_ bF,K_ undef,K_ undef,K_ undef,K_ bF,K_ bF] (fun E7=>[(0,vP c 0),(4,vP (pb E1 1) 0),(5,vP (pb E1 2) 0),(6,vI 0),(7,vI 0),(8,bF),(39,bF)]) (hs:=c_ mv_<|c_ mv_<|c_ off_<|c_ off_<|c_ off_<|c_ (pk0 bF undef bF)<|c_ mv_<|e_) (k:=fun E7 ac wd h_7=>?_)
 clear h_6
 refine then_n ?_
 refine cF_ h_7 ?_
 refine wp_seq ?_
 refine rg_ h_7 [[0],[0,1]] [K_ bF,K_ bF] (fun E8=>[(0,vP c 0),(4,vP (pb E1 1) 0),(5,vP (pb E1 2) 0),(6,vI 0),(7,vI 0),(48,bF)]) (hs:=c_ mv_<|c_ mv_<|e_) (k:=fun E8 ac wd h_8=>?_)
 clear h_7
 refine then_n ?_
 refine cF_ h_8 ?_
 refine wp_skip (blk_n (then_n (wp_seq (wp_seq ?_))))
 refine rg_ h_8 [[0],[1],[0,1,2],r_ 4,r_ 5,[0,1,2,3,5],[6],[0,1,2,3,4,6,7],r_ 9] [K_ (vP c 0),K_ (vL (upD n) (upS n) (upA n)),K_ (vT2 (vW (ctV es (upD n) (upS n) (upA n))) (vI (upL es n))),K_ (vT2 (vW (ctV es (upD n) (upS n) (upA n))) (vI (upL es n))),K_ (vW (ctV es (upD n) (upS n) (upA n))),K_ (vI (upL es n)),KE_ fun env=>vP (pb env 6) 0,none,K_ (vI (upL es n))] (fun E9=>[(4,vP (pb E1 1) 0),(5,vP (pb E1 2) 0),(6,vI 0),(7,vI 0),(10,vI (upL es n))]) (W:=[{ i:=6,T:=26,c0:=[vI 0,.int .u64 0],s:=some 7,c1:=fun _=>[vI (hi (ctV es (upD n) (upS n) (upA n))),.int .u64 (lo (ctV es (upD n) (upS n) (upA n)))] }]) (M':=fun E9=>[((pb E1 0),26,[vI (hi (n)),.int .u64 (lo (n))]),((pb E1 1),23,[vI ((upD n)-1),vI 86400,vI (upA n)]),((pb E1 2),23,[vI (upD n),vI (upS n),vI (upA n)]),((pb E9 6),26,[vI (hi (ctV es (upD n) (upS n) (upA n))),.int .u64 (lo (ctV es (upD n) (upS n) (upA n)))])]) (hs:=c_ mv_<|c_ (ld_ 2 (hrd:=by exact rd23 rfl rfl rfl))<|c_ (s_clk (c:=c) (g:=g) (b:=b) (u:=u) (x:=x) (es:=es) Tryz.func43 (fun _ h=>h) (fun _ h=>h) (h:=fun D env ac wd hA hC=>⟨_,ClkC.eq (cTai_c _ c g b u x es hC true (upD n) (upS n) (upA n) (by omega) (by omega)) (y_tt tV_lax (tE_lax.trans rfl)),rfl⟩))<|c_ mv_<|c_ ext_<|c_ ext_<|c_ (al_ 3)<|c_ (sw_ 3 6 (hst:=by exact fun _ _ _ hc=>st26 rfl rfl rfl hc))<|c_ mv_<|e_) (k:=fun E9 ac wd h_9=>?_)
 clear h_8
 refine then_n (wp_seq ?_)
 refine rg_ h_9 [[0],[0,1]] [K_ (vI (upL es n)),K_ bF] (fun E10=>[(4,vP (pb E1 1) 0),(5,vP (pb E1 2) 0),(6,vI 0),(7,vI 0),(10,vI (upL es n)),(59,bF)]) (hs:=c_ mv_<|c_ (bi0 (vI (upL es n)) (vI 0) (h:=by intro env w;simp [go_sem,hL]))<|e_) (k:=fun E10 ac wd h_10=>?_)
 clear h_9
 refine then_n ?_
 refine cF_ h_10 ?_
 refine wp_skip (then_n (wp_seq ?_))
 refine rg_ h_10 [[0],[1],[0,2],r_ 4,r_ 5,r_ 6] [K_ (vL (upD n) (upS n) (upA n)),K_ (vL (upD n) (upS n) (upA n)),none,none,K_ (vI 1),K_ (vI 0)] (fun E11=>[(4,vP (pb E1 1) 0),(5,vP (pb E1 2) 0),(6,vI 1),(7,vI 0)]) (S:=[⟨1,2,fun _=>[vI (upD n),vI (upS n),vI (upA n)]⟩,⟨2,3,fun _=>[vI (upD n),vI (upS n),vI (upA n)]⟩]) (M':=fun E11=>[((pb E1 0),26,[vI (hi (n)),.int .u64 (lo (n))]),((pb E1 1),23,[vI (upD n),vI (upS n),vI (upA n)]),((pb E1 2),23,[vI (upD n),vI (upS n),vI (upA n)]),((pb E9 6),26,[vI (hi (ctV es (upD n) (upS n) (upA n))),.int .u64 (lo (ctV es (upD n) (upS n) (upA n)))])]) (hs:=c_ (ld_ 2 (hrd:=by exact rd23 rfl rfl rfl))<|c_ (ld_ 2 (hrd:=by exact rd23 rfl rfl rfl))<|c_ (se_ 1 (hst:=by exact fun _ _ _ hc=>st23 rfl rfl rfl rfl hc))<|c_ (se_ 2 (hst:=by exact fun _ _ _ hc=>st23 rfl rfl rfl rfl hc))<|c_ mv_<|c_ mv_<|e_) (k:=fun E11 ac wd h_11=>?_)
 clear h_10
 refine then_n (wp_ret ?_)
 have s4:=h_11.g (t:=4) rfl
 have hc4:=(h_11.st.own 1 _ rfl).2
 have c4_0:=own_cell (o:=0) hc4 rfl
 have c4_1:=own_cell (o:=1) hc4 rfl
 have c4_2:=own_cell (o:=2) hc4 rfl
 have s5:=h_11.g (t:=5) rfl
 have hc5:=(h_11.st.own 2 _ rfl).2
 have c5_0:=own_cell (o:=0) hc5 rfl
 have c5_1:=own_cell (o:=1) hc5 rfl
 have c5_2:=own_cell (o:=2) hc5 rfl
 have s6:=h_11.g (t:=6) rfl
 have s7:=h_11.g (t:=7) rfl
 refine leave (v:=.tuple #[vL (upD n) (upS n) (upA n),vL (upD n) (upS n) (upA n),vI 1,vI 0]) h_11.df (by simp [results,Tryz.results17,go_sem,Array.getD_eq_getD_getElem?,s4,c4_0,c4_1,c4_2,Tryz.underlying23,s5,c5_0,c5_1,c5_2,Tryz.underlying23,s6,s7]) ?_
 have eK:ulK es n=1:=by unfold ulK;simp [hok,hF,hL]
 have eE:ulE es n=0:=by unfold ulE;simp [hok,hF,hL]
 have eA:ulA es n=(upD n,upS n,upA n):=by unfold ulA;rw [eK];simp [hok,hF,hL]
 have eB:ulB es n=(upD n,upS n,upA n):=by unfold ulB;rw [eK];simp [hok,hF,hL]
 exact ⟨by rw [eK,eE,eA,eB],h_11.st.nowT,h_11.st.gr⟩
 have hL2:¬ ctE es (upD n) (upS n) (upA n)=0:=hL
 refine rg_ h_6 [[0],[0,1],[0,1,2],[0,1,3],r_ 5,r_ 6,r_ 7] [K_ bF,K_ bF,K_ undef,K_ undef,K_ undef,K_ bF,K_ bF] (fun E7=>[(0,vP c 0),(4,vP (pb E1 1) 0),(5,vP (pb E1 2) 0),(6,vI 0),(7,vI 0),(8,bF),(39,bF)]) (hs:=c_ mv_<|c_ mv_<|c_ off_<|c_ off_<|c_ off_<|c_ (pk0 bF undef bF)<|c_ mv_<|e_) (k:=fun E7 ac wd h_7=>?_)
 clear h_6
 refine then_n ?_
 refine cF_ h_7 ?_
 refine wp_seq ?_
 refine rg_ h_7 [[0],[0,1]] [K_ bF,K_ bF] (fun E8=>[(0,vP c 0),(4,vP (pb E1 1) 0),(5,vP (pb E1 2) 0),(6,vI 0),(7,vI 0),(48,bF)]) (hs:=c_ mv_<|c_ mv_<|e_) (k:=fun E8 ac wd h_8=>?_)
 clear h_7
 refine then_n ?_
 refine cF_ h_8 ?_
 refine wp_skip (blk_n (then_n (wp_seq (wp_seq ?_))))
 refine rg_ h_8 [[0],[1],[0,1,2],r_ 4,r_ 5,[0,1,2,3,5],[6],[0,1,2,3,4,6,7],r_ 9] [K_ (vP c 0),K_ (vL (upD n) (upS n) (upA n)),K_ (vT2 (vW (ctV es (upD n) (upS n) (upA n))) (vI (upL es n))),K_ (vT2 (vW (ctV es (upD n) (upS n) (upA n))) (vI (upL es n))),K_ (vW (ctV es (upD n) (upS n) (upA n))),K_ (vI (upL es n)),KE_ fun env=>vP (pb env 6) 0,none,K_ (vI (upL es n))] (fun E9=>[(4,vP (pb E1 1) 0),(5,vP (pb E1 2) 0),(6,vI 0),(7,vI 0),(10,vI (upL es n))]) (W:=[{ i:=6,T:=26,c0:=[vI 0,.int .u64 0],s:=some 7,c1:=fun _=>[vI (hi (ctV es (upD n) (upS n) (upA n))),.int .u64 (lo (ctV es (upD n) (upS n) (upA n)))] }]) (M':=fun E9=>[((pb E1 0),26,[vI (hi (n)),.int .u64 (lo (n))]),((pb E1 1),23,[vI ((upD n)-1),vI 86400,vI (upA n)]),((pb E1 2),23,[vI (upD n),vI (upS n),vI (upA n)]),((pb E9 6),26,[vI (hi (ctV es (upD n) (upS n) (upA n))),.int .u64 (lo (ctV es (upD n) (upS n) (upA n)))])]) (hs:=c_ mv_<|c_ (ld_ 2 (hrd:=by exact rd23 rfl rfl rfl))<|c_ (s_clk (c:=c) (g:=g) (b:=b) (u:=u) (x:=x) (es:=es) Tryz.func43 (fun _ h=>h) (fun _ h=>h) (h:=fun D env ac wd hA hC=>⟨_,ClkC.eq (cTai_c _ c g b u x es hC true (upD n) (upS n) (upA n) (by omega) (by omega)) (y_tt tV_lax (tE_lax.trans rfl)),rfl⟩))<|c_ mv_<|c_ ext_<|c_ ext_<|c_ (al_ 3)<|c_ (sw_ 3 6 (hst:=by exact fun _ _ _ hc=>st26 rfl rfl rfl hc))<|c_ mv_<|e_) (k:=fun E9 ac wd h_9=>?_)
 clear h_8
 refine then_n (wp_seq ?_)
 refine rg_ h_9 [[0],[0,1]] [K_ (vI (upL es n)),K_ bT] (fun E10=>[(4,vP (pb E1 1) 0),(5,vP (pb E1 2) 0),(6,vI 0),(7,vI 0),(10,vI (upL es n)),(59,bT)]) (hs:=c_ mv_<|c_ (bi0 (vI (upL es n)) (vI 0) (h:=by intro env w;simp [go_sem,hL]))<|e_) (k:=fun E10 ac wd h_10=>?_)
 clear h_9
 refine then_n ?_
 refine cT_ h_10 ?_
 refine wp_seq ?_
 refine rg_ h_10 [[0],[1],[2],[0,3],[0,1,3,4],[0,1,3,4,5],r_ 7] [K_ (vL 0 0 0),K_ (vL 0 0 0),K_ (vI (upL es n)),none,none,K_ (vI 0),K_ (vI (upL es n))] (fun E11=>[(4,vP (pb E1 1) 0),(5,vP (pb E1 2) 0),(6,vI 0),(7,vI (upL es n))]) (S:=[⟨1,3,fun _=>[vI 0,vI 0,vI 0]⟩,⟨2,4,fun _=>[vI 0,vI 0,vI 0]⟩]) (M':=fun E11=>[((pb E1 0),26,[vI (hi (n)),.int .u64 (lo (n))]),((pb E1 1),23,[vI 0,vI 0,vI 0]),((pb E1 2),23,[vI 0,vI 0,vI 0]),((pb E9 6),26,[vI (hi (ctV es (upD n) (upS n) (upA n))),.int .u64 (lo (ctV es (upD n) (upS n) (upA n)))])]) (hs:=c_ (bd0 ([]))<|c_ (bd0 ([]))<|c_ mv_<|c_ (se_ 1 (hst:=by exact fun _ _ _ hc=>st23 rfl rfl rfl rfl hc))<|c_ (se_ 2 (hst:=by exact fun _ _ _ hc=>st23 rfl rfl rfl rfl hc))<|c_ mv_<|c_ mv_<|e_) (k:=fun E11 ac wd h_11=>?_)
 clear h_10
 refine then_n (wp_ret (then_ret ?_))
 have s4:=h_11.g (t:=4) rfl
 have hc4:=(h_11.st.own 1 _ rfl).2
 have c4_0:=own_cell (o:=0) hc4 rfl
 have c4_1:=own_cell (o:=1) hc4 rfl
 have c4_2:=own_cell (o:=2) hc4 rfl
 have s5:=h_11.g (t:=5) rfl
 have hc5:=(h_11.st.own 2 _ rfl).2
 have c5_0:=own_cell (o:=0) hc5 rfl
 have c5_1:=own_cell (o:=1) hc5 rfl
 have c5_2:=own_cell (o:=2) hc5 rfl
 have s6:=h_11.g (t:=6) rfl
 have s7:=h_11.g (t:=7) rfl
 refine leave (v:=.tuple #[vL 0 0 0,vL 0 0 0,vI 0,vI (upL es n)]) h_11.df (by simp [results,Tryz.results17,go_sem,Array.getD_eq_getD_getElem?,s4,c4_0,c4_1,c4_2,Tryz.underlying23,s5,c5_0,c5_1,c5_2,Tryz.underlying23,s6,s7]) ?_
 have eK:ulK es n=0:=by unfold ulK;simp [hok,hF,hL]
 have eE:ulE es n=upL es n:=by unfold ulE;simp [hok,hF,hL]
 have eA:ulA es n=(0,0,0):=by unfold ulA;rw [eK];simp [hok,hF,hL]
 have eB:ulB es n=(0,0,0):=by unfold ulB;rw [eK];simp [hok,hF,hL]
 exact ⟨by rw [eK,eE,eA,eB],h_11.st.nowT,h_11.st.gr⟩
theorem xfind_c (w0:World) (c g:Nat) (b:Value) (u x:Int) (es:List (Int × Int)) (hC:IsC w0 c g b u x es) (n pick:Int) (hn:InW n):ClkC Tryz.prog 18 [vP c 0,vW n,vI pick] w0 c g b u x es (vT2 (vL ((ufL es n pick).1) ((ufL es n pick).2.1) ((ufL es n pick).2.2)) (vI (ufE es n pick))):=by
 unfold ClkC
 have hst:=St.startC w0 hC
 refine en_ Tryz.func18 hst 38 [(0,vP c 0),(1,vW n),(2,vI pick)] (fun ac h=>?_)
 refine wp_seq ?_
 refine rg_ h [[0],[1],[2]] [KE_ fun env=>vP (pb env 0) 0,KE_ fun env=>vP (pb env 1) 0,K_ (vI 0)] (fun E1=>[(0,vP c 0),(2,vI pick),(4,vP (pb E1 0) 0),(6,vP (pb E1 1) 0),(7,vI 0)]) (W:=[{ i:=0,T:=26,c0:=[vI (hi (n)),.int .u64 (lo (n))] },{ i:=1,T:=23,c0:=[vI 0,vI 0,vI 0] }]) (M':=fun E1=>[((pb E1 0),26,[vI (hi (n)),.int .u64 (lo (n))]),((pb E1 1),23,[vI 0,vI 0,vI 0])]) (hs:=c_ (bx0 0 (vW n))<|c_ (al_ 1)<|c_ mv_<|e_) (k:=fun E1 ac wd h_1=>?_)
 clear h
 refine then_n (wp_seq ?_)
 refine rg_ h_1 [[0],[1],[0,1,2],r_ 4,r_ 5,[0,1,2,3,5],[0,1,2,3,6],[0,1,2,3,7],[8],[9],[0,1,2,3,4,8,9,10],[0,1,2,3,4,5,8,9,10,11],[0,1,2,3,4,5,6,8,9,10,11,12],r_ 14] [K_ (vP c 0),K_ (vW n),K_ (.tuple #[vL ((ulA es n).1) ((ulA es n).2.1) ((ulA es n).2.2),vL ((ulB es n).1) ((ulB es n).2.1) ((ulB es n).2.2),vI (ulK es n),vI (ulE es n)]),K_ (.tuple #[vL ((ulA es n).1) ((ulA es n).2.1) ((ulA es n).2.2),vL ((ulB es n).1) ((ulB es n).2.1) ((ulB es n).2.2),vI (ulK es n),vI (ulE es n)]),K_ (vL ((ulA es n).1) ((ulA es n).2.1) ((ulA es n).2.2)),K_ (vL ((ulB es n).1) ((ulB es n).2.1) ((ulB es n).2.2)),K_ (vI (ulK es n)),K_ (vI (ulE es n)),KE_ fun env=>vP (pb env 8) 0,KE_ fun env=>vP (pb env 9) 0,none,none,K_ (vI (ulK es n)),K_ (vI (ulE es n))] (fun E2=>[(2,vI pick),(6,vP (pb E1 1) 0),(7,vI 0),(8,vP (pb E2 8) 0),(9,vP (pb E2 9) 0),(10,vI (ulK es n)),(11,vI (ulE es n))]) (W:=[{ i:=8,T:=23,c0:=[vI 0,vI 0,vI 0],s:=some 10,c1:=fun _=>[vI ((ulA es n).1),vI ((ulA es n).2.1),vI ((ulA es n).2.2)] },{ i:=9,T:=23,c0:=[vI 0,vI 0,vI 0],s:=some 11,c1:=fun _=>[vI ((ulB es n).1),vI ((ulB es n).2.1),vI ((ulB es n).2.2)] }]) (M':=fun E2=>[((pb E1 0),26,[vI (hi (n)),.int .u64 (lo (n))]),((pb E1 1),23,[vI 0,vI 0,vI 0]),((pb E2 8),23,[vI ((ulA es n).1),vI ((ulA es n).2.1),vI ((ulA es n).2.2)]),((pb E2 9),23,[vI ((ulB es n).1),vI ((ulB es n).2.1),vI ((ulB es n).2.2)])]) (hs:=c_ mv_<|c_ (ld_ 0 (hrd:=by exact rd26 rfl rfl))<|c_ (s_clk (c:=c) (g:=g) (b:=b) (u:=u) (x:=x) (es:=es) Tryz.func17 (fun _ h=>h) (fun _ h=>h) (h:=fun D env ac wd hA hC=>⟨_,xlabels_c _ c g b u x es hC n hn,rfl⟩))<|c_ mv_<|c_ ext_<|c_ ext_<|c_ ext_<|c_ ext_<|c_ (al_ 2)<|c_ (al_ 3)<|c_ (sw_ 2 8 (hst:=by exact fun _ _ _ hc=>st23 rfl rfl rfl rfl hc))<|c_ (sw_ 3 9 (hst:=by exact fun _ _ _ hc=>st23 rfl rfl rfl rfl hc))<|c_ mv_<|c_ mv_<|e_) (k:=fun E2 ac wd h_2=>?_)
 clear h_1
 refine then_n (wp_seq (wp_block (wp_seq ?_)))
 by_cases he:ulE es n=0
 refine rg_ h_2 (tri 3) [K_ (vI (ulE es n)),K_ bF,K_ bF] (fun E3=>[(2,vI pick),(6,vP (pb E1 1) 0),(7,vI 0),(8,vP (pb E2 8) 0),(9,vP (pb E2 9) 0),(10,vI (ulK es n)),(11,vI (ulE es n)),(20,bF)]) (hs:=c_ mv_<|c_ (bi0 (vI (ulE es n)) (vI 0) (h:=by intro env w;simp [go_sem,he]))<|c_ mv_<|e_) (k:=fun E3 ac wd h_3=>?_)
 clear h_2
 refine then_n ?_
 refine cF_ h_3 ?_
 refine wp_seq ?_
 by_cases hk:ulK es n=1
 refine rg_ h_3 (tri 7) [K_ (vI (ulK es n)),K_ bT,K_ bT,K_ undef,K_ undef,K_ bT,K_ bT] (fun E4=>[(2,vI pick),(6,vP (pb E1 1) 0),(7,vI 0),(8,vP (pb E2 8) 0),(9,vP (pb E2 9) 0),(25,bT)]) (hs:=c_ mv_<|c_ (bi0 (vI (ulK es n)) (vI 1) (h:=by intro env w;simp [go_sem,hk]))<|c_ mv_<|c_ off_<|c_ off_<|c_ (pk0 bT bT undef)<|c_ mv_<|e_) (k:=fun E4 ac wd h_4=>?_)
 clear h_3
 refine then_n ?_
 refine cT_ h_4 ?_
 refine wp_seq ?_
 refine rg_ h_4 (tri 3) [K_ (vL ((ulB es n).1) ((ulB es n).2.1) ((ulB es n).2.2)),none,K_ (vI 0)] (fun E5=>[(6,vP (pb E1 1) 0),(7,vI 0)]) (S:=[⟨1,1,fun _=>[vI ((ulB es n).1),vI ((ulB es n).2.1),vI ((ulB es n).2.2)]⟩]) (M':=fun E5=>[((pb E1 0),26,[vI (hi (n)),.int .u64 (lo (n))]),((pb E1 1),23,[vI ((ulB es n).1),vI ((ulB es n).2.1),vI ((ulB es n).2.2)]),((pb E2 8),23,[vI ((ulA es n).1),vI ((ulA es n).2.1),vI ((ulA es n).2.2)]),((pb E2 9),23,[vI ((ulB es n).1),vI ((ulB es n).2.1),vI ((ulB es n).2.2)])]) (hs:=c_ (ld_ 3 (hrd:=by exact rd23 rfl rfl rfl))<|c_ (se_ 1 (hst:=by exact fun _ _ _ hc=>st23 rfl rfl rfl rfl hc))<|c_ mv_<|e_) (k:=fun E5 ac wd h_5=>?_)
 clear h_4
 refine then_n (wp_ret (blk_ret (then_ret ?_)))
 refine lvCT (v:=vL ((ulB es n).1) ((ulB es n).2.1) ((ulB es n).2.2)) Tryz.results18 h_5 1 (rd23 rfl rfl rfl) ?_
 have e1:ufE es n pick=0:=by unfold ufE;simp [he,hk]
 have e2:ufL es n pick=ulB es n:=by unfold ufL;simp [he,hk]
 exact ⟨by rw [e1,e2],h_5.st.nowT,h_5.st.gr⟩
 by_cases h2:pick=2
 refine rg_ h_3 (tri 7) [K_ (vI (ulK es n)),K_ bF,K_ bF,K_ (vI pick),K_ bT,K_ bT,K_ bT] (fun E4=>[(2,vI pick),(6,vP (pb E1 1) 0),(7,vI 0),(8,vP (pb E2 8) 0),(9,vP (pb E2 9) 0),(25,bT)]) (hs:=c_ mv_<|c_ (bi0 (vI (ulK es n)) (vI 1) (h:=by intro env w;simp [go_sem,hk]))<|c_ mv_<|c_ (gm0 (vI pick))<|c_ (bi0 (vI pick) (vI 2) (h:=by intro env w;simp [go_sem,h2]))<|c_ (pk0 bF bT bT (h:=by intro env w;simp [go_sem,h2]))<|c_ mv_<|e_) (k:=fun E4 ac wd h_4=>?_)
 clear h_3
 refine then_n ?_
 refine cT_ h_4 ?_
 refine wp_seq ?_
 refine rg_ h_4 (tri 3) [K_ (vL ((ulB es n).1) ((ulB es n).2.1) ((ulB es n).2.2)),none,K_ (vI 0)] (fun E5=>[(6,vP (pb E1 1) 0),(7,vI 0)]) (S:=[⟨1,1,fun _=>[vI ((ulB es n).1),vI ((ulB es n).2.1),vI ((ulB es n).2.2)]⟩]) (M':=fun E5=>[((pb E1 0),26,[vI (hi (n)),.int .u64 (lo (n))]),((pb E1 1),23,[vI ((ulB es n).1),vI ((ulB es n).2.1),vI ((ulB es n).2.2)]),((pb E2 8),23,[vI ((ulA es n).1),vI ((ulA es n).2.1),vI ((ulA es n).2.2)]),((pb E2 9),23,[vI ((ulB es n).1),vI ((ulB es n).2.1),vI ((ulB es n).2.2)])]) (hs:=c_ (ld_ 3 (hrd:=by exact rd23 rfl rfl rfl))<|c_ (se_ 1 (hst:=by exact fun _ _ _ hc=>st23 rfl rfl rfl rfl hc))<|c_ mv_<|e_) (k:=fun E5 ac wd h_5=>?_)
 clear h_4
 refine then_n (wp_ret (blk_ret (then_ret ?_)))
 refine lvCT (v:=vL ((ulB es n).1) ((ulB es n).2.1) ((ulB es n).2.2)) Tryz.results18 h_5 1 (rd23 rfl rfl rfl) ?_
 have e1:ufE es n pick=0:=by unfold ufE;simp [he,h2]
 have e2:ufL es n pick=ulB es n:=by unfold ufL;simp [he,h2]
 exact ⟨by rw [e1,e2],h_5.st.nowT,h_5.st.gr⟩
 refine rg_ h_3 (tri 7) [K_ (vI (ulK es n)),K_ bF,K_ bF,K_ (vI pick),K_ bF,K_ bF,K_ bF] (fun E4=>[(2,vI pick),(6,vP (pb E1 1) 0),(7,vI 0),(8,vP (pb E2 8) 0),(9,vP (pb E2 9) 0),(25,bF)]) (hs:=c_ mv_<|c_ (bi0 (vI (ulK es n)) (vI 1) (h:=by intro env w;simp [go_sem,hk]))<|c_ mv_<|c_ (gm0 (vI pick))<|c_ (bi0 (vI pick) (vI 2) (h:=by intro env w;simp [go_sem,h2]))<|c_ (pk0 bF bT bF (h:=by intro env w;simp [go_sem,h2]))<|c_ mv_<|e_) (k:=fun E4 ac wd h_4=>?_)
 clear h_3
 refine then_n ?_
 refine cF_ h_4 ?_
 refine wp_seq ?_
 by_cases h1:pick=1
 refine rg_ h_4 (tri 3) [K_ (vI pick),K_ bT,K_ bT] (fun E5=>[(6,vP (pb E1 1) 0),(7,vI 0),(8,vP (pb E2 8) 0),(33,bT)]) (hs:=c_ mv_<|c_ (bi0 (vI pick) (vI 1) (h:=by intro env w;simp [go_sem,h1]))<|c_ mv_<|e_) (k:=fun E5 ac wd h_5=>?_)
 clear h_4
 refine then_n ?_
 refine cT_ h_5 ?_
 refine wp_seq ?_
 refine rg_ h_5 (tri 3) [K_ (vL ((ulA es n).1) ((ulA es n).2.1) ((ulA es n).2.2)),none,K_ (vI 0)] (fun E6=>[(6,vP (pb E1 1) 0),(7,vI 0)]) (S:=[⟨1,1,fun _=>[vI ((ulA es n).1),vI ((ulA es n).2.1),vI ((ulA es n).2.2)]⟩]) (M':=fun E6=>[((pb E1 0),26,[vI (hi (n)),.int .u64 (lo (n))]),((pb E1 1),23,[vI ((ulA es n).1),vI ((ulA es n).2.1),vI ((ulA es n).2.2)]),((pb E2 8),23,[vI ((ulA es n).1),vI ((ulA es n).2.1),vI ((ulA es n).2.2)]),((pb E2 9),23,[vI ((ulB es n).1),vI ((ulB es n).2.1),vI ((ulB es n).2.2)])]) (hs:=c_ (ld_ 2 (hrd:=by exact rd23 rfl rfl rfl))<|c_ (se_ 1 (hst:=by exact fun _ _ _ hc=>st23 rfl rfl rfl rfl hc))<|c_ mv_<|e_) (k:=fun E6 ac wd h_6=>?_)
 clear h_5
 refine then_n (wp_ret (blk_ret (then_ret ?_)))
 refine lvCT (v:=vL ((ulA es n).1) ((ulA es n).2.1) ((ulA es n).2.2)) Tryz.results18 h_6 1 (rd23 rfl rfl rfl) ?_
 have e1:ufE es n pick=0:=by unfold ufE;simp [he,hk,h2,h1]
 have e2:ufL es n pick=ulA es n:=by unfold ufL;simp [he,hk,h2,h1]
 exact ⟨by rw [e1,e2],h_6.st.nowT,h_6.st.gr⟩
 refine rg_ h_4 (tri 3) [K_ (vI pick),K_ bF,K_ bF] (fun E5=>[(6,vP (pb E1 1) 0),(7,vI 0),(8,vP (pb E2 8) 0),(33,bF)]) (hs:=c_ mv_<|c_ (bi0 (vI pick) (vI 1) (h:=by intro env w;simp [go_sem,h1]))<|c_ mv_<|e_) (k:=fun E5 ac wd h_5=>?_)
 clear h_4
 refine then_n ?_
 refine cF_ h_5 ?_
 refine wp_skip (blk_n (then_n (wp_seq ?_)))
 refine rg_ h_5 (tri 3) [K_ (vL 0 0 0),none,K_ (vI 7)] (fun E6=>[(6,vP (pb E1 1) 0),(7,vI 7)]) (S:=[⟨1,1,fun _=>[vI 0,vI 0,vI 0]⟩]) (M':=fun E6=>[((pb E1 0),26,[vI (hi (n)),.int .u64 (lo (n))]),((pb E1 1),23,[vI 0,vI 0,vI 0]),((pb E2 8),23,[vI ((ulA es n).1),vI ((ulA es n).2.1),vI ((ulA es n).2.2)]),((pb E2 9),23,[vI ((ulB es n).1),vI ((ulB es n).2.1),vI ((ulB es n).2.2)])]) (hs:=c_ (bd0 ([]))<|c_ (se_ 1 (hst:=by exact fun _ _ _ hc=>st23 rfl rfl rfl rfl hc))<|c_ mv_<|e_) (k:=fun E6 ac wd h_6=>?_)
 clear h_5
 refine then_n (wp_ret ?_)
 refine lvCT (v:=vL 0 0 0) Tryz.results18 h_6 1 (rd23 rfl rfl rfl) ?_
 have e1:ufE es n pick=7:=by unfold ufE;simp [he,hk,h2,h1]
 have e2:ufL es n pick=(0,0,0):=by unfold ufL;simp [he,hk,h2,h1]
 exact ⟨by rw [e1,e2],h_6.st.nowT,h_6.st.gr⟩
 refine rg_ h_2 (tri 3) [K_ (vI (ulE es n)),K_ bT,K_ bT] (fun E3=>[(2,vI pick),(6,vP (pb E1 1) 0),(7,vI 0),(8,vP (pb E2 8) 0),(9,vP (pb E2 9) 0),(10,vI (ulK es n)),(11,vI (ulE es n)),(20,bT)]) (hs:=c_ mv_<|c_ (bi0 (vI (ulE es n)) (vI 0) (h:=by intro env w;simp [go_sem,he]))<|c_ mv_<|e_) (k:=fun E3 ac wd h_3=>?_)
 clear h_2
 refine then_n ?_
 refine cT_ h_3 ?_
 refine wp_seq ?_
 refine rg_ h_3 [[0],[1],[0,2],r_ 4] [K_ (vL 0 0 0),K_ (vI (ulE es n)),none,K_ (vI (ulE es n))] (fun E4=>[(6,vP (pb E1 1) 0),(7,vI (ulE es n))]) (S:=[⟨1,2,fun _=>[vI 0,vI 0,vI 0]⟩]) (M':=fun E4=>[((pb E1 0),26,[vI (hi (n)),.int .u64 (lo (n))]),((pb E1 1),23,[vI 0,vI 0,vI 0]),((pb E2 8),23,[vI ((ulA es n).1),vI ((ulA es n).2.1),vI ((ulA es n).2.2)]),((pb E2 9),23,[vI ((ulB es n).1),vI ((ulB es n).2.1),vI ((ulB es n).2.2)])]) (hs:=c_ (bd0 ([]))<|c_ mv_<|c_ (se_ 1 (hst:=by exact fun _ _ _ hc=>st23 rfl rfl rfl rfl hc))<|c_ mv_<|e_) (k:=fun E4 ac wd h_4=>?_)
 clear h_3
 refine then_n (wp_ret (blk_ret (then_ret ?_)))
 refine lvCT (v:=vL 0 0 0) Tryz.results18 h_4 1 (rd23 rfl rfl rfl) ?_
 have e1:ufE es n pick=ulE es n:=by unfold ufE;simp [he]
 have e2:ufL es n pick=(0,0,0):=by unfold ufL;simp [he]
 exact ⟨by rw [e1,e2],h_4.st.nowT,h_4.st.gr⟩
end Go.Proofs.YtdfkghpgekmmlabGreat
namespace Go.Proofs.YtdfkghpgekmmlabGreat
open Go.RowKit
attribute [local go_sem] vN bT bF rS vW vM vL vT2 vT3 vP vI execOp Act.eval evC bigF vB hi_zero lo_zero Tryz.underlying23 Tryz.underlying26 Tryz.underlying41 Tryz.underlying56
theorem ans17_c:vT2 (vW (ucV 41498 86400 5)) (vI (ucE 41498 86400 5))=vT2 (vW 78796800000000000000000005) (vI 0):=by
 rw [show ucV 41498 86400 5=78796800000000000000000005 by decide +kernel,show ucE 41498 86400 5=0 by decide +kernel]
theorem ans17_l:Value.tuple #[vL ((ulA ansT 78796800000000000000000005).1) ((ulA ansT 78796800000000000000000005).2.1) ((ulA ansT 78796800000000000000000005).2.2),vL ((ulB ansT 78796800000000000000000005).1) ((ulB ansT 78796800000000000000000005).2.1) ((ulB ansT 78796800000000000000000005).2.2),vI (ulK ansT 78796800000000000000000005),vI (ulE ansT 78796800000000000000000005)] = .tuple #[vL 41498 86400 5,vL 41499 0 5,vI 2,vI 0]:=by
 rw [show ulA ansT 78796800000000000000000005=(41498,86400,5) by decide +kernel,show ulB ansT 78796800000000000000000005=(41499,0,5) by decide +kernel,show ulK ansT 78796800000000000000000005=2 by decide +kernel,show ulE ansT 78796800000000000000000005=0 by decide +kernel]
theorem ans17_f:vT2 (vL ((ufL ansT 78796800000000000000000005 0).1) ((ufL ansT 78796800000000000000000005 0).2.1) ((ufL ansT 78796800000000000000000005 0).2.2)) (vI (ufE ansT 78796800000000000000000005 0))=vT2 (vL 0 0 0) (vI 7):=by
 rw [show ufL ansT 78796800000000000000000005 0=(0,0,0) by decide +kernel,show ufE ansT 78796800000000000000000005 0=7 by decide +kernel]
theorem answers17_any  : Ret 11 #[] (.bool true):=by
 intro w0
 have hst:=St.start w0 (Θ:=fun _=>True) (fun _ _=>trivial)
 refine en_ Tryz.func11 hst 62 [] (fun ac h=>?_)
 replace h:=h.facts
 refine wp_seq ?_
 refine rf_ h [[0]] [K_ bF] (fun E1=>[(0,bF)]) (hs:=c_ mv_<|e_) (k:=fun E1 ac wd h_1=>?_)
 clear h
 refine then_n (wp_seq ?_)
 refine rf_ h_1 [[0],[1],[0,1,2],r_ 4,r_ 5,r_ 6,r_ 7,[0,1,2,3,4,5,7],[0,1,2,3,4,5,6,8],r_ 10] [K_ (.agg #[vI 2272060800,vI 10]),K_ (.agg #[vI 2287785600,vI 11]),KE_ fun env=>.slice ((sA (env 2))) 2 2,KE_ fun env=>.agg #[vI 0,vI 0,.slice ((sA (env 2))) 2 2],KE_ fun env=>vT2 (vP (ptrB (tp (env 4) 0)) 0) (vI 0),KE_ fun env=>vT2 (vP (ptrB (tp (env 4) 0)) 0) (vI 0),KE_ fun env=>vP (ptrB (tp (env 4) 0)) 0,K_ (vI 0),KE_ fun env=>vP (ptrB (tp (env 4) 0)) 0,K_ (vI 0)] (fun E2=>[(0,bF),(1,vP (ptrB (tp (E2 4) 0)) 0)]) (F:=[(2,fun env w=>EntL w (env 2) ansT),(4,fun env w=>NewCx w (env 4) 0 0 ansT w0.heap.size)]) (L1:=fun E2=>[fun w=>EntL w (E2 2) ansT,fun w=>NewCx w (E2 4) 0 0 ansT w0.heap.size]) (hs:=c_ (bd0 ([vI 2272060800,vI 10]))<|c_ (bd0 ([vI 2287785600,vI 11]))<|c_ (s_bsE rfl rfl (fun _=>wanted_none rfl _) ansT 2 rfl #[vI 2272060800,vI 10,vI 2287785600,vI 11] ans_cs rfl rfl rfl rfl (fun {D env ac wd} hA=>by have e12:ac.tmps[12]? = some (.agg #[vI 2272060800,vI 10]):=hA.g rfl;have e13:ac.tmps[13]? = some (.agg #[vI 2287785600,vI 11]):=hA.g rfl;simp [go_sem,e12,e13,Tryz.underlying39]))<|c_ (bd_ (fun env=>[.slice ((sA (env 2))) 2 2]))<|c_ (s_factT rfl rfl rfl Tryz.func16 (by kernel_rfl) rfl (fun _=>wanted_none rfl _) (fun v w=>NewCx w v 0 0 ansT w0.heap.size) newLF rfl rfl cT rfl (fun v w h=>h.form) (fun v w w' hk h=>h.keep hk) (fun {D env ac wd} hA=>⟨_,hA.args (vs:=[.agg #[vI 0,vI 0,.slice ((sA (env 2))) 2 2]]) rfl,cnew_yes hA.j.st.gr.size (At.ent hA 2 rfl (by decide) rfl rfl rfl) (by simp [I64]) (by simp [I64]) ansT_64 ansT_ok⟩))<|c_ mv_<|c_ ext_<|c_ ext_<|c_ mv_<|c_ mv_<|e_) (k:=fun E2 ac wd h_2=>?_)
 clear h_1
 refine then_n (wp_seq ?_)
 replace h_2:=Cur.exInC h_2 1 rfl;obtain ⟨g,b,h_2⟩:=h_2;generalize ptrB (tp (E2 4) 0)=c at h_2
 refine rf_ h_2 [[0],[0,1],[0,1,2],r_ 4,[0,1,2,4],[5],[0,1,2,3,5,6],r_ 8] [K_ (vL 41498 86400 5),K_ (vT2 (vW 78796800000000000000000005) (vI 0)),K_ (vT2 (vW 78796800000000000000000005) (vI 0)),K_ (vW 78796800000000000000000005),K_ (vI 0),KE_ fun env=>vP (pb env 5) 0,none,K_ (vI 0)] (fun E3=>[(0,bF),(1,vP c 0),(3,vP (pb E3 5) 0),(4,vI 0)]) (W:=[{ i:=5,T:=26,c0:=[vI 0,.int .u64 0],s:=some 6,c1:=fun _=>[vI (hi (78796800000000000000000005)),.int .u64 (lo (78796800000000000000000005))] }]) (M':=fun E3=>[((pb E3 5),26,[vI (hi (78796800000000000000000005)),.int .u64 (lo (78796800000000000000000005))])]) (hs:=c_ (bd0 ([vI 41498,vI 86400,vI 5]))<|c_ (cl_ Tryz.func9 (h:=fun env=>⟨_,(Ret.eq (xcount_any 41498 86400 5) ans17_c),rfl⟩))<|c_ mv_<|c_ ext_<|c_ ext_<|c_ (al_ 0)<|c_ (sw_ 0 5 (hst:=by exact fun _ _ _ hc=>st26 rfl rfl rfl hc))<|c_ mv_<|e_) (k:=fun E3 ac wd h_3=>?_)
 clear h_2
 refine then_n (wp_seq ?_)
 refine rf_ h_3 [[0],[1],[0,1,2],r_ 4,r_ 5,[0,1,2,3,5],[0,1,2,3,6],[0,1,2,3,7],[8],[9],[0,1,2,3,4,8,9,10],[0,1,2,3,4,5,8,9,10,11],[0,1,2,3,4,5,6,8,9,10,11,12],r_ 14] [K_ (vP c 0),K_ (vW 78796800000000000000000005),K_ (.tuple #[vL 41498 86400 5,vL 41499 0 5,vI 2,vI 0]),K_ (.tuple #[vL 41498 86400 5,vL 41499 0 5,vI 2,vI 0]),K_ (vL 41498 86400 5),K_ (vL 41499 0 5),K_ (vI 2),K_ (vI 0),KE_ fun env=>vP (pb env 8) 0,KE_ fun env=>vP (pb env 9) 0,none,none,K_ (vI 2),K_ (vI 0)] (fun E4=>[(0,bF),(1,vP c 0),(3,vP (pb E3 5) 0),(4,vI 0),(5,vP (pb E4 8) 0),(6,vP (pb E4 9) 0),(7,vI 2),(8,vI 0)]) (W:=[{ i:=8,T:=23,c0:=[vI 0,vI 0,vI 0],s:=some 10,c1:=fun _=>[vI 41498,vI 86400,vI 5] },{ i:=9,T:=23,c0:=[vI 0,vI 0,vI 0],s:=some 11,c1:=fun _=>[vI 41499,vI 0,vI 5] }]) (M':=fun E4=>[((pb E3 5),26,[vI (hi (78796800000000000000000005)),.int .u64 (lo (78796800000000000000000005))]),((pb E4 8),23,[vI 41498,vI 86400,vI 5]),((pb E4 9),23,[vI 41499,vI 0,vI 5])]) (hs:=c_ mv_<|c_ (ld_ 0 (hrd:=by exact rd26 rfl rfl))<|c_ (s_clk (c:=c) (g:=g) (b:=b) (u:=0) (x:=0) (es:=ansT) Tryz.func17 (fun _ h=>h) (fun _ h=>h) (h:=fun D env ac wd hA hC=>⟨_,ClkC.eq (xlabels_c _ c g b 0 0 ansT hC 78796800000000000000000005 (by unfold InW;omega)) ans17_l,rfl⟩))<|c_ mv_<|c_ ext_<|c_ ext_<|c_ ext_<|c_ ext_<|c_ (al_ 1)<|c_ (al_ 2)<|c_ (sw_ 1 8 (hst:=by exact fun _ _ _ hc=>st23 rfl rfl rfl rfl hc))<|c_ (sw_ 2 9 (hst:=by exact fun _ _ _ hc=>st23 rfl rfl rfl rfl hc))<|c_ mv_<|c_ mv_<|e_) (k:=fun E4 ac wd h_4=>?_)
 clear h_3
 refine then_n (wp_seq ?_)
 refine rf_ h_4 [[0],[1],[0,1,2],r_ 4,r_ 5,[0,1,2,3,5],[6],[0,1,2,3,4,6,7],r_ 9] [K_ (vP c 0),K_ (vW 78796800000000000000000005),K_ (vT2 (vL 0 0 0) (vI 7)),K_ (vT2 (vL 0 0 0) (vI 7)),K_ (vL 0 0 0),K_ (vI 7),KE_ fun env=>vP (pb env 6) 0,none,K_ (vI 7)] (fun E5=>[(0,bF),(4,vI 0),(5,vP (pb E4 8) 0),(6,vP (pb E4 9) 0),(7,vI 2),(8,vI 0),(10,vI 7)]) (W:=[{ i:=6,T:=23,c0:=[vI 0,vI 0,vI 0],s:=some 7,c1:=fun _=>[vI 0,vI 0,vI 0] }]) (M':=fun E5=>[((pb E3 5),26,[vI (hi (78796800000000000000000005)),.int .u64 (lo (78796800000000000000000005))]),((pb E4 8),23,[vI 41498,vI 86400,vI 5]),((pb E4 9),23,[vI 41499,vI 0,vI 5]),((pb E5 6),23,[vI 0,vI 0,vI 0])]) (hs:=c_ mv_<|c_ (ld_ 0 (hrd:=by exact rd26 rfl rfl))<|c_ (s_clk (c:=c) (g:=g) (b:=b) (u:=0) (x:=0) (es:=ansT) Tryz.func18 (fun _ h=>h) (fun _ h=>h) (h:=fun D env ac wd hA hC=>⟨_,ClkC.eq (xfind_c _ c g b 0 0 ansT hC 78796800000000000000000005 0 (by unfold InW;omega)) ans17_f,rfl⟩))<|c_ mv_<|c_ ext_<|c_ ext_<|c_ (al_ 3)<|c_ (sw_ 3 6 (hst:=by exact fun _ _ _ hc=>st23 rfl rfl rfl rfl hc))<|c_ mv_<|e_) (k:=fun E5 ac wd h_5=>?_)
 clear h_4
 refine then_n (wp_seq ?_)
 refine rf_ h_5 [[0],[0,1],[0,1,2],r_ 4,r_ 5,r_ 6,r_ 7,r_ 8,r_ 9,r_ 10,r_ 11,r_ 12,[0,1,2,3,4,5,6,7,8,9,10,12],r_ 14,r_ 15,r_ 16,r_ 17,[0,1,2,3,4,5,6,7,8,9,10,11,12,13,14,15,17],r_ 19,r_ 20,r_ 21,r_ 22,r_ 23,r_ 24,r_ 25] [K_ (vI 0),K_ bT,K_ bT,K_ (vI 0),K_ bT,K_ bT,K_ bT,K_ (vI 2),K_ bT,K_ bT,K_ bT,K_ (vL 41498 86400 5),K_ (vL 41498 86400 5),K_ bT,K_ bT,K_ bT,K_ (vL 41499 0 5),K_ (vL 41499 0 5),K_ bT,K_ bT,K_ bT,K_ (vI 7),K_ bT,K_ bT,K_ bT] (fun E6=>[(0,bT)]) (hs:=c_ mv_<|c_ (bi0 (vI 0) (vI 0) (h:=by intro env w;(first | (simp [go_sem];done) | (simp [go_sem];rfl))))<|c_ mv_<|c_ (gm0 (vI 0))<|c_ (bi0 (vI 0) (vI 0) (h:=by intro env w;(first | (simp [go_sem];done) | (simp [go_sem];rfl))))<|c_ (pk0 bT bT bF (h:=by intro env w;(first | (simp [go_sem];done) | (simp [go_sem];rfl))))<|c_ mv_<|c_ (gm0 (vI 2))<|c_ (bi0 (vI 2) (vI 2) (h:=by intro env w;(first | (simp [go_sem];done) | (simp [go_sem];rfl))))<|c_ (pk0 bT bT bF (h:=by intro env w;(first | (simp [go_sem];done) | (simp [go_sem];rfl))))<|c_ mv_<|c_ (ld_ 1 (hrd:=by exact rd23 rfl rfl rfl))<|c_ (bd0 ([vI 41498,vI 86400,vI 5]))<|c_ (bi0 (vL 41498 86400 5) (vL 41498 86400 5) (h:=by intro env w;(first | (simp [go_sem];done) | (simp [go_sem];rfl))))<|c_ (pk0 bT bT bF (h:=by intro env w;(first | (simp [go_sem];done) | (simp [go_sem];rfl))))<|c_ mv_<|c_ (ld_ 2 (hrd:=by exact rd23 rfl rfl rfl))<|c_ (bd0 ([vI 41499,vI 5]))<|c_ (bi0 (vL 41499 0 5) (vL 41499 0 5) (h:=by intro env w;(first | (simp [go_sem];done) | (simp [go_sem];rfl))))<|c_ (pk0 bT bT bF (h:=by intro env w;(first | (simp [go_sem];done) | (simp [go_sem];rfl))))<|c_ mv_<|c_ (gm0 (vI 7))<|c_ (bi0 (vI 7) (vI 7) (h:=by intro env w;(first | (simp [go_sem];done) | (simp [go_sem];rfl))))<|c_ (pk0 bT bT bF (h:=by intro env w;(first | (simp [go_sem];done) | (simp [go_sem];rfl))))<|c_ mv_<|e_) (k:=fun E6 ac wd h_6=>?_)
 clear h_5
 refine then_n (wp_ret ?_)
 refine lvT Tryz.results11 h_6 ?_
 exact ⟨rfl,h_6.st.below⟩
end Go.Proofs.YtdfkghpgekmmlabGreat
namespace Go.Proofs.YtdfkghpgekmmlabGreat
open Go.RowKit
attribute [local go_sem] vN bT bF rS vW vM vL vT2 vT3 vP vI execOp Act.eval evC bigF vB hi_zero lo_zero Tryz.underlying23 Tryz.underlying36 Tryz.underlying41
theorem lab_info:(Tryz.prog.info? 23).map (fun i=>(i.zero,i.size,i.bytes))=some (some (.agg #[vI 0,vI 0,vI 0]),3,24):=by kernel_rfl
def labC (l:List (Int × Int × Int)) (i:Nat):Value:=vI (match i % 3 with | 0=>(l.getD (i / 3) (0,0,0)).1 | 1=>(l.getD (i / 3) (0,0,0)).2.1 | _=>(l.getD (i / 3) (0,0,0)).2.2)
theorem labC1 (p q r:Int):∀ i,i < 1*3→([] ++ [vI p,vI q,vI r]:List Value)[i]? = some (labC [(p,q,r)] i):=by
  intro i hi
  match i,hi with
  | 0,_=>rfl
  | 1,_=>rfl
  | 2,_=>rfl
  | i+3,hi=>exact absurd hi (by omega)
theorem labC2 (p q r p' q' r':Int):∀ i,i < 2*3→(([] ++ [vI p,vI q,vI r]) ++ [vI p',vI q',vI r']:List Value)[i]? = some (labC [(p,q,r),(p',q',r')] i):=by
  intro i hi
  match i,hi with
  | 0,_=>rfl
  | 1,_=>rfl
  | 2,_=>rfl
  | 3,_=>rfl
  | 4,_=>rfl
  | 5,_=>rfl
  | i+6,hi=>exact absurd hi (by omega)
theorem OwnK.rx {T:TypeId} {k:Nat} {w:World} {B:Nat} {v:Value} {n:Nat} {cs:List Value} (hn:n≤100) (h:OwnK T k w B v n cs) (hl:cs.length=n*k):RowU w v n k (fun i=>cs.getD i undef):=
 (h.rowT (by omega) (fun i hi=>by rw [List.getD_eq_getElem?_getD,List.getElem?_eq_getElem (by omega)];rfl)).u
theorem rowNil {w:World}:RowT 23 w (.slice none 0 0) 0 3 (labC []):=⟨none,0,rfl,Nat.le_refl _,by omega,.inl rfl⟩
def LabT (w:World) (v:Value) (k:Nat) (l:List (Int × Int × Int)) (e:Int):Prop:=v = .tuple #[tp v 0,vI e]∧RowT 23 w (tp v 0) k 3 (labC l)
def labF (k:Nat) (e:Int) (v:Value):Value:=.tuple #[.slice (sA (tp v 0)) k (sC (tp v 0)),vI e]
section
variable {w w':World} {v:Value} {k:Nat} {l:List (Int × Int × Int)} {e:Int}
theorem LabT.form (h:LabT w v k l e):v=labF k e v:=by
 unfold labF
 rw [← h.2.form]
 exact h.1
theorem LabT.keep (h:LabT w v k l e) (hk:KeepT [23] none w w'):LabT w' v k l e:=⟨h.1,h.2.keep (Ts:=[23]) rfl hk (fun _ h=>by cases h)⟩
end
theorem LabT.keepB {w w':World} {v:Value} {k:Nat} {l:List (Int × Int × Int)} {e:Int} {B:Nat} (hk:∀ b,B≤b→b < w.heap.size→w'.heap[b]? = w.heap[b]?) (hB:∀ b,(tp v 0).ownBlock=some b→B≤b) (h:LabT w v k l e):LabT w' v k l e:=by
  refine ⟨h.1,?_⟩
  obtain ⟨A,c,h1,h2,h3,h4⟩:=h.2
  refine ⟨A,c,h1,h2,h3,?_⟩
  rcases h4 with h4 | ⟨b,off,cur,fz,rfl,hb,hc⟩
  · exact .inl h4
  · exact .inr ⟨b,off,cur,fz,rfl,by rw [hk b (hB b (by rw [h1];rfl)) (lt_of_some hb)];exact hb,hc⟩
section
variable {P:Program} {R:Reg} {Q:Exit→Act→World→Prop} {i:Nat} {o:Oper}
theorem s_factN (ho:R.ops[i]? = some o) (hf:free' R i=true) {f:FuncId} {fn:Func} {ps:Array Operand} {ts:Array TypeId} (hop:o.op = .call { callee:=.value (.func f),args:=ps,argTypes:=ts })
    (hfn:P.funcs[f]? = some fn) (hname:(fn.name == "runtime.NumGoroutine")=false) (hb:fn.body.isSome=true) (hw:∀ {D env a w},At R i D env a w→Region.wanted o (yielded R.ops a.tmps)=true) (φ:Value→World→Prop) (form:Value→Value) (hV:R.v? i=some fun env=>form (env i)) (hF:R.F.filter (fun p=>Nat.beq p.1 i)=[(i,fun env w=>φ (env i) w)])
    (hx:R.ex=none) (hφ:∀ v w,φ v w→v=form v) (hst:∀ v w w' B,(∀ b,B≤b→b < w.heap.size→w'.heap[b]? = w.heap[b]?)→φ v w→(∀ b,(tp v 0).ownBlock=some b→B≤b)→φ v w')
    (h:∀ {D env a w},At R i D env a w→∃ args,ps.map a.eval=args∧Calls P f args w fun e w'=>∃ v,e = .returned v∧Below w.heap.size w w'∧φ v w'∧∀ b,(tp v 0).ownBlock=some b→w.heap.size≤b):SR P Q R i:=
  s_callx ho hf hop hfn hname hb (fun {D env a w} hA=>by
    obtain ⟨args,ha,hc⟩:=h hA
    refine ⟨hw hA,args,ha,hc.mono ?_⟩
    rintro e w' ⟨v,rfl,hb,h3,h4⟩
    have hs':=hA.j.st.call hb
    exact ⟨v,rfl,hs',fun w'' ha=>f_fact hV hφ hF hA.ok ho (hst v _ _ w.heap.size (fun b h1 h2=>ha.2 b h2 (fun m e hm he=>by have:=lt_of_some (hA.j.st.own m e hm).2;omega) (by rw [hx];simp)) h3 h4)⟩)
end
theorem own_geL {T:TypeId} {k:Nat} {w:World} {B:Nat} {v:Value} {n:Nat} {cs:List Value} (h:OwnK T k w B v n cs) {b:Nat} (hb:v.ownBlock=some b):B≤b:=by
  obtain ⟨_,h2⟩:=h
  rcases h2 with ⟨rfl,_⟩ | ⟨g,cap,cur,rfl,hB,_⟩
  · cases hb
  · simp only [Value.ownBlock,Option.some.injEq] at hb;omega
theorem Facts.labT {L:List (World→Prop)} {w:World} {v:Value} {k:Nat} {l:List (Int × Int × Int)} {e:Int} (h:Facts L w) (j:Nat) (hj:L[j]? = some (fun w=>LabT w v k l e)):RowT 23 w (.slice (sA (tp v 0)) k (sC (tp v 0))) k 3 (labC l):=(show LabT w v k l e from h.get j hj).2.re
theorem rLabels_no (w0:World) (A0:Option Addr) (c0:Nat) (es:List (Int × Int)) (u x:Int) (hv:Ents w0 w0.heap.size (.slice A0 es.length c0) es) (hp:okPre es es.length=true) (hn0:0 < es.length) (p:Bool) (A1:Option Addr) (k1_:Nat) (n:Int) (hp1:p=decide (n < 0)) (hr:Row w0 (.slice A1 (digs n).length k1_) (digs n)) (hn:InW n) (hok:upOk n=false):Calls Tryz.prog 19 #[.agg #[vI u,vI x,.slice A0 es.length c0],.agg #[.bool (p),.slice A1 ((digs n).length) k1_]] w0 fun e w'=>∃ v,e = .returned v∧Below w0.heap.size w0 w'∧LabT w' v 0 [] (2)∧∀ b,(tp v 0).ownBlock=some b→w0.heap.size≤b:=by
 have hst:=St.start w0 (Θ:=fun _=>True) (fun _ _=>trivial)
 refine en_ Tryz.func19 hst 64 [(0,.agg #[vI u,vI x,.slice A0 es.length c0]),(1,.agg #[.bool (p),.slice A1 ((digs n).length) k1_])] (fun ac h=>?_)
 replace h:=h.facts
 refine wp_seq ?_
 refine rf_ h [[0],[1],[2],[2,3]] [KE_ fun env=>vP (pb env 0) 0,KE_ fun env=>vP (pb env 1) 0,K_ (.slice none 0 0),K_ (vI 0)] (fun E1=>[(2,vP (pb E1 0) 0),(3,vP (pb E1 1) 0),(4,.slice none 0 0),(5,vI 0)]) (W:=[{ i:=0,T:=41,c0:=[vI u,vI x,.slice A0 es.length c0] },{ i:=1,T:=36,c0:=[.bool (p),rS n A1 k1_] }]) (M':=fun E1=>[((pb E1 0),41,[vI u,vI x,.slice A0 es.length c0]),((pb E1 1),36,[.bool (p),rS n A1 k1_])]) (hs:=c_ (bx0 0 (.agg #[vI u,vI x,.slice A0 es.length c0]))<|c_ (bx0 1 (.agg #[.bool (p),rS n A1 k1_]))<|c_ mv_<|c_ mv_<|e_) (k:=fun E1 ac wd h_1=>?_)
 clear h
 refine then_n (wp_seq ?_)
 have hn2:=hn;unfold InW at hn2;have hz0:upZ n=n+jn 40587 0 0:=rfl;have hj0:jn 40587 0 0=3506716800000000000000000000:=(by unfold jn;omega);have hno:¬ (-1099511627776≤(n+jn 40587 0 0) / 1000000000000000000 / 86400∧(n+jn 40587 0 0) / 1000000000000000000 / 86400≤1099511627776):=wth_no.1 hok
 refine rf_ h_1 [[0],[1],[1,2],r_ 4,r_ 5,r_ 6,r_ 7,[0,1,2,3,4,5,7],[8],[0,1,2,3,4,5,6,8,9],r_ 11] [K_ (.agg #[.bool (p),rS n A1 k1_]),K_ (vL 40587 0 0),KE_ fun env=>bigF (jn 40587 0 0) (env 2),KE_ fun env=>bigF (n+jn 40587 0 0) (env 3),K_ (vT2 (vL 0 0 0) bF),K_ (vT2 (vL 0 0 0) bF),K_ (vL 0 0 0),K_ bF,KE_ fun env=>vP (pb env 8) 0,none,K_ bF] (fun E2=>[(2,vP (pb E1 0) 0),(4,.slice none 0 0),(5,vI 0),(6,vP (pb E2 8) 0),(7,bF)]) (W:=[{ i:=8,T:=23,c0:=[vI 0,vI 0,vI 0],s:=some 9,c1:=fun _=>[vI 0,vI 0,vI 0] }]) (F:=[(2,fun env w=>BigN w0.heap.size w (env 2) (jn 40587 0 0)),(3,fun env w=>BigN w0.heap.size w (env 3) (n+jn 40587 0 0))]) (L1:=fun E2=>[fun w=>BigN w0.heap.size w (E2 2) (jn 40587 0 0),fun w=>BigN w0.heap.size w (E2 3) (n+jn 40587 0 0)]) (M':=fun E2=>[((pb E1 0),41,[vI u,vI x,.slice A0 es.length c0]),((pb E1 1),36,[.bool (p),rS n A1 k1_]),((pb E2 8),23,[vI 0,vI 0,vI 0])]) (hs:=c_ (ld_ 1 (hrd:=by exact rd36 rfl rfl))<|c_ (bd0 ([vI 40587]))<|c_ (cb_ Tryz.func25 (jn 40587 0 0) (h:=fun _ env _ wd hA=>⟨_,Join_any wd 40587 0 0 (by omega) (by omega) (by omega) (by omega) (by omega) (by omega),rfl⟩))<|c_ (cb_ Tryz.func27 (n+jn 40587 0 0) (h:=fun _ env _ wd hA=>⟨_,Add_any wd p A1 k1_ n hp1 (hr.grown hA.j.st.gr) (y_smw hn) (decide (jn 40587 0 0 < 0)) (bA (env 2)) (bC (env 2)) (jn 40587 0 0) rfl (At.bigN hA 2 rfl rfl rfl) (by unfold jn Sm;omega),rfl⟩))<|c_ (cw_ Tryz.func44 (h:=fun _ env _ wd hA=>⟨_,Split_no wd (decide (n+jn 40587 0 0 < 0)) (bA (env 3)) (bC (env 3)) (n+jn 40587 0 0) rfl (At.bigN hA 3 rfl rfl rfl) (by rw [hj0];unfold Sm;omega) (by rw [hj0];omega) (by rw [hj0];omega) hno,rfl⟩))<|c_ mv_<|c_ ext_<|c_ ext_<|c_ (al_ 2)<|c_ (sw_ 2 8 (hst:=by exact fun _ _ _ hc=>st23 rfl rfl rfl rfl hc))<|c_ mv_<|e_) (k:=fun E2 ac wd h_2=>?_)
 clear h_1
 refine then_n (wp_seq (wp_seq ?_))
 refine rf_ h_2 [[0],[0,1]] [K_ bF,K_ bT] (fun E3=>[(2,vP (pb E1 0) 0),(4,.slice none 0 0),(5,vI 0),(6,vP (pb E2 8) 0),(23,bT)]) (hs:=c_ mv_<|c_ (un0 bF)<|e_) (k:=fun E3 ac wd h_3=>?_)
 clear h_2
 refine then_n ?_
 refine cT_ h_3 ?_
 refine wp_seq ?_
 refine rf_ h_3 [[0],[0,1]] [K_ (.slice none 0 0),K_ (vI 2)] (fun E4=>[(2,vP (pb E1 0) 0),(4,.slice none 0 0),(5,vI 2),(6,vP (pb E2 8) 0)]) (hs:=c_ mv_<|c_ mv_<|e_) (k:=fun E4 ac wd h_4=>?_)
 clear h_3
 refine then_n (wp_ret (then_ret ?_))
 have s4:=h_4.g (t:=4) rfl
 have s5:=h_4.g (t:=5) rfl
 refine leave (v:=vT2 (.slice none 0 0) (vI 2)) h_4.df (by simp [results,Tryz.results19,go_sem,Array.getD_eq_getD_getElem?,s4,s5]) ?_
 exact ⟨_,rfl,h_4.st.below,⟨rfl,rowNil⟩,fun b hb=>by cases hb⟩
theorem rLabels_fl (w0:World) (A0:Option Addr) (c0:Nat) (es:List (Int × Int)) (u x:Int) (hv:Ents w0 w0.heap.size (.slice A0 es.length c0) es) (hp:okPre es es.length=true) (hn0:0 < es.length) (p:Bool) (A1:Option Addr) (k1_:Nat) (n:Int) (hp1:p=decide (n < 0)) (hr:Row w0 (.slice A1 (digs n).length k1_) (digs n)) (hn:InW n) (hok:upOk n=true) (hF:upF es n=true) (hL:upL es n=0):Calls Tryz.prog 19 #[.agg #[vI u,vI x,.slice A0 es.length c0],.agg #[.bool (p),.slice A1 ((digs n).length) k1_]] w0 fun e w'=>∃ v,e = .returned v∧Below w0.heap.size w0 w'∧LabT w' v 2 [(upD n-1,86400,upA n),(upD n,upS n,upA n)] (0)∧∀ b,(tp v 0).ownBlock=some b→w0.heap.size≤b:=by
 have hst:=St.start w0 (Θ:=fun _=>True) (fun _ _=>trivial)
 refine en_ Tryz.func19 hst 64 [(0,.agg #[vI u,vI x,.slice A0 es.length c0]),(1,.agg #[.bool (p),.slice A1 ((digs n).length) k1_])] (fun ac h=>?_)
 replace h:=h.facts
 refine wp_seq ?_
 refine rf_ h [[0],[1],[2],[2,3]] [KE_ fun env=>vP (pb env 0) 0,KE_ fun env=>vP (pb env 1) 0,K_ (.slice none 0 0),K_ (vI 0)] (fun E1=>[(2,vP (pb E1 0) 0),(3,vP (pb E1 1) 0),(4,.slice none 0 0),(5,vI 0)]) (W:=[{ i:=0,T:=41,c0:=[vI u,vI x,.slice A0 es.length c0] },{ i:=1,T:=36,c0:=[.bool (p),rS n A1 k1_] }]) (M':=fun E1=>[((pb E1 0),41,[vI u,vI x,.slice A0 es.length c0]),((pb E1 1),36,[.bool (p),rS n A1 k1_])]) (hs:=c_ (bx0 0 (.agg #[vI u,vI x,.slice A0 es.length c0]))<|c_ (bx0 1 (.agg #[.bool (p),rS n A1 k1_]))<|c_ mv_<|c_ mv_<|e_) (k:=fun E1 ac wd h_1=>?_)
 clear h
 refine then_n (wp_seq ?_)
 have hn2:=hn;unfold InW at hn2;have hz0:upZ n=n+jn 40587 0 0:=rfl;have hj0:jn 40587 0 0=3506716800000000000000000000:=(by unfold jn;omega);obtain ⟨b1,b2,b3,b4,b5,b6⟩:=upOk_bd hok;obtain ⟨y1,y2⟩:=wth_iff.1 hok;have hL1:tE es x true (upD n) (upS n) (upA n)=upL es n:=tE_lax
 refine rf_ h_1 [[0],[1],[1,2],r_ 4,r_ 5,r_ 6,r_ 7,[0,1,2,3,4,5,7],[8],[0,1,2,3,4,5,6,8,9],r_ 11] [K_ (.agg #[.bool (p),rS n A1 k1_]),K_ (vL 40587 0 0),KE_ fun env=>bigF (jn 40587 0 0) (env 2),KE_ fun env=>bigF (n+jn 40587 0 0) (env 3),K_ (vT2 (vL (upD n) (upS n) (upA n)) bT),K_ (vT2 (vL (upD n) (upS n) (upA n)) bT),K_ (vL (upD n) (upS n) (upA n)),K_ bT,KE_ fun env=>vP (pb env 8) 0,none,K_ bT] (fun E2=>[(2,vP (pb E1 0) 0),(4,.slice none 0 0),(5,vI 0),(6,vP (pb E2 8) 0),(7,bT)]) (W:=[{ i:=8,T:=23,c0:=[vI 0,vI 0,vI 0],s:=some 9,c1:=fun _=>[vI (upD n),vI (upS n),vI (upA n)] }]) (F:=[(2,fun env w=>BigN w0.heap.size w (env 2) (jn 40587 0 0)),(3,fun env w=>BigN w0.heap.size w (env 3) (n+jn 40587 0 0))]) (L1:=fun E2=>[fun w=>BigN w0.heap.size w (E2 2) (jn 40587 0 0),fun w=>BigN w0.heap.size w (E2 3) (n+jn 40587 0 0)]) (M':=fun E2=>[((pb E1 0),41,[vI u,vI x,.slice A0 es.length c0]),((pb E1 1),36,[.bool (p),rS n A1 k1_]),((pb E2 8),23,[vI (upD n),vI (upS n),vI (upA n)])]) (hs:=c_ (ld_ 1 (hrd:=by exact rd36 rfl rfl))<|c_ (bd0 ([vI 40587]))<|c_ (cb_ Tryz.func25 (jn 40587 0 0) (h:=fun _ env _ wd hA=>⟨_,Join_any wd 40587 0 0 (by omega) (by omega) (by omega) (by omega) (by omega) (by omega),rfl⟩))<|c_ (cb_ Tryz.func27 (n+jn 40587 0 0) (h:=fun _ env _ wd hA=>⟨_,Add_any wd p A1 k1_ n hp1 (hr.grown hA.j.st.gr) (y_smw hn) (decide (jn 40587 0 0 < 0)) (bA (env 2)) (bC (env 2)) (jn 40587 0 0) rfl (At.bigN hA 2 rfl rfl rfl) (by unfold jn Sm;omega),rfl⟩))<|c_ (cw_ Tryz.func44 (h:=fun _ env _ wd hA=>⟨_,(u_res_eq (Split_yes wd (decide (n+jn 40587 0 0 < 0)) (bA (env 3)) (bC (env 3)) (n+jn 40587 0 0) rfl (At.bigN hA 3 rfl rfl rfl) (by rw [hj0];unfold Sm;omega) y1 y2) rfl),rfl⟩))<|c_ mv_<|c_ ext_<|c_ ext_<|c_ (al_ 2)<|c_ (sw_ 2 8 (hst:=by exact fun _ _ _ hc=>st23 rfl rfl rfl rfl hc))<|c_ mv_<|e_) (k:=fun E2 ac wd h_2=>?_)
 clear h_1
 refine then_n (wp_seq (wp_seq ?_))
 refine rf_ h_2 [[0],[0,1]] [K_ bT,K_ bF] (fun E3=>[(2,vP (pb E1 0) 0),(4,.slice none 0 0),(5,vI 0),(6,vP (pb E2 8) 0),(23,bF)]) (hs:=c_ mv_<|c_ (un0 bT)<|e_) (k:=fun E3 ac wd h_3=>?_)
 clear h_2
 refine then_n ?_
 refine cF_ h_3 ?_
 refine wp_skip (then_n (wp_seq ?_))
 refine rf_ h_3 [[0]] [K_ (.slice none 0 0)] (fun E4=>[(2,vP (pb E1 0) 0),(4,.slice none 0 0),(5,vI 0),(6,vP (pb E2 8) 0),(8,.slice none 0 0)]) (hs:=c_ mv_<|e_) (k:=fun E4 ac wd h_4=>?_)
 clear h_3
 refine then_n (wp_seq ?_)
 refine rf_ h_4 [[0],[0,1],[0,1,2],[3],[3,4],r_ 6,[6],r_ 8] [K_ (vP (pb E2 8) 0),K_ (vI (upD n)),K_ (vI (upD n-1)),K_ (vP (pb E2 8) 2),K_ (vI (upA n)),K_ (vL (upD n-1) 86400 (upA n)),KE_ fun env=>vP (pb env 6) 0,none] (fun E5=>[(2,vP (pb E1 0) 0),(4,.slice none 0 0),(5,vI 0),(6,vP (pb E2 8) 0),(8,.slice none 0 0),(9,vP (pb E5 6) 0)]) (W:=[{ i:=6,T:=23,c0:=[vI 0,vI 0,vI 0],s:=some 7,c1:=fun _=>[vI (upD n-1),vI 86400,vI (upA n)] }]) (M':=fun E5=>[((pb E1 0),41,[vI u,vI x,.slice A0 es.length c0]),((pb E1 1),36,[.bool (p),rS n A1 k1_]),((pb E2 8),23,[vI (upD n),vI (upS n),vI (upA n)]),((pb E5 6),23,[vI (upD n-1),vI 86400,vI (upA n)])]) (hs:=c_ (fa0 (vP (pb E2 8) 0))<|c_ (ld_ 2 (hrd:=by exact rd3 rfl))<|c_ (bi0 (vI (upD n)) (vI 1))<|c_ (fa0 (vP (pb E2 8) 0))<|c_ (ld_ 2 (hrd:=by exact rd3 rfl))<|c_ (bd0 ([vI (upD n-1),vI 86400,vI (upA n)]))<|c_ (al_ 3)<|c_ (sw_ 3 6 (hst:=by exact fun _ _ _ hc=>st23 rfl rfl rfl rfl hc))<|e_) (k:=fun E5 ac wd h_5=>?_)
 clear h_4
 refine then_n (wp_seq (wp_seq ?_))
 refine rf_ h_5 [[0],[1],[0,1,2],r_ 4,r_ 5,[0,1,2,3,5],[6],[0,1,2,3,4,6,7],r_ 9] [K_ (.agg #[vI u,vI x,.slice A0 es.length c0]),K_ (vL (upD n-1) 86400 (upA n)),KE_ fun env=>vT2 (bigF (tV es x true (upD n-1) 86400 (upA n)) (tp (env 2) 0)) (vI (tE es x true (upD n-1) 86400 (upA n))),KE_ fun env=>vT2 (bigF (tV es x true (upD n-1) 86400 (upA n)) (tp (env 2) 0)) (vI (tE es x true (upD n-1) 86400 (upA n))),KE_ fun env=>bigF (tV es x true (upD n-1) 86400 (upA n)) (tp (env 2) 0),K_ (vI (tE es x true (upD n-1) 86400 (upA n))),KE_ fun env=>vP (pb env 6) 0,none,K_ (vI (tE es x true (upD n-1) 86400 (upA n)))] (fun E6=>[(2,vP (pb E1 0) 0),(4,.slice none 0 0),(5,vI 0),(6,vP (pb E2 8) 0),(8,.slice none 0 0),(9,vP (pb E5 6) 0),(11,vI (tE es x true (upD n-1) 86400 (upA n)))]) (W:=[{ i:=6,T:=36,c0:=[bF,.slice none 0 0],s:=some 7,c1:=fun env=>[.bool (decide (tV es x true (upD n-1) 86400 (upA n) < 0)),rS (tV es x true (upD n-1) 86400 (upA n)) ((bA (tp (env 2) 0))) ((bC (tp (env 2) 0)))] }]) (F:=[(2,fun env w=>TaiX w0.heap.size w (env 2) (tV es x true (upD n-1) 86400 (upA n)) (tE es x true (upD n-1) 86400 (upA n)))]) (L1:=fun E6=>[fun w=>BigN w0.heap.size w (E2 2) (jn 40587 0 0),fun w=>BigN w0.heap.size w (E2 3) (n+jn 40587 0 0),fun w=>TaiX w0.heap.size w (E6 2) (tV es x true (upD n-1) 86400 (upA n)) (tE es x true (upD n-1) 86400 (upA n))]) (M':=fun E6=>[((pb E1 0),41,[vI u,vI x,.slice A0 es.length c0]),((pb E1 1),36,[.bool (p),rS n A1 k1_]),((pb E2 8),23,[vI (upD n),vI (upS n),vI (upA n)]),((pb E5 6),23,[vI (upD n-1),vI 86400,vI (upA n)]),((pb E6 6),36,[.bool (decide (tV es x true (upD n-1) 86400 (upA n) < 0)),rS (tV es x true (upD n-1) 86400 (upA n)) ((bA (tp (E6 2) 0))) ((bC (tp (E6 2) 0)))])]) (hs:=c_ (ld_ 0 (hrd:=by exact rd41 rfl rfl rfl))<|c_ (ld_ 3 (hrd:=by exact rd23 rfl rfl rfl))<|c_ (cf_ Tryz.func45 (fun v w=>TaiX w0.heap.size w v (tV es x true (upD n-1) 86400 (upA n)) (tE es x true (upD n-1) 86400 (upA n))) (taiF (tV es x true (upD n-1) 86400 (upA n)) (tE es x true (upD n-1) 86400 (upA n))) (h:=fun _ env _ wd hA=>⟨_,toTaiX hA.j.st.gr.size (rTai15_any wd A0 c0 es u x (hv.gn hA.j.st.gr) hp hn0 (upD n-1) 86400 (upA n) (by omega) (by omega) (by omega) (by omega) (by omega) (by omega) true),rfl⟩))<|c_ mv_<|c_ ext_<|c_ ext_<|c_ (al_ 4)<|c_ (sw_ 4 6 (hst:=by exact fun _ _ _ hc=>st36 rfl rfl rfl hc))<|c_ mv_<|e_) (k:=fun E6 ac wd h_6=>?_)
 clear h_5
 refine then_n (wp_seq ?_)
 have hF2:upS n=0∧ctE es (upD n-1) 86400 (upA n)=0:=by unfold upF at hF;simpa using hF
 obtain ⟨hS,hE⟩:=hF2
 have hE1:tE es x true (upD n-1) 86400 (upA n)=0:=tE_lax.trans hE
 refine rf_ h_6 (tri 7) [K_ (vP (pb E2 8) 1),K_ (vI (upS n)),K_ bT,K_ bT,K_ (vI (tE es x true (upD n-1) 86400 (upA n))),K_ bT,K_ bT] (fun E7=>[(2,vP (pb E1 0) 0),(4,.slice none 0 0),(5,vI 0),(6,vP (pb E2 8) 0),(8,.slice none 0 0),(9,vP (pb E5 6) 0),(42,bT)]) (hs:=c_ (fa0 (vP (pb E2 8) 0))<|c_ (ld_ 2 (hrd:=by exact rd3 rfl))<|c_ (bi0 (vI (upS n)) (vI 0) (h:=by intro env w;simp [go_sem,hS]))<|c_ mv_<|c_ (gm0 (vI (tE es x true (upD n-1) 86400 (upA n))))<|c_ (bi0 (vI (tE es x true (upD n-1) 86400 (upA n))) (vI 0) (h:=by intro env w;simp [go_sem,hE1]))<|c_ (pk0 bT bT bF (h:=by intro env w;simp [go_sem,hE1]))<|e_) (k:=fun E7 ac wd h_7=>?_)
 clear h_6
 refine then_n ?_
 refine cT_ h_7 ?_
 replace h_7:=(Cur.sel (L1:=[]) h_7 [] rfl).th (Θ':=fun w=>OwnK 23 3 w w0.heap.size (.slice none 0 0) 0 []) (fun w _=>OwnK.nil w _)
 refine rf_ h_7 [[0],[1],[1,2],r_ 4,r_ 5] [K_ (.slice none 0 0),K_ (vL (upD n-1) 86400 (upA n)),KE_ fun env=>.slice (some ⟨(pb env 2),0,none⟩) 1 1,KE_ fun env=>.slice (sA (env 3)) (0+1) (sC (env 3)),KE_ fun env=>.slice (sA (env 3)) (0+1) (sC (env 3))] (fun E8=>[(2,vP (pb E1 0) 0),(4,.slice none 0 0),(5,vI 0),(6,vP (pb E2 8) 0),(8,.slice (sA (E8 3)) (0+1) (sC (E8 3)))]) (W:=[{ i:=2,T:=23,c0:=[vI (upD n-1),vI 86400,vI (upA n)] }]) (th:=(some (3,fun env w=>OwnK 23 3 w w0.heap.size (.slice (sA (env 3)) (0+1) (sC (env 3))) (0+1) ([] ++ [vI (upD n-1),vI 86400,vI (upA n)])))) (T:=fun E8=>fun w=>OwnK 23 3 w w0.heap.size (.slice (sA (E8 3)) (0+1) (sC (E8 3))) (0+1) ([] ++ [vI (upD n-1),vI 86400,vI (upA n)])) (M':=fun E8=>[((pb E1 0),41,[vI u,vI x,.slice A0 es.length c0]),((pb E1 1),36,[.bool (p),rS n A1 k1_]),((pb E2 8),23,[vI (upD n),vI (upS n),vI (upA n)]),((pb E5 6),23,[vI (upD n-1),vI 86400,vI (upA n)]),((pb E6 6),36,[.bool (decide (tV es x true (upD n-1) 86400 (upA n) < 0)),rS (tV es x true (upD n-1) 86400 (upA n)) ((bA (tp (E6 2) 0))) ((bC (tp (E6 2) 0)))]),((pb E8 2),23,[vI (upD n-1),vI 86400,vI (upA n)])]) (hs:=c_ mv_<|c_ (ld_ 3 (hrd:=by exact rd23 rfl rfl rfl))<|c_ (s_bsM rfl rfl 5 rfl rfl 1 rfl (fun {D env ac wd} hA=>by have e44:ac.tmps[44]? = some (vL (upD n-1) 86400 (upA n)):=hA.g rfl;simp [go_sem,e44,Tryz.underlying49]))<|c_ (s_appS rfl rfl rfl rfl Tryz.underlying49 lab_info rfl (by omega) (by omega) rfl rfl (fun _ _ h=>by cases h) rfl (fun _ h=>h) [vI (upD n-1),vI 86400,vI (upA n)] rfl (by simp [Value.oneCell']) rfl (by omega) 2 5 rfl rfl rfl rfl rfl (fun _=>rfl) (fun hA=>hA.e rfl))<|c_ mv_<|e_) (k:=fun E8 ac wd h_8=>?_)
 clear h_7
 refine then_n (wp_seq ?_)
 refine rf_ h_8 [[0],[1],[0,1,2],r_ 4,r_ 5,[0,1,2,3,5],[6],[0,1,2,3,4,6,7],r_ 9] [K_ (.agg #[vI u,vI x,.slice A0 es.length c0]),K_ (vL (upD n) (upS n) (upA n)),KE_ fun env=>vT2 (bigF (tV es x true (upD n) (upS n) (upA n)) (tp (env 2) 0)) (vI (tE es x true (upD n) (upS n) (upA n))),KE_ fun env=>vT2 (bigF (tV es x true (upD n) (upS n) (upA n)) (tp (env 2) 0)) (vI (tE es x true (upD n) (upS n) (upA n))),KE_ fun env=>bigF (tV es x true (upD n) (upS n) (upA n)) (tp (env 2) 0),K_ (vI (tE es x true (upD n) (upS n) (upA n))),KE_ fun env=>vP (pb env 6) 0,none,K_ (vI (tE es x true (upD n) (upS n) (upA n)))] (fun E9=>[(4,.slice none 0 0),(5,vI 0),(6,vP (pb E2 8) 0),(8,.slice (sA (E8 3)) (0+1) (sC (E8 3))),(13,vI (tE es x true (upD n) (upS n) (upA n)))]) (W:=[{ i:=6,T:=36,c0:=[bF,.slice none 0 0],s:=some 7,c1:=fun env=>[.bool (decide (tV es x true (upD n) (upS n) (upA n) < 0)),rS (tV es x true (upD n) (upS n) (upA n)) ((bA (tp (env 2) 0))) ((bC (tp (env 2) 0)))] }]) (F:=[(2,fun env w=>TaiX w0.heap.size w (env 2) (tV es x true (upD n) (upS n) (upA n)) (tE es x true (upD n) (upS n) (upA n)))]) (L1:=fun E9=>[fun w=>TaiX w0.heap.size w (E9 2) (tV es x true (upD n) (upS n) (upA n)) (tE es x true (upD n) (upS n) (upA n))]) (M':=fun E9=>[((pb E1 0),41,[vI u,vI x,.slice A0 es.length c0]),((pb E1 1),36,[.bool (p),rS n A1 k1_]),((pb E2 8),23,[vI (upD n),vI (upS n),vI (upA n)]),((pb E5 6),23,[vI (upD n-1),vI 86400,vI (upA n)]),((pb E6 6),36,[.bool (decide (tV es x true (upD n-1) 86400 (upA n) < 0)),rS (tV es x true (upD n-1) 86400 (upA n)) ((bA (tp (E6 2) 0))) ((bC (tp (E6 2) 0)))]),((pb E8 2),23,[vI (upD n-1),vI 86400,vI (upA n)]),((pb E9 6),36,[.bool (decide (tV es x true (upD n) (upS n) (upA n) < 0)),rS (tV es x true (upD n) (upS n) (upA n)) ((bA (tp (E9 2) 0))) ((bC (tp (E9 2) 0)))])]) (hs:=c_ (ld_ 0 (hrd:=by exact rd41 rfl rfl rfl))<|c_ (ld_ 2 (hrd:=by exact rd23 rfl rfl rfl))<|c_ (cf_ Tryz.func45 (fun v w=>TaiX w0.heap.size w v (tV es x true (upD n) (upS n) (upA n)) (tE es x true (upD n) (upS n) (upA n))) (taiF (tV es x true (upD n) (upS n) (upA n)) (tE es x true (upD n) (upS n) (upA n))) (h:=fun _ env _ wd hA=>⟨_,toTaiX hA.j.st.gr.size (rTai15_any wd A0 c0 es u x (hv.gn hA.j.st.gr) hp hn0 (upD n) (upS n) (upA n) (by omega) (by omega) (by omega) (by omega) (by omega) (by omega) true),rfl⟩))<|c_ mv_<|c_ ext_<|c_ ext_<|c_ (al_ 6)<|c_ (sw_ 6 6 (hst:=by exact fun _ _ _ hc=>st36 rfl rfl rfl hc))<|c_ mv_<|e_) (k:=fun E9 ac wd h_9=>?_)
 clear h_8
 refine then_n (wp_seq (wp_seq ?_))
 refine rf_ h_9 [[0],[0,1]] [K_ (vI (tE es x true (upD n) (upS n) (upA n))),K_ bT] (fun E10=>[(4,.slice none 0 0),(5,vI 0),(6,vP (pb E2 8) 0),(8,.slice (sA (E8 3)) (0+1) (sC (E8 3))),(13,vI (tE es x true (upD n) (upS n) (upA n))),(54,bT)]) (hs:=c_ mv_<|c_ (bi0 (vI (tE es x true (upD n) (upS n) (upA n))) (vI 0) (h:=by intro env w;simp [go_sem,hL1,hL]))<|e_) (k:=fun E10 ac wd h_10=>?_)
 clear h_9
 refine then_n ?_
 refine cT_ h_10 ?_
 replace h_10:=Cur.sel (L1:=[]) h_10 [] rfl
 refine rf_ h_10 [[0],[1],[1,2],r_ 4,r_ 5] [K_ (.slice (sA (E8 3)) (0+1) (sC (E8 3))),K_ (vL (upD n) (upS n) (upA n)),KE_ fun env=>.slice (some ⟨(pb env 2),0,none⟩) 1 1,KE_ fun env=>.slice (sA (env 3)) ((0+1)+1) (sC (env 3)),KE_ fun env=>.slice (sA (env 3)) ((0+1)+1) (sC (env 3))] (fun E11=>[(4,.slice none 0 0),(5,vI 0),(8,.slice (sA (E11 3)) ((0+1)+1) (sC (E11 3))),(13,vI (tE es x true (upD n) (upS n) (upA n)))]) (W:=[{ i:=2,T:=23,c0:=[vI (upD n),vI (upS n),vI (upA n)] }]) (th:=(some (3,fun env w=>OwnK 23 3 w w0.heap.size (.slice (sA (env 3)) ((0+1)+1) (sC (env 3))) ((0+1)+1) (([] ++ [vI (upD n-1),vI 86400,vI (upA n)]) ++ [vI (upD n),vI (upS n),vI (upA n)])))) (T:=fun E11=>fun w=>OwnK 23 3 w w0.heap.size (.slice (sA (E11 3)) ((0+1)+1) (sC (E11 3))) ((0+1)+1) (([] ++ [vI (upD n-1),vI 86400,vI (upA n)]) ++ [vI (upD n),vI (upS n),vI (upA n)])) (M':=fun E11=>[((pb E1 0),41,[vI u,vI x,.slice A0 es.length c0]),((pb E1 1),36,[.bool (p),rS n A1 k1_]),((pb E2 8),23,[vI (upD n),vI (upS n),vI (upA n)]),((pb E5 6),23,[vI (upD n-1),vI 86400,vI (upA n)]),((pb E6 6),36,[.bool (decide (tV es x true (upD n-1) 86400 (upA n) < 0)),rS (tV es x true (upD n-1) 86400 (upA n)) ((bA (tp (E6 2) 0))) ((bC (tp (E6 2) 0)))]),((pb E8 2),23,[vI (upD n-1),vI 86400,vI (upA n)]),((pb E9 6),36,[.bool (decide (tV es x true (upD n) (upS n) (upA n) < 0)),rS (tV es x true (upD n) (upS n) (upA n)) ((bA (tp (E9 2) 0))) ((bC (tp (E9 2) 0)))]),((pb E11 2),23,[vI (upD n),vI (upS n),vI (upA n)])]) (hs:=c_ mv_<|c_ (ld_ 2 (hrd:=by exact rd23 rfl rfl rfl))<|c_ (s_bsM rfl rfl 7 rfl rfl 1 rfl (fun {D env ac wd} hA=>by have e56:ac.tmps[56]? = some (vL (upD n) (upS n) (upA n)):=hA.g rfl;simp [go_sem,e56,Tryz.underlying49]))<|c_ (s_appS rfl rfl rfl rfl Tryz.underlying49 lab_info rfl (by omega) (by omega) rfl rfl (fun _ _ h=>by cases h) rfl (fun _ h=>h) [vI (upD n),vI (upS n),vI (upA n)] rfl (by simp [Value.oneCell']) rfl (by omega) 2 7 rfl rfl rfl rfl rfl (fun _=>rfl) (fun hA=>hA.e rfl))<|c_ mv_<|e_) (k:=fun E11 ac wd h_11=>?_)
 clear h_10
 refine then_n (wp_seq (wp_seq ?_))
 skip
 refine rf_ h_11 (tri 3) [K_ (.slice ((sA (E11 3))) (((0+1)+1)) ((sC (E11 3)))),K_ (vI ((((0+1)+1):Int))),K_ bF] (fun E12=>[(4,.slice none 0 0),(5,vI 0),(8,.slice ((sA (E11 3))) (((0+1)+1)) ((sC (E11 3)))),(13,vI (tE es x true (upD n) (upS n) (upA n))),(61,bF)]) (hs:=c_ mv_<|c_ (ln_ Tryz.underlying49 fun _ env _ wd hA=>((OwnK.rx (by omega) · rfl) (hA.thO rfl)).els)<|c_ (bi0 (vI ((((0+1)+1):Int))) (vI 0))<|e_) (k:=fun E12 ac wd h_12=>?_)
 clear h_11
 refine then_n ?_
 refine cF_ h_12 ?_
 refine wp_skip (then_n (wp_seq ?_))
 refine rf_ h_12 (tri 3) [K_ (.slice ((sA (E11 3))) (((0+1)+1)) ((sC (E11 3)))),K_ (.slice ((sA (E11 3))) (((0+1)+1)) ((sC (E11 3)))),K_ (vI 0)] (fun E13=>[(4,.slice ((sA (E11 3))) (((0+1)+1)) ((sC (E11 3)))),(5,vI 0)]) (hs:=c_ mv_<|c_ mv_<|c_ mv_<|e_) (k:=fun E13 ac wd h_13=>?_)
 clear h_12
 refine then_n (wp_ret ?_)
 have s4:=h_13.g (t:=4) rfl
 have s5:=h_13.g (t:=5) rfl
 refine leave (v:=vT2 (.slice ((sA (E11 3))) (((0+1)+1)) ((sC (E11 3)))) (vI 0)) h_13.df (by simp [results,Tryz.results19,go_sem,Array.getD_eq_getD_getElem?,s4,s5]) ?_
 exact ⟨_,rfl,h_13.st.below,⟨rfl,OwnK.rowP (labC2 (upD n-1) 86400 (upA n) (upD n) (upS n) (upA n)) (by omega) h_13.st.nowT⟩,fun b hb=>own_geL (T:=23) (k:=3) h_13.st.nowT hb⟩
theorem rLabels_f (w0:World) (A0:Option Addr) (c0:Nat) (es:List (Int × Int)) (u x:Int) (hv:Ents w0 w0.heap.size (.slice A0 es.length c0) es) (hp:okPre es es.length=true) (hn0:0 < es.length) (p:Bool) (A1:Option Addr) (k1_:Nat) (n:Int) (hp1:p=decide (n < 0)) (hr:Row w0 (.slice A1 (digs n).length k1_) (digs n)) (hn:InW n) (hok:upOk n=true) (hF:upF es n=true) (hL:¬ upL es n=0):Calls Tryz.prog 19 #[.agg #[vI u,vI x,.slice A0 es.length c0],.agg #[.bool (p),.slice A1 ((digs n).length) k1_]] w0 fun e w'=>∃ v,e = .returned v∧Below w0.heap.size w0 w'∧LabT w' v 1 [(upD n-1,86400,upA n)] (0)∧∀ b,(tp v 0).ownBlock=some b→w0.heap.size≤b:=by
 have hst:=St.start w0 (Θ:=fun _=>True) (fun _ _=>trivial)
 refine en_ Tryz.func19 hst 64 [(0,.agg #[vI u,vI x,.slice A0 es.length c0]),(1,.agg #[.bool (p),.slice A1 ((digs n).length) k1_])] (fun ac h=>?_)
 replace h:=h.facts
 refine wp_seq ?_
 refine rf_ h [[0],[1],[2],[2,3]] [KE_ fun env=>vP (pb env 0) 0,KE_ fun env=>vP (pb env 1) 0,K_ (.slice none 0 0),K_ (vI 0)] (fun E1=>[(2,vP (pb E1 0) 0),(3,vP (pb E1 1) 0),(4,.slice none 0 0),(5,vI 0)]) (W:=[{ i:=0,T:=41,c0:=[vI u,vI x,.slice A0 es.length c0] },{ i:=1,T:=36,c0:=[.bool (p),rS n A1 k1_] }]) (M':=fun E1=>[((pb E1 0),41,[vI u,vI x,.slice A0 es.length c0]),((pb E1 1),36,[.bool (p),rS n A1 k1_])]) (hs:=c_ (bx0 0 (.agg #[vI u,vI x,.slice A0 es.length c0]))<|c_ (bx0 1 (.agg #[.bool (p),rS n A1 k1_]))<|c_ mv_<|c_ mv_<|e_) (k:=fun E1 ac wd h_1=>?_)
 clear h
 refine then_n (wp_seq ?_)
 have hn2:=hn;unfold InW at hn2;have hz0:upZ n=n+jn 40587 0 0:=rfl;have hj0:jn 40587 0 0=3506716800000000000000000000:=(by unfold jn;omega);obtain ⟨b1,b2,b3,b4,b5,b6⟩:=upOk_bd hok;obtain ⟨y1,y2⟩:=wth_iff.1 hok;have hL1:tE es x true (upD n) (upS n) (upA n)=upL es n:=tE_lax
 refine rf_ h_1 [[0],[1],[1,2],r_ 4,r_ 5,r_ 6,r_ 7,[0,1,2,3,4,5,7],[8],[0,1,2,3,4,5,6,8,9],r_ 11] [K_ (.agg #[.bool (p),rS n A1 k1_]),K_ (vL 40587 0 0),KE_ fun env=>bigF (jn 40587 0 0) (env 2),KE_ fun env=>bigF (n+jn 40587 0 0) (env 3),K_ (vT2 (vL (upD n) (upS n) (upA n)) bT),K_ (vT2 (vL (upD n) (upS n) (upA n)) bT),K_ (vL (upD n) (upS n) (upA n)),K_ bT,KE_ fun env=>vP (pb env 8) 0,none,K_ bT] (fun E2=>[(2,vP (pb E1 0) 0),(4,.slice none 0 0),(5,vI 0),(6,vP (pb E2 8) 0),(7,bT)]) (W:=[{ i:=8,T:=23,c0:=[vI 0,vI 0,vI 0],s:=some 9,c1:=fun _=>[vI (upD n),vI (upS n),vI (upA n)] }]) (F:=[(2,fun env w=>BigN w0.heap.size w (env 2) (jn 40587 0 0)),(3,fun env w=>BigN w0.heap.size w (env 3) (n+jn 40587 0 0))]) (L1:=fun E2=>[fun w=>BigN w0.heap.size w (E2 2) (jn 40587 0 0),fun w=>BigN w0.heap.size w (E2 3) (n+jn 40587 0 0)]) (M':=fun E2=>[((pb E1 0),41,[vI u,vI x,.slice A0 es.length c0]),((pb E1 1),36,[.bool (p),rS n A1 k1_]),((pb E2 8),23,[vI (upD n),vI (upS n),vI (upA n)])]) (hs:=c_ (ld_ 1 (hrd:=by exact rd36 rfl rfl))<|c_ (bd0 ([vI 40587]))<|c_ (cb_ Tryz.func25 (jn 40587 0 0) (h:=fun _ env _ wd hA=>⟨_,Join_any wd 40587 0 0 (by omega) (by omega) (by omega) (by omega) (by omega) (by omega),rfl⟩))<|c_ (cb_ Tryz.func27 (n+jn 40587 0 0) (h:=fun _ env _ wd hA=>⟨_,Add_any wd p A1 k1_ n hp1 (hr.grown hA.j.st.gr) (y_smw hn) (decide (jn 40587 0 0 < 0)) (bA (env 2)) (bC (env 2)) (jn 40587 0 0) rfl (At.bigN hA 2 rfl rfl rfl) (by unfold jn Sm;omega),rfl⟩))<|c_ (cw_ Tryz.func44 (h:=fun _ env _ wd hA=>⟨_,(u_res_eq (Split_yes wd (decide (n+jn 40587 0 0 < 0)) (bA (env 3)) (bC (env 3)) (n+jn 40587 0 0) rfl (At.bigN hA 3 rfl rfl rfl) (by rw [hj0];unfold Sm;omega) y1 y2) rfl),rfl⟩))<|c_ mv_<|c_ ext_<|c_ ext_<|c_ (al_ 2)<|c_ (sw_ 2 8 (hst:=by exact fun _ _ _ hc=>st23 rfl rfl rfl rfl hc))<|c_ mv_<|e_) (k:=fun E2 ac wd h_2=>?_)
 clear h_1
 refine then_n (wp_seq (wp_seq ?_))
 refine rf_ h_2 [[0],[0,1]] [K_ bT,K_ bF] (fun E3=>[(2,vP (pb E1 0) 0),(4,.slice none 0 0),(5,vI 0),(6,vP (pb E2 8) 0),(23,bF)]) (hs:=c_ mv_<|c_ (un0 bT)<|e_) (k:=fun E3 ac wd h_3=>?_)
 clear h_2
 refine then_n ?_
 refine cF_ h_3 ?_
 refine wp_skip (then_n (wp_seq ?_))
 refine rf_ h_3 [[0]] [K_ (.slice none 0 0)] (fun E4=>[(2,vP (pb E1 0) 0),(4,.slice none 0 0),(5,vI 0),(6,vP (pb E2 8) 0),(8,.slice none 0 0)]) (hs:=c_ mv_<|e_) (k:=fun E4 ac wd h_4=>?_)
 clear h_3
 refine then_n (wp_seq ?_)
 refine rf_ h_4 [[0],[0,1],[0,1,2],[3],[3,4],r_ 6,[6],r_ 8] [K_ (vP (pb E2 8) 0),K_ (vI (upD n)),K_ (vI (upD n-1)),K_ (vP (pb E2 8) 2),K_ (vI (upA n)),K_ (vL (upD n-1) 86400 (upA n)),KE_ fun env=>vP (pb env 6) 0,none] (fun E5=>[(2,vP (pb E1 0) 0),(4,.slice none 0 0),(5,vI 0),(6,vP (pb E2 8) 0),(8,.slice none 0 0),(9,vP (pb E5 6) 0)]) (W:=[{ i:=6,T:=23,c0:=[vI 0,vI 0,vI 0],s:=some 7,c1:=fun _=>[vI (upD n-1),vI 86400,vI (upA n)] }]) (M':=fun E5=>[((pb E1 0),41,[vI u,vI x,.slice A0 es.length c0]),((pb E1 1),36,[.bool (p),rS n A1 k1_]),((pb E2 8),23,[vI (upD n),vI (upS n),vI (upA n)]),((pb E5 6),23,[vI (upD n-1),vI 86400,vI (upA n)])]) (hs:=c_ (fa0 (vP (pb E2 8) 0))<|c_ (ld_ 2 (hrd:=by exact rd3 rfl))<|c_ (bi0 (vI (upD n)) (vI 1))<|c_ (fa0 (vP (pb E2 8) 0))<|c_ (ld_ 2 (hrd:=by exact rd3 rfl))<|c_ (bd0 ([vI (upD n-1),vI 86400,vI (upA n)]))<|c_ (al_ 3)<|c_ (sw_ 3 6 (hst:=by exact fun _ _ _ hc=>st23 rfl rfl rfl rfl hc))<|e_) (k:=fun E5 ac wd h_5=>?_)
 clear h_4
 refine then_n (wp_seq (wp_seq ?_))
 refine rf_ h_5 [[0],[1],[0,1,2],r_ 4,r_ 5,[0,1,2,3,5],[6],[0,1,2,3,4,6,7],r_ 9] [K_ (.agg #[vI u,vI x,.slice A0 es.length c0]),K_ (vL (upD n-1) 86400 (upA n)),KE_ fun env=>vT2 (bigF (tV es x true (upD n-1) 86400 (upA n)) (tp (env 2) 0)) (vI (tE es x true (upD n-1) 86400 (upA n))),KE_ fun env=>vT2 (bigF (tV es x true (upD n-1) 86400 (upA n)) (tp (env 2) 0)) (vI (tE es x true (upD n-1) 86400 (upA n))),KE_ fun env=>bigF (tV es x true (upD n-1) 86400 (upA n)) (tp (env 2) 0),K_ (vI (tE es x true (upD n-1) 86400 (upA n))),KE_ fun env=>vP (pb env 6) 0,none,K_ (vI (tE es x true (upD n-1) 86400 (upA n)))] (fun E6=>[(2,vP (pb E1 0) 0),(4,.slice none 0 0),(5,vI 0),(6,vP (pb E2 8) 0),(8,.slice none 0 0),(9,vP (pb E5 6) 0),(11,vI (tE es x true (upD n-1) 86400 (upA n)))]) (W:=[{ i:=6,T:=36,c0:=[bF,.slice none 0 0],s:=some 7,c1:=fun env=>[.bool (decide (tV es x true (upD n-1) 86400 (upA n) < 0)),rS (tV es x true (upD n-1) 86400 (upA n)) ((bA (tp (env 2) 0))) ((bC (tp (env 2) 0)))] }]) (F:=[(2,fun env w=>TaiX w0.heap.size w (env 2) (tV es x true (upD n-1) 86400 (upA n)) (tE es x true (upD n-1) 86400 (upA n)))]) (L1:=fun E6=>[fun w=>BigN w0.heap.size w (E2 2) (jn 40587 0 0),fun w=>BigN w0.heap.size w (E2 3) (n+jn 40587 0 0),fun w=>TaiX w0.heap.size w (E6 2) (tV es x true (upD n-1) 86400 (upA n)) (tE es x true (upD n-1) 86400 (upA n))]) (M':=fun E6=>[((pb E1 0),41,[vI u,vI x,.slice A0 es.length c0]),((pb E1 1),36,[.bool (p),rS n A1 k1_]),((pb E2 8),23,[vI (upD n),vI (upS n),vI (upA n)]),((pb E5 6),23,[vI (upD n-1),vI 86400,vI (upA n)]),((pb E6 6),36,[.bool (decide (tV es x true (upD n-1) 86400 (upA n) < 0)),rS (tV es x true (upD n-1) 86400 (upA n)) ((bA (tp (E6 2) 0))) ((bC (tp (E6 2) 0)))])]) (hs:=c_ (ld_ 0 (hrd:=by exact rd41 rfl rfl rfl))<|c_ (ld_ 3 (hrd:=by exact rd23 rfl rfl rfl))<|c_ (cf_ Tryz.func45 (fun v w=>TaiX w0.heap.size w v (tV es x true (upD n-1) 86400 (upA n)) (tE es x true (upD n-1) 86400 (upA n))) (taiF (tV es x true (upD n-1) 86400 (upA n)) (tE es x true (upD n-1) 86400 (upA n))) (h:=fun _ env _ wd hA=>⟨_,toTaiX hA.j.st.gr.size (rTai15_any wd A0 c0 es u x (hv.gn hA.j.st.gr) hp hn0 (upD n-1) 86400 (upA n) (by omega) (by omega) (by omega) (by omega) (by omega) (by omega) true),rfl⟩))<|c_ mv_<|c_ ext_<|c_ ext_<|c_ (al_ 4)<|c_ (sw_ 4 6 (hst:=by exact fun _ _ _ hc=>st36 rfl rfl rfl hc))<|c_ mv_<|e_) (k:=fun E6 ac wd h_6=>?_)
 clear h_5
 refine then_n (wp_seq ?_)
 have hF2:upS n=0∧ctE es (upD n-1) 86400 (upA n)=0:=by unfold upF at hF;simpa using hF
 obtain ⟨hS,hE⟩:=hF2
 have hE1:tE es x true (upD n-1) 86400 (upA n)=0:=tE_lax.trans hE
 refine rf_ h_6 (tri 7) [K_ (vP (pb E2 8) 1),K_ (vI (upS n)),K_ bT,K_ bT,K_ (vI (tE es x true (upD n-1) 86400 (upA n))),K_ bT,K_ bT] (fun E7=>[(2,vP (pb E1 0) 0),(4,.slice none 0 0),(5,vI 0),(6,vP (pb E2 8) 0),(8,.slice none 0 0),(9,vP (pb E5 6) 0),(42,bT)]) (hs:=c_ (fa0 (vP (pb E2 8) 0))<|c_ (ld_ 2 (hrd:=by exact rd3 rfl))<|c_ (bi0 (vI (upS n)) (vI 0) (h:=by intro env w;simp [go_sem,hS]))<|c_ mv_<|c_ (gm0 (vI (tE es x true (upD n-1) 86400 (upA n))))<|c_ (bi0 (vI (tE es x true (upD n-1) 86400 (upA n))) (vI 0) (h:=by intro env w;simp [go_sem,hE1]))<|c_ (pk0 bT bT bF (h:=by intro env w;simp [go_sem,hE1]))<|e_) (k:=fun E7 ac wd h_7=>?_)
 clear h_6
 refine then_n ?_
 refine cT_ h_7 ?_
 replace h_7:=(Cur.sel (L1:=[]) h_7 [] rfl).th (Θ':=fun w=>OwnK 23 3 w w0.heap.size (.slice none 0 0) 0 []) (fun w _=>OwnK.nil w _)
 refine rf_ h_7 [[0],[1],[1,2],r_ 4,r_ 5] [K_ (.slice none 0 0),K_ (vL (upD n-1) 86400 (upA n)),KE_ fun env=>.slice (some ⟨(pb env 2),0,none⟩) 1 1,KE_ fun env=>.slice (sA (env 3)) (0+1) (sC (env 3)),KE_ fun env=>.slice (sA (env 3)) (0+1) (sC (env 3))] (fun E8=>[(2,vP (pb E1 0) 0),(4,.slice none 0 0),(5,vI 0),(6,vP (pb E2 8) 0),(8,.slice (sA (E8 3)) (0+1) (sC (E8 3)))]) (W:=[{ i:=2,T:=23,c0:=[vI (upD n-1),vI 86400,vI (upA n)] }]) (th:=(some (3,fun env w=>OwnK 23 3 w w0.heap.size (.slice (sA (env 3)) (0+1) (sC (env 3))) (0+1) ([] ++ [vI (upD n-1),vI 86400,vI (upA n)])))) (T:=fun E8=>fun w=>OwnK 23 3 w w0.heap.size (.slice (sA (E8 3)) (0+1) (sC (E8 3))) (0+1) ([] ++ [vI (upD n-1),vI 86400,vI (upA n)])) (M':=fun E8=>[((pb E1 0),41,[vI u,vI x,.slice A0 es.length c0]),((pb E1 1),36,[.bool (p),rS n A1 k1_]),((pb E2 8),23,[vI (upD n),vI (upS n),vI (upA n)]),((pb E5 6),23,[vI (upD n-1),vI 86400,vI (upA n)]),((pb E6 6),36,[.bool (decide (tV es x true (upD n-1) 86400 (upA n) < 0)),rS (tV es x true (upD n-1) 86400 (upA n)) ((bA (tp (E6 2) 0))) ((bC (tp (E6 2) 0)))]),((pb E8 2),23,[vI (upD n-1),vI 86400,vI (upA n)])]) (hs:=c_ mv_<|c_ (ld_ 3 (hrd:=by exact rd23 rfl rfl rfl))<|c_ (s_bsM rfl rfl 5 rfl rfl 1 rfl (fun {D env ac wd} hA=>by have e44:ac.tmps[44]? = some (vL (upD n-1) 86400 (upA n)):=hA.g rfl;simp [go_sem,e44,Tryz.underlying49]))<|c_ (s_appS rfl rfl rfl rfl Tryz.underlying49 lab_info rfl (by omega) (by omega) rfl rfl (fun _ _ h=>by cases h) rfl (fun _ h=>h) [vI (upD n-1),vI 86400,vI (upA n)] rfl (by simp [Value.oneCell']) rfl (by omega) 2 5 rfl rfl rfl rfl rfl (fun _=>rfl) (fun hA=>hA.e rfl))<|c_ mv_<|e_) (k:=fun E8 ac wd h_8=>?_)
 clear h_7
 refine then_n (wp_seq ?_)
 refine rf_ h_8 [[0],[1],[0,1,2],r_ 4,r_ 5,[0,1,2,3,5],[6],[0,1,2,3,4,6,7],r_ 9] [K_ (.agg #[vI u,vI x,.slice A0 es.length c0]),K_ (vL (upD n) (upS n) (upA n)),KE_ fun env=>vT2 (bigF (tV es x true (upD n) (upS n) (upA n)) (tp (env 2) 0)) (vI (tE es x true (upD n) (upS n) (upA n))),KE_ fun env=>vT2 (bigF (tV es x true (upD n) (upS n) (upA n)) (tp (env 2) 0)) (vI (tE es x true (upD n) (upS n) (upA n))),KE_ fun env=>bigF (tV es x true (upD n) (upS n) (upA n)) (tp (env 2) 0),K_ (vI (tE es x true (upD n) (upS n) (upA n))),KE_ fun env=>vP (pb env 6) 0,none,K_ (vI (tE es x true (upD n) (upS n) (upA n)))] (fun E9=>[(4,.slice none 0 0),(5,vI 0),(6,vP (pb E2 8) 0),(8,.slice (sA (E8 3)) (0+1) (sC (E8 3))),(13,vI (tE es x true (upD n) (upS n) (upA n)))]) (W:=[{ i:=6,T:=36,c0:=[bF,.slice none 0 0],s:=some 7,c1:=fun env=>[.bool (decide (tV es x true (upD n) (upS n) (upA n) < 0)),rS (tV es x true (upD n) (upS n) (upA n)) ((bA (tp (env 2) 0))) ((bC (tp (env 2) 0)))] }]) (F:=[(2,fun env w=>TaiX w0.heap.size w (env 2) (tV es x true (upD n) (upS n) (upA n)) (tE es x true (upD n) (upS n) (upA n)))]) (L1:=fun E9=>[fun w=>TaiX w0.heap.size w (E9 2) (tV es x true (upD n) (upS n) (upA n)) (tE es x true (upD n) (upS n) (upA n))]) (M':=fun E9=>[((pb E1 0),41,[vI u,vI x,.slice A0 es.length c0]),((pb E1 1),36,[.bool (p),rS n A1 k1_]),((pb E2 8),23,[vI (upD n),vI (upS n),vI (upA n)]),((pb E5 6),23,[vI (upD n-1),vI 86400,vI (upA n)]),((pb E6 6),36,[.bool (decide (tV es x true (upD n-1) 86400 (upA n) < 0)),rS (tV es x true (upD n-1) 86400 (upA n)) ((bA (tp (E6 2) 0))) ((bC (tp (E6 2) 0)))]),((pb E8 2),23,[vI (upD n-1),vI 86400,vI (upA n)]),((pb E9 6),36,[.bool (decide (tV es x true (upD n) (upS n) (upA n) < 0)),rS (tV es x true (upD n) (upS n) (upA n)) ((bA (tp (E9 2) 0))) ((bC (tp (E9 2) 0)))])]) (hs:=c_ (ld_ 0 (hrd:=by exact rd41 rfl rfl rfl))<|c_ (ld_ 2 (hrd:=by exact rd23 rfl rfl rfl))<|c_ (cf_ Tryz.func45 (fun v w=>TaiX w0.heap.size w v (tV es x true (upD n) (upS n) (upA n)) (tE es x true (upD n) (upS n) (upA n))) (taiF (tV es x true (upD n) (upS n) (upA n)) (tE es x true (upD n) (upS n) (upA n))) (h:=fun _ env _ wd hA=>⟨_,toTaiX hA.j.st.gr.size (rTai15_any wd A0 c0 es u x (hv.gn hA.j.st.gr) hp hn0 (upD n) (upS n) (upA n) (by omega) (by omega) (by omega) (by omega) (by omega) (by omega) true),rfl⟩))<|c_ mv_<|c_ ext_<|c_ ext_<|c_ (al_ 6)<|c_ (sw_ 6 6 (hst:=by exact fun _ _ _ hc=>st36 rfl rfl rfl hc))<|c_ mv_<|e_) (k:=fun E9 ac wd h_9=>?_)
 clear h_8
 refine then_n (wp_seq (wp_seq ?_))
 refine rf_ h_9 [[0],[0,1]] [K_ (vI (tE es x true (upD n) (upS n) (upA n))),K_ bF] (fun E10=>[(4,.slice none 0 0),(5,vI 0),(6,vP (pb E2 8) 0),(8,.slice (sA (E8 3)) (0+1) (sC (E8 3))),(13,vI (tE es x true (upD n) (upS n) (upA n))),(54,bF)]) (hs:=c_ mv_<|c_ (bi0 (vI (tE es x true (upD n) (upS n) (upA n))) (vI 0) (h:=by intro env w;simp [go_sem,hL1,hL]))<|e_) (k:=fun E10 ac wd h_10=>?_)
 clear h_9
 refine then_n ?_
 refine cF_ h_10 ?_
 refine wp_skip (then_n (wp_seq (wp_seq ?_)))
 skip
 refine rf_ h_10 (tri 3) [K_ (.slice ((sA (E8 3))) ((0+1)) ((sC (E8 3)))),K_ (vI (((0+1):Int))),K_ bF] (fun E11=>[(4,.slice none 0 0),(5,vI 0),(8,.slice ((sA (E8 3))) ((0+1)) ((sC (E8 3)))),(13,vI (tE es x true (upD n) (upS n) (upA n))),(61,bF)]) (hs:=c_ mv_<|c_ (ln_ Tryz.underlying49 fun _ env _ wd hA=>((OwnK.rx (by omega) · rfl) (hA.thO rfl)).els)<|c_ (bi0 (vI (((0+1):Int))) (vI 0))<|e_) (k:=fun E11 ac wd h_11=>?_)
 clear h_10
 refine then_n ?_
 refine cF_ h_11 ?_
 refine wp_skip (then_n (wp_seq ?_))
 refine rf_ h_11 (tri 3) [K_ (.slice ((sA (E8 3))) ((0+1)) ((sC (E8 3)))),K_ (.slice ((sA (E8 3))) ((0+1)) ((sC (E8 3)))),K_ (vI 0)] (fun E12=>[(4,.slice ((sA (E8 3))) ((0+1)) ((sC (E8 3)))),(5,vI 0)]) (hs:=c_ mv_<|c_ mv_<|c_ mv_<|e_) (k:=fun E12 ac wd h_12=>?_)
 clear h_11
 refine then_n (wp_ret ?_)
 have s4:=h_12.g (t:=4) rfl
 have s5:=h_12.g (t:=5) rfl
 refine leave (v:=vT2 (.slice ((sA (E8 3))) ((0+1)) ((sC (E8 3)))) (vI 0)) h_12.df (by simp [results,Tryz.results19,go_sem,Array.getD_eq_getD_getElem?,s4,s5]) ?_
 exact ⟨_,rfl,h_12.st.below,⟨rfl,OwnK.rowP (labC1 (upD n-1) 86400 (upA n)) (by omega) h_12.st.nowT⟩,fun b hb=>own_geL (T:=23) (k:=3) h_12.st.nowT hb⟩
theorem rLabels_l (w0:World) (A0:Option Addr) (c0:Nat) (es:List (Int × Int)) (u x:Int) (hv:Ents w0 w0.heap.size (.slice A0 es.length c0) es) (hp:okPre es es.length=true) (hn0:0 < es.length) (p:Bool) (A1:Option Addr) (k1_:Nat) (n:Int) (hp1:p=decide (n < 0)) (hr:Row w0 (.slice A1 (digs n).length k1_) (digs n)) (hn:InW n) (hok:upOk n=true) (hF:upF es n=false) (hL:upL es n=0):Calls Tryz.prog 19 #[.agg #[vI u,vI x,.slice A0 es.length c0],.agg #[.bool (p),.slice A1 ((digs n).length) k1_]] w0 fun e w'=>∃ v,e = .returned v∧Below w0.heap.size w0 w'∧LabT w' v 1 [(upD n,upS n,upA n)] (0)∧∀ b,(tp v 0).ownBlock=some b→w0.heap.size≤b:=by
 have hst:=St.start w0 (Θ:=fun _=>True) (fun _ _=>trivial)
 refine en_ Tryz.func19 hst 64 [(0,.agg #[vI u,vI x,.slice A0 es.length c0]),(1,.agg #[.bool (p),.slice A1 ((digs n).length) k1_])] (fun ac h=>?_)
 replace h:=h.facts
 refine wp_seq ?_
 refine rf_ h [[0],[1],[2],[2,3]] [KE_ fun env=>vP (pb env 0) 0,KE_ fun env=>vP (pb env 1) 0,K_ (.slice none 0 0),K_ (vI 0)] (fun E1=>[(2,vP (pb E1 0) 0),(3,vP (pb E1 1) 0),(4,.slice none 0 0),(5,vI 0)]) (W:=[{ i:=0,T:=41,c0:=[vI u,vI x,.slice A0 es.length c0] },{ i:=1,T:=36,c0:=[.bool (p),rS n A1 k1_] }]) (M':=fun E1=>[((pb E1 0),41,[vI u,vI x,.slice A0 es.length c0]),((pb E1 1),36,[.bool (p),rS n A1 k1_])]) (hs:=c_ (bx0 0 (.agg #[vI u,vI x,.slice A0 es.length c0]))<|c_ (bx0 1 (.agg #[.bool (p),rS n A1 k1_]))<|c_ mv_<|c_ mv_<|e_) (k:=fun E1 ac wd h_1=>?_)
 clear h
 refine then_n (wp_seq ?_)
 have hn2:=hn;unfold InW at hn2;have hz0:upZ n=n+jn 40587 0 0:=rfl;have hj0:jn 40587 0 0=3506716800000000000000000000:=(by unfold jn;omega);obtain ⟨b1,b2,b3,b4,b5,b6⟩:=upOk_bd hok;obtain ⟨y1,y2⟩:=wth_iff.1 hok;have hL1:tE es x true (upD n) (upS n) (upA n)=upL es n:=tE_lax
 refine rf_ h_1 [[0],[1],[1,2],r_ 4,r_ 5,r_ 6,r_ 7,[0,1,2,3,4,5,7],[8],[0,1,2,3,4,5,6,8,9],r_ 11] [K_ (.agg #[.bool (p),rS n A1 k1_]),K_ (vL 40587 0 0),KE_ fun env=>bigF (jn 40587 0 0) (env 2),KE_ fun env=>bigF (n+jn 40587 0 0) (env 3),K_ (vT2 (vL (upD n) (upS n) (upA n)) bT),K_ (vT2 (vL (upD n) (upS n) (upA n)) bT),K_ (vL (upD n) (upS n) (upA n)),K_ bT,KE_ fun env=>vP (pb env 8) 0,none,K_ bT] (fun E2=>[(2,vP (pb E1 0) 0),(4,.slice none 0 0),(5,vI 0),(6,vP (pb E2 8) 0),(7,bT)]) (W:=[{ i:=8,T:=23,c0:=[vI 0,vI 0,vI 0],s:=some 9,c1:=fun _=>[vI (upD n),vI (upS n),vI (upA n)] }]) (F:=[(2,fun env w=>BigN w0.heap.size w (env 2) (jn 40587 0 0)),(3,fun env w=>BigN w0.heap.size w (env 3) (n+jn 40587 0 0))]) (L1:=fun E2=>[fun w=>BigN w0.heap.size w (E2 2) (jn 40587 0 0),fun w=>BigN w0.heap.size w (E2 3) (n+jn 40587 0 0)]) (M':=fun E2=>[((pb E1 0),41,[vI u,vI x,.slice A0 es.length c0]),((pb E1 1),36,[.bool (p),rS n A1 k1_]),((pb E2 8),23,[vI (upD n),vI (upS n),vI (upA n)])]) (hs:=c_ (ld_ 1 (hrd:=by exact rd36 rfl rfl))<|c_ (bd0 ([vI 40587]))<|c_ (cb_ Tryz.func25 (jn 40587 0 0) (h:=fun _ env _ wd hA=>⟨_,Join_any wd 40587 0 0 (by omega) (by omega) (by omega) (by omega) (by omega) (by omega),rfl⟩))<|c_ (cb_ Tryz.func27 (n+jn 40587 0 0) (h:=fun _ env _ wd hA=>⟨_,Add_any wd p A1 k1_ n hp1 (hr.grown hA.j.st.gr) (y_smw hn) (decide (jn 40587 0 0 < 0)) (bA (env 2)) (bC (env 2)) (jn 40587 0 0) rfl (At.bigN hA 2 rfl rfl rfl) (by unfold jn Sm;omega),rfl⟩))<|c_ (cw_ Tryz.func44 (h:=fun _ env _ wd hA=>⟨_,(u_res_eq (Split_yes wd (decide (n+jn 40587 0 0 < 0)) (bA (env 3)) (bC (env 3)) (n+jn 40587 0 0) rfl (At.bigN hA 3 rfl rfl rfl) (by rw [hj0];unfold Sm;omega) y1 y2) rfl),rfl⟩))<|c_ mv_<|c_ ext_<|c_ ext_<|c_ (al_ 2)<|c_ (sw_ 2 8 (hst:=by exact fun _ _ _ hc=>st23 rfl rfl rfl rfl hc))<|c_ mv_<|e_) (k:=fun E2 ac wd h_2=>?_)
 clear h_1
 refine then_n (wp_seq (wp_seq ?_))
 refine rf_ h_2 [[0],[0,1]] [K_ bT,K_ bF] (fun E3=>[(2,vP (pb E1 0) 0),(4,.slice none 0 0),(5,vI 0),(6,vP (pb E2 8) 0),(23,bF)]) (hs:=c_ mv_<|c_ (un0 bT)<|e_) (k:=fun E3 ac wd h_3=>?_)
 clear h_2
 refine then_n ?_
 refine cF_ h_3 ?_
 refine wp_skip (then_n (wp_seq ?_))
 refine rf_ h_3 [[0]] [K_ (.slice none 0 0)] (fun E4=>[(2,vP (pb E1 0) 0),(4,.slice none 0 0),(5,vI 0),(6,vP (pb E2 8) 0),(8,.slice none 0 0)]) (hs:=c_ mv_<|e_) (k:=fun E4 ac wd h_4=>?_)
 clear h_3
 refine then_n (wp_seq ?_)
 refine rf_ h_4 [[0],[0,1],[0,1,2],[3],[3,4],r_ 6,[6],r_ 8] [K_ (vP (pb E2 8) 0),K_ (vI (upD n)),K_ (vI (upD n-1)),K_ (vP (pb E2 8) 2),K_ (vI (upA n)),K_ (vL (upD n-1) 86400 (upA n)),KE_ fun env=>vP (pb env 6) 0,none] (fun E5=>[(2,vP (pb E1 0) 0),(4,.slice none 0 0),(5,vI 0),(6,vP (pb E2 8) 0),(8,.slice none 0 0),(9,vP (pb E5 6) 0)]) (W:=[{ i:=6,T:=23,c0:=[vI 0,vI 0,vI 0],s:=some 7,c1:=fun _=>[vI (upD n-1),vI 86400,vI (upA n)] }]) (M':=fun E5=>[((pb E1 0),41,[vI u,vI x,.slice A0 es.length c0]),((pb E1 1),36,[.bool (p),rS n A1 k1_]),((pb E2 8),23,[vI (upD n),vI (upS n),vI (upA n)]),((pb E5 6),23,[vI (upD n-1),vI 86400,vI (upA n)])]) (hs:=c_ (fa0 (vP (pb E2 8) 0))<|c_ (ld_ 2 (hrd:=by exact rd3 rfl))<|c_ (bi0 (vI (upD n)) (vI 1))<|c_ (fa0 (vP (pb E2 8) 0))<|c_ (ld_ 2 (hrd:=by exact rd3 rfl))<|c_ (bd0 ([vI (upD n-1),vI 86400,vI (upA n)]))<|c_ (al_ 3)<|c_ (sw_ 3 6 (hst:=by exact fun _ _ _ hc=>st23 rfl rfl rfl rfl hc))<|e_) (k:=fun E5 ac wd h_5=>?_)
 clear h_4
 refine then_n (wp_seq (wp_seq ?_))
 refine rf_ h_5 [[0],[1],[0,1,2],r_ 4,r_ 5,[0,1,2,3,5],[6],[0,1,2,3,4,6,7],r_ 9] [K_ (.agg #[vI u,vI x,.slice A0 es.length c0]),K_ (vL (upD n-1) 86400 (upA n)),KE_ fun env=>vT2 (bigF (tV es x true (upD n-1) 86400 (upA n)) (tp (env 2) 0)) (vI (tE es x true (upD n-1) 86400 (upA n))),KE_ fun env=>vT2 (bigF (tV es x true (upD n-1) 86400 (upA n)) (tp (env 2) 0)) (vI (tE es x true (upD n-1) 86400 (upA n))),KE_ fun env=>bigF (tV es x true (upD n-1) 86400 (upA n)) (tp (env 2) 0),K_ (vI (tE es x true (upD n-1) 86400 (upA n))),KE_ fun env=>vP (pb env 6) 0,none,K_ (vI (tE es x true (upD n-1) 86400 (upA n)))] (fun E6=>[(2,vP (pb E1 0) 0),(4,.slice none 0 0),(5,vI 0),(6,vP (pb E2 8) 0),(8,.slice none 0 0),(9,vP (pb E5 6) 0),(11,vI (tE es x true (upD n-1) 86400 (upA n)))]) (W:=[{ i:=6,T:=36,c0:=[bF,.slice none 0 0],s:=some 7,c1:=fun env=>[.bool (decide (tV es x true (upD n-1) 86400 (upA n) < 0)),rS (tV es x true (upD n-1) 86400 (upA n)) ((bA (tp (env 2) 0))) ((bC (tp (env 2) 0)))] }]) (F:=[(2,fun env w=>TaiX w0.heap.size w (env 2) (tV es x true (upD n-1) 86400 (upA n)) (tE es x true (upD n-1) 86400 (upA n)))]) (L1:=fun E6=>[fun w=>BigN w0.heap.size w (E2 2) (jn 40587 0 0),fun w=>BigN w0.heap.size w (E2 3) (n+jn 40587 0 0),fun w=>TaiX w0.heap.size w (E6 2) (tV es x true (upD n-1) 86400 (upA n)) (tE es x true (upD n-1) 86400 (upA n))]) (M':=fun E6=>[((pb E1 0),41,[vI u,vI x,.slice A0 es.length c0]),((pb E1 1),36,[.bool (p),rS n A1 k1_]),((pb E2 8),23,[vI (upD n),vI (upS n),vI (upA n)]),((pb E5 6),23,[vI (upD n-1),vI 86400,vI (upA n)]),((pb E6 6),36,[.bool (decide (tV es x true (upD n-1) 86400 (upA n) < 0)),rS (tV es x true (upD n-1) 86400 (upA n)) ((bA (tp (E6 2) 0))) ((bC (tp (E6 2) 0)))])]) (hs:=c_ (ld_ 0 (hrd:=by exact rd41 rfl rfl rfl))<|c_ (ld_ 3 (hrd:=by exact rd23 rfl rfl rfl))<|c_ (cf_ Tryz.func45 (fun v w=>TaiX w0.heap.size w v (tV es x true (upD n-1) 86400 (upA n)) (tE es x true (upD n-1) 86400 (upA n))) (taiF (tV es x true (upD n-1) 86400 (upA n)) (tE es x true (upD n-1) 86400 (upA n))) (h:=fun _ env _ wd hA=>⟨_,toTaiX hA.j.st.gr.size (rTai15_any wd A0 c0 es u x (hv.gn hA.j.st.gr) hp hn0 (upD n-1) 86400 (upA n) (by omega) (by omega) (by omega) (by omega) (by omega) (by omega) true),rfl⟩))<|c_ mv_<|c_ ext_<|c_ ext_<|c_ (al_ 4)<|c_ (sw_ 4 6 (hst:=by exact fun _ _ _ hc=>st36 rfl rfl rfl hc))<|c_ mv_<|e_) (k:=fun E6 ac wd h_6=>?_)
 clear h_5
 refine then_n (wp_seq ?_)
 by_cases hS:upS n=0
 have hE1:¬ tE es x true (upD n-1) 86400 (upA n)=0:=fun h=>(by rw [tE_lax] at h;unfold upF at hF;simp [hS,h] at hF)
 refine rf_ h_6 (tri 7) [K_ (vP (pb E2 8) 1),K_ (vI (upS n)),K_ bT,K_ bT,K_ (vI (tE es x true (upD n-1) 86400 (upA n))),K_ bF,K_ bF] (fun E7=>[(2,vP (pb E1 0) 0),(4,.slice none 0 0),(5,vI 0),(6,vP (pb E2 8) 0),(8,.slice none 0 0),(9,vP (pb E5 6) 0),(42,bF)]) (hs:=c_ (fa0 (vP (pb E2 8) 0))<|c_ (ld_ 2 (hrd:=by exact rd3 rfl))<|c_ (bi0 (vI (upS n)) (vI 0) (h:=by intro env w;simp [go_sem,hS]))<|c_ mv_<|c_ (gm0 (vI (tE es x true (upD n-1) 86400 (upA n))))<|c_ (bi0 (vI (tE es x true (upD n-1) 86400 (upA n))) (vI 0) (h:=by intro env w;simp [go_sem,hE1]))<|c_ (pk0 bT bF bF (h:=by intro env w;simp [go_sem,hE1]))<|e_) (k:=fun E7 ac wd h_7=>?_)
 clear h_6
 refine then_n ?_
 refine cF_ h_7 ?_
 refine wp_skip (then_n (wp_seq ?_))
 refine rf_ h_7 [[0],[1],[0,1,2],r_ 4,r_ 5,[0,1,2,3,5],[6],[0,1,2,3,4,6,7],r_ 9] [K_ (.agg #[vI u,vI x,.slice A0 es.length c0]),K_ (vL (upD n) (upS n) (upA n)),KE_ fun env=>vT2 (bigF (tV es x true (upD n) (upS n) (upA n)) (tp (env 2) 0)) (vI (tE es x true (upD n) (upS n) (upA n))),KE_ fun env=>vT2 (bigF (tV es x true (upD n) (upS n) (upA n)) (tp (env 2) 0)) (vI (tE es x true (upD n) (upS n) (upA n))),KE_ fun env=>bigF (tV es x true (upD n) (upS n) (upA n)) (tp (env 2) 0),K_ (vI (tE es x true (upD n) (upS n) (upA n))),KE_ fun env=>vP (pb env 6) 0,none,K_ (vI (tE es x true (upD n) (upS n) (upA n)))] (fun E8=>[(4,.slice none 0 0),(5,vI 0),(6,vP (pb E2 8) 0),(8,.slice none 0 0),(13,vI (tE es x true (upD n) (upS n) (upA n)))]) (W:=[{ i:=6,T:=36,c0:=[bF,.slice none 0 0],s:=some 7,c1:=fun env=>[.bool (decide (tV es x true (upD n) (upS n) (upA n) < 0)),rS (tV es x true (upD n) (upS n) (upA n)) ((bA (tp (env 2) 0))) ((bC (tp (env 2) 0)))] }]) (F:=[(2,fun env w=>TaiX w0.heap.size w (env 2) (tV es x true (upD n) (upS n) (upA n)) (tE es x true (upD n) (upS n) (upA n)))]) (L1:=fun E8=>[fun w=>BigN w0.heap.size w (E2 2) (jn 40587 0 0),fun w=>BigN w0.heap.size w (E2 3) (n+jn 40587 0 0),fun w=>TaiX w0.heap.size w (E6 2) (tV es x true (upD n-1) 86400 (upA n)) (tE es x true (upD n-1) 86400 (upA n)),fun w=>TaiX w0.heap.size w (E8 2) (tV es x true (upD n) (upS n) (upA n)) (tE es x true (upD n) (upS n) (upA n))]) (M':=fun E8=>[((pb E1 0),41,[vI u,vI x,.slice A0 es.length c0]),((pb E1 1),36,[.bool (p),rS n A1 k1_]),((pb E2 8),23,[vI (upD n),vI (upS n),vI (upA n)]),((pb E5 6),23,[vI (upD n-1),vI 86400,vI (upA n)]),((pb E6 6),36,[.bool (decide (tV es x true (upD n-1) 86400 (upA n) < 0)),rS (tV es x true (upD n-1) 86400 (upA n)) ((bA (tp (E6 2) 0))) ((bC (tp (E6 2) 0)))]),((pb E8 6),36,[.bool (decide (tV es x true (upD n) (upS n) (upA n) < 0)),rS (tV es x true (upD n) (upS n) (upA n)) ((bA (tp (E8 2) 0))) ((bC (tp (E8 2) 0)))])]) (hs:=c_ (ld_ 0 (hrd:=by exact rd41 rfl rfl rfl))<|c_ (ld_ 2 (hrd:=by exact rd23 rfl rfl rfl))<|c_ (cf_ Tryz.func45 (fun v w=>TaiX w0.heap.size w v (tV es x true (upD n) (upS n) (upA n)) (tE es x true (upD n) (upS n) (upA n))) (taiF (tV es x true (upD n) (upS n) (upA n)) (tE es x true (upD n) (upS n) (upA n))) (h:=fun _ env _ wd hA=>⟨_,toTaiX hA.j.st.gr.size (rTai15_any wd A0 c0 es u x (hv.gn hA.j.st.gr) hp hn0 (upD n) (upS n) (upA n) (by omega) (by omega) (by omega) (by omega) (by omega) (by omega) true),rfl⟩))<|c_ mv_<|c_ ext_<|c_ ext_<|c_ (al_ 5)<|c_ (sw_ 5 6 (hst:=by exact fun _ _ _ hc=>st36 rfl rfl rfl hc))<|c_ mv_<|e_) (k:=fun E8 ac wd h_8=>?_)
 clear h_7
 refine then_n (wp_seq (wp_seq ?_))
 refine rf_ h_8 [[0],[0,1]] [K_ (vI (tE es x true (upD n) (upS n) (upA n))),K_ bT] (fun E9=>[(4,.slice none 0 0),(5,vI 0),(6,vP (pb E2 8) 0),(8,.slice none 0 0),(13,vI (tE es x true (upD n) (upS n) (upA n))),(54,bT)]) (hs:=c_ mv_<|c_ (bi0 (vI (tE es x true (upD n) (upS n) (upA n))) (vI 0) (h:=by intro env w;simp [go_sem,hL1,hL]))<|e_) (k:=fun E9 ac wd h_9=>?_)
 clear h_8
 refine then_n ?_
 refine cT_ h_9 ?_
 replace h_9:=(Cur.sel (L1:=[]) h_9 [] rfl).th (Θ':=fun w=>OwnK 23 3 w w0.heap.size (.slice none 0 0) 0 []) (fun w _=>OwnK.nil w _)
 refine rf_ h_9 [[0],[1],[1,2],r_ 4,r_ 5] [K_ (.slice none 0 0),K_ (vL (upD n) (upS n) (upA n)),KE_ fun env=>.slice (some ⟨(pb env 2),0,none⟩) 1 1,KE_ fun env=>.slice (sA (env 3)) (0+1) (sC (env 3)),KE_ fun env=>.slice (sA (env 3)) (0+1) (sC (env 3))] (fun E10=>[(4,.slice none 0 0),(5,vI 0),(8,.slice (sA (E10 3)) (0+1) (sC (E10 3))),(13,vI (tE es x true (upD n) (upS n) (upA n)))]) (W:=[{ i:=2,T:=23,c0:=[vI (upD n),vI (upS n),vI (upA n)] }]) (th:=(some (3,fun env w=>OwnK 23 3 w w0.heap.size (.slice (sA (env 3)) (0+1) (sC (env 3))) (0+1) ([] ++ [vI (upD n),vI (upS n),vI (upA n)])))) (T:=fun E10=>fun w=>OwnK 23 3 w w0.heap.size (.slice (sA (E10 3)) (0+1) (sC (E10 3))) (0+1) ([] ++ [vI (upD n),vI (upS n),vI (upA n)])) (M':=fun E10=>[((pb E1 0),41,[vI u,vI x,.slice A0 es.length c0]),((pb E1 1),36,[.bool (p),rS n A1 k1_]),((pb E2 8),23,[vI (upD n),vI (upS n),vI (upA n)]),((pb E5 6),23,[vI (upD n-1),vI 86400,vI (upA n)]),((pb E6 6),36,[.bool (decide (tV es x true (upD n-1) 86400 (upA n) < 0)),rS (tV es x true (upD n-1) 86400 (upA n)) ((bA (tp (E6 2) 0))) ((bC (tp (E6 2) 0)))]),((pb E8 6),36,[.bool (decide (tV es x true (upD n) (upS n) (upA n) < 0)),rS (tV es x true (upD n) (upS n) (upA n)) ((bA (tp (E8 2) 0))) ((bC (tp (E8 2) 0)))]),((pb E10 2),23,[vI (upD n),vI (upS n),vI (upA n)])]) (hs:=c_ mv_<|c_ (ld_ 2 (hrd:=by exact rd23 rfl rfl rfl))<|c_ (s_bsM rfl rfl 6 rfl rfl 1 rfl (fun {D env ac wd} hA=>by have e56:ac.tmps[56]? = some (vL (upD n) (upS n) (upA n)):=hA.g rfl;simp [go_sem,e56,Tryz.underlying49]))<|c_ (s_appS rfl rfl rfl rfl Tryz.underlying49 lab_info rfl (by omega) (by omega) rfl rfl (fun _ _ h=>by cases h) rfl (fun _ h=>h) [vI (upD n),vI (upS n),vI (upA n)] rfl (by simp [Value.oneCell']) rfl (by omega) 2 6 rfl rfl rfl rfl rfl (fun _=>rfl) (fun hA=>hA.e rfl))<|c_ mv_<|e_) (k:=fun E10 ac wd h_10=>?_)
 clear h_9
 refine then_n (wp_seq (wp_seq ?_))
 skip
 refine rf_ h_10 (tri 3) [K_ (.slice ((sA (E10 3))) ((0+1)) ((sC (E10 3)))),K_ (vI (((0+1):Int))),K_ bF] (fun E11=>[(4,.slice none 0 0),(5,vI 0),(8,.slice ((sA (E10 3))) ((0+1)) ((sC (E10 3)))),(13,vI (tE es x true (upD n) (upS n) (upA n))),(61,bF)]) (hs:=c_ mv_<|c_ (ln_ Tryz.underlying49 fun _ env _ wd hA=>((OwnK.rx (by omega) · rfl) (hA.thO rfl)).els)<|c_ (bi0 (vI (((0+1):Int))) (vI 0))<|e_) (k:=fun E11 ac wd h_11=>?_)
 clear h_10
 refine then_n ?_
 refine cF_ h_11 ?_
 refine wp_skip (then_n (wp_seq ?_))
 refine rf_ h_11 (tri 3) [K_ (.slice ((sA (E10 3))) ((0+1)) ((sC (E10 3)))),K_ (.slice ((sA (E10 3))) ((0+1)) ((sC (E10 3)))),K_ (vI 0)] (fun E12=>[(4,.slice ((sA (E10 3))) ((0+1)) ((sC (E10 3)))),(5,vI 0)]) (hs:=c_ mv_<|c_ mv_<|c_ mv_<|e_) (k:=fun E12 ac wd h_12=>?_)
 clear h_11
 refine then_n (wp_ret ?_)
 have s4:=h_12.g (t:=4) rfl
 have s5:=h_12.g (t:=5) rfl
 refine leave (v:=vT2 (.slice ((sA (E10 3))) ((0+1)) ((sC (E10 3)))) (vI 0)) h_12.df (by simp [results,Tryz.results19,go_sem,Array.getD_eq_getD_getElem?,s4,s5]) ?_
 exact ⟨_,rfl,h_12.st.below,⟨rfl,OwnK.rowP (labC1 (upD n) (upS n) (upA n)) (by omega) h_12.st.nowT⟩,fun b hb=>own_geL (T:=23) (k:=3) h_12.st.nowT hb⟩
 refine rf_ h_6 (tri 7) [K_ (vP (pb E2 8) 1),K_ (vI (upS n)),K_ bF,K_ bF,K_ undef,K_ undef,K_ bF] (fun E7=>[(2,vP (pb E1 0) 0),(4,.slice none 0 0),(5,vI 0),(6,vP (pb E2 8) 0),(8,.slice none 0 0),(9,vP (pb E5 6) 0),(42,bF)]) (hs:=c_ (fa0 (vP (pb E2 8) 0))<|c_ (ld_ 2 (hrd:=by exact rd3 rfl))<|c_ (bi0 (vI (upS n)) (vI 0) (h:=by intro env w;simp [go_sem,hS]))<|c_ mv_<|c_ off_<|c_ off_<|c_ (pk0 bF undef bF)<|e_) (k:=fun E7 ac wd h_7=>?_)
 clear h_6
 refine then_n ?_
 refine cF_ h_7 ?_
 refine wp_skip (then_n (wp_seq ?_))
 refine rf_ h_7 [[0],[1],[0,1,2],r_ 4,r_ 5,[0,1,2,3,5],[6],[0,1,2,3,4,6,7],r_ 9] [K_ (.agg #[vI u,vI x,.slice A0 es.length c0]),K_ (vL (upD n) (upS n) (upA n)),KE_ fun env=>vT2 (bigF (tV es x true (upD n) (upS n) (upA n)) (tp (env 2) 0)) (vI (tE es x true (upD n) (upS n) (upA n))),KE_ fun env=>vT2 (bigF (tV es x true (upD n) (upS n) (upA n)) (tp (env 2) 0)) (vI (tE es x true (upD n) (upS n) (upA n))),KE_ fun env=>bigF (tV es x true (upD n) (upS n) (upA n)) (tp (env 2) 0),K_ (vI (tE es x true (upD n) (upS n) (upA n))),KE_ fun env=>vP (pb env 6) 0,none,K_ (vI (tE es x true (upD n) (upS n) (upA n)))] (fun E8=>[(4,.slice none 0 0),(5,vI 0),(6,vP (pb E2 8) 0),(8,.slice none 0 0),(13,vI (tE es x true (upD n) (upS n) (upA n)))]) (W:=[{ i:=6,T:=36,c0:=[bF,.slice none 0 0],s:=some 7,c1:=fun env=>[.bool (decide (tV es x true (upD n) (upS n) (upA n) < 0)),rS (tV es x true (upD n) (upS n) (upA n)) ((bA (tp (env 2) 0))) ((bC (tp (env 2) 0)))] }]) (F:=[(2,fun env w=>TaiX w0.heap.size w (env 2) (tV es x true (upD n) (upS n) (upA n)) (tE es x true (upD n) (upS n) (upA n)))]) (L1:=fun E8=>[fun w=>BigN w0.heap.size w (E2 2) (jn 40587 0 0),fun w=>BigN w0.heap.size w (E2 3) (n+jn 40587 0 0),fun w=>TaiX w0.heap.size w (E6 2) (tV es x true (upD n-1) 86400 (upA n)) (tE es x true (upD n-1) 86400 (upA n)),fun w=>TaiX w0.heap.size w (E8 2) (tV es x true (upD n) (upS n) (upA n)) (tE es x true (upD n) (upS n) (upA n))]) (M':=fun E8=>[((pb E1 0),41,[vI u,vI x,.slice A0 es.length c0]),((pb E1 1),36,[.bool (p),rS n A1 k1_]),((pb E2 8),23,[vI (upD n),vI (upS n),vI (upA n)]),((pb E5 6),23,[vI (upD n-1),vI 86400,vI (upA n)]),((pb E6 6),36,[.bool (decide (tV es x true (upD n-1) 86400 (upA n) < 0)),rS (tV es x true (upD n-1) 86400 (upA n)) ((bA (tp (E6 2) 0))) ((bC (tp (E6 2) 0)))]),((pb E8 6),36,[.bool (decide (tV es x true (upD n) (upS n) (upA n) < 0)),rS (tV es x true (upD n) (upS n) (upA n)) ((bA (tp (E8 2) 0))) ((bC (tp (E8 2) 0)))])]) (hs:=c_ (ld_ 0 (hrd:=by exact rd41 rfl rfl rfl))<|c_ (ld_ 2 (hrd:=by exact rd23 rfl rfl rfl))<|c_ (cf_ Tryz.func45 (fun v w=>TaiX w0.heap.size w v (tV es x true (upD n) (upS n) (upA n)) (tE es x true (upD n) (upS n) (upA n))) (taiF (tV es x true (upD n) (upS n) (upA n)) (tE es x true (upD n) (upS n) (upA n))) (h:=fun _ env _ wd hA=>⟨_,toTaiX hA.j.st.gr.size (rTai15_any wd A0 c0 es u x (hv.gn hA.j.st.gr) hp hn0 (upD n) (upS n) (upA n) (by omega) (by omega) (by omega) (by omega) (by omega) (by omega) true),rfl⟩))<|c_ mv_<|c_ ext_<|c_ ext_<|c_ (al_ 5)<|c_ (sw_ 5 6 (hst:=by exact fun _ _ _ hc=>st36 rfl rfl rfl hc))<|c_ mv_<|e_) (k:=fun E8 ac wd h_8=>?_)
 clear h_7
 refine then_n (wp_seq (wp_seq ?_))
 refine rf_ h_8 [[0],[0,1]] [K_ (vI (tE es x true (upD n) (upS n) (upA n))),K_ bT] (fun E9=>[(4,.slice none 0 0),(5,vI 0),(6,vP (pb E2 8) 0),(8,.slice none 0 0),(13,vI (tE es x true (upD n) (upS n) (upA n))),(54,bT)]) (hs:=c_ mv_<|c_ (bi0 (vI (tE es x true (upD n) (upS n) (upA n))) (vI 0) (h:=by intro env w;simp [go_sem,hL1,hL]))<|e_) (k:=fun E9 ac wd h_9=>?_)
 clear h_8
 refine then_n ?_
 refine cT_ h_9 ?_
 replace h_9:=(Cur.sel (L1:=[]) h_9 [] rfl).th (Θ':=fun w=>OwnK 23 3 w w0.heap.size (.slice none 0 0) 0 []) (fun w _=>OwnK.nil w _)
 refine rf_ h_9 [[0],[1],[1,2],r_ 4,r_ 5] [K_ (.slice none 0 0),K_ (vL (upD n) (upS n) (upA n)),KE_ fun env=>.slice (some ⟨(pb env 2),0,none⟩) 1 1,KE_ fun env=>.slice (sA (env 3)) (0+1) (sC (env 3)),KE_ fun env=>.slice (sA (env 3)) (0+1) (sC (env 3))] (fun E10=>[(4,.slice none 0 0),(5,vI 0),(8,.slice (sA (E10 3)) (0+1) (sC (E10 3))),(13,vI (tE es x true (upD n) (upS n) (upA n)))]) (W:=[{ i:=2,T:=23,c0:=[vI (upD n),vI (upS n),vI (upA n)] }]) (th:=(some (3,fun env w=>OwnK 23 3 w w0.heap.size (.slice (sA (env 3)) (0+1) (sC (env 3))) (0+1) ([] ++ [vI (upD n),vI (upS n),vI (upA n)])))) (T:=fun E10=>fun w=>OwnK 23 3 w w0.heap.size (.slice (sA (E10 3)) (0+1) (sC (E10 3))) (0+1) ([] ++ [vI (upD n),vI (upS n),vI (upA n)])) (M':=fun E10=>[((pb E1 0),41,[vI u,vI x,.slice A0 es.length c0]),((pb E1 1),36,[.bool (p),rS n A1 k1_]),((pb E2 8),23,[vI (upD n),vI (upS n),vI (upA n)]),((pb E5 6),23,[vI (upD n-1),vI 86400,vI (upA n)]),((pb E6 6),36,[.bool (decide (tV es x true (upD n-1) 86400 (upA n) < 0)),rS (tV es x true (upD n-1) 86400 (upA n)) ((bA (tp (E6 2) 0))) ((bC (tp (E6 2) 0)))]),((pb E8 6),36,[.bool (decide (tV es x true (upD n) (upS n) (upA n) < 0)),rS (tV es x true (upD n) (upS n) (upA n)) ((bA (tp (E8 2) 0))) ((bC (tp (E8 2) 0)))]),((pb E10 2),23,[vI (upD n),vI (upS n),vI (upA n)])]) (hs:=c_ mv_<|c_ (ld_ 2 (hrd:=by exact rd23 rfl rfl rfl))<|c_ (s_bsM rfl rfl 6 rfl rfl 1 rfl (fun {D env ac wd} hA=>by have e56:ac.tmps[56]? = some (vL (upD n) (upS n) (upA n)):=hA.g rfl;simp [go_sem,e56,Tryz.underlying49]))<|c_ (s_appS rfl rfl rfl rfl Tryz.underlying49 lab_info rfl (by omega) (by omega) rfl rfl (fun _ _ h=>by cases h) rfl (fun _ h=>h) [vI (upD n),vI (upS n),vI (upA n)] rfl (by simp [Value.oneCell']) rfl (by omega) 2 6 rfl rfl rfl rfl rfl (fun _=>rfl) (fun hA=>hA.e rfl))<|c_ mv_<|e_) (k:=fun E10 ac wd h_10=>?_)
 clear h_9
 refine then_n (wp_seq (wp_seq ?_))
 skip
 refine rf_ h_10 (tri 3) [K_ (.slice ((sA (E10 3))) ((0+1)) ((sC (E10 3)))),K_ (vI (((0+1):Int))),K_ bF] (fun E11=>[(4,.slice none 0 0),(5,vI 0),(8,.slice ((sA (E10 3))) ((0+1)) ((sC (E10 3)))),(13,vI (tE es x true (upD n) (upS n) (upA n))),(61,bF)]) (hs:=c_ mv_<|c_ (ln_ Tryz.underlying49 fun _ env _ wd hA=>((OwnK.rx (by omega) · rfl) (hA.thO rfl)).els)<|c_ (bi0 (vI (((0+1):Int))) (vI 0))<|e_) (k:=fun E11 ac wd h_11=>?_)
 clear h_10
 refine then_n ?_
 refine cF_ h_11 ?_
 refine wp_skip (then_n (wp_seq ?_))
 refine rf_ h_11 (tri 3) [K_ (.slice ((sA (E10 3))) ((0+1)) ((sC (E10 3)))),K_ (.slice ((sA (E10 3))) ((0+1)) ((sC (E10 3)))),K_ (vI 0)] (fun E12=>[(4,.slice ((sA (E10 3))) ((0+1)) ((sC (E10 3)))),(5,vI 0)]) (hs:=c_ mv_<|c_ mv_<|c_ mv_<|e_) (k:=fun E12 ac wd h_12=>?_)
 clear h_11
 refine then_n (wp_ret ?_)
 have s4:=h_12.g (t:=4) rfl
 have s5:=h_12.g (t:=5) rfl
 refine leave (v:=vT2 (.slice ((sA (E10 3))) ((0+1)) ((sC (E10 3)))) (vI 0)) h_12.df (by simp [results,Tryz.results19,go_sem,Array.getD_eq_getD_getElem?,s4,s5]) ?_
 exact ⟨_,rfl,h_12.st.below,⟨rfl,OwnK.rowP (labC1 (upD n) (upS n) (upA n)) (by omega) h_12.st.nowT⟩,fun b hb=>own_geL (T:=23) (k:=3) h_12.st.nowT hb⟩
theorem rLabels_e (w0:World) (A0:Option Addr) (c0:Nat) (es:List (Int × Int)) (u x:Int) (hv:Ents w0 w0.heap.size (.slice A0 es.length c0) es) (hp:okPre es es.length=true) (hn0:0 < es.length) (p:Bool) (A1:Option Addr) (k1_:Nat) (n:Int) (hp1:p=decide (n < 0)) (hr:Row w0 (.slice A1 (digs n).length k1_) (digs n)) (hn:InW n) (hok:upOk n=true) (hF:upF es n=false) (hL:¬ upL es n=0):Calls Tryz.prog 19 #[.agg #[vI u,vI x,.slice A0 es.length c0],.agg #[.bool (p),.slice A1 ((digs n).length) k1_]] w0 fun e w'=>∃ v,e = .returned v∧Below w0.heap.size w0 w'∧LabT w' v 0 [] (upL es n)∧∀ b,(tp v 0).ownBlock=some b→w0.heap.size≤b:=by
 have hst:=St.start w0 (Θ:=fun _=>True) (fun _ _=>trivial)
 refine en_ Tryz.func19 hst 64 [(0,.agg #[vI u,vI x,.slice A0 es.length c0]),(1,.agg #[.bool (p),.slice A1 ((digs n).length) k1_])] (fun ac h=>?_)
 replace h:=h.facts
 refine wp_seq ?_
 refine rf_ h [[0],[1],[2],[2,3]] [KE_ fun env=>vP (pb env 0) 0,KE_ fun env=>vP (pb env 1) 0,K_ (.slice none 0 0),K_ (vI 0)] (fun E1=>[(2,vP (pb E1 0) 0),(3,vP (pb E1 1) 0),(4,.slice none 0 0),(5,vI 0)]) (W:=[{ i:=0,T:=41,c0:=[vI u,vI x,.slice A0 es.length c0] },{ i:=1,T:=36,c0:=[.bool (p),rS n A1 k1_] }]) (M':=fun E1=>[((pb E1 0),41,[vI u,vI x,.slice A0 es.length c0]),((pb E1 1),36,[.bool (p),rS n A1 k1_])]) (hs:=c_ (bx0 0 (.agg #[vI u,vI x,.slice A0 es.length c0]))<|c_ (bx0 1 (.agg #[.bool (p),rS n A1 k1_]))<|c_ mv_<|c_ mv_<|e_) (k:=fun E1 ac wd h_1=>?_)
 clear h
 refine then_n (wp_seq ?_)
 have hn2:=hn;unfold InW at hn2;have hz0:upZ n=n+jn 40587 0 0:=rfl;have hj0:jn 40587 0 0=3506716800000000000000000000:=(by unfold jn;omega);obtain ⟨b1,b2,b3,b4,b5,b6⟩:=upOk_bd hok;obtain ⟨y1,y2⟩:=wth_iff.1 hok;have hL1:tE es x true (upD n) (upS n) (upA n)=upL es n:=tE_lax
 refine rf_ h_1 [[0],[1],[1,2],r_ 4,r_ 5,r_ 6,r_ 7,[0,1,2,3,4,5,7],[8],[0,1,2,3,4,5,6,8,9],r_ 11] [K_ (.agg #[.bool (p),rS n A1 k1_]),K_ (vL 40587 0 0),KE_ fun env=>bigF (jn 40587 0 0) (env 2),KE_ fun env=>bigF (n+jn 40587 0 0) (env 3),K_ (vT2 (vL (upD n) (upS n) (upA n)) bT),K_ (vT2 (vL (upD n) (upS n) (upA n)) bT),K_ (vL (upD n) (upS n) (upA n)),K_ bT,KE_ fun env=>vP (pb env 8) 0,none,K_ bT] (fun E2=>[(2,vP (pb E1 0) 0),(4,.slice none 0 0),(5,vI 0),(6,vP (pb E2 8) 0),(7,bT)]) (W:=[{ i:=8,T:=23,c0:=[vI 0,vI 0,vI 0],s:=some 9,c1:=fun _=>[vI (upD n),vI (upS n),vI (upA n)] }]) (F:=[(2,fun env w=>BigN w0.heap.size w (env 2) (jn 40587 0 0)),(3,fun env w=>BigN w0.heap.size w (env 3) (n+jn 40587 0 0))]) (L1:=fun E2=>[fun w=>BigN w0.heap.size w (E2 2) (jn 40587 0 0),fun w=>BigN w0.heap.size w (E2 3) (n+jn 40587 0 0)]) (M':=fun E2=>[((pb E1 0),41,[vI u,vI x,.slice A0 es.length c0]),((pb E1 1),36,[.bool (p),rS n A1 k1_]),((pb E2 8),23,[vI (upD n),vI (upS n),vI (upA n)])]) (hs:=c_ (ld_ 1 (hrd:=by exact rd36 rfl rfl))<|c_ (bd0 ([vI 40587]))<|c_ (cb_ Tryz.func25 (jn 40587 0 0) (h:=fun _ env _ wd hA=>⟨_,Join_any wd 40587 0 0 (by omega) (by omega) (by omega) (by omega) (by omega) (by omega),rfl⟩))<|c_ (cb_ Tryz.func27 (n+jn 40587 0 0) (h:=fun _ env _ wd hA=>⟨_,Add_any wd p A1 k1_ n hp1 (hr.grown hA.j.st.gr) (y_smw hn) (decide (jn 40587 0 0 < 0)) (bA (env 2)) (bC (env 2)) (jn 40587 0 0) rfl (At.bigN hA 2 rfl rfl rfl) (by unfold jn Sm;omega),rfl⟩))<|c_ (cw_ Tryz.func44 (h:=fun _ env _ wd hA=>⟨_,(u_res_eq (Split_yes wd (decide (n+jn 40587 0 0 < 0)) (bA (env 3)) (bC (env 3)) (n+jn 40587 0 0) rfl (At.bigN hA 3 rfl rfl rfl) (by rw [hj0];unfold Sm;omega) y1 y2) rfl),rfl⟩))<|c_ mv_<|c_ ext_<|c_ ext_<|c_ (al_ 2)<|c_ (sw_ 2 8 (hst:=by exact fun _ _ _ hc=>st23 rfl rfl rfl rfl hc))<|c_ mv_<|e_) (k:=fun E2 ac wd h_2=>?_)
 clear h_1
 refine then_n (wp_seq (wp_seq ?_))
 refine rf_ h_2 [[0],[0,1]] [K_ bT,K_ bF] (fun E3=>[(2,vP (pb E1 0) 0),(4,.slice none 0 0),(5,vI 0),(6,vP (pb E2 8) 0),(23,bF)]) (hs:=c_ mv_<|c_ (un0 bT)<|e_) (k:=fun E3 ac wd h_3=>?_)
 clear h_2
 refine then_n ?_
 refine cF_ h_3 ?_
 refine wp_skip (then_n (wp_seq ?_))
 refine rf_ h_3 [[0]] [K_ (.slice none 0 0)] (fun E4=>[(2,vP (pb E1 0) 0),(4,.slice none 0 0),(5,vI 0),(6,vP (pb E2 8) 0),(8,.slice none 0 0)]) (hs:=c_ mv_<|e_) (k:=fun E4 ac wd h_4=>?_)
 clear h_3
 refine then_n (wp_seq ?_)
 refine rf_ h_4 [[0],[0,1],[0,1,2],[3],[3,4],r_ 6,[6],r_ 8] [K_ (vP (pb E2 8) 0),K_ (vI (upD n)),K_ (vI (upD n-1)),K_ (vP (pb E2 8) 2),K_ (vI (upA n)),K_ (vL (upD n-1) 86400 (upA n)),KE_ fun env=>vP (pb env 6) 0,none] (fun E5=>[(2,vP (pb E1 0) 0),(4,.slice none 0 0),(5,vI 0),(6,vP (pb E2 8) 0),(8,.slice none 0 0),(9,vP (pb E5 6) 0)]) (W:=[{ i:=6,T:=23,c0:=[vI 0,vI 0,vI 0],s:=some 7,c1:=fun _=>[vI (upD n-1),vI 86400,vI (upA n)] }]) (M':=fun E5=>[((pb E1 0),41,[vI u,vI x,.slice A0 es.length c0]),((pb E1 1),36,[.bool (p),rS n A1 k1_]),((pb E2 8),23,[vI (upD n),vI (upS n),vI (upA n)]),((pb E5 6),23,[vI (upD n-1),vI 86400,vI (upA n)])]) (hs:=c_ (fa0 (vP (pb E2 8) 0))<|c_ (ld_ 2 (hrd:=by exact rd3 rfl))<|c_ (bi0 (vI (upD n)) (vI 1))<|c_ (fa0 (vP (pb E2 8) 0))<|c_ (ld_ 2 (hrd:=by exact rd3 rfl))<|c_ (bd0 ([vI (upD n-1),vI 86400,vI (upA n)]))<|c_ (al_ 3)<|c_ (sw_ 3 6 (hst:=by exact fun _ _ _ hc=>st23 rfl rfl rfl rfl hc))<|e_) (k:=fun E5 ac wd h_5=>?_)
 clear h_4
 refine then_n (wp_seq (wp_seq ?_))
 refine rf_ h_5 [[0],[1],[0,1,2],r_ 4,r_ 5,[0,1,2,3,5],[6],[0,1,2,3,4,6,7],r_ 9] [K_ (.agg #[vI u,vI x,.slice A0 es.length c0]),K_ (vL (upD n-1) 86400 (upA n)),KE_ fun env=>vT2 (bigF (tV es x true (upD n-1) 86400 (upA n)) (tp (env 2) 0)) (vI (tE es x true (upD n-1) 86400 (upA n))),KE_ fun env=>vT2 (bigF (tV es x true (upD n-1) 86400 (upA n)) (tp (env 2) 0)) (vI (tE es x true (upD n-1) 86400 (upA n))),KE_ fun env=>bigF (tV es x true (upD n-1) 86400 (upA n)) (tp (env 2) 0),K_ (vI (tE es x true (upD n-1) 86400 (upA n))),KE_ fun env=>vP (pb env 6) 0,none,K_ (vI (tE es x true (upD n-1) 86400 (upA n)))] (fun E6=>[(2,vP (pb E1 0) 0),(4,.slice none 0 0),(5,vI 0),(6,vP (pb E2 8) 0),(8,.slice none 0 0),(9,vP (pb E5 6) 0),(11,vI (tE es x true (upD n-1) 86400 (upA n)))]) (W:=[{ i:=6,T:=36,c0:=[bF,.slice none 0 0],s:=some 7,c1:=fun env=>[.bool (decide (tV es x true (upD n-1) 86400 (upA n) < 0)),rS (tV es x true (upD n-1) 86400 (upA n)) ((bA (tp (env 2) 0))) ((bC (tp (env 2) 0)))] }]) (F:=[(2,fun env w=>TaiX w0.heap.size w (env 2) (tV es x true (upD n-1) 86400 (upA n)) (tE es x true (upD n-1) 86400 (upA n)))]) (L1:=fun E6=>[fun w=>BigN w0.heap.size w (E2 2) (jn 40587 0 0),fun w=>BigN w0.heap.size w (E2 3) (n+jn 40587 0 0),fun w=>TaiX w0.heap.size w (E6 2) (tV es x true (upD n-1) 86400 (upA n)) (tE es x true (upD n-1) 86400 (upA n))]) (M':=fun E6=>[((pb E1 0),41,[vI u,vI x,.slice A0 es.length c0]),((pb E1 1),36,[.bool (p),rS n A1 k1_]),((pb E2 8),23,[vI (upD n),vI (upS n),vI (upA n)]),((pb E5 6),23,[vI (upD n-1),vI 86400,vI (upA n)]),((pb E6 6),36,[.bool (decide (tV es x true (upD n-1) 86400 (upA n) < 0)),rS (tV es x true (upD n-1) 86400 (upA n)) ((bA (tp (E6 2) 0))) ((bC (tp (E6 2) 0)))])]) (hs:=c_ (ld_ 0 (hrd:=by exact rd41 rfl rfl rfl))<|c_ (ld_ 3 (hrd:=by exact rd23 rfl rfl rfl))<|c_ (cf_ Tryz.func45 (fun v w=>TaiX w0.heap.size w v (tV es x true (upD n-1) 86400 (upA n)) (tE es x true (upD n-1) 86400 (upA n))) (taiF (tV es x true (upD n-1) 86400 (upA n)) (tE es x true (upD n-1) 86400 (upA n))) (h:=fun _ env _ wd hA=>⟨_,toTaiX hA.j.st.gr.size (rTai15_any wd A0 c0 es u x (hv.gn hA.j.st.gr) hp hn0 (upD n-1) 86400 (upA n) (by omega) (by omega) (by omega) (by omega) (by omega) (by omega) true),rfl⟩))<|c_ mv_<|c_ ext_<|c_ ext_<|c_ (al_ 4)<|c_ (sw_ 4 6 (hst:=by exact fun _ _ _ hc=>st36 rfl rfl rfl hc))<|c_ mv_<|e_) (k:=fun E6 ac wd h_6=>?_)
 clear h_5
 refine then_n (wp_seq ?_)
 by_cases hS:upS n=0
 have hE1:¬ tE es x true (upD n-1) 86400 (upA n)=0:=fun h=>(by rw [tE_lax] at h;unfold upF at hF;simp [hS,h] at hF)
 refine rf_ h_6 (tri 7) [K_ (vP (pb E2 8) 1),K_ (vI (upS n)),K_ bT,K_ bT,K_ (vI (tE es x true (upD n-1) 86400 (upA n))),K_ bF,K_ bF] (fun E7=>[(2,vP (pb E1 0) 0),(4,.slice none 0 0),(5,vI 0),(6,vP (pb E2 8) 0),(8,.slice none 0 0),(9,vP (pb E5 6) 0),(42,bF)]) (hs:=c_ (fa0 (vP (pb E2 8) 0))<|c_ (ld_ 2 (hrd:=by exact rd3 rfl))<|c_ (bi0 (vI (upS n)) (vI 0) (h:=by intro env w;simp [go_sem,hS]))<|c_ mv_<|c_ (gm0 (vI (tE es x true (upD n-1) 86400 (upA n))))<|c_ (bi0 (vI (tE es x true (upD n-1) 86400 (upA n))) (vI 0) (h:=by intro env w;simp [go_sem,hE1]))<|c_ (pk0 bT bF bF (h:=by intro env w;simp [go_sem,hE1]))<|e_) (k:=fun E7 ac wd h_7=>?_)
 clear h_6
 refine then_n ?_
 refine cF_ h_7 ?_
 refine wp_skip (then_n (wp_seq ?_))
 refine rf_ h_7 [[0],[1],[0,1,2],r_ 4,r_ 5,[0,1,2,3,5],[6],[0,1,2,3,4,6,7],r_ 9] [K_ (.agg #[vI u,vI x,.slice A0 es.length c0]),K_ (vL (upD n) (upS n) (upA n)),KE_ fun env=>vT2 (bigF (tV es x true (upD n) (upS n) (upA n)) (tp (env 2) 0)) (vI (tE es x true (upD n) (upS n) (upA n))),KE_ fun env=>vT2 (bigF (tV es x true (upD n) (upS n) (upA n)) (tp (env 2) 0)) (vI (tE es x true (upD n) (upS n) (upA n))),KE_ fun env=>bigF (tV es x true (upD n) (upS n) (upA n)) (tp (env 2) 0),K_ (vI (tE es x true (upD n) (upS n) (upA n))),KE_ fun env=>vP (pb env 6) 0,none,K_ (vI (tE es x true (upD n) (upS n) (upA n)))] (fun E8=>[(4,.slice none 0 0),(5,vI 0),(6,vP (pb E2 8) 0),(8,.slice none 0 0),(13,vI (tE es x true (upD n) (upS n) (upA n)))]) (W:=[{ i:=6,T:=36,c0:=[bF,.slice none 0 0],s:=some 7,c1:=fun env=>[.bool (decide (tV es x true (upD n) (upS n) (upA n) < 0)),rS (tV es x true (upD n) (upS n) (upA n)) ((bA (tp (env 2) 0))) ((bC (tp (env 2) 0)))] }]) (F:=[(2,fun env w=>TaiX w0.heap.size w (env 2) (tV es x true (upD n) (upS n) (upA n)) (tE es x true (upD n) (upS n) (upA n)))]) (L1:=fun E8=>[fun w=>BigN w0.heap.size w (E2 2) (jn 40587 0 0),fun w=>BigN w0.heap.size w (E2 3) (n+jn 40587 0 0),fun w=>TaiX w0.heap.size w (E6 2) (tV es x true (upD n-1) 86400 (upA n)) (tE es x true (upD n-1) 86400 (upA n)),fun w=>TaiX w0.heap.size w (E8 2) (tV es x true (upD n) (upS n) (upA n)) (tE es x true (upD n) (upS n) (upA n))]) (M':=fun E8=>[((pb E1 0),41,[vI u,vI x,.slice A0 es.length c0]),((pb E1 1),36,[.bool (p),rS n A1 k1_]),((pb E2 8),23,[vI (upD n),vI (upS n),vI (upA n)]),((pb E5 6),23,[vI (upD n-1),vI 86400,vI (upA n)]),((pb E6 6),36,[.bool (decide (tV es x true (upD n-1) 86400 (upA n) < 0)),rS (tV es x true (upD n-1) 86400 (upA n)) ((bA (tp (E6 2) 0))) ((bC (tp (E6 2) 0)))]),((pb E8 6),36,[.bool (decide (tV es x true (upD n) (upS n) (upA n) < 0)),rS (tV es x true (upD n) (upS n) (upA n)) ((bA (tp (E8 2) 0))) ((bC (tp (E8 2) 0)))])]) (hs:=c_ (ld_ 0 (hrd:=by exact rd41 rfl rfl rfl))<|c_ (ld_ 2 (hrd:=by exact rd23 rfl rfl rfl))<|c_ (cf_ Tryz.func45 (fun v w=>TaiX w0.heap.size w v (tV es x true (upD n) (upS n) (upA n)) (tE es x true (upD n) (upS n) (upA n))) (taiF (tV es x true (upD n) (upS n) (upA n)) (tE es x true (upD n) (upS n) (upA n))) (h:=fun _ env _ wd hA=>⟨_,toTaiX hA.j.st.gr.size (rTai15_any wd A0 c0 es u x (hv.gn hA.j.st.gr) hp hn0 (upD n) (upS n) (upA n) (by omega) (by omega) (by omega) (by omega) (by omega) (by omega) true),rfl⟩))<|c_ mv_<|c_ ext_<|c_ ext_<|c_ (al_ 5)<|c_ (sw_ 5 6 (hst:=by exact fun _ _ _ hc=>st36 rfl rfl rfl hc))<|c_ mv_<|e_) (k:=fun E8 ac wd h_8=>?_)
 clear h_7
 refine then_n (wp_seq (wp_seq ?_))
 refine rf_ h_8 [[0],[0,1]] [K_ (vI (tE es x true (upD n) (upS n) (upA n))),K_ bF] (fun E9=>[(4,.slice none 0 0),(5,vI 0),(6,vP (pb E2 8) 0),(8,.slice none 0 0),(13,vI (tE es x true (upD n) (upS n) (upA n))),(54,bF)]) (hs:=c_ mv_<|c_ (bi0 (vI (tE es x true (upD n) (upS n) (upA n))) (vI 0) (h:=by intro env w;simp [go_sem,hL1,hL]))<|e_) (k:=fun E9 ac wd h_9=>?_)
 clear h_8
 refine then_n ?_
 refine cF_ h_9 ?_
 refine wp_skip (then_n (wp_seq (wp_seq ?_)))
 replace h_9:=(Cur.sel (L1:=[]) h_9 [] rfl).th (Θ':=fun w=>OwnK 23 3 w w0.heap.size (.slice none 0 0) 0 []) (fun w _=>OwnK.nil w _)
 refine rf_ h_9 (tri 3) [K_ (.slice none 0 0),K_ (vI ((0:Int))),K_ bT] (fun E10=>[(4,.slice none 0 0),(5,vI 0),(8,.slice none 0 0),(13,vI (tE es x true (upD n) (upS n) (upA n))),(61,bT)]) (hs:=c_ mv_<|c_ (ln_ Tryz.underlying49 fun _ env _ wd hA=>((OwnK.rx (by omega) · rfl) (hA.thO rfl)).els)<|c_ (bi0 (vI ((0:Int))) (vI 0))<|e_) (k:=fun E10 ac wd h_10=>?_)
 clear h_9
 refine then_n ?_
 refine cT_ h_10 ?_
 refine wp_seq ?_
 refine rf_ h_10 [[0],[1],[0,1,2]] [K_ (vI (tE es x true (upD n) (upS n) (upA n))),K_ (.slice none 0 0),K_ (vI (tE es x true (upD n) (upS n) (upA n)))] (fun E11=>[(4,.slice none 0 0),(5,vI (tE es x true (upD n) (upS n) (upA n))),(8,.slice none 0 0)]) (hs:=c_ mv_<|c_ mv_<|c_ mv_<|e_) (k:=fun E11 ac wd h_11=>?_)
 clear h_10
 refine then_n (wp_ret (then_ret ?_))
 have s4:=h_11.g (t:=4) rfl
 have s5:=h_11.g (t:=5) rfl
 refine leave (v:=vT2 (.slice none 0 0) (vI (tE es x true (upD n) (upS n) (upA n)))) h_11.df (by simp [results,Tryz.results19,go_sem,Array.getD_eq_getD_getElem?,s4,s5]) ?_
 exact ⟨_,rfl,h_11.st.below,⟨by rw [hL1];rfl,rowNil⟩,fun b hb=>by cases hb⟩
 refine rf_ h_6 (tri 7) [K_ (vP (pb E2 8) 1),K_ (vI (upS n)),K_ bF,K_ bF,K_ undef,K_ undef,K_ bF] (fun E7=>[(2,vP (pb E1 0) 0),(4,.slice none 0 0),(5,vI 0),(6,vP (pb E2 8) 0),(8,.slice none 0 0),(9,vP (pb E5 6) 0),(42,bF)]) (hs:=c_ (fa0 (vP (pb E2 8) 0))<|c_ (ld_ 2 (hrd:=by exact rd3 rfl))<|c_ (bi0 (vI (upS n)) (vI 0) (h:=by intro env w;simp [go_sem,hS]))<|c_ mv_<|c_ off_<|c_ off_<|c_ (pk0 bF undef bF)<|e_) (k:=fun E7 ac wd h_7=>?_)
 clear h_6
 refine then_n ?_
 refine cF_ h_7 ?_
 refine wp_skip (then_n (wp_seq ?_))
 refine rf_ h_7 [[0],[1],[0,1,2],r_ 4,r_ 5,[0,1,2,3,5],[6],[0,1,2,3,4,6,7],r_ 9] [K_ (.agg #[vI u,vI x,.slice A0 es.length c0]),K_ (vL (upD n) (upS n) (upA n)),KE_ fun env=>vT2 (bigF (tV es x true (upD n) (upS n) (upA n)) (tp (env 2) 0)) (vI (tE es x true (upD n) (upS n) (upA n))),KE_ fun env=>vT2 (bigF (tV es x true (upD n) (upS n) (upA n)) (tp (env 2) 0)) (vI (tE es x true (upD n) (upS n) (upA n))),KE_ fun env=>bigF (tV es x true (upD n) (upS n) (upA n)) (tp (env 2) 0),K_ (vI (tE es x true (upD n) (upS n) (upA n))),KE_ fun env=>vP (pb env 6) 0,none,K_ (vI (tE es x true (upD n) (upS n) (upA n)))] (fun E8=>[(4,.slice none 0 0),(5,vI 0),(6,vP (pb E2 8) 0),(8,.slice none 0 0),(13,vI (tE es x true (upD n) (upS n) (upA n)))]) (W:=[{ i:=6,T:=36,c0:=[bF,.slice none 0 0],s:=some 7,c1:=fun env=>[.bool (decide (tV es x true (upD n) (upS n) (upA n) < 0)),rS (tV es x true (upD n) (upS n) (upA n)) ((bA (tp (env 2) 0))) ((bC (tp (env 2) 0)))] }]) (F:=[(2,fun env w=>TaiX w0.heap.size w (env 2) (tV es x true (upD n) (upS n) (upA n)) (tE es x true (upD n) (upS n) (upA n)))]) (L1:=fun E8=>[fun w=>BigN w0.heap.size w (E2 2) (jn 40587 0 0),fun w=>BigN w0.heap.size w (E2 3) (n+jn 40587 0 0),fun w=>TaiX w0.heap.size w (E6 2) (tV es x true (upD n-1) 86400 (upA n)) (tE es x true (upD n-1) 86400 (upA n)),fun w=>TaiX w0.heap.size w (E8 2) (tV es x true (upD n) (upS n) (upA n)) (tE es x true (upD n) (upS n) (upA n))]) (M':=fun E8=>[((pb E1 0),41,[vI u,vI x,.slice A0 es.length c0]),((pb E1 1),36,[.bool (p),rS n A1 k1_]),((pb E2 8),23,[vI (upD n),vI (upS n),vI (upA n)]),((pb E5 6),23,[vI (upD n-1),vI 86400,vI (upA n)]),((pb E6 6),36,[.bool (decide (tV es x true (upD n-1) 86400 (upA n) < 0)),rS (tV es x true (upD n-1) 86400 (upA n)) ((bA (tp (E6 2) 0))) ((bC (tp (E6 2) 0)))]),((pb E8 6),36,[.bool (decide (tV es x true (upD n) (upS n) (upA n) < 0)),rS (tV es x true (upD n) (upS n) (upA n)) ((bA (tp (E8 2) 0))) ((bC (tp (E8 2) 0)))])]) (hs:=c_ (ld_ 0 (hrd:=by exact rd41 rfl rfl rfl))<|c_ (ld_ 2 (hrd:=by exact rd23 rfl rfl rfl))<|c_ (cf_ Tryz.func45 (fun v w=>TaiX w0.heap.size w v (tV es x true (upD n) (upS n) (upA n)) (tE es x true (upD n) (upS n) (upA n))) (taiF (tV es x true (upD n) (upS n) (upA n)) (tE es x true (upD n) (upS n) (upA n))) (h:=fun _ env _ wd hA=>⟨_,toTaiX hA.j.st.gr.size (rTai15_any wd A0 c0 es u x (hv.gn hA.j.st.gr) hp hn0 (upD n) (upS n) (upA n) (by omega) (by omega) (by omega) (by omega) (by omega) (by omega) true),rfl⟩))<|c_ mv_<|c_ ext_<|c_ ext_<|c_ (al_ 5)<|c_ (sw_ 5 6 (hst:=by exact fun _ _ _ hc=>st36 rfl rfl rfl hc))<|c_ mv_<|e_) (k:=fun E8 ac wd h_8=>?_)
 clear h_7
 refine then_n (wp_seq (wp_seq ?_))
 refine rf_ h_8 [[0],[0,1]] [K_ (vI (tE es x true (upD n) (upS n) (upA n))),K_ bF] (fun E9=>[(4,.slice none 0 0),(5,vI 0),(6,vP (pb E2 8) 0),(8,.slice none 0 0),(13,vI (tE es x true (upD n) (upS n) (upA n))),(54,bF)]) (hs:=c_ mv_<|c_ (bi0 (vI (tE es x true (upD n) (upS n) (upA n))) (vI 0) (h:=by intro env w;simp [go_sem,hL1,hL]))<|e_) (k:=fun E9 ac wd h_9=>?_)
 clear h_8
 refine then_n ?_
 refine cF_ h_9 ?_
 refine wp_skip (then_n (wp_seq (wp_seq ?_)))
 replace h_9:=(Cur.sel (L1:=[]) h_9 [] rfl).th (Θ':=fun w=>OwnK 23 3 w w0.heap.size (.slice none 0 0) 0 []) (fun w _=>OwnK.nil w _)
 refine rf_ h_9 (tri 3) [K_ (.slice none 0 0),K_ (vI ((0:Int))),K_ bT] (fun E10=>[(4,.slice none 0 0),(5,vI 0),(8,.slice none 0 0),(13,vI (tE es x true (upD n) (upS n) (upA n))),(61,bT)]) (hs:=c_ mv_<|c_ (ln_ Tryz.underlying49 fun _ env _ wd hA=>((OwnK.rx (by omega) · rfl) (hA.thO rfl)).els)<|c_ (bi0 (vI ((0:Int))) (vI 0))<|e_) (k:=fun E10 ac wd h_10=>?_)
 clear h_9
 refine then_n ?_
 refine cT_ h_10 ?_
 refine wp_seq ?_
 refine rf_ h_10 [[0],[1],[0,1,2]] [K_ (vI (tE es x true (upD n) (upS n) (upA n))),K_ (.slice none 0 0),K_ (vI (tE es x true (upD n) (upS n) (upA n)))] (fun E11=>[(4,.slice none 0 0),(5,vI (tE es x true (upD n) (upS n) (upA n))),(8,.slice none 0 0)]) (hs:=c_ mv_<|c_ mv_<|c_ mv_<|e_) (k:=fun E11 ac wd h_11=>?_)
 clear h_10
 refine then_n (wp_ret (then_ret ?_))
 have s4:=h_11.g (t:=4) rfl
 have s5:=h_11.g (t:=5) rfl
 refine leave (v:=vT2 (.slice none 0 0) (vI (tE es x true (upD n) (upS n) (upA n)))) h_11.df (by simp [results,Tryz.results19,go_sem,Array.getD_eq_getD_getElem?,s4,s5]) ?_
 exact ⟨_,rfl,h_11.st.below,⟨by rw [hL1];rfl,rowNil⟩,fun b hb=>by cases hb⟩
def LsH (es:List (Int × Int)) (n:Int) (k:Nat) (l:List (Int × Int × Int)) (e:Int):Prop:=(upOk n=false∧k=0∧l=[]∧e=2)∨(upOk n=true∧upF es n=true∧upL es n=0∧k=2∧l=[(upD n-1,86400,upA n),(upD n,upS n,upA n)]∧e=0)∨(upOk n=true∧upF es n=true∧¬ upL es n=0∧k=1∧l=[(upD n-1,86400,upA n)]∧e=0)∨(upOk n=true∧upF es n=false∧upL es n=0∧k=1∧l=[(upD n,upS n,upA n)]∧e=0)∨(upOk n=true∧upF es n=false∧¬ upL es n=0∧k=0∧l=[]∧e=upL es n)
theorem rLabels_any (w0:World) (A0:Option Addr) (c0:Nat) (es:List (Int × Int)) (u x:Int) (hv:Ents w0 w0.heap.size (.slice A0 es.length c0) es) (hp:okPre es es.length=true) (hn0:0 < es.length) (p:Bool) (A1:Option Addr) (k1_:Nat) (n:Int) (hp1:p=decide (n < 0)) (hr:Row w0 (.slice A1 (digs n).length k1_) (digs n)) (hn:InW n) {k:Nat} {l:List (Int × Int × Int)} {e:Int} (h:LsH es n k l e):Calls Tryz.prog 19 #[.agg #[vI u,vI x,.slice A0 es.length c0],.agg #[.bool (p),.slice A1 ((digs n).length) k1_]] w0 fun e_ w_=>∃ v,e_ = .returned v∧Below w0.heap.size w0 w_∧LabT w_ v k l e∧∀ b,(tp v 0).ownBlock=some b→w0.heap.size≤b:=by
  rcases h with ⟨h1,rfl,rfl,rfl⟩ | ⟨h1,h2,h3,rfl,rfl,rfl⟩ | ⟨h1,h2,h3,rfl,rfl,rfl⟩ | ⟨h1,h2,h3,rfl,rfl,rfl⟩ | ⟨h1,h2,h3,rfl,rfl,rfl⟩
  · exact rLabels_no w0 A0 c0 es u x hv hp hn0 p A1 k1_ n hp1 hr hn h1
  · exact rLabels_fl w0 A0 c0 es u x hv hp hn0 p A1 k1_ n hp1 hr hn h1 h2 h3
  · exact rLabels_f w0 A0 c0 es u x hv hp hn0 p A1 k1_ n hp1 hr hn h1 h2 h3
  · exact rLabels_l w0 A0 c0 es u x hv hp hn0 p A1 k1_ n hp1 hr hn h1 h2 h3
  · exact rLabels_e w0 A0 c0 es u x hv hp hn0 p A1 k1_ n hp1 hr hn h1 h2 h3
theorem ul_cases (es:List (Int × Int)) (n pick:Int):(∃ e,LsH es n 0 [] e∧ulK es n=0∧ulE es n=e∧ulA es n=(0,0,0)∧ulB es n=(0,0,0)∧ufL es n pick=(0,0,0)∧ufE es n pick=e)∨(∃ p q r,LsH es n 1 [(p,q,r)] 0∧ulK es n=1∧ulE es n=0∧ulA es n=(p,q,r)∧ulB es n=(p,q,r)∧ufL es n pick=(p,q,r)∧ufE es n pick=0)∨(LsH es n 2 [(upD n-1,86400,upA n),(upD n,upS n,upA n)] 0∧ulK es n=2∧ulE es n=0∧ulA es n=(upD n-1,86400,upA n)∧ulB es n=(upD n,upS n,upA n)):=by
  cases hok:upOk n
  · have eK:ulK es n=0:=by unfold ulK;simp [hok]
    have eE:ulE es n=2:=by unfold ulE;simp [hok]
    exact .inl ⟨2,.inl ⟨hok,rfl,rfl,rfl⟩,eK,eE,by unfold ulA;simp [eK],by unfold ulB;simp [eK],by unfold ufL;simp [eE],by unfold ufE;simp [eE]⟩
  cases hF:upF es n <;> by_cases hL:upL es n=0
  · have eK:ulK es n=1:=by unfold ulK;simp [hok,hF,hL]
    have eE:ulE es n=0:=by unfold ulE;simp [hok,hF,hL]
    have eB:ulB es n=(upD n,upS n,upA n):=by unfold ulB;rw [eK];simp [hF,hL]
    exact .inr (.inl ⟨upD n,upS n,upA n,.inr (.inr (.inr (.inl ⟨hok,hF,hL,rfl,rfl,rfl⟩))),eK,eE,by unfold ulA;rw [eK];simp [hF,hL],eB,by unfold ufL;simp [eE,eK,eB],by unfold ufE;simp [eE,eK]⟩)
  · have eK:ulK es n=0:=by unfold ulK;simp [hok,hF,hL]
    have eE:ulE es n=upL es n:=by unfold ulE;simp [hok,hF,hL]
    exact .inl ⟨upL es n,.inr (.inr (.inr (.inr ⟨hok,hF,hL,rfl,rfl,rfl⟩))),eK,eE,by unfold ulA;simp [eK],by unfold ulB;simp [eK],by unfold ufL;simp [eE,hL],by unfold ufE;simp [eE,hL]⟩
  · have eK:ulK es n=2:=by unfold ulK;simp [hok,hF,hL]
    have eE:ulE es n=0:=by unfold ulE;simp [hok,hF,hL]
    exact .inr (.inr ⟨.inr (.inl ⟨hok,hF,hL,rfl,rfl,rfl⟩),eK,eE,by unfold ulA;rw [eK];simp [hF],by unfold ulB;rw [eK];simp [hL]⟩)
  · have eK:ulK es n=1:=by unfold ulK;simp [hok,hF,hL]
    have eE:ulE es n=0:=by unfold ulE;simp [hok,hF,hL]
    have eB:ulB es n=(upD n-1,86400,upA n):=by unfold ulB;rw [eK];simp [hF,hL]
    exact .inr (.inl ⟨upD n-1,86400,upA n,.inr (.inr (.inl ⟨hok,hF,hL,rfl,rfl,rfl⟩)),eK,eE,by unfold ulA;rw [eK];simp [hF,hL],eB,by unfold ufL;simp [eE,eK,eB],by unfold ufE;simp [eE,eK]⟩)
end Go.Proofs.YtdfkghpgekmmlabGreat
