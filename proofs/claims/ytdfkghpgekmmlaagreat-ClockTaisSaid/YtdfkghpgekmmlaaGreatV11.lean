/- Texts Y2b, Y5, Y6, P19, Y7 of one proof, one behind the other; what nothing here names is left out. -/
import Derived.Test.YtdfkghpgekmmlaaGreatV10
import Derived.Test.YtdfkghpgekmmlaaGreatZ5
import Derived.Test.YtdfkghpgekmmlaaGreatV8
import Derived.Test.YtdfkghpgekmmlaaGreatZ4
import Derived.IntWalk
import Derived.Test.YtdfkghpgekmmlaaGreatV7
set_option maxRecDepth 100000
set_option maxHeartbeats 8000000
set_option linter.unusedVariables false
set_option linter.unusedSimpArgs false
namespace Go.Proofs.YtdfkghpgekmmlaaGreat
open Go.RowKit
attribute [local go_sem] vN bT bF rS vW vM vL vT2 vT3 vP vI execOp Act.eval evC bigF vB hi_zero lo_zero Tryz.underlying128 Tryz.underlying142
def sgR (k:Nat):List Value:=(List.range (k*4)).map (sgC pubS)
theorem sgR_succ (k:Nat):sgR (k+1)=sgR k ++ [vI (sgi pubS k).d,vI (sgi pubS k).b,vI (sgi pubS k).f,vI (sgi pubS k).r]:=by
 unfold sgR
 rw [show (k+1)*4=k*4+4 by omega,List.range_add,List.map_append]
 congr 1
 rw [show List.range 4=[0,1,2,3] from rfl]
 simp only [List.map_cons,List.map_nil,Nat.add_zero,sgC_0,sgC_1,sgC_2,sgC_3]
theorem seg_info:(Tryz.prog.info? 128).map (fun i=>(i.zero,i.size,i.bytes))=some (some (.agg #[vI 0,vI 0,vI 0,vI 0]),4,32):=by kernel_rfl
def RowC (T:TypeId) (cs:Array Value) (n:Nat) (w:World) (v:Value):Prop:=∃ b,v = .slice (some ⟨b,0,none⟩) n n∧w.heap[b]? = some (Obj.cells cs T (0,0))
theorem RowC.form {T:TypeId} {cs:Array Value} {n:Nat} {w:World} {v:Value} (h:RowC T cs n w v):v=entF n v:=by obtain ⟨b,rfl,_⟩:=h;rfl
theorem RowC.keep {T:TypeId} {cs:Array Value} {n:Nat} {w w':World} {v:Value} (h:RowC T cs n w v) (hk:KeepT [T] none w w'):RowC T cs n w' v:=by
 obtain ⟨b,rfl,hb⟩:=h
 exact ⟨b,rfl,(hk _ _ _ _ hb (by simp) (by simp)).trans hb⟩
theorem RowC.seg {T:TypeId} {w:World} {v:Value} (h:RowC T pubC 13 w v):SegU w (.slice (sA v) 13 13) pubS:=by
  obtain ⟨b,rfl,hb⟩:=h
  exact ⟨_,13,rfl,by decide,by decide,.inr ⟨b,0,T,pubC,_,rfl,hb,fun i hi=>by
    have hi':i < 52:=by have:pubS.length=13:=rfl;omega
    simp [pubC,hi']⟩⟩
section
variable {P:Program} {R:Reg} {Q:Exit→Act→World→Prop} {i:Nat} {o:Oper}
theorem s_bsC (ho:R.ops[i]? = some o) (hf:free' R i=true) (hw:∀ {D env a w},At R i D env a w→Region.wanted o (yielded R.ops a.tmps)=true) (T:TypeId) (n:Nat) (cs cs':Array Value) (hcs:cs=cs') (hV:R.v? i=some fun env=>entF n (env i)) (hF:R.F.filter (fun p=>Nat.beq p.1 i)=[(i,fun env w=>RowC T cs' n w (env i))]) (hint:tFree [T] R=true) (hx:R.ex=none)
    (hrun:∀ {D env a w},At R i D env a w→(execOp a.eval o).run P w = .ok (.value (.slice (some ⟨w.heap.size,0,none⟩) n n)) (w.alloc (.cells cs T (0,0)))):SR P Q R i:=
  s_gen ho hf (fun {D env a w} hA K hK=>by
    subst hcs
    rw [if_pos (hw hA)]
    unfold Oper.wp
    rw [hrun hA]
    have hs':=hA.j.st.call (w':=w.alloc (.cells cs T (0,0))) ⟨rfl,rfl,rfl,by simp,fun k hk=>Below.heap_alloc _ _ _ hk⟩
    have hkt:=fun w'' (ha:Apart (R.mem _ _) none _ w'')=>apart_keepT (w':=w'') hint hs' (.inl hx.symm) ha
    rw [hx] at hkt
    refine hK _ _ hs' (fun w'' ha=>f_fact (φ:=fun v w=>RowC T cs n w v) (form:=entF n) hV (fun v w h=>h.form) hF hA.ok ho (RowC.keep ⟨w.heap.size,rfl,heap_alloc_new w _⟩ (hkt w'' (by rw [hx] at ha;exact ha)))))
theorem s_ra (ho:R.ops[i]? = some o) (hf:free' R i=true) {T:TypeId} {x y:Operand} (hop:o.op = .indexAddr T x y) (hw:∀ {D env a w},At R i D env a w→Region.wanted o (yielded R.ops a.tmps)=true)
    {n k:Nat} {f:Nat→Value} (q off q':Nat) (hq:q+off=q') {s:Env→Value} (hV:R.v? i=some fun env=>elt (s env) q')
    (hx:∀ env,opAt R i env x=some (elt (s env) q)) (hy:∀ env,opAt R i env y=some (vI (off:Int))) (hs:∀ {D env a w},At R i D env a w→Els w (s env) n k f) (hj:0 < n) (hrd:∀ (b q:Nat) (w:World),(Instr.indexAt T (.pointer (some ⟨b,q,none⟩)) (vI (off:Int))).run Tryz.prog w = .ok (.pointer (some ⟨b,q+off,none⟩)) w) (hn:noF R i=true:=by rfl) (hr:∀ env x,s (restr (R.cl.getD i []) (upd env i x))=s env:=by intros;rfl):SR Tryz.prog Q R i:=
  s_val ho hf hV (fun {D env a w} hA=>⟨hw hA,by
    subst hq
    obtain ⟨A,c,e,h1,h2⟩:=hs hA
    have e1:=hA.e (hx env)
    have e2:=hA.e (hy env)
    rw [e] at e1
    rcases h2 with h2 | ⟨b,off',rfl,_⟩
    · omega
    · simp only [elt] at e1
      rw [e]
      simp [execOp,hop,e1,e2,hrd,elt,Nat.add_assoc]⟩) hn (fun env x=>by simp only [hr])
end
theorem Facts.rowC {L:List (World→Prop)} {w:World} {T:TypeId} {v:Value} (h:Facts L w) (k:Nat) (hk:L[k]? = some (fun w=>RowC T pubC 13 w v)):SegU w (.slice (sA v) 13 13) pubS:=(show RowC T pubC 13 w v from h.get k hk).seg
theorem gr_below {w w':World} (h:w.grownBy w' none):Below w.heap.size w w':=⟨h.os,h.tape,h.output,h.size,fun i hi=>h.block i hi (by simp)⟩
theorem own_ge {T:TypeId} {k:Nat} {w:World} {B:Nat} {v:Value} {n:Nat} {cs:List Value} (h:OwnK T k w B v n cs) {b:Nat} (hb:v.ownBlock=some b):B≤b:=by
  obtain ⟨_,h2⟩:=h
  rcases h2 with ⟨rfl,_⟩ | ⟨g,cap,cur,rfl,hB,_⟩
  · cases hb
  · simp only [Value.ownBlock,Option.some.injEq] at hb;omega
theorem rsegments_w (w0:World)  : Calls Tryz.prog 47 #[] w0 fun e w'=>∃ v,e = .returned v∧Below w0.heap.size w0 w'∧SegN w0.heap.size w' v pubS:=by
 have hpl:pubS.length=13:=rfl
 have hst:=St.start w0 (Θ:=fun _=>True) (fun _ _=>trivial)
 refine enter Tryz.func47 rfl (n:=49) rfl (Nat.le_of_ble_eq_true rfl) hst (L:=[]) (lk_args rfl) (fun ac h=>?_)
 replace h:=h.facts
 refine wp_seq ?_
 refine rf_ h [[0]] [K_ (.slice none 0 0)] (fun E1=>[(0,.slice none 0 0)]) (hs:=c_ mv_<|e_) (k:=fun E1 ac wd h_1=>?_)
 clear h
 refine then_n (wp_seq ?_)
 refine rf_ h_1 [[0],[1],[2],[3],[4],[5],[6],[7],[8],[9],[10],[11],[12],r_ 14,r_ 15] [K_ (.agg #[vI 37300,vI 14228180,vI 37300,vI 12960]),K_ (.agg #[vI 37512,vI 13728180,vI 37300,vI 12960]),K_ (.agg #[vI 37665,vI 18458580,vI 37665,vI 11232]),K_ (.agg #[vI 38334,vI 19458580,vI 37665,vI 11232]),K_ (.agg #[vI 38395,vI 32401300,vI 38761,vI 12960]),K_ (.agg #[vI 38486,vI 33401300,vI 38761,vI 12960]),K_ (.agg #[vI 38639,vI 34401300,vI 38761,vI 12960]),K_ (.agg #[vI 38761,vI 35401300,vI 38761,vI 12960]),K_ (.agg #[vI 38820,vI 36401300,vI 38761,vI 12960]),K_ (.agg #[vI 38942,vI 37401300,vI 38761,vI 12960]),K_ (.agg #[vI 39004,vI 38401300,vI 38761,vI 12960]),K_ (.agg #[vI 39126,vI 43131700,vI 39126,vI 25920]),K_ (.agg #[vI 39887,vI 42131700,vI 39126,vI 25920]),KE_ fun env=>.slice ((sA (env 13))) 13 13,KE_ fun env=>.slice ((sA (env 13))) 13 13] (fun E2=>[(0,.slice none 0 0),(1,.slice ((sA (E2 13))) 13 13)]) (F:=[(13,fun env w=>RowC 142 pubC 13 w (env 13))]) (L1:=fun E2=>[fun w=>RowC 142 pubC 13 w (E2 13)]) (hs:=c_ (by refine s_v rfl rfl rfl rfl (fun {D env ac wd} hA=>?_);simp [go_sem,Tryz.underlying142])<|c_ (by refine s_v rfl rfl rfl rfl (fun {D env ac wd} hA=>?_);simp [go_sem,Tryz.underlying142])<|c_ (by refine s_v rfl rfl rfl rfl (fun {D env ac wd} hA=>?_);simp [go_sem,Tryz.underlying142])<|c_ (by refine s_v rfl rfl rfl rfl (fun {D env ac wd} hA=>?_);simp [go_sem,Tryz.underlying142])<|c_ (by refine s_v rfl rfl rfl rfl (fun {D env ac wd} hA=>?_);simp [go_sem,Tryz.underlying142])<|c_ (by refine s_v rfl rfl rfl rfl (fun {D env ac wd} hA=>?_);simp [go_sem,Tryz.underlying142])<|c_ (by refine s_v rfl rfl rfl rfl (fun {D env ac wd} hA=>?_);simp [go_sem,Tryz.underlying142])<|c_ (by refine s_v rfl rfl rfl rfl (fun {D env ac wd} hA=>?_);simp [go_sem,Tryz.underlying142])<|c_ (by refine s_v rfl rfl rfl rfl (fun {D env ac wd} hA=>?_);simp [go_sem,Tryz.underlying142])<|c_ (by refine s_v rfl rfl rfl rfl (fun {D env ac wd} hA=>?_);simp [go_sem,Tryz.underlying142])<|c_ (by refine s_v rfl rfl rfl rfl (fun {D env ac wd} hA=>?_);simp [go_sem,Tryz.underlying142])<|c_ (by refine s_v rfl rfl rfl rfl (fun {D env ac wd} hA=>?_);simp [go_sem,Tryz.underlying142])<|c_ (by refine s_v rfl rfl rfl rfl (fun {D env ac wd} hA=>?_);simp [go_sem,Tryz.underlying142])<|c_ (s_bsC rfl rfl (fun _=>wanted_none rfl _) 142 13 #[vI 37300,vI 14228180,vI 37300,vI 12960,vI 37512,vI 13728180,vI 37300,vI 12960,vI 37665,vI 18458580,vI 37665,vI 11232,vI 38334,vI 19458580,vI 37665,vI 11232,vI 38395,vI 32401300,vI 38761,vI 12960,vI 38486,vI 33401300,vI 38761,vI 12960,vI 38639,vI 34401300,vI 38761,vI 12960,vI 38761,vI 35401300,vI 38761,vI 12960,vI 38820,vI 36401300,vI 38761,vI 12960,vI 38942,vI 37401300,vI 38761,vI 12960,vI 39004,vI 38401300,vI 38761,vI 12960,vI 39126,vI 43131700,vI 39126,vI 25920,vI 39887,vI 42131700,vI 39126,vI 25920] pubC (by kernel_rfl) rfl rfl rfl rfl (fun {D env ac wd} hA=>by have e4:ac.tmps[4]? = some (.agg #[vI 37300,vI 14228180,vI 37300,vI 12960]):=hA.g rfl;have e5:ac.tmps[5]? = some (.agg #[vI 37512,vI 13728180,vI 37300,vI 12960]):=hA.g rfl;have e6:ac.tmps[6]? = some (.agg #[vI 37665,vI 18458580,vI 37665,vI 11232]):=hA.g rfl;have e7:ac.tmps[7]? = some (.agg #[vI 38334,vI 19458580,vI 37665,vI 11232]):=hA.g rfl;have e8:ac.tmps[8]? = some (.agg #[vI 38395,vI 32401300,vI 38761,vI 12960]):=hA.g rfl;have e9:ac.tmps[9]? = some (.agg #[vI 38486,vI 33401300,vI 38761,vI 12960]):=hA.g rfl;have e10:ac.tmps[10]? = some (.agg #[vI 38639,vI 34401300,vI 38761,vI 12960]):=hA.g rfl;have e11:ac.tmps[11]? = some (.agg #[vI 38761,vI 35401300,vI 38761,vI 12960]):=hA.g rfl;have e12:ac.tmps[12]? = some (.agg #[vI 38820,vI 36401300,vI 38761,vI 12960]):=hA.g rfl;have e13:ac.tmps[13]? = some (.agg #[vI 38942,vI 37401300,vI 38761,vI 12960]):=hA.g rfl;have e14:ac.tmps[14]? = some (.agg #[vI 39004,vI 38401300,vI 38761,vI 12960]):=hA.g rfl;have e15:ac.tmps[15]? = some (.agg #[vI 39126,vI 43131700,vI 39126,vI 25920]):=hA.g rfl;have e16:ac.tmps[16]? = some (.agg #[vI 39887,vI 42131700,vI 39126,vI 25920]):=hA.g rfl;simp [go_sem,e4,e5,e6,e7,e8,e9,e10,e11,e12,e13,e14,e15,e16,Tryz.underlying143]))<|c_ mv_<|e_) (k:=fun E2 ac wd h_2=>?_)
 clear h_1
 have hq:=Facts.rowC h_2.st.now 0 rfl
 have hg0:=h_2.st.gr
 obtain ⟨w1,rfl⟩:∃ x,x=wd:=⟨_,rfl⟩
 replace h_2:Cur 49 w1 none none (fun _=>True) (fun _=>True) [(0,.slice none 0 0),(1,.slice ((sA (E2 13))) 13 13)] [] ac w1:=(⟨h_2.sz,h_2.df,St.start w1 (fun _ _=>trivial),h_2.sl⟩:Cur 49 w1 none none (fun _=>True) (fun _=>True) _ [] ac w1).re rfl
 refine then_n (wp_seq ?_)
 refine rg_ h_2 [[0]] [K_ (.slice none 0 0)] (fun E3=>[(0,.slice none 0 0),(1,.slice ((sA (E2 13))) 13 13),(2,.slice none 0 0)]) (hs:=c_ mv_<|e_) (k:=fun E3 ac wd h_3=>?_)
 clear h_2
 refine then_n (wp_seq (wp_seq ?_))
 refine rg_ h_3 [[0]] [K_ (vI 0)] (fun E4=>[(0,.slice none 0 0),(1,.slice ((sA (E2 13))) 13 13),(2,.slice none 0 0),(3,vI 0)]) (hs:=c_ mv_<|e_) (k:=fun E4 ac wd h_4=>?_)
 clear h_3
 refine then_n (wp_block ?_)
 refine wp_loop (fun ac wd=>∃ (v:Value) (i:Nat),i≤13∧Cur 49 w1 none none (fun _=>True) (fun w=>OwnK 128 4 w w1.heap.size v i (sgR i)) [(0,.slice none 0 0),(1,.slice ((sA (E2 13))) 13 13),(2,v),(3,vN i)] [] ac wd) (fun ac _=>((13:Int)-sI ac 3).toNat) ⟨.slice none 0 0,0,by omega,(h_4.re rfl).th (fun w _=>OwnK.nil w _)⟩ ?_
 rintro ac wd ⟨v,i,hi1,h_5⟩
 clear h_4
 have hmu:sI ac 3=((i:Nat):Int):=sI_eq (h_5.g (t:=3) rfl)
 refine wp_seq (wp_seq ?_)
 by_cases h1:i < 13
 refine rg_ h_5 [[0],[1],[1,2],r_ 4] [K_ (vN i),K_ (.slice ((sA (E2 13))) 13 13),K_ (vI ((13:Int))),K_ bT] (fun E6=>[(0,.slice none 0 0),(1,.slice ((sA (E2 13))) 13 13),(2,v),(3,vN i),(18,vN i),(19,.slice ((sA (E2 13))) 13 13),(20,vI ((13:Int))),(21,bT)]) (hs:=c_ mv_<|c_ mv_<|c_ (ln_ Tryz.underlying143 fun _ env _ wd hA=>(hq.grown hA.j.st.gr).els)<|c_ (bi0 (vN i) (vI ((13:Int))))<|e_) (k:=fun E6 ac wd h_6=>?_)
 clear h_5
 refine then_n ?_
 refine wp_cond_true (eval_tmp (h_6.g (t:=21) rfl)) ?_
 refine wp_skip (then_n (wp_seq (wp_block ?_)))
 refine rg_ h_6 [[0],[1],[2],[1,2,3],[1,2,3,4],[1,2,3,4,5],[6],[7],[6,7,8],[6,7,8,9],[6,7,8,9,10],[11],[12],[11,12,13],[11,12,13,14],[11,12,13,14,15],[16],[17],[16,17,18],[16,17,18,19],[16,17,18,19,20],[1,2,3,4,5,6,7,8,9,10,11,12,13,14,15,16,17,18,19,20,21],[1,2,3,4,5,6,7,8,9,10,11,12,13,14,15,16,17,18,19,20,21,22],r_ 24,r_ 25] [K_ v,K_ (.slice ((sA (E2 13))) 13 13),K_ (vN i),K_ (elt (.slice ((sA (E2 13))) 13 13) (i*4)),K_ (elt (.slice ((sA (E2 13))) 13 13) (i*4)),K_ (vI ((sgi pubS i).d)),K_ (.slice ((sA (E2 13))) 13 13),K_ (vN i),K_ (elt (.slice ((sA (E2 13))) 13 13) (i*4)),K_ (elt (.slice ((sA (E2 13))) 13 13) (i*4+1)),K_ (vI ((sgi pubS i).b)),K_ (.slice ((sA (E2 13))) 13 13),K_ (vN i),K_ (elt (.slice ((sA (E2 13))) 13 13) (i*4)),K_ (elt (.slice ((sA (E2 13))) 13 13) (i*4+2)),K_ (vI ((sgi pubS i).f)),K_ (.slice ((sA (E2 13))) 13 13),K_ (vN i),K_ (elt (.slice ((sA (E2 13))) 13 13) (i*4)),K_ (elt (.slice ((sA (E2 13))) 13 13) (i*4+3)),K_ (vI ((sgi pubS i).r)),K_ (vSg (sgi pubS i)),KE_ fun env=>.slice (some ⟨(pb env 22),0,none⟩) 1 1,KE_ fun env=>.slice (sA (env 23)) (i+1) (sC (env 23)),KE_ fun env=>.slice (sA (env 23)) (i+1) (sC (env 23))] (fun E7=>[(0,.slice none 0 0),(1,.slice ((sA (E2 13))) 13 13),(2,.slice (sA (E7 23)) (i+1) (sC (E7 23))),(3,vN i),(18,vN i),(19,.slice ((sA (E2 13))) 13 13),(20,vI ((13:Int))),(21,bT),(24,v),(25,.slice ((sA (E2 13))) 13 13),(26,vN i),(27,elt (.slice ((sA (E2 13))) 13 13) (i*4)),(28,elt (.slice ((sA (E2 13))) 13 13) (i*4)),(29,vI ((sgi pubS i).d)),(30,.slice ((sA (E2 13))) 13 13),(31,vN i),(32,elt (.slice ((sA (E2 13))) 13 13) (i*4)),(33,elt (.slice ((sA (E2 13))) 13 13) (i*4+1)),(34,vI ((sgi pubS i).b)),(35,.slice ((sA (E2 13))) 13 13),(36,vN i),(37,elt (.slice ((sA (E2 13))) 13 13) (i*4)),(38,elt (.slice ((sA (E2 13))) 13 13) (i*4+2)),(39,vI ((sgi pubS i).f)),(40,.slice ((sA (E2 13))) 13 13),(41,vN i),(42,elt (.slice ((sA (E2 13))) 13 13) (i*4)),(43,elt (.slice ((sA (E2 13))) 13 13) (i*4+3)),(44,vI ((sgi pubS i).r)),(45,vSg (sgi pubS i)),(46,.slice (some ⟨(pb E7 22),0,none⟩) 1 1),(47,.slice (sA (E7 23)) (i+1) (sC (E7 23)))]) (W:=[{ i:=22,T:=128,c0:=[vI ((sgi pubS i).d),vI ((sgi pubS i).b),vI ((sgi pubS i).f),vI ((sgi pubS i).r)] }]) (th:=(some (23,fun env w=>OwnK 128 4 w w1.heap.size (.slice (sA (env 23)) (i+1) (sC (env 23))) (i+1) (sgR i ++ [vI ((sgi pubS i).d),vI ((sgi pubS i).b),vI ((sgi pubS i).f),vI ((sgi pubS i).r)])))) (T:=fun E7=>fun w=>OwnK 128 4 w w1.heap.size (.slice (sA (E7 23)) (i+1) (sC (E7 23))) (i+1) (sgR i ++ [vI ((sgi pubS i).d),vI ((sgi pubS i).b),vI ((sgi pubS i).f),vI ((sgi pubS i).r)])) (M':=fun E7=>[((pb E7 22),128,[vI ((sgi pubS i).d),vI ((sgi pubS i).b),vI ((sgi pubS i).f),vI ((sgi pubS i).r)])]) (hs:=c_ mv_<|c_ mv_<|c_ mv_<|c_ (ia_ Tryz.underlying143 sz142 i (i*4) ((i:Nat):Int) (fun _ env _ wd hA=>(hq.grown hA.j.st.gr).els) (rfl) (by omega) rfl)<|c_ (s_ra rfl rfl rfl (fun _=>wanted_none rfl _) (i*4) 0 (i*4) rfl (s:=fun _=>.slice ((sA (E2 13))) 13 13) rfl (fun _=>rfl) (fun _=>rfl) (fun {D env ac wd} hA=>(hq.grown hA.j.st.gr).els) (by omega) (fun b q w=>by simp [go_sem,Tryz.underlying142,sz3]))<|c_ (le_ (i*4) (fun _ env _ wd hA=>(hq.grown hA.j.st.gr).els) (by omega) (le3 (by exact sgC_0 pubS i)))<|c_ mv_<|c_ mv_<|c_ (ia_ Tryz.underlying143 sz142 i (i*4) ((i:Nat):Int) (fun _ env _ wd hA=>(hq.grown hA.j.st.gr).els) (rfl) (by omega) rfl)<|c_ (s_ra rfl rfl rfl (fun _=>wanted_none rfl _) (i*4) 1 (i*4+1) rfl (s:=fun _=>.slice ((sA (E2 13))) 13 13) rfl (fun _=>rfl) (fun _=>rfl) (fun {D env ac wd} hA=>(hq.grown hA.j.st.gr).els) (by omega) (fun b q w=>by simp [go_sem,Tryz.underlying142,sz3]))<|c_ (le_ (i*4+1) (fun _ env _ wd hA=>(hq.grown hA.j.st.gr).els) (by omega) (le3 (by exact sgC_1 pubS i)))<|c_ mv_<|c_ mv_<|c_ (ia_ Tryz.underlying143 sz142 i (i*4) ((i:Nat):Int) (fun _ env _ wd hA=>(hq.grown hA.j.st.gr).els) (rfl) (by omega) rfl)<|c_ (s_ra rfl rfl rfl (fun _=>wanted_none rfl _) (i*4) 2 (i*4+2) rfl (s:=fun _=>.slice ((sA (E2 13))) 13 13) rfl (fun _=>rfl) (fun _=>rfl) (fun {D env ac wd} hA=>(hq.grown hA.j.st.gr).els) (by omega) (fun b q w=>by simp [go_sem,Tryz.underlying142,sz3]))<|c_ (le_ (i*4+2) (fun _ env _ wd hA=>(hq.grown hA.j.st.gr).els) (by omega) (le3 (by exact sgC_2 pubS i)))<|c_ mv_<|c_ mv_<|c_ (ia_ Tryz.underlying143 sz142 i (i*4) ((i:Nat):Int) (fun _ env _ wd hA=>(hq.grown hA.j.st.gr).els) (rfl) (by omega) rfl)<|c_ (s_ra rfl rfl rfl (fun _=>wanted_none rfl _) (i*4) 3 (i*4+3) rfl (s:=fun _=>.slice ((sA (E2 13))) 13 13) rfl (fun _=>rfl) (fun _=>rfl) (fun {D env ac wd} hA=>(hq.grown hA.j.st.gr).els) (by omega) (fun b q w=>by simp [go_sem,Tryz.underlying142,sz3]))<|c_ (le_ (i*4+3) (fun _ env _ wd hA=>(hq.grown hA.j.st.gr).els) (by omega) (le3 (by exact sgC_3 pubS i)))<|c_ (bd0 ([vI ((sgi pubS i).d),vI ((sgi pubS i).b),vI ((sgi pubS i).f),vI ((sgi pubS i).r)]))<|c_ (s_bsM rfl rfl 0 rfl rfl 1 rfl (fun {D env ac wd} hA=>by have e45:ac.tmps[45]? = some (vSg (sgi pubS i)):=hA.g rfl;simp [go_sem,e45,Tryz.underlying82]))<|c_ (s_appS rfl rfl rfl rfl Tryz.underlying82 seg_info rfl (by omega) (by omega) rfl rfl (fun _=>trivial) rfl (fun _ h=>h) [vI ((sgi pubS i).d),vI ((sgi pubS i).b),vI ((sgi pubS i).f),vI ((sgi pubS i).r)] rfl (by simp [Value.oneCell']) rfl (by omega) 22 0 rfl rfl rfl rfl rfl (fun _=>rfl) (fun hA=>hA.e rfl))<|c_ mv_<|e_) (k:=fun E7 ac wd h_7=>?_)
 clear h_6
 refine blk_n (then_n ?_)
 refine rg_ h_7 (tri 3) [K_ (vN i),K_ (vI (((i:Nat):Int)+1)),K_ (vI (((i:Nat):Int)+1))] (fun E8=>[(0,.slice none 0 0),(1,.slice ((sA (E2 13))) 13 13),(2,.slice (sA (E7 23)) (i+1) (sC (E7 23))),(3,vI (((i:Nat):Int)+1)),(18,vN i),(19,.slice ((sA (E2 13))) 13 13),(20,vI ((13:Int))),(21,bT),(22,vN i),(23,vI (((i:Nat):Int)+1)),(24,v),(25,.slice ((sA (E2 13))) 13 13),(26,vN i),(27,elt (.slice ((sA (E2 13))) 13 13) (i*4)),(28,elt (.slice ((sA (E2 13))) 13 13) (i*4)),(29,vI ((sgi pubS i).d)),(30,.slice ((sA (E2 13))) 13 13),(31,vN i),(32,elt (.slice ((sA (E2 13))) 13 13) (i*4)),(33,elt (.slice ((sA (E2 13))) 13 13) (i*4+1)),(34,vI ((sgi pubS i).b)),(35,.slice ((sA (E2 13))) 13 13),(36,vN i),(37,elt (.slice ((sA (E2 13))) 13 13) (i*4)),(38,elt (.slice ((sA (E2 13))) 13 13) (i*4+2)),(39,vI ((sgi pubS i).f)),(40,.slice ((sA (E2 13))) 13 13),(41,vN i),(42,elt (.slice ((sA (E2 13))) 13 13) (i*4)),(43,elt (.slice ((sA (E2 13))) 13 13) (i*4+3)),(44,vI ((sgi pubS i).r)),(45,vSg (sgi pubS i)),(46,.slice (some ⟨(pb E7 22),0,none⟩) 1 1),(47,.slice (sA (E7 23)) (i+1) (sC (E7 23)))]) (hs:=c_ mv_<|c_ (bi0 (vN i) (vI 1))<|c_ mv_<|e_) (k:=fun E8 ac wd h_8=>?_)
 clear h_7
 refine then_n ?_
 exact ⟨⟨.slice (sA (E7 23)) (i+1) (sC (E7 23)),i+1,by omega,((h_8.take (M1:=[]) rfl).re rfl).th (fun w hw=>by rw [sgR_succ];exact hw)⟩,by rw [sI_eq (h_8.g (t:=3) rfl),hmu];omega⟩
 obtain rfl:i=13:=by omega
 refine rg_ h_5 [[0],[1],[1,2],r_ 4] [K_ (vN 13),K_ (.slice ((sA (E2 13))) 13 13),K_ (vI ((13:Int))),K_ bF] (fun E6=>[(0,.slice none 0 0),(1,.slice ((sA (E2 13))) 13 13),(2,v),(3,vN 13),(18,vN 13),(19,.slice ((sA (E2 13))) 13 13),(20,vI ((13:Int))),(21,bF)]) (hs:=c_ mv_<|c_ mv_<|c_ (ln_ Tryz.underlying143 fun _ env _ wd hA=>(hq.grown hA.j.st.gr).els)<|c_ (bi0 (vN 13) (vI ((13:Int))))<|e_) (k:=fun E6 ac wd h_6=>?_)
 clear h_5
 refine then_n ?_
 refine wp_cond_false (eval_tmp (h_6.g (t:=21) rfl)) ?_
 refine wp_exit (then_e (then_e (blk_x (then_n (wp_seq ?_)))))
 refine rg_ h_6 [[0],[0,1]] [K_ v,K_ v] (fun E7=>[(0,v)]) (hs:=c_ mv_<|c_ mv_<|e_) (k:=fun E7 ac wd h_7=>?_)
 clear h_6
 refine then_n (wp_ret ?_)
 have s0:=h_7.g (t:=0) rfl
 refine leave (v:=v) h_7.df (by simp [results,Tryz.results47,go_sem,Array.getD_eq_getD_getElem?,s0]) ?_
 have hO:OwnK 128 4 _ w1.heap.size v 13 (sgR 13):=h_7.st.nowT
 exact ⟨_,rfl,below_to (gr_below hg0) h_7.st.below,OwnK.rowP (by intro i hi;have hi2:i < 52:=hi;simp [sgR,hi2]) (by omega) hO,fun b hb=>Nat.le_trans hg0.size (own_ge hO hb)⟩
theorem rsegments_up {B:Nat} {w:World} (hB:B≤w.heap.size):Calls Tryz.prog 47 #[] w fun e w'=>∃ v,e = .returned v∧Below w.heap.size w w'∧SegN B w' v pubS:=by
 refine (rsegments_w w).mono ?_
 rintro e w' ⟨v,rfl,hb,h1,h2⟩
 exact ⟨v,rfl,hb,h1,fun b hb'=>Nat.le_trans hB (h2 b hb')⟩
end Go.Proofs.YtdfkghpgekmmlaaGreat
namespace Go.Proofs.YtdfkghpgekmmlaaGreat
open Go.RowKit
attribute [local go_sem] vN bT bF rS vW vM vL vT2 vT3 vP vI execOp Act.eval evC bigF vB hi_zero lo_zero Tryz.underlying24 Tryz.underlying26 Tryz.underlying39
theorem rOld15_any (w0:World) (A0:Option Addr) (c0:Nat) (es:List (Int × Int)) (u x:Int) (hv:Ents w0 w0.heap.size (.slice A0 es.length c0) es) (hp:okPre es es.length=true) (hn0:0 < es.length):Calls Tryz.prog 27 #[.agg #[vI u,vI x,.slice A0 es.length c0]] w0 fun e w'=>e = .returned (.bool (oldB es))∧Below w0.heap.size w0 w':=by
 have hb0:=okPre_num hp (i:=0) hn0
 have hst:=St.start w0 (Θ:=fun _=>True) (fun _ _=>trivial)
 refine enter Tryz.func27 rfl (n:=17) rfl (Nat.le_of_ble_eq_true rfl) hst (L:=[(0,.agg #[vI u,vI x,.slice A0 es.length c0])]) (lk_args rfl) (fun ac h=>?_)
 refine wp_seq ?_
 refine rg_ h [[0],[1]] [KE_ fun env=>vP (pb env 0) 0,K_ bF] (fun E1=>[(1,vP (pb E1 0) 0),(2,bF)]) (W:=[{ i:=0,T:=24,c0:=[vI u,vI x,.slice A0 es.length c0] }]) (M':=fun E1=>[((pb E1 0),24,[vI u,vI x,.slice A0 es.length c0])]) (hs:=c_ (bx0 0 (.agg #[vI u,vI x,.slice A0 es.length c0]))<|c_ mv_<|e_) (k:=fun E1 ac wd h_1=>?_)
 clear h
 refine then_n (wp_seq ?_)
 by_cases h1:day0 es=41317
 by_cases h2:(es.getD 0 (0,0)).2=10
 have hob:oldB es=true:=oldB_iff.2 ⟨h1,h2⟩
 refine rg_ h_1 (tri 15) [K_ (vP (pb E1 0) 2),K_ (.slice A0 es.length c0),K_ (elt (.slice A0 es.length c0) (0*2)),K_ (.agg #[vI ((es.getD 0 (0,0)).1),vI ((es.getD 0 (0,0)).2)]),K_ (vI (day0 es)),K_ bT,K_ bT,K_ (vP (pb E1 0) 2),K_ (.slice A0 es.length c0),K_ (elt (.slice A0 es.length c0) (0*2)),K_ (elt (.slice A0 es.length c0) (0*2+1)),K_ (vI ((es.getD 0 (0,0)).2)),K_ bT,K_ bT,K_ bT] (fun E2=>[(2,bT)]) (hs:=c_ (fa0 (vP (pb E1 0) 0))<|c_ (ld_ 0 (hrd:=by exact rd22 rfl))<|c_ (ia_ Tryz.underlying22 sz70 0 (0*2) 0 (fun _ env _ wd hA=>(hv.gn hA.j.st.gr).els) (rfl) (hn0) rfl)<|c_ (le_ (0*2) (fun _ env _ wd hA=>(hv.gn hA.j.st.gr).els) (by omega) (le70 (by exact enC_0 es 0) (by exact enC_1 es 0)))<|c_ (cl_ Tryz.func36 (h:=fun env=>⟨_,(Ret.eq (rday_any (es.getD 0 (0,0)).1 (es.getD 0 (0,0)).2 hb0.1 hb0.2.1) (y_day0 es)),rfl⟩))<|c_ (bi0 (vI (day0 es)) (vI 41317) (h:=by intro env w;simp [go_sem,h1]))<|c_ mv_<|c_ (fa0 (vP (pb E1 0) 0))<|c_ (ld_ 0 (hrd:=by exact rd22 rfl))<|c_ (ia_ Tryz.underlying22 sz70 0 (0*2) 0 (fun _ env _ wd hA=>(hv.gn hA.j.st.gr).els) (rfl) (hn0) rfl)<|c_ (s_fa rfl rfl rfl (fun hA=>hA.gy rfl rfl rfl) (0*2) 1 (0*2+1) rfl (s:=fun _=>.slice A0 es.length c0) rfl (fun _=>rfl) (fun {D env ac wd} hA=>(hv.gn hA.j.st.gr).els) (by omega) (fun b q w=>by simp [go_sem,Tryz.underlying70]))<|c_ (le_ (0*2+1) (fun _ env _ wd hA=>(hv.gn hA.j.st.gr).els) (by omega) (le3 (by exact enC_1 es 0)))<|c_ (bi0 (vI ((es.getD 0 (0,0)).2)) (vI 10) (h:=by intro env w;(first | (simp [go_sem,h2];done) | (simp [go_sem];simp only [List.getD_eq_getElem?_getD] at h2;simp [h2]))))<|c_ (pk0 bT bT bF (h:=by intro env w;(first | (simp [go_sem,h2];done) | (simp [go_sem];simp only [List.getD_eq_getElem?_getD] at h2;simp [h2]))))<|c_ mv_<|e_) (k:=fun E2 ac wd h_2=>?_)
 clear h_1
 refine then_n (wp_ret ?_)
 have s2:=h_2.g (t:=2) rfl
 refine leave (v:=.bool true) h_2.df (by simp [results,Tryz.results27,go_sem,Array.getD_eq_getD_getElem?,s2]) ?_
 exact ⟨by rw [hob],h_2.st.below⟩
 have hob:oldB es=false:=by unfold oldB;simp only [h1,h2,decide_true,decide_false,Bool.and_false]
 refine rg_ h_1 (tri 15) [K_ (vP (pb E1 0) 2),K_ (.slice A0 es.length c0),K_ (elt (.slice A0 es.length c0) (0*2)),K_ (.agg #[vI ((es.getD 0 (0,0)).1),vI ((es.getD 0 (0,0)).2)]),K_ (vI (day0 es)),K_ bT,K_ bT,K_ (vP (pb E1 0) 2),K_ (.slice A0 es.length c0),K_ (elt (.slice A0 es.length c0) (0*2)),K_ (elt (.slice A0 es.length c0) (0*2+1)),K_ (vI ((es.getD 0 (0,0)).2)),K_ bF,K_ bF,K_ bF] (fun E2=>[(2,bF)]) (hs:=c_ (fa0 (vP (pb E1 0) 0))<|c_ (ld_ 0 (hrd:=by exact rd22 rfl))<|c_ (ia_ Tryz.underlying22 sz70 0 (0*2) 0 (fun _ env _ wd hA=>(hv.gn hA.j.st.gr).els) (rfl) (hn0) rfl)<|c_ (le_ (0*2) (fun _ env _ wd hA=>(hv.gn hA.j.st.gr).els) (by omega) (le70 (by exact enC_0 es 0) (by exact enC_1 es 0)))<|c_ (cl_ Tryz.func36 (h:=fun env=>⟨_,(Ret.eq (rday_any (es.getD 0 (0,0)).1 (es.getD 0 (0,0)).2 hb0.1 hb0.2.1) (y_day0 es)),rfl⟩))<|c_ (bi0 (vI (day0 es)) (vI 41317) (h:=by intro env w;simp [go_sem,h1]))<|c_ mv_<|c_ (fa0 (vP (pb E1 0) 0))<|c_ (ld_ 0 (hrd:=by exact rd22 rfl))<|c_ (ia_ Tryz.underlying22 sz70 0 (0*2) 0 (fun _ env _ wd hA=>(hv.gn hA.j.st.gr).els) (rfl) (hn0) rfl)<|c_ (s_fa rfl rfl rfl (fun hA=>hA.gy rfl rfl rfl) (0*2) 1 (0*2+1) rfl (s:=fun _=>.slice A0 es.length c0) rfl (fun _=>rfl) (fun {D env ac wd} hA=>(hv.gn hA.j.st.gr).els) (by omega) (fun b q w=>by simp [go_sem,Tryz.underlying70]))<|c_ (le_ (0*2+1) (fun _ env _ wd hA=>(hv.gn hA.j.st.gr).els) (by omega) (le3 (by exact enC_1 es 0)))<|c_ (bi0 (vI ((es.getD 0 (0,0)).2)) (vI 10) (h:=by intro env w;(first | (simp [go_sem,h2];done) | (simp [go_sem];simp only [List.getD_eq_getElem?_getD] at h2;simp [h2]))))<|c_ (pk0 bT bF bF (h:=by intro env w;(first | (simp [go_sem,h2];done) | (simp [go_sem];simp only [List.getD_eq_getElem?_getD] at h2;simp [h2]))))<|c_ mv_<|e_) (k:=fun E2 ac wd h_2=>?_)
 clear h_1
 refine then_n (wp_ret ?_)
 have s2:=h_2.g (t:=2) rfl
 refine leave (v:=.bool false) h_2.df (by simp [results,Tryz.results27,go_sem,Array.getD_eq_getD_getElem?,s2]) ?_
 exact ⟨by rw [hob],h_2.st.below⟩
 have hob:oldB es=false:=by unfold oldB;simp [h1]
 refine rg_ h_1 (tri 15) [K_ (vP (pb E1 0) 2),K_ (.slice A0 es.length c0),K_ (elt (.slice A0 es.length c0) (0*2)),K_ (.agg #[vI ((es.getD 0 (0,0)).1),vI ((es.getD 0 (0,0)).2)]),K_ (vI (day0 es)),K_ bF,K_ bF,K_ undef,K_ undef,K_ undef,K_ undef,K_ undef,K_ undef,K_ bF,K_ bF] (fun E2=>[(2,bF)]) (hs:=c_ (fa0 (vP (pb E1 0) 0))<|c_ (ld_ 0 (hrd:=by exact rd22 rfl))<|c_ (ia_ Tryz.underlying22 sz70 0 (0*2) 0 (fun _ env _ wd hA=>(hv.gn hA.j.st.gr).els) (rfl) (hn0) rfl)<|c_ (le_ (0*2) (fun _ env _ wd hA=>(hv.gn hA.j.st.gr).els) (by omega) (le70 (by exact enC_0 es 0) (by exact enC_1 es 0)))<|c_ (cl_ Tryz.func36 (h:=fun env=>⟨_,(Ret.eq (rday_any (es.getD 0 (0,0)).1 (es.getD 0 (0,0)).2 hb0.1 hb0.2.1) (y_day0 es)),rfl⟩))<|c_ (bi0 (vI (day0 es)) (vI 41317) (h:=by intro env w;simp [go_sem,h1]))<|c_ mv_<|c_ off_<|c_ off_<|c_ off_<|c_ off_<|c_ off_<|c_ off_<|c_ (pk0 bF undef bF)<|c_ mv_<|e_) (k:=fun E2 ac wd h_2=>?_)
 clear h_1
 refine then_n (wp_ret ?_)
 have s2:=h_2.g (t:=2) rfl
 refine leave (v:=.bool false) h_2.df (by simp [results,Tryz.results27,go_sem,Array.getD_eq_getD_getElem?,s2]) ?_
 exact ⟨by rw [hob],h_2.st.below⟩
theorem rOver15_any (w0:World) (A0:Option Addr) (c0:Nat) (es:List (Int × Int)) (u x:Int) (hv:Ents w0 w0.heap.size (.slice A0 es.length c0) es) (d s a:Int) (q4:-1099511627776≤d) (q5:d≤1099511627776) (q0:0≤s) (q1:s≤86400):Calls Tryz.prog 49 #[.agg #[vI u,vI x,.slice A0 es.length c0],vL d s a] w0 fun e w'=>e = .returned (.bool (overB x d s))∧Below w0.heap.size w0 w':=by
 have hst:=St.start w0 (Θ:=fun _=>True) (fun _ _=>trivial)
 refine enter Tryz.func49 rfl (n:=15) rfl (Nat.le_of_ble_eq_true rfl) hst (L:=[(0,.agg #[vI u,vI x,.slice A0 es.length c0]),(1,vL d s a)]) (lk_args rfl) (fun ac h=>?_)
 refine wp_seq ?_
 refine rg_ h [[0],[1],[2]] [KE_ fun env=>vP (pb env 0) 0,KE_ fun env=>vP (pb env 1) 0,K_ bF] (fun E1=>[(2,vP (pb E1 0) 0),(3,vP (pb E1 1) 0),(4,bF)]) (W:=[{ i:=0,T:=24,c0:=[vI u,vI x,.slice A0 es.length c0] },{ i:=1,T:=26,c0:=[vI d,vI s,vI a] }]) (M':=fun E1=>[((pb E1 0),24,[vI u,vI x,.slice A0 es.length c0]),((pb E1 1),26,[vI d,vI s,vI a])]) (hs:=c_ (bx0 0 (.agg #[vI u,vI x,.slice A0 es.length c0]))<|c_ (bx0 1 (vL d s a))<|c_ mv_<|e_) (k:=fun E1 ac wd h_1=>?_)
 clear h
 refine then_n (wp_seq ?_)
 refine rg_ h_1 [[0],[0,1],[0,1,2],r_ 4,[4],[4,5],r_ 7,[7],[7,8],r_ 10,r_ 11] [K_ (vP (pb E1 1) 0),K_ (vI d),K_ (vI (d-15020)),K_ (vI ((d-15020)*86400)),K_ (vP (pb E1 1) 1),K_ (vI s),K_ (vI (((d-15020)*86400)+s)),K_ (vP (pb E1 0) 1),K_ (vI x),K_ (.bool (decide (x≤((d-15020)*86400)+s))),K_ (.bool (decide (x≤((d-15020)*86400)+s)))] (fun E2=>[(4,.bool (decide (x≤((d-15020)*86400)+s)))]) (hs:=c_ (fa0 (vP (pb E1 1) 0))<|c_ (ld_ 1 (hrd:=by exact rd3 rfl))<|c_ (bi0 (vI d) (vI 15020))<|c_ (bi0 (vI (d-15020)) (vI 86400))<|c_ (fa0 (vP (pb E1 1) 0))<|c_ (ld_ 1 (hrd:=by exact rd3 rfl))<|c_ (bi0 (vI ((d-15020)*86400)) (vI s))<|c_ (fa0 (vP (pb E1 0) 0))<|c_ (ld_ 0 (hrd:=by exact rd3 rfl))<|c_ (bi0 (vI (((d-15020)*86400)+s)) (vI x))<|c_ mv_<|e_) (k:=fun E2 ac wd h_2=>?_)
 clear h_1
 refine then_n (wp_ret ?_)
 have s4:=h_2.g (t:=4) rfl
 refine leave (v:=.bool (decide (x≤((d-15020)*86400)+s))) h_2.df (by simp [results,Tryz.results49,go_sem,Array.getD_eq_getD_getElem?,s4]) ?_
 exact ⟨rfl,h_2.st.below⟩
theorem y_tai_jn {es:List (Int × Int)} {d s a:Int} (h:whyU es d s a=0):taiU es d s a=jn d (s+offV es d) a:=by unfold taiU jn;rw [if_pos h];omega
theorem rTai15_any (w0:World) (A0:Option Addr) (c0:Nat) (es:List (Int × Int)) (u x:Int) (hv:Ents w0 w0.heap.size (.slice A0 es.length c0) es) (hp:okPre es es.length=true) (hn0:0 < es.length) (d s a:Int) (hx0:-9223372036854775808≤d) (hx1:d < 9223372036854775808) (hx2:-9223372036854775808≤s) (hx3:s < 9223372036854775808) (hx4:-9223372036854775808≤a) (hx5:a < 9223372036854775808) (lax:Bool):Calls Tryz.prog 16 #[.agg #[vI u,vI x,.slice A0 es.length c0],vL d s a,.bool (lax)] w0 fun e w'=>∃ v,e = .returned (.tuple #[v,vI (tE es x lax d s a)])∧Below w0.heap.size w0 w'∧BigN w0.heap.size w' v (tV es x lax d s a):=by
 have hst:=St.start w0 (Θ:=fun _=>True) (fun _ _=>trivial)
 refine enter Tryz.func16 rfl (n:=45) rfl (Nat.le_of_ble_eq_true rfl) hst (L:=[(0,.agg #[vI u,vI x,.slice A0 es.length c0]),(1,vL d s a),(2,.bool (lax))]) (lk_args rfl) (fun ac h=>?_)
 replace h:=h.facts
 refine wp_seq ?_
 refine rf_ h [[0],[1],[2],[3]] [KE_ fun env=>vP (pb env 0) 0,KE_ fun env=>vP (pb env 1) 0,KE_ fun env=>vP (pb env 2) 0,K_ (vI 0)] (fun E1=>[(2,.bool (lax)),(3,vP (pb E1 0) 0),(4,vP (pb E1 1) 0),(6,vP (pb E1 2) 0),(7,vI 0)]) (W:=[{ i:=0,T:=24,c0:=[vI u,vI x,.slice A0 es.length c0] },{ i:=1,T:=26,c0:=[vI d,vI s,vI a] },{ i:=2,T:=39,c0:=[bF,.slice none 0 0] }]) (M':=fun E1=>[((pb E1 0),24,[vI u,vI x,.slice A0 es.length c0]),((pb E1 1),26,[vI d,vI s,vI a]),((pb E1 2),39,[bF,.slice none 0 0])]) (hs:=c_ (bx0 0 (.agg #[vI u,vI x,.slice A0 es.length c0]))<|c_ (bx0 1 (vL d s a))<|c_ (al_ 2)<|c_ mv_<|e_) (k:=fun E1 ac wd h_1=>?_)
 clear h
 refine then_n (wp_seq ?_)
 refine rf_ h_1 [[0],[1],[2],[1,2,3],[4],r_ 6,r_ 7] [K_ (.agg #[bF,.slice none 0 0]),K_ (.agg #[vI u,vI x,.slice A0 es.length c0]),K_ (vL d s a),K_ (vI (whyU es d s a)),KE_ fun env=>vP (pb env 4) 0,none,K_ (vI (whyU es d s a))] (fun E2=>[(2,.bool (lax)),(3,vP (pb E1 0) 0),(4,vP (pb E1 1) 0),(6,vP (pb E1 2) 0),(7,vI 0),(8,vP (pb E2 4) 0),(9,vI (whyU es d s a))]) (W:=[{ i:=4,T:=39,c0:=[bF,.slice none 0 0],s:=some 5,c1:=fun _=>[bF,.slice none 0 0] }]) (M':=fun E2=>[((pb E1 0),24,[vI u,vI x,.slice A0 es.length c0]),((pb E1 1),26,[vI d,vI s,vI a]),((pb E1 2),39,[bF,.slice none 0 0]),((pb E2 4),39,[bF,.slice none 0 0])]) (hs:=c_ (bd0 ([]))<|c_ (ld_ 0 (hrd:=by exact rd24 rfl rfl rfl))<|c_ (ld_ 1 (hrd:=by exact rd26 rfl rfl rfl))<|c_ (cw_ Tryz.func45 (h:=fun _ env _ wd hA=>⟨_,(rWhy_any wd A0 c0 es u x (hv.gn hA.j.st.gr) hp hn0 d s a),rfl⟩))<|c_ (al_ 3)<|c_ (sw_ 3 4 (hst:=by exact fun _ _ _ hc=>st39 rfl rfl rfl hc))<|c_ mv_<|e_) (k:=fun E2 ac wd h_2=>?_)
 clear h_1
 refine then_n (wp_seq (wp_seq ?_))
 cases ho:oldB es
 refine rf_ h_2 (tri 7) [K_ (.agg #[vI u,vI x,.slice A0 es.length c0]),K_ bF,K_ bF,K_ undef,K_ undef,K_ undef,K_ bF] (fun E3=>[(2,.bool (lax)),(3,vP (pb E1 0) 0),(4,vP (pb E1 1) 0),(6,vP (pb E1 2) 0),(7,vI 0),(8,vP (pb E2 4) 0),(9,vI (whyU es d s a)),(20,bF)]) (hs:=c_ (ld_ 0 (hrd:=by exact rd24 rfl rfl rfl))<|c_ (cw_ Tryz.func27 (h:=fun _ env _ wd hA=>⟨_,(u_res_eq (rOld15_any wd A0 c0 es u x (hv.gn hA.j.st.gr) hp hn0) (congrArg Value.bool ho)),rfl⟩))<|c_ mv_<|c_ off_<|c_ off_<|c_ off_<|c_ (pk0 bF undef bF)<|e_) (k:=fun E3 ac wd h_3=>?_)
 clear h_2
 refine then_n ?_
 refine wp_cond_false (eval_tmp (h_3.g (t:=20) rfl)) ?_
 refine wp_seq ?_
 have hct:=ct_utc (d:=d) (s:=s) (a:=a) (.inl ho)
 by_cases hw:whyU es d s a=0
 obtain ⟨q0,q1,q2,q3,q4,q5,_,_⟩:=whyU_ok hw;have he:ctE es d s a=0:=hct.2.trans hw;have htj:=y_tai_jn hw
 refine rf_ h_3 [[0],[0,1]] [K_ (vI (whyU es d s a)),K_ bT] (fun E4=>[(2,.bool (lax)),(3,vP (pb E1 0) 0),(4,vP (pb E1 1) 0),(6,vP (pb E1 2) 0),(7,vI 0),(8,vP (pb E2 4) 0),(9,vI (whyU es d s a)),(28,bT)]) (hs:=c_ mv_<|c_ (bi0 (vI (whyU es d s a)) (vI 0) (h:=by intro env w;simp [go_sem,hw]))<|e_) (k:=fun E4 ac wd h_4=>?_)
 clear h_3
 refine then_n ?_
 refine wp_cond_true (eval_tmp (h_4.g (t:=28) rfl)) ?_
 refine rf_ h_4 [[0],[1],[0,1,2],r_ 4] [K_ (.agg #[vI u,vI x,.slice A0 es.length c0]),K_ (vL d s a),KE_ fun env=>bigF (jn d (s+offV es d) a) (env 2),none] (fun E5=>[(2,.bool (lax)),(3,vP (pb E1 0) 0),(4,vP (pb E1 1) 0),(6,vP (pb E1 2) 0),(7,vI 0),(8,vP (pb E2 4) 0),(9,vI (whyU es d s a))]) (S:=[⟨3,3,fun env=>[.bool (decide (jn d (s+offV es d) a < 0)),rS (jn d (s+offV es d) a) ((bA (env 2))) ((bC (env 2)))]⟩]) (F:=[(2,fun env w=>BigN w0.heap.size w (env 2) (jn d (s+offV es d) a))]) (L1:=fun E5=>[fun w=>BigN w0.heap.size w (E5 2) (jn d (s+offV es d) a)]) (M':=fun E5=>[((pb E1 0),24,[vI u,vI x,.slice A0 es.length c0]),((pb E1 1),26,[vI d,vI s,vI a]),((pb E1 2),39,[bF,.slice none 0 0]),((pb E2 4),39,[.bool (decide (jn d (s+offV es d) a < 0)),rS (jn d (s+offV es d) a) ((bA (E5 2))) ((bC (E5 2)))])]) (hs:=c_ (ld_ 0 (hrd:=by exact rd24 rfl rfl rfl))<|c_ (ld_ 1 (hrd:=by exact rd26 rfl rfl rfl))<|c_ (cb_ Tryz.func48 (jn d (s+offV es d) a) (h:=fun _ env _ wd hA=>⟨_,rTai12_any wd A0 c0 es u x (hv.gn hA.j.st.gr) hp d s a q0 q1 q2 q3 q4 q5,rfl⟩))<|c_ (se_ 3 (hst:=by exact fun _ _ _ hc=>st39 rfl rfl rfl hc))<|e_) (k:=fun E5 ac wd h_5=>?_)
 clear h_4
 refine then_n (wp_seq (wp_seq ?_))
 refine rf_ h_5 [[0],[0,1]] [K_ (vI (whyU es d s a)),K_ bF] (fun E6=>[(2,.bool (lax)),(3,vP (pb E1 0) 0),(4,vP (pb E1 1) 0),(6,vP (pb E1 2) 0),(7,vI 0),(8,vP (pb E2 4) 0),(9,vI (whyU es d s a)),(33,bF)]) (hs:=c_ mv_<|c_ (bi0 (vI (whyU es d s a)) (vI 0) (h:=by intro env w;simp [go_sem,hw]))<|e_) (k:=fun E6 ac wd h_6=>?_)
 clear h_5
 refine then_n ?_
 refine wp_cond_false (eval_tmp (h_6.g (t:=33) rfl)) ?_
 refine wp_skip (then_n (wp_seq (wp_seq ?_)))
 rcases lax with _ | _
 cases hov:overB x d s
 refine rf_ h_6 [[0],[0,1],[0,1,2],r_ 4,[0,1,2,4],r_ 6,r_ 7] [K_ bF,K_ bT,K_ bT,K_ (.agg #[vI u,vI x,.slice A0 es.length c0]),K_ (vL d s a),K_ bF,K_ bF] (fun E7=>[(6,vP (pb E1 2) 0),(7,vI 0),(8,vP (pb E2 4) 0),(42,bF)]) (hs:=c_ mv_<|c_ (un0 bF)<|c_ mv_<|c_ (ld_ 0 (hrd:=by exact rd24 rfl rfl rfl))<|c_ (ld_ 1 (hrd:=by exact rd26 rfl rfl rfl))<|c_ (cw_ Tryz.func49 (h:=fun _ env _ wd hA=>⟨_,(u_res_eq (rOver15_any wd A0 c0 es u x (hv.gn hA.j.st.gr) d s a q4 q5 q0 q1) (congrArg Value.bool hov)),rfl⟩))<|c_ (pk0 bT bF bF)<|e_) (k:=fun E7 ac wd h_7=>?_)
 clear h_6
 refine then_n ?_
 refine wp_cond_false (eval_tmp (h_7.g (t:=42) rfl)) ?_
 refine wp_skip (then_n (wp_seq ?_))
 refine rf_ h_7 (tri 3) [K_ (bigF (jn d (s+offV es d) a) (E5 2)),none,K_ (vI 0)] (fun E8=>[(6,vP (pb E1 2) 0),(7,vI 0)]) (S:=[⟨2,1,fun _=>[.bool (decide (jn d (s+offV es d) a < 0)),rS (jn d (s+offV es d) a) ((bA (E5 2))) ((bC (E5 2)))]⟩]) (M':=fun E8=>[((pb E1 0),24,[vI u,vI x,.slice A0 es.length c0]),((pb E1 1),26,[vI d,vI s,vI a]),((pb E1 2),39,[.bool (decide (jn d (s+offV es d) a < 0)),rS (jn d (s+offV es d) a) ((bA (E5 2))) ((bC (E5 2)))]),((pb E2 4),39,[.bool (decide (jn d (s+offV es d) a < 0)),rS (jn d (s+offV es d) a) ((bA (E5 2))) ((bC (E5 2)))])]) (hs:=c_ (ld_ 3 (hrd:=by exact rd39 rfl rfl))<|c_ (se_ 2 (hst:=by exact fun _ _ _ hc=>st39 rfl rfl rfl hc))<|c_ mv_<|e_) (k:=fun E8 ac wd h_8=>?_)
 clear h_7
 refine then_n (wp_ret ?_)
 have s6:=h_8.g (t:=6) rfl
 have hc6:=(h_8.st.own 2 _ rfl).2
 have c6_0:=own_cell (o:=0) hc6 rfl
 have c6_1:=own_cell (o:=1) hc6 rfl
 have s7:=h_8.g (t:=7) rfl
 refine leave (v:=vT2 (bigF (jn d (s+offV es d) a) (E5 2)) (vI 0)) h_8.df (by simp [results,Tryz.results16,go_sem,Array.getD_eq_getD_getElem?,s6,c6_0,c6_1,Tryz.underlying39,s7]) ?_
 have e1:tE es x false d s a=0:=by unfold tE expB;rw [if_pos he];simp [hov]
 have e2:tV es x false d s a=jn d (s+offV es d) a:=by unfold tV;rw [e1,if_pos rfl,hct.1,htj]
 exact ⟨bigF (jn d (s+offV es d) a) (E5 2),by rw [e1],h_8.st.below,BigN.eq (BigN.mk rfl rfl (Facts.bN h_8.st.now 0 rfl)) e2.symm⟩
 refine rf_ h_6 [[0],[0,1],[0,1,2],r_ 4,[0,1,2,4],r_ 6,r_ 7] [K_ bF,K_ bT,K_ bT,K_ (.agg #[vI u,vI x,.slice A0 es.length c0]),K_ (vL d s a),K_ bT,K_ bT] (fun E7=>[(6,vP (pb E1 2) 0),(7,vI 0),(8,vP (pb E2 4) 0),(42,bT)]) (hs:=c_ mv_<|c_ (un0 bF)<|c_ mv_<|c_ (ld_ 0 (hrd:=by exact rd24 rfl rfl rfl))<|c_ (ld_ 1 (hrd:=by exact rd26 rfl rfl rfl))<|c_ (cw_ Tryz.func49 (h:=fun _ env _ wd hA=>⟨_,(u_res_eq (rOver15_any wd A0 c0 es u x (hv.gn hA.j.st.gr) d s a q4 q5 q0 q1) (congrArg Value.bool hov)),rfl⟩))<|c_ (pk0 bT bT bF)<|e_) (k:=fun E7 ac wd h_7=>?_)
 clear h_6
 refine then_n ?_
 refine wp_cond_true (eval_tmp (h_7.g (t:=42) rfl)) ?_
 refine wp_seq ?_
 refine rf_ h_7 (tri 3) [K_ (.agg #[bF,.slice none 0 0]),none,K_ (vI 9)] (fun E8=>[(6,vP (pb E1 2) 0),(7,vI 9),(8,vP (pb E2 4) 0)]) (S:=[⟨2,1,fun _=>[bF,.slice none 0 0]⟩]) (M':=fun E8=>[((pb E1 0),24,[vI u,vI x,.slice A0 es.length c0]),((pb E1 1),26,[vI d,vI s,vI a]),((pb E1 2),39,[bF,.slice none 0 0]),((pb E2 4),39,[.bool (decide (jn d (s+offV es d) a < 0)),rS (jn d (s+offV es d) a) ((bA (E5 2))) ((bC (E5 2)))])]) (hs:=c_ (bd0 ([]))<|c_ (se_ 2 (hst:=by exact fun _ _ _ hc=>st39 rfl rfl rfl hc))<|c_ mv_<|e_) (k:=fun E8 ac wd h_8=>?_)
 clear h_7
 refine then_n (wp_ret (then_ret ?_))
 have s6:=h_8.g (t:=6) rfl
 have hc6:=(h_8.st.own 2 _ rfl).2
 have c6_0:=own_cell (o:=0) hc6 rfl
 have c6_1:=own_cell (o:=1) hc6 rfl
 have s7:=h_8.g (t:=7) rfl
 refine leave (v:=vT2 (.agg #[.bool false,.slice none 0 0]) (vI 9)) h_8.df (by simp [results,Tryz.results16,go_sem,Array.getD_eq_getD_getElem?,s6,c6_0,c6_1,Tryz.underlying39,s7]) ?_
 have e1:tE es x false d s a=9:=by unfold tE expB;rw [if_pos he];simp [hov]
 have e2:tV es x false d s a=0:=by unfold tV;rw [e1,if_neg (by omega)]
 exact ⟨.agg #[.bool false,.slice none 0 0],by rw [e1],h_8.st.below,BigN.nil e2⟩
 refine rf_ h_6 [[0],[0,1],[0,1,2],r_ 4,[0,1,2,4],r_ 6,r_ 7] [K_ bT,K_ bF,K_ bF,K_ undef,K_ undef,K_ undef,K_ bF] (fun E7=>[(6,vP (pb E1 2) 0),(7,vI 0),(8,vP (pb E2 4) 0),(42,bF)]) (hs:=c_ mv_<|c_ (un0 bT)<|c_ mv_<|c_ off_<|c_ off_<|c_ off_<|c_ (pk0 bF undef bF)<|e_) (k:=fun E7 ac wd h_7=>?_)
 clear h_6
 refine then_n ?_
 refine wp_cond_false (eval_tmp (h_7.g (t:=42) rfl)) ?_
 refine wp_skip (then_n (wp_seq ?_))
 refine rf_ h_7 (tri 3) [K_ (bigF (jn d (s+offV es d) a) (E5 2)),none,K_ (vI 0)] (fun E8=>[(6,vP (pb E1 2) 0),(7,vI 0)]) (S:=[⟨2,1,fun _=>[.bool (decide (jn d (s+offV es d) a < 0)),rS (jn d (s+offV es d) a) ((bA (E5 2))) ((bC (E5 2)))]⟩]) (M':=fun E8=>[((pb E1 0),24,[vI u,vI x,.slice A0 es.length c0]),((pb E1 1),26,[vI d,vI s,vI a]),((pb E1 2),39,[.bool (decide (jn d (s+offV es d) a < 0)),rS (jn d (s+offV es d) a) ((bA (E5 2))) ((bC (E5 2)))]),((pb E2 4),39,[.bool (decide (jn d (s+offV es d) a < 0)),rS (jn d (s+offV es d) a) ((bA (E5 2))) ((bC (E5 2)))])]) (hs:=c_ (ld_ 3 (hrd:=by exact rd39 rfl rfl))<|c_ (se_ 2 (hst:=by exact fun _ _ _ hc=>st39 rfl rfl rfl hc))<|c_ mv_<|e_) (k:=fun E8 ac wd h_8=>?_)
 clear h_7
 refine then_n (wp_ret ?_)
 have s6:=h_8.g (t:=6) rfl
 have hc6:=(h_8.st.own 2 _ rfl).2
 have c6_0:=own_cell (o:=0) hc6 rfl
 have c6_1:=own_cell (o:=1) hc6 rfl
 have s7:=h_8.g (t:=7) rfl
 refine leave (v:=vT2 (bigF (jn d (s+offV es d) a) (E5 2)) (vI 0)) h_8.df (by simp [results,Tryz.results16,go_sem,Array.getD_eq_getD_getElem?,s6,c6_0,c6_1,Tryz.underlying39,s7]) ?_
 have e1:tE es x true d s a=0:=by unfold tE expB;rw [if_pos he];simp
 have e2:tV es x true d s a=jn d (s+offV es d) a:=by unfold tV;rw [e1,if_pos rfl,hct.1,htj]
 exact ⟨bigF (jn d (s+offV es d) a) (E5 2),by rw [e1],h_8.st.below,BigN.eq (BigN.mk rfl rfl (Facts.bN h_8.st.now 0 rfl)) e2.symm⟩
 have he:¬ ctE es d s a=0:=fun h=>hw (hct.2.symm.trans h)
 refine rf_ h_3 [[0],[0,1]] [K_ (vI (whyU es d s a)),K_ bF] (fun E4=>[(2,.bool (lax)),(3,vP (pb E1 0) 0),(4,vP (pb E1 1) 0),(6,vP (pb E1 2) 0),(7,vI 0),(8,vP (pb E2 4) 0),(9,vI (whyU es d s a)),(28,bF)]) (hs:=c_ mv_<|c_ (bi0 (vI (whyU es d s a)) (vI 0) (h:=by intro env w;simp [go_sem,hw]))<|e_) (k:=fun E4 ac wd h_4=>?_)
 clear h_3
 refine then_n ?_
 refine wp_cond_false (eval_tmp (h_4.g (t:=28) rfl)) ?_
 refine wp_skip (then_n (wp_seq (wp_seq ?_)))
 refine rf_ h_4 [[0],[0,1]] [K_ (vI (whyU es d s a)),K_ bT] (fun E5=>[(2,.bool (lax)),(3,vP (pb E1 0) 0),(4,vP (pb E1 1) 0),(6,vP (pb E1 2) 0),(7,vI 0),(8,vP (pb E2 4) 0),(9,vI (whyU es d s a)),(33,bT)]) (hs:=c_ mv_<|c_ (bi0 (vI (whyU es d s a)) (vI 0) (h:=by intro env w;simp [go_sem,hw]))<|e_) (k:=fun E5 ac wd h_5=>?_)
 clear h_4
 refine then_n ?_
 refine wp_cond_true (eval_tmp (h_5.g (t:=33) rfl)) ?_
 refine wp_seq ?_
 refine rf_ h_5 [[0],[1],[0,2],r_ 4] [K_ (.agg #[bF,.slice none 0 0]),K_ (vI (whyU es d s a)),none,K_ (vI (whyU es d s a))] (fun E6=>[(2,.bool (lax)),(3,vP (pb E1 0) 0),(4,vP (pb E1 1) 0),(6,vP (pb E1 2) 0),(7,vI (whyU es d s a)),(8,vP (pb E2 4) 0)]) (S:=[⟨2,2,fun _=>[bF,.slice none 0 0]⟩]) (M':=fun E6=>[((pb E1 0),24,[vI u,vI x,.slice A0 es.length c0]),((pb E1 1),26,[vI d,vI s,vI a]),((pb E1 2),39,[bF,.slice none 0 0]),((pb E2 4),39,[bF,.slice none 0 0])]) (hs:=c_ (bd0 ([]))<|c_ mv_<|c_ (se_ 2 (hst:=by exact fun _ _ _ hc=>st39 rfl rfl rfl hc))<|c_ mv_<|e_) (k:=fun E6 ac wd h_6=>?_)
 clear h_5
 refine then_n (wp_ret (then_ret ?_))
 have s6:=h_6.g (t:=6) rfl
 have hc6:=(h_6.st.own 2 _ rfl).2
 have c6_0:=own_cell (o:=0) hc6 rfl
 have c6_1:=own_cell (o:=1) hc6 rfl
 have s7:=h_6.g (t:=7) rfl
 refine leave (v:=vT2 (.agg #[.bool false,.slice none 0 0]) (vI (whyU es d s a))) h_6.df (by simp [results,Tryz.results16,go_sem,Array.getD_eq_getD_getElem?,s6,c6_0,c6_1,Tryz.underlying39,s7]) ?_
 have e1:tE es x lax d s a=whyU es d s a:=by unfold tE;rw [if_neg he,hct.2]
 have e2:tV es x lax d s a=0:=by unfold tV;rw [e1,if_neg hw]
 exact ⟨.agg #[.bool false,.slice none 0 0],by rw [e1],h_6.st.below,BigN.nil e2⟩
 by_cases hd:d < 41317
 have hct:=ct_rub (s:=s) (a:=a) ho hd
 refine rf_ h_2 (tri 7) [K_ (.agg #[vI u,vI x,.slice A0 es.length c0]),K_ bT,K_ bT,K_ (vP (pb E1 1) 0),K_ (vI d),K_ bT,K_ bT] (fun E3=>[(2,.bool (lax)),(3,vP (pb E1 0) 0),(4,vP (pb E1 1) 0),(6,vP (pb E1 2) 0),(7,vI 0),(8,vP (pb E2 4) 0),(9,vI (whyU es d s a)),(20,bT)]) (hs:=c_ (ld_ 0 (hrd:=by exact rd24 rfl rfl rfl))<|c_ (cw_ Tryz.func27 (h:=fun _ env _ wd hA=>⟨_,(u_res_eq (rOld15_any wd A0 c0 es u x (hv.gn hA.j.st.gr) hp hn0) (congrArg Value.bool ho)),rfl⟩))<|c_ mv_<|c_ (fa0 (vP (pb E1 1) 0))<|c_ (ld_ 1 (hrd:=by exact rd3 rfl))<|c_ (bi0 (vI d) (vI 41317) (h:=by intro env w;simp [go_sem,hd]))<|c_ (pk0 bT bT bF (h:=by intro env w;simp [go_sem,hd]))<|e_) (k:=fun E3 ac wd h_3=>?_)
 clear h_2
 refine then_n ?_
 refine wp_cond_true (eval_tmp (h_3.g (t:=20) rfl)) ?_
 refine rf_ h_3 [[0],[1],[0,1,2],r_ 4,r_ 5,[0,1,2,3,5],[0,1,2,3,4,6],r_ 8] [KE_ fun env=>.slice ((sA (env 0))) pubS.length ((sC (env 0))),K_ (vL d s a),KE_ fun env=>vT2 (bigF (taiV pubS 41317 10 d s a) (tp (env 2) 0)) (vI (taiE pubS 41317 10 d s a)),KE_ fun env=>vT2 (bigF (taiV pubS 41317 10 d s a) (tp (env 2) 0)) (vI (taiE pubS 41317 10 d s a)),KE_ fun env=>bigF (taiV pubS 41317 10 d s a) (tp (env 2) 0),K_ (vI (taiE pubS 41317 10 d s a)),none,K_ (vI (taiE pubS 41317 10 d s a))] (fun E4=>[(2,.bool (lax)),(3,vP (pb E1 0) 0),(4,vP (pb E1 1) 0),(6,vP (pb E1 2) 0),(7,vI 0),(8,vP (pb E2 4) 0),(9,vI (taiE pubS 41317 10 d s a))]) (S:=[⟨3,6,fun env=>[.bool (decide (taiV pubS 41317 10 d s a < 0)),rS (taiV pubS 41317 10 d s a) ((bA (tp (env 2) 0))) ((bC (tp (env 2) 0)))]⟩]) (F:=[(0,fun env w=>SegN w0.heap.size w (env 0) pubS),(2,fun env w=>TaiX w0.heap.size w (env 2) (taiV pubS 41317 10 d s a) (taiE pubS 41317 10 d s a))]) (L1:=fun E4=>[fun w=>SegN w0.heap.size w (E4 0) pubS,fun w=>TaiX w0.heap.size w (E4 2) (taiV pubS 41317 10 d s a) (taiE pubS 41317 10 d s a)]) (M':=fun E4=>[((pb E1 0),24,[vI u,vI x,.slice A0 es.length c0]),((pb E1 1),26,[vI d,vI s,vI a]),((pb E1 2),39,[bF,.slice none 0 0]),((pb E2 4),39,[.bool (decide (taiV pubS 41317 10 d s a < 0)),rS (taiV pubS 41317 10 d s a) ((bA (tp (E4 2) 0))) ((bC (tp (E4 2) 0)))])]) (hs:=c_ (s_factT rfl rfl rfl Tryz.func47 (by kernel_rfl) rfl (fun _=>wanted_none rfl _) (fun v w=>SegN w0.heap.size w v pubS) (segF pubS) rfl rfl [128] rfl (fun v w h=>h.form) (fun v w w' hk h=>h.keep hk) (fun {D env ac wd} hA=>⟨_,hA.args (vs:=[]) rfl,rsegments_up hA.j.st.gr.size⟩))<|c_ (ld_ 1 (hrd:=by exact rd26 rfl rfl rfl))<|c_ (cf_ Tryz.func46 (fun v w=>TaiX w0.heap.size w v (taiV pubS 41317 10 d s a) (taiE pubS 41317 10 d s a)) (taiF (taiV pubS 41317 10 d s a) (taiE pubS 41317 10 d s a)) (h:=fun _ env _ wd hA=>⟨_,toTaiX hA.j.st.gr.size (rTai_any wd ((sA (env 0))) ((sC (env 0))) pubS (At.segN hA 0 rfl rfl rfl) 41317 10 pub_ok.toLOk d s a hx0 hx1 hx2 hx3 hx4 hx5),rfl⟩))<|c_ mv_<|c_ ext_<|c_ ext_<|c_ (se_ 3 (hst:=by exact fun _ _ _ hc=>st39 rfl rfl rfl hc))<|c_ mv_<|e_) (k:=fun E4 ac wd h_4=>?_)
 clear h_3
 refine then_n (wp_seq (wp_seq ?_))
 by_cases hw:taiE pubS 41317 10 d s a=0
 have he:ctE es d s a=0:=hct.2.trans hw;obtain ⟨q0,q1,q2,q3,q4,q5⟩:=ctE_bd he
 refine rf_ h_4 [[0],[0,1]] [K_ (vI (taiE pubS 41317 10 d s a)),K_ bF] (fun E5=>[(2,.bool (lax)),(3,vP (pb E1 0) 0),(4,vP (pb E1 1) 0),(6,vP (pb E1 2) 0),(7,vI 0),(8,vP (pb E2 4) 0),(9,vI (taiE pubS 41317 10 d s a)),(33,bF)]) (hs:=c_ mv_<|c_ (bi0 (vI (taiE pubS 41317 10 d s a)) (vI 0) (h:=by intro env w;simp [go_sem,hw]))<|e_) (k:=fun E5 ac wd h_5=>?_)
 clear h_4
 refine then_n ?_
 refine wp_cond_false (eval_tmp (h_5.g (t:=33) rfl)) ?_
 refine wp_skip (then_n (wp_seq (wp_seq ?_)))
 rcases lax with _ | _
 cases hov:overB x d s
 refine rf_ h_5 [[0],[0,1],[0,1,2],r_ 4,[0,1,2,4],r_ 6,r_ 7] [K_ bF,K_ bT,K_ bT,K_ (.agg #[vI u,vI x,.slice A0 es.length c0]),K_ (vL d s a),K_ bF,K_ bF] (fun E6=>[(6,vP (pb E1 2) 0),(7,vI 0),(8,vP (pb E2 4) 0),(42,bF)]) (hs:=c_ mv_<|c_ (un0 bF)<|c_ mv_<|c_ (ld_ 0 (hrd:=by exact rd24 rfl rfl rfl))<|c_ (ld_ 1 (hrd:=by exact rd26 rfl rfl rfl))<|c_ (cw_ Tryz.func49 (h:=fun _ env _ wd hA=>⟨_,(u_res_eq (rOver15_any wd A0 c0 es u x (hv.gn hA.j.st.gr) d s a q4 q5 q0 q1) (congrArg Value.bool hov)),rfl⟩))<|c_ (pk0 bT bF bF)<|e_) (k:=fun E6 ac wd h_6=>?_)
 clear h_5
 refine then_n ?_
 refine wp_cond_false (eval_tmp (h_6.g (t:=42) rfl)) ?_
 refine wp_skip (then_n (wp_seq ?_))
 refine rf_ h_6 (tri 3) [K_ (bigF (taiV pubS 41317 10 d s a) (tp (E4 2) 0)),none,K_ (vI 0)] (fun E7=>[(6,vP (pb E1 2) 0),(7,vI 0)]) (S:=[⟨2,1,fun _=>[.bool (decide (taiV pubS 41317 10 d s a < 0)),rS (taiV pubS 41317 10 d s a) ((bA (tp (E4 2) 0))) ((bC (tp (E4 2) 0)))]⟩]) (M':=fun E7=>[((pb E1 0),24,[vI u,vI x,.slice A0 es.length c0]),((pb E1 1),26,[vI d,vI s,vI a]),((pb E1 2),39,[.bool (decide (taiV pubS 41317 10 d s a < 0)),rS (taiV pubS 41317 10 d s a) ((bA (tp (E4 2) 0))) ((bC (tp (E4 2) 0)))]),((pb E2 4),39,[.bool (decide (taiV pubS 41317 10 d s a < 0)),rS (taiV pubS 41317 10 d s a) ((bA (tp (E4 2) 0))) ((bC (tp (E4 2) 0)))])]) (hs:=c_ (ld_ 3 (hrd:=by exact rd39 rfl rfl))<|c_ (se_ 2 (hst:=by exact fun _ _ _ hc=>st39 rfl rfl rfl hc))<|c_ mv_<|e_) (k:=fun E7 ac wd h_7=>?_)
 clear h_6
 refine then_n (wp_ret ?_)
 have s6:=h_7.g (t:=6) rfl
 have hc6:=(h_7.st.own 2 _ rfl).2
 have c6_0:=own_cell (o:=0) hc6 rfl
 have c6_1:=own_cell (o:=1) hc6 rfl
 have s7:=h_7.g (t:=7) rfl
 refine leave (v:=vT2 (bigF (taiV pubS 41317 10 d s a) (tp (E4 2) 0)) (vI 0)) h_7.df (by simp [results,Tryz.results16,go_sem,Array.getD_eq_getD_getElem?,s6,c6_0,c6_1,Tryz.underlying39,s7]) ?_
 have e1:tE es x false d s a=0:=by unfold tE expB;rw [if_pos he];simp [hov]
 have e2:tV es x false d s a=taiV pubS 41317 10 d s a:=by unfold tV;rw [e1,if_pos rfl,hct.1]
 exact ⟨bigF (taiV pubS 41317 10 d s a) (tp (E4 2) 0),by rw [e1],h_7.st.below,BigN.eq (BigN.mk rfl rfl (Facts.tN h_7.st.now 1 rfl)) e2.symm⟩
 refine rf_ h_5 [[0],[0,1],[0,1,2],r_ 4,[0,1,2,4],r_ 6,r_ 7] [K_ bF,K_ bT,K_ bT,K_ (.agg #[vI u,vI x,.slice A0 es.length c0]),K_ (vL d s a),K_ bT,K_ bT] (fun E6=>[(6,vP (pb E1 2) 0),(7,vI 0),(8,vP (pb E2 4) 0),(42,bT)]) (hs:=c_ mv_<|c_ (un0 bF)<|c_ mv_<|c_ (ld_ 0 (hrd:=by exact rd24 rfl rfl rfl))<|c_ (ld_ 1 (hrd:=by exact rd26 rfl rfl rfl))<|c_ (cw_ Tryz.func49 (h:=fun _ env _ wd hA=>⟨_,(u_res_eq (rOver15_any wd A0 c0 es u x (hv.gn hA.j.st.gr) d s a q4 q5 q0 q1) (congrArg Value.bool hov)),rfl⟩))<|c_ (pk0 bT bT bF)<|e_) (k:=fun E6 ac wd h_6=>?_)
 clear h_5
 refine then_n ?_
 refine wp_cond_true (eval_tmp (h_6.g (t:=42) rfl)) ?_
 refine wp_seq ?_
 refine rf_ h_6 (tri 3) [K_ (.agg #[bF,.slice none 0 0]),none,K_ (vI 9)] (fun E7=>[(6,vP (pb E1 2) 0),(7,vI 9),(8,vP (pb E2 4) 0)]) (S:=[⟨2,1,fun _=>[bF,.slice none 0 0]⟩]) (M':=fun E7=>[((pb E1 0),24,[vI u,vI x,.slice A0 es.length c0]),((pb E1 1),26,[vI d,vI s,vI a]),((pb E1 2),39,[bF,.slice none 0 0]),((pb E2 4),39,[.bool (decide (taiV pubS 41317 10 d s a < 0)),rS (taiV pubS 41317 10 d s a) ((bA (tp (E4 2) 0))) ((bC (tp (E4 2) 0)))])]) (hs:=c_ (bd0 ([]))<|c_ (se_ 2 (hst:=by exact fun _ _ _ hc=>st39 rfl rfl rfl hc))<|c_ mv_<|e_) (k:=fun E7 ac wd h_7=>?_)
 clear h_6
 refine then_n (wp_ret (then_ret ?_))
 have s6:=h_7.g (t:=6) rfl
 have hc6:=(h_7.st.own 2 _ rfl).2
 have c6_0:=own_cell (o:=0) hc6 rfl
 have c6_1:=own_cell (o:=1) hc6 rfl
 have s7:=h_7.g (t:=7) rfl
 refine leave (v:=vT2 (.agg #[.bool false,.slice none 0 0]) (vI 9)) h_7.df (by simp [results,Tryz.results16,go_sem,Array.getD_eq_getD_getElem?,s6,c6_0,c6_1,Tryz.underlying39,s7]) ?_
 have e1:tE es x false d s a=9:=by unfold tE expB;rw [if_pos he];simp [hov]
 have e2:tV es x false d s a=0:=by unfold tV;rw [e1,if_neg (by omega)]
 exact ⟨.agg #[.bool false,.slice none 0 0],by rw [e1],h_7.st.below,BigN.nil e2⟩
 refine rf_ h_5 [[0],[0,1],[0,1,2],r_ 4,[0,1,2,4],r_ 6,r_ 7] [K_ bT,K_ bF,K_ bF,K_ undef,K_ undef,K_ undef,K_ bF] (fun E6=>[(6,vP (pb E1 2) 0),(7,vI 0),(8,vP (pb E2 4) 0),(42,bF)]) (hs:=c_ mv_<|c_ (un0 bT)<|c_ mv_<|c_ off_<|c_ off_<|c_ off_<|c_ (pk0 bF undef bF)<|e_) (k:=fun E6 ac wd h_6=>?_)
 clear h_5
 refine then_n ?_
 refine wp_cond_false (eval_tmp (h_6.g (t:=42) rfl)) ?_
 refine wp_skip (then_n (wp_seq ?_))
 refine rf_ h_6 (tri 3) [K_ (bigF (taiV pubS 41317 10 d s a) (tp (E4 2) 0)),none,K_ (vI 0)] (fun E7=>[(6,vP (pb E1 2) 0),(7,vI 0)]) (S:=[⟨2,1,fun _=>[.bool (decide (taiV pubS 41317 10 d s a < 0)),rS (taiV pubS 41317 10 d s a) ((bA (tp (E4 2) 0))) ((bC (tp (E4 2) 0)))]⟩]) (M':=fun E7=>[((pb E1 0),24,[vI u,vI x,.slice A0 es.length c0]),((pb E1 1),26,[vI d,vI s,vI a]),((pb E1 2),39,[.bool (decide (taiV pubS 41317 10 d s a < 0)),rS (taiV pubS 41317 10 d s a) ((bA (tp (E4 2) 0))) ((bC (tp (E4 2) 0)))]),((pb E2 4),39,[.bool (decide (taiV pubS 41317 10 d s a < 0)),rS (taiV pubS 41317 10 d s a) ((bA (tp (E4 2) 0))) ((bC (tp (E4 2) 0)))])]) (hs:=c_ (ld_ 3 (hrd:=by exact rd39 rfl rfl))<|c_ (se_ 2 (hst:=by exact fun _ _ _ hc=>st39 rfl rfl rfl hc))<|c_ mv_<|e_) (k:=fun E7 ac wd h_7=>?_)
 clear h_6
 refine then_n (wp_ret ?_)
 have s6:=h_7.g (t:=6) rfl
 have hc6:=(h_7.st.own 2 _ rfl).2
 have c6_0:=own_cell (o:=0) hc6 rfl
 have c6_1:=own_cell (o:=1) hc6 rfl
 have s7:=h_7.g (t:=7) rfl
 refine leave (v:=vT2 (bigF (taiV pubS 41317 10 d s a) (tp (E4 2) 0)) (vI 0)) h_7.df (by simp [results,Tryz.results16,go_sem,Array.getD_eq_getD_getElem?,s6,c6_0,c6_1,Tryz.underlying39,s7]) ?_
 have e1:tE es x true d s a=0:=by unfold tE expB;rw [if_pos he];simp
 have e2:tV es x true d s a=taiV pubS 41317 10 d s a:=by unfold tV;rw [e1,if_pos rfl,hct.1]
 exact ⟨bigF (taiV pubS 41317 10 d s a) (tp (E4 2) 0),by rw [e1],h_7.st.below,BigN.eq (BigN.mk rfl rfl (Facts.tN h_7.st.now 1 rfl)) e2.symm⟩
 have he:¬ ctE es d s a=0:=fun h=>hw (hct.2.symm.trans h)
 refine rf_ h_4 [[0],[0,1]] [K_ (vI (taiE pubS 41317 10 d s a)),K_ bT] (fun E5=>[(2,.bool (lax)),(3,vP (pb E1 0) 0),(4,vP (pb E1 1) 0),(6,vP (pb E1 2) 0),(7,vI 0),(8,vP (pb E2 4) 0),(9,vI (taiE pubS 41317 10 d s a)),(33,bT)]) (hs:=c_ mv_<|c_ (bi0 (vI (taiE pubS 41317 10 d s a)) (vI 0) (h:=by intro env w;simp [go_sem,hw]))<|e_) (k:=fun E5 ac wd h_5=>?_)
 clear h_4
 refine then_n ?_
 refine wp_cond_true (eval_tmp (h_5.g (t:=33) rfl)) ?_
 refine wp_seq ?_
 refine rf_ h_5 [[0],[1],[0,2],r_ 4] [K_ (.agg #[bF,.slice none 0 0]),K_ (vI (taiE pubS 41317 10 d s a)),none,K_ (vI (taiE pubS 41317 10 d s a))] (fun E6=>[(2,.bool (lax)),(3,vP (pb E1 0) 0),(4,vP (pb E1 1) 0),(6,vP (pb E1 2) 0),(7,vI (taiE pubS 41317 10 d s a)),(8,vP (pb E2 4) 0)]) (S:=[⟨2,2,fun _=>[bF,.slice none 0 0]⟩]) (M':=fun E6=>[((pb E1 0),24,[vI u,vI x,.slice A0 es.length c0]),((pb E1 1),26,[vI d,vI s,vI a]),((pb E1 2),39,[bF,.slice none 0 0]),((pb E2 4),39,[.bool (decide (taiV pubS 41317 10 d s a < 0)),rS (taiV pubS 41317 10 d s a) ((bA (tp (E4 2) 0))) ((bC (tp (E4 2) 0)))])]) (hs:=c_ (bd0 ([]))<|c_ mv_<|c_ (se_ 2 (hst:=by exact fun _ _ _ hc=>st39 rfl rfl rfl hc))<|c_ mv_<|e_) (k:=fun E6 ac wd h_6=>?_)
 clear h_5
 refine then_n (wp_ret (then_ret ?_))
 have s6:=h_6.g (t:=6) rfl
 have hc6:=(h_6.st.own 2 _ rfl).2
 have c6_0:=own_cell (o:=0) hc6 rfl
 have c6_1:=own_cell (o:=1) hc6 rfl
 have s7:=h_6.g (t:=7) rfl
 refine leave (v:=vT2 (.agg #[.bool false,.slice none 0 0]) (vI (taiE pubS 41317 10 d s a))) h_6.df (by simp [results,Tryz.results16,go_sem,Array.getD_eq_getD_getElem?,s6,c6_0,c6_1,Tryz.underlying39,s7]) ?_
 have e1:tE es x lax d s a=taiE pubS 41317 10 d s a:=by unfold tE;rw [if_neg he,hct.2]
 have e2:tV es x lax d s a=0:=by unfold tV;rw [e1,if_neg hw]
 exact ⟨.agg #[.bool false,.slice none 0 0],by rw [e1],h_6.st.below,BigN.nil e2⟩
 have hct:=ct_utc (s:=s) (a:=a) (es:=es) (.inr hd)
 refine rf_ h_2 (tri 7) [K_ (.agg #[vI u,vI x,.slice A0 es.length c0]),K_ bT,K_ bT,K_ (vP (pb E1 1) 0),K_ (vI d),K_ bF,K_ bF] (fun E3=>[(2,.bool (lax)),(3,vP (pb E1 0) 0),(4,vP (pb E1 1) 0),(6,vP (pb E1 2) 0),(7,vI 0),(8,vP (pb E2 4) 0),(9,vI (whyU es d s a)),(20,bF)]) (hs:=c_ (ld_ 0 (hrd:=by exact rd24 rfl rfl rfl))<|c_ (cw_ Tryz.func27 (h:=fun _ env _ wd hA=>⟨_,(u_res_eq (rOld15_any wd A0 c0 es u x (hv.gn hA.j.st.gr) hp hn0) (congrArg Value.bool ho)),rfl⟩))<|c_ mv_<|c_ (fa0 (vP (pb E1 1) 0))<|c_ (ld_ 1 (hrd:=by exact rd3 rfl))<|c_ (bi0 (vI d) (vI 41317) (h:=by intro env w;simp [go_sem,hd]))<|c_ (pk0 bT bF bF (h:=by intro env w;simp [go_sem,hd]))<|e_) (k:=fun E3 ac wd h_3=>?_)
 clear h_2
 refine then_n ?_
 refine wp_cond_false (eval_tmp (h_3.g (t:=20) rfl)) ?_
 refine wp_seq ?_
 skip
 by_cases hw:whyU es d s a=0
 obtain ⟨q0,q1,q2,q3,q4,q5,_,_⟩:=whyU_ok hw;have he:ctE es d s a=0:=hct.2.trans hw;have htj:=y_tai_jn hw
 refine rf_ h_3 [[0],[0,1]] [K_ (vI (whyU es d s a)),K_ bT] (fun E4=>[(2,.bool (lax)),(3,vP (pb E1 0) 0),(4,vP (pb E1 1) 0),(6,vP (pb E1 2) 0),(7,vI 0),(8,vP (pb E2 4) 0),(9,vI (whyU es d s a)),(28,bT)]) (hs:=c_ mv_<|c_ (bi0 (vI (whyU es d s a)) (vI 0) (h:=by intro env w;simp [go_sem,hw]))<|e_) (k:=fun E4 ac wd h_4=>?_)
 clear h_3
 refine then_n ?_
 refine wp_cond_true (eval_tmp (h_4.g (t:=28) rfl)) ?_
 refine rf_ h_4 [[0],[1],[0,1,2],r_ 4] [K_ (.agg #[vI u,vI x,.slice A0 es.length c0]),K_ (vL d s a),KE_ fun env=>bigF (jn d (s+offV es d) a) (env 2),none] (fun E5=>[(2,.bool (lax)),(3,vP (pb E1 0) 0),(4,vP (pb E1 1) 0),(6,vP (pb E1 2) 0),(7,vI 0),(8,vP (pb E2 4) 0),(9,vI (whyU es d s a))]) (S:=[⟨3,3,fun env=>[.bool (decide (jn d (s+offV es d) a < 0)),rS (jn d (s+offV es d) a) ((bA (env 2))) ((bC (env 2)))]⟩]) (F:=[(2,fun env w=>BigN w0.heap.size w (env 2) (jn d (s+offV es d) a))]) (L1:=fun E5=>[fun w=>BigN w0.heap.size w (E5 2) (jn d (s+offV es d) a)]) (M':=fun E5=>[((pb E1 0),24,[vI u,vI x,.slice A0 es.length c0]),((pb E1 1),26,[vI d,vI s,vI a]),((pb E1 2),39,[bF,.slice none 0 0]),((pb E2 4),39,[.bool (decide (jn d (s+offV es d) a < 0)),rS (jn d (s+offV es d) a) ((bA (E5 2))) ((bC (E5 2)))])]) (hs:=c_ (ld_ 0 (hrd:=by exact rd24 rfl rfl rfl))<|c_ (ld_ 1 (hrd:=by exact rd26 rfl rfl rfl))<|c_ (cb_ Tryz.func48 (jn d (s+offV es d) a) (h:=fun _ env _ wd hA=>⟨_,rTai12_any wd A0 c0 es u x (hv.gn hA.j.st.gr) hp d s a q0 q1 q2 q3 q4 q5,rfl⟩))<|c_ (se_ 3 (hst:=by exact fun _ _ _ hc=>st39 rfl rfl rfl hc))<|e_) (k:=fun E5 ac wd h_5=>?_)
 clear h_4
 refine then_n (wp_seq (wp_seq ?_))
 refine rf_ h_5 [[0],[0,1]] [K_ (vI (whyU es d s a)),K_ bF] (fun E6=>[(2,.bool (lax)),(3,vP (pb E1 0) 0),(4,vP (pb E1 1) 0),(6,vP (pb E1 2) 0),(7,vI 0),(8,vP (pb E2 4) 0),(9,vI (whyU es d s a)),(33,bF)]) (hs:=c_ mv_<|c_ (bi0 (vI (whyU es d s a)) (vI 0) (h:=by intro env w;simp [go_sem,hw]))<|e_) (k:=fun E6 ac wd h_6=>?_)
 clear h_5
 refine then_n ?_
 refine wp_cond_false (eval_tmp (h_6.g (t:=33) rfl)) ?_
 refine wp_skip (then_n (wp_seq (wp_seq ?_)))
 rcases lax with _ | _
 cases hov:overB x d s
 refine rf_ h_6 [[0],[0,1],[0,1,2],r_ 4,[0,1,2,4],r_ 6,r_ 7] [K_ bF,K_ bT,K_ bT,K_ (.agg #[vI u,vI x,.slice A0 es.length c0]),K_ (vL d s a),K_ bF,K_ bF] (fun E7=>[(6,vP (pb E1 2) 0),(7,vI 0),(8,vP (pb E2 4) 0),(42,bF)]) (hs:=c_ mv_<|c_ (un0 bF)<|c_ mv_<|c_ (ld_ 0 (hrd:=by exact rd24 rfl rfl rfl))<|c_ (ld_ 1 (hrd:=by exact rd26 rfl rfl rfl))<|c_ (cw_ Tryz.func49 (h:=fun _ env _ wd hA=>⟨_,(u_res_eq (rOver15_any wd A0 c0 es u x (hv.gn hA.j.st.gr) d s a q4 q5 q0 q1) (congrArg Value.bool hov)),rfl⟩))<|c_ (pk0 bT bF bF)<|e_) (k:=fun E7 ac wd h_7=>?_)
 clear h_6
 refine then_n ?_
 refine wp_cond_false (eval_tmp (h_7.g (t:=42) rfl)) ?_
 refine wp_skip (then_n (wp_seq ?_))
 refine rf_ h_7 (tri 3) [K_ (bigF (jn d (s+offV es d) a) (E5 2)),none,K_ (vI 0)] (fun E8=>[(6,vP (pb E1 2) 0),(7,vI 0)]) (S:=[⟨2,1,fun _=>[.bool (decide (jn d (s+offV es d) a < 0)),rS (jn d (s+offV es d) a) ((bA (E5 2))) ((bC (E5 2)))]⟩]) (M':=fun E8=>[((pb E1 0),24,[vI u,vI x,.slice A0 es.length c0]),((pb E1 1),26,[vI d,vI s,vI a]),((pb E1 2),39,[.bool (decide (jn d (s+offV es d) a < 0)),rS (jn d (s+offV es d) a) ((bA (E5 2))) ((bC (E5 2)))]),((pb E2 4),39,[.bool (decide (jn d (s+offV es d) a < 0)),rS (jn d (s+offV es d) a) ((bA (E5 2))) ((bC (E5 2)))])]) (hs:=c_ (ld_ 3 (hrd:=by exact rd39 rfl rfl))<|c_ (se_ 2 (hst:=by exact fun _ _ _ hc=>st39 rfl rfl rfl hc))<|c_ mv_<|e_) (k:=fun E8 ac wd h_8=>?_)
 clear h_7
 refine then_n (wp_ret ?_)
 have s6:=h_8.g (t:=6) rfl
 have hc6:=(h_8.st.own 2 _ rfl).2
 have c6_0:=own_cell (o:=0) hc6 rfl
 have c6_1:=own_cell (o:=1) hc6 rfl
 have s7:=h_8.g (t:=7) rfl
 refine leave (v:=vT2 (bigF (jn d (s+offV es d) a) (E5 2)) (vI 0)) h_8.df (by simp [results,Tryz.results16,go_sem,Array.getD_eq_getD_getElem?,s6,c6_0,c6_1,Tryz.underlying39,s7]) ?_
 have e1:tE es x false d s a=0:=by unfold tE expB;rw [if_pos he];simp [hov]
 have e2:tV es x false d s a=jn d (s+offV es d) a:=by unfold tV;rw [e1,if_pos rfl,hct.1,htj]
 exact ⟨bigF (jn d (s+offV es d) a) (E5 2),by rw [e1],h_8.st.below,BigN.eq (BigN.mk rfl rfl (Facts.bN h_8.st.now 0 rfl)) e2.symm⟩
 refine rf_ h_6 [[0],[0,1],[0,1,2],r_ 4,[0,1,2,4],r_ 6,r_ 7] [K_ bF,K_ bT,K_ bT,K_ (.agg #[vI u,vI x,.slice A0 es.length c0]),K_ (vL d s a),K_ bT,K_ bT] (fun E7=>[(6,vP (pb E1 2) 0),(7,vI 0),(8,vP (pb E2 4) 0),(42,bT)]) (hs:=c_ mv_<|c_ (un0 bF)<|c_ mv_<|c_ (ld_ 0 (hrd:=by exact rd24 rfl rfl rfl))<|c_ (ld_ 1 (hrd:=by exact rd26 rfl rfl rfl))<|c_ (cw_ Tryz.func49 (h:=fun _ env _ wd hA=>⟨_,(u_res_eq (rOver15_any wd A0 c0 es u x (hv.gn hA.j.st.gr) d s a q4 q5 q0 q1) (congrArg Value.bool hov)),rfl⟩))<|c_ (pk0 bT bT bF)<|e_) (k:=fun E7 ac wd h_7=>?_)
 clear h_6
 refine then_n ?_
 refine wp_cond_true (eval_tmp (h_7.g (t:=42) rfl)) ?_
 refine wp_seq ?_
 refine rf_ h_7 (tri 3) [K_ (.agg #[bF,.slice none 0 0]),none,K_ (vI 9)] (fun E8=>[(6,vP (pb E1 2) 0),(7,vI 9),(8,vP (pb E2 4) 0)]) (S:=[⟨2,1,fun _=>[bF,.slice none 0 0]⟩]) (M':=fun E8=>[((pb E1 0),24,[vI u,vI x,.slice A0 es.length c0]),((pb E1 1),26,[vI d,vI s,vI a]),((pb E1 2),39,[bF,.slice none 0 0]),((pb E2 4),39,[.bool (decide (jn d (s+offV es d) a < 0)),rS (jn d (s+offV es d) a) ((bA (E5 2))) ((bC (E5 2)))])]) (hs:=c_ (bd0 ([]))<|c_ (se_ 2 (hst:=by exact fun _ _ _ hc=>st39 rfl rfl rfl hc))<|c_ mv_<|e_) (k:=fun E8 ac wd h_8=>?_)
 clear h_7
 refine then_n (wp_ret (then_ret ?_))
 have s6:=h_8.g (t:=6) rfl
 have hc6:=(h_8.st.own 2 _ rfl).2
 have c6_0:=own_cell (o:=0) hc6 rfl
 have c6_1:=own_cell (o:=1) hc6 rfl
 have s7:=h_8.g (t:=7) rfl
 refine leave (v:=vT2 (.agg #[.bool false,.slice none 0 0]) (vI 9)) h_8.df (by simp [results,Tryz.results16,go_sem,Array.getD_eq_getD_getElem?,s6,c6_0,c6_1,Tryz.underlying39,s7]) ?_
 have e1:tE es x false d s a=9:=by unfold tE expB;rw [if_pos he];simp [hov]
 have e2:tV es x false d s a=0:=by unfold tV;rw [e1,if_neg (by omega)]
 exact ⟨.agg #[.bool false,.slice none 0 0],by rw [e1],h_8.st.below,BigN.nil e2⟩
 refine rf_ h_6 [[0],[0,1],[0,1,2],r_ 4,[0,1,2,4],r_ 6,r_ 7] [K_ bT,K_ bF,K_ bF,K_ undef,K_ undef,K_ undef,K_ bF] (fun E7=>[(6,vP (pb E1 2) 0),(7,vI 0),(8,vP (pb E2 4) 0),(42,bF)]) (hs:=c_ mv_<|c_ (un0 bT)<|c_ mv_<|c_ off_<|c_ off_<|c_ off_<|c_ (pk0 bF undef bF)<|e_) (k:=fun E7 ac wd h_7=>?_)
 clear h_6
 refine then_n ?_
 refine wp_cond_false (eval_tmp (h_7.g (t:=42) rfl)) ?_
 refine wp_skip (then_n (wp_seq ?_))
 refine rf_ h_7 (tri 3) [K_ (bigF (jn d (s+offV es d) a) (E5 2)),none,K_ (vI 0)] (fun E8=>[(6,vP (pb E1 2) 0),(7,vI 0)]) (S:=[⟨2,1,fun _=>[.bool (decide (jn d (s+offV es d) a < 0)),rS (jn d (s+offV es d) a) ((bA (E5 2))) ((bC (E5 2)))]⟩]) (M':=fun E8=>[((pb E1 0),24,[vI u,vI x,.slice A0 es.length c0]),((pb E1 1),26,[vI d,vI s,vI a]),((pb E1 2),39,[.bool (decide (jn d (s+offV es d) a < 0)),rS (jn d (s+offV es d) a) ((bA (E5 2))) ((bC (E5 2)))]),((pb E2 4),39,[.bool (decide (jn d (s+offV es d) a < 0)),rS (jn d (s+offV es d) a) ((bA (E5 2))) ((bC (E5 2)))])]) (hs:=c_ (ld_ 3 (hrd:=by exact rd39 rfl rfl))<|c_ (se_ 2 (hst:=by exact fun _ _ _ hc=>st39 rfl rfl rfl hc))<|c_ mv_<|e_) (k:=fun E8 ac wd h_8=>?_)
 clear h_7
 refine then_n (wp_ret ?_)
 have s6:=h_8.g (t:=6) rfl
 have hc6:=(h_8.st.own 2 _ rfl).2
 have c6_0:=own_cell (o:=0) hc6 rfl
 have c6_1:=own_cell (o:=1) hc6 rfl
 have s7:=h_8.g (t:=7) rfl
 refine leave (v:=vT2 (bigF (jn d (s+offV es d) a) (E5 2)) (vI 0)) h_8.df (by simp [results,Tryz.results16,go_sem,Array.getD_eq_getD_getElem?,s6,c6_0,c6_1,Tryz.underlying39,s7]) ?_
 have e1:tE es x true d s a=0:=by unfold tE expB;rw [if_pos he];simp
 have e2:tV es x true d s a=jn d (s+offV es d) a:=by unfold tV;rw [e1,if_pos rfl,hct.1,htj]
 exact ⟨bigF (jn d (s+offV es d) a) (E5 2),by rw [e1],h_8.st.below,BigN.eq (BigN.mk rfl rfl (Facts.bN h_8.st.now 0 rfl)) e2.symm⟩
 have he:¬ ctE es d s a=0:=fun h=>hw (hct.2.symm.trans h)
 refine rf_ h_3 [[0],[0,1]] [K_ (vI (whyU es d s a)),K_ bF] (fun E4=>[(2,.bool (lax)),(3,vP (pb E1 0) 0),(4,vP (pb E1 1) 0),(6,vP (pb E1 2) 0),(7,vI 0),(8,vP (pb E2 4) 0),(9,vI (whyU es d s a)),(28,bF)]) (hs:=c_ mv_<|c_ (bi0 (vI (whyU es d s a)) (vI 0) (h:=by intro env w;simp [go_sem,hw]))<|e_) (k:=fun E4 ac wd h_4=>?_)
 clear h_3
 refine then_n ?_
 refine wp_cond_false (eval_tmp (h_4.g (t:=28) rfl)) ?_
 refine wp_skip (then_n (wp_seq (wp_seq ?_)))
 refine rf_ h_4 [[0],[0,1]] [K_ (vI (whyU es d s a)),K_ bT] (fun E5=>[(2,.bool (lax)),(3,vP (pb E1 0) 0),(4,vP (pb E1 1) 0),(6,vP (pb E1 2) 0),(7,vI 0),(8,vP (pb E2 4) 0),(9,vI (whyU es d s a)),(33,bT)]) (hs:=c_ mv_<|c_ (bi0 (vI (whyU es d s a)) (vI 0) (h:=by intro env w;simp [go_sem,hw]))<|e_) (k:=fun E5 ac wd h_5=>?_)
 clear h_4
 refine then_n ?_
 refine wp_cond_true (eval_tmp (h_5.g (t:=33) rfl)) ?_
 refine wp_seq ?_
 refine rf_ h_5 [[0],[1],[0,2],r_ 4] [K_ (.agg #[bF,.slice none 0 0]),K_ (vI (whyU es d s a)),none,K_ (vI (whyU es d s a))] (fun E6=>[(2,.bool (lax)),(3,vP (pb E1 0) 0),(4,vP (pb E1 1) 0),(6,vP (pb E1 2) 0),(7,vI (whyU es d s a)),(8,vP (pb E2 4) 0)]) (S:=[⟨2,2,fun _=>[bF,.slice none 0 0]⟩]) (M':=fun E6=>[((pb E1 0),24,[vI u,vI x,.slice A0 es.length c0]),((pb E1 1),26,[vI d,vI s,vI a]),((pb E1 2),39,[bF,.slice none 0 0]),((pb E2 4),39,[bF,.slice none 0 0])]) (hs:=c_ (bd0 ([]))<|c_ mv_<|c_ (se_ 2 (hst:=by exact fun _ _ _ hc=>st39 rfl rfl rfl hc))<|c_ mv_<|e_) (k:=fun E6 ac wd h_6=>?_)
 clear h_5
 refine then_n (wp_ret (then_ret ?_))
 have s6:=h_6.g (t:=6) rfl
 have hc6:=(h_6.st.own 2 _ rfl).2
 have c6_0:=own_cell (o:=0) hc6 rfl
 have c6_1:=own_cell (o:=1) hc6 rfl
 have s7:=h_6.g (t:=7) rfl
 refine leave (v:=vT2 (.agg #[.bool false,.slice none 0 0]) (vI (whyU es d s a))) h_6.df (by simp [results,Tryz.results16,go_sem,Array.getD_eq_getD_getElem?,s6,c6_0,c6_1,Tryz.underlying39,s7]) ?_
 have e1:tE es x lax d s a=whyU es d s a:=by unfold tE;rw [if_neg he,hct.2]
 have e2:tV es x lax d s a=0:=by unfold tV;rw [e1,if_neg hw]
 exact ⟨.agg #[.bool false,.slice none 0 0],by rw [e1],h_6.st.below,BigN.nil e2⟩
end Go.Proofs.YtdfkghpgekmmlaaGreat
namespace Go.Proofs.YtdfkghpgekmmlaaGreat
open Go.RowKit
attribute [local go_sem] vN bT bF rS vW vM vL vT2 vT3 vP vI execOp Act.eval evC bigF vB hi_zero lo_zero Tryz.underlying24 Tryz.underlying26 Tryz.underlying34 Tryz.underlying70
def ansC:List (Int × Int):=[(2272060800,10)]
theorem ansC_ok:okT 0 3155673600 ansC=true:=by decide +kernel
theorem ansC_64:∀ i,I64 (ansC.getD i (0,0)).1∧I64 (ansC.getD i (0,0)).2:=by
  intro i
  match i with
  | 0=>simp [ansC,I64]
  | i+1=>simp [ansC,I64]
theorem ansC_cs:(ansC.flatMap entC).toArray = #[vI 2272060800,vI 10]:=rfl
theorem ans15_t:vT2 (vW (tV ansC 3155673600 false 41000 5 0)) (vI (tE ansC 3155673600 false 41000 5 0))=vT2 (vW 3542400014070578150000000000) (vI 0):=by
 rw [show tV ansC 3155673600 false 41000 5 0=3542400014070578150000000000 by decide +kernel,show tE ansC 3155673600 false 41000 5 0=0 by decide +kernel]
theorem ans15_h:vT2 (vW (tV ansC 3155673600 false 51544 0 0)) (vI (tE ansC 3155673600 false 51544 0 0))=vT2 (vW 0) (vI 9):=by
 rw [show tV ansC 3155673600 false 51544 0 0=0 by decide +kernel,show tE ansC 3155673600 false 51544 0 0=9 by decide +kernel]
theorem ans15_l:vT2 (vL (lbl4 ansC 3155673600 false 3542400014070578150000000000).2.1 (lbl4 ansC 3155673600 false 3542400014070578150000000000).2.2.1 (lbl4 ansC 3155673600 false 3542400014070578150000000000).2.2.2) (vI (lbl4 ansC 3155673600 false 3542400014070578150000000000).1)=vT2 (vL 41000 5 0) (vI 0):=by
 rw [show lbl4 ansC 3155673600 false 3542400014070578150000000000=(0,41000,5,0) by decide +kernel]
theorem ans15_e:Value.bool (ctE ansC 51544 0 0 == 0) = .bool true:=by rw [show ctE ansC 51544 0 0=0 by decide +kernel];rfl
theorem ans15_o:Value.bool (oldB ansC) = .bool true:=by rw [show oldB ansC=true by decide +kernel]
theorem ans15_f:vI (day0 ansC)=vI 41317:=by rw [show day0 ansC=41317 by decide +kernel]
theorem answers15_any  : Ret 14 #[] (.bool true):=by
 intro w0
 have hst:=St.start w0 (Θ:=fun _=>True) (fun _ _=>trivial)
 refine enter Tryz.func14 rfl (n:=68) rfl (Nat.le_of_ble_eq_true rfl) hst (L:=[]) (lk_args rfl) (fun ac h=>?_)
 replace h:=h.facts
 refine wp_seq ?_
 refine rf_ h [[0]] [K_ bF] (fun E1=>[(0,bF)]) (hs:=c_ mv_<|e_) (k:=fun E1 ac wd h_1=>?_)
 clear h
 refine then_n (wp_seq ?_)
 refine rf_ h_1 [[0],[0,1],[0,1,2],r_ 4,r_ 5,r_ 6,[0,1,2,3,4,6],[0,1,2,3,4,5,7],r_ 9] [K_ (.agg #[vI 2272060800,vI 10]),KE_ fun env=>.slice ((sA (env 1))) 1 1,KE_ fun env=>.agg #[vI 0,vI 3155673600,.slice ((sA (env 1))) 1 1],KE_ fun env=>vT2 (vP (ptrB (tp (env 3) 0)) 0) (vI 0),KE_ fun env=>vT2 (vP (ptrB (tp (env 3) 0)) 0) (vI 0),KE_ fun env=>vP (ptrB (tp (env 3) 0)) 0,K_ (vI 0),KE_ fun env=>vP (ptrB (tp (env 3) 0)) 0,K_ (vI 0)] (fun E2=>[(0,bF),(1,vP (ptrB (tp (E2 3) 0)) 0),(2,vI 0)]) (F:=[(1,fun env w=>EntL w (env 1) ansC),(3,fun env w=>NewCx w (env 3) 0 3155673600 ansC w0.heap.size)]) (L1:=fun E2=>[fun w=>EntL w (E2 1) ansC,fun w=>NewCx w (E2 3) 0 3155673600 ansC w0.heap.size]) (hs:=c_ (bd0 ([vI 2272060800,vI 10]))<|c_ (s_bsE rfl rfl (fun _=>wanted_none rfl _) ansC 1 rfl #[vI 2272060800,vI 10] ansC_cs rfl rfl rfl rfl (fun {D env ac wd} hA=>by have e10:ac.tmps[10]? = some (.agg #[vI 2272060800,vI 10]):=hA.g rfl;simp [go_sem,e10,Tryz.underlying22]))<|c_ (bd_ (fun env=>[vI 3155673600,.slice ((sA (env 1))) 1 1]))<|c_ (s_factT rfl rfl rfl Tryz.func13 (by kernel_rfl) rfl (fun _=>wanted_none rfl _) (fun v w=>NewCx w v 0 3155673600 ansC w0.heap.size) newLF rfl rfl cT rfl (fun v w h=>h.form) (fun v w w' hk h=>h.keep hk) (fun {D env ac wd} hA=>⟨_,hA.args (vs:=[.agg #[vI 0,vI 3155673600,.slice ((sA (env 1))) 1 1]]) rfl,cnew_yes hA.j.st.gr.size (At.ent hA 1 rfl (by decide) rfl rfl rfl) (by simp [I64]) (by simp [I64]) ansC_64 ansC_ok⟩))<|c_ mv_<|c_ ext_<|c_ ext_<|c_ mv_<|c_ mv_<|e_) (k:=fun E2 ac wd h_2=>?_)
 clear h_1
 refine then_n (wp_seq ?_)
 replace h_2:=Cur.exInC h_2 1 rfl;obtain ⟨g,b,h_2⟩:=h_2;generalize ptrB (tp (E2 3) 0)=c at h_2
 refine rf_ h_2 [[0],[1],[0,1,2],r_ 4,r_ 5,[0,1,2,3,5],[6],[0,1,2,3,4,6,7],r_ 9] [K_ (vP c 0),K_ (vL 41000 5 0),K_ (vT2 (vW 3542400014070578150000000000) (vI 0)),K_ (vT2 (vW 3542400014070578150000000000) (vI 0)),K_ (vW 3542400014070578150000000000),K_ (vI 0),KE_ fun env=>vP (pb env 6) 0,none,K_ (vI 0)] (fun E3=>[(0,bF),(1,vP c 0),(2,vI 0),(3,vP (pb E3 6) 0),(4,vI 0)]) (W:=[{ i:=6,T:=34,c0:=[vI 0,.int .u64 0],s:=some 7,c1:=fun _=>[vI (hi (3542400014070578150000000000)),.int .u64 (lo (3542400014070578150000000000))] }]) (M':=fun E3=>[((pb E3 6),34,[vI (hi (3542400014070578150000000000)),.int .u64 (lo (3542400014070578150000000000))])]) (hs:=c_ mv_<|c_ (bd0 ([vI 41000,vI 5]))<|c_ (s_clk (c:=c) (g:=g) (b:=b) (u:=0) (x:=3155673600) (es:=ansC) Tryz.func15 (fun _ h=>h) (fun _ h=>h) (h:=fun D env ac wd hA hC=>⟨_,ClkC.eq (cTai_c _ c g b 0 3155673600 ansC hC false 41000 5 0 (by omega) (by omega)) ans15_t,rfl⟩))<|c_ mv_<|c_ ext_<|c_ ext_<|c_ (al_ 0)<|c_ (sw_ 0 6 (hst:=by exact fun _ _ _ hc=>st34 rfl rfl rfl hc))<|c_ mv_<|e_) (k:=fun E3 ac wd h_3=>?_)
 clear h_2
 refine then_n (wp_seq ?_)
 refine rf_ h_3 [[0],[1],[0,1,2],r_ 4,r_ 5,[0,1,2,3,5],[6],[0,1,2,3,4,6,7],r_ 9] [K_ (vP c 0),K_ (vW 3542400014070578150000000000),K_ (vT2 (vL 41000 5 0) (vI 0)),K_ (vT2 (vL 41000 5 0) (vI 0)),K_ (vL 41000 5 0),K_ (vI 0),KE_ fun env=>vP (pb env 6) 0,none,K_ (vI 0)] (fun E4=>[(0,bF),(1,vP c 0),(2,vI 0),(4,vI 0),(5,vP (pb E4 6) 0),(6,vI 0)]) (W:=[{ i:=6,T:=26,c0:=[vI 0,vI 0,vI 0],s:=some 7,c1:=fun _=>[vI 41000,vI 5,vI 0] }]) (M':=fun E4=>[((pb E3 6),34,[vI (hi (3542400014070578150000000000)),.int .u64 (lo (3542400014070578150000000000))]),((pb E4 6),26,[vI 41000,vI 5,vI 0])]) (hs:=c_ mv_<|c_ (ld_ 0 (hrd:=by exact rd34 rfl rfl))<|c_ (s_clk (c:=c) (g:=g) (b:=b) (u:=0) (x:=3155673600) (es:=ansC) Tryz.func20 (fun _ h=>h) (fun _ h=>h) (h:=fun D env ac wd hA hC=>⟨_,ClkC.eq (cLabel_c _ c g b 0 3155673600 ansC hC false 3542400014070578150000000000 (by unfold InW;omega)) ans15_l,rfl⟩))<|c_ mv_<|c_ ext_<|c_ ext_<|c_ (al_ 1)<|c_ (sw_ 1 6 (hst:=by exact fun _ _ _ hc=>st26 rfl rfl rfl rfl hc))<|c_ mv_<|e_) (k:=fun E4 ac wd h_4=>?_)
 clear h_3
 refine then_n (wp_seq ?_)
 refine rf_ h_4 [[0],[1],[0,1,2],r_ 4,r_ 5,[0,1,2,3,5],[6],[0,1,2,3,4,6,7],r_ 9] [K_ (vP c 0),K_ (vL 51544 0 0),K_ (vT2 (vW 0) (vI 9)),K_ (vT2 (vW 0) (vI 9)),K_ (vW 0),K_ (vI 9),KE_ fun env=>vP (pb env 6) 0,none,K_ (vI 9)] (fun E5=>[(0,bF),(1,vP c 0),(2,vI 0),(4,vI 0),(5,vP (pb E4 6) 0),(6,vI 0),(8,vI 9)]) (W:=[{ i:=6,T:=34,c0:=[vI 0,.int .u64 0],s:=some 7,c1:=fun _=>[vI (hi (0)),.int .u64 (lo (0))] }]) (M':=fun E5=>[((pb E3 6),34,[vI (hi (3542400014070578150000000000)),.int .u64 (lo (3542400014070578150000000000))]),((pb E4 6),26,[vI 41000,vI 5,vI 0]),((pb E5 6),34,[vI (hi (0)),.int .u64 (lo (0))])]) (hs:=c_ mv_<|c_ (bd0 ([vI 51544]))<|c_ (s_clk (c:=c) (g:=g) (b:=b) (u:=0) (x:=3155673600) (es:=ansC) Tryz.func15 (fun _ h=>h) (fun _ h=>h) (h:=fun D env ac wd hA hC=>⟨_,ClkC.eq (cTai_c _ c g b 0 3155673600 ansC hC false 51544 0 0 (by omega) (by omega)) ans15_h,rfl⟩))<|c_ mv_<|c_ ext_<|c_ ext_<|c_ (al_ 2)<|c_ (sw_ 2 6 (hst:=by exact fun _ _ _ hc=>st34 rfl rfl rfl hc))<|c_ mv_<|e_) (k:=fun E5 ac wd h_5=>?_)
 clear h_4
 refine then_n (wp_seq ?_)
 refine rf_ h_5 [[0],[0,1],[0,1,2],r_ 4,r_ 5,r_ 6,r_ 7,r_ 8,r_ 9,r_ 10,r_ 11,r_ 12,r_ 13,r_ 14,r_ 15,r_ 16,[0,1,2,3,4,5,6,7,8,9,10,11,12,13,14,16],r_ 18,r_ 19,r_ 20,r_ 21,r_ 22,r_ 23,r_ 24,r_ 25,[0,1,2,3,4,5,6,7,8,9,10,11,12,13,14,15,16,17,18,19,20,21,22,23,25],r_ 27,r_ 28,r_ 29,r_ 30,r_ 31,r_ 32,r_ 33,r_ 34,r_ 35] [K_ (vI 0),K_ bT,K_ bT,K_ (vP c 0),K_ bT,K_ bT,K_ bT,K_ (vI 0),K_ bT,K_ bT,K_ bT,K_ (vI 0),K_ bT,K_ bT,K_ bT,K_ (vL 41000 5 0),K_ (vL 41000 5 0),K_ bT,K_ bT,K_ bT,K_ (vI 9),K_ bT,K_ bT,K_ bT,K_ (vP c 0),K_ (vL 51544 0 0),K_ bT,K_ bT,K_ bT,K_ (vP c 0),K_ (vP g 0),K_ (vI 41317),K_ bT,K_ bT,K_ bT] (fun E6=>[(0,bT)]) (hs:=c_ mv_<|c_ (bi0 (vI 0) (vI 0) (h:=by intro env w;(first | (simp [go_sem];done) | (simp [go_sem];rfl))))<|c_ mv_<|c_ (gm0 (vP c 0))<|c_ (cw_ Tryz.func24 (h:=fun _ env _ wd hA=>⟨_,(u_res_eq ((cold_any (hA.thO rfl))) ans15_o),rfl⟩))<|c_ (pk0 bT bT bF)<|c_ mv_<|c_ (gm0 (vI 0))<|c_ (bi0 (vI 0) (vI 0) (h:=by intro env w;(first | (simp [go_sem];done) | (simp [go_sem];rfl))))<|c_ (pk0 bT bT bF (h:=by intro env w;(first | (simp [go_sem];done) | (simp [go_sem];rfl))))<|c_ mv_<|c_ (gm0 (vI 0))<|c_ (bi0 (vI 0) (vI 0) (h:=by intro env w;(first | (simp [go_sem];done) | (simp [go_sem];rfl))))<|c_ (pk0 bT bT bF (h:=by intro env w;(first | (simp [go_sem];done) | (simp [go_sem];rfl))))<|c_ mv_<|c_ (ld_ 1 (hrd:=by exact rd26 rfl rfl rfl))<|c_ (bd0 ([vI 41000,vI 5]))<|c_ (bi0 (vL 41000 5 0) (vL 41000 5 0) (h:=by intro env w;(first | (simp [go_sem];done) | (simp [go_sem];rfl))))<|c_ (pk0 bT bT bF (h:=by intro env w;(first | (simp [go_sem];done) | (simp [go_sem];rfl))))<|c_ mv_<|c_ (gm0 (vI 9))<|c_ (bi0 (vI 9) (vI 9) (h:=by intro env w;(first | (simp [go_sem];done) | (simp [go_sem];rfl))))<|c_ (pk0 bT bT bF (h:=by intro env w;(first | (simp [go_sem];done) | (simp [go_sem];rfl))))<|c_ mv_<|c_ (gm0 (vP c 0))<|c_ (bd0 ([vI 51544]))<|c_ (s_clk (c:=c) (g:=g) (b:=b) (u:=0) (x:=3155673600) (es:=ansC) Tryz.func17 (fun _ h=>h) (fun _ h=>h) (h:=fun D env ac wd hA hC=>⟨_,ClkC.eq (cexists_c _ c g b 0 3155673600 ansC hC 51544 0 0 (by omega) (by omega)) ans15_e,rfl⟩))<|c_ (pk0 bT bT bF)<|c_ mv_<|c_ (gm0 (vP c 0))<|c_ (cw_ Tryz.func25 (h:=fun _ env _ wd hA=>⟨_,(cleaps_any (hA.thO rfl)),rfl⟩))<|c_ (s_clk (c:=c) (g:=g) (b:=b) (u:=0) (x:=3155673600) (es:=ansC) Tryz.func40 (fun _ h=>h) (fun _ h=>h) (h:=fun D env ac wd hA hC=>⟨_,LeapC.clk hC (LeapC.eq (clk_first (IsC.lx hC)) ans15_f),rfl⟩))<|c_ (bi0 (vI 41317) (vI 41317) (h:=by intro env w;(first | (simp [go_sem];done) | (simp [go_sem];rfl))))<|c_ (pk0 bT bT bF (h:=by intro env w;(first | (simp [go_sem];done) | (simp [go_sem];rfl))))<|c_ mv_<|e_) (k:=fun E6 ac wd h_6=>?_)
 clear h_5
 refine then_n (wp_ret ?_)
 have s0:=h_6.g (t:=0) rfl
 refine leave (v:=.bool true) h_6.df (by simp [results,Tryz.results14,go_sem,Array.getD_eq_getD_getElem?,s0]) ?_
 exact ⟨rfl,h_6.st.below⟩
end Go.Proofs.YtdfkghpgekmmlaaGreat
namespace Go.Proofs.YtdfkghpgekmmlaaGreat
open Go.RowKit
section
variable {es:List (Int × Int)} (hp:okPre es es.length=true) (hn:0 < es.length)
include hp hn
end
end Go.Proofs.YtdfkghpgekmmlaaGreat
namespace Go.Proofs.YtdfkghpgekmmlaaGreat
open Go.RowKit
attribute [local go_sem] vN bT bF rS vW vM vL vT2 vT3 vP vI execOp Act.eval evC bigF vB hi_zero lo_zero
theorem y_ex {es:List (Int × Int)} {x d s a:Int}:Value.bool (ctE es d s a == 0) = .bool (tE es x true d s a == 0):=by rw [tE_lax]
theorem y_tV_no {es:List (Int × Int)} {x:Int} {lax:Bool} {d s a:Int} (h:¬ tE es x lax d s a=0):tV es x lax d s a=0:=by unfold tV;rw [if_neg h]
end Go.Proofs.YtdfkghpgekmmlaaGreat
