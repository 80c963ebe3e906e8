/- Texts Y2b, P19, Y5, Y6, Y7, P20, S1, S2, S3 of one proof, one behind the other; what nothing here names is left out. -/
import Derived.Test.YtcdchnlefmnbjaaGreatV5
import Derived.Test.YtcdchnlefmnbjaaGreatV8
import Derived.Test.YtcdchnlefmnbjaaGreatV3
import Derived.Test.YtcdchnlefmnbjaaGreatV4
import Derived.IntWalk
import Derived.Test.YtcdchnlefmnbjaaGreatV10
import Derived.Test.YtcdchnlefmnbjaaGreatV7
set_option maxRecDepth 100000
set_option maxHeartbeats 8000000
set_option linter.unusedVariables false
set_option linter.unusedSimpArgs false
namespace Go.Proofs.YtcdchnlefmnbjaaGreat
open Go.RowKit
attribute [local go_sem] vN bT bF rS vW vM vL vT2 vT3 vP vI execOp Act.eval evC bigF vB hi_zero lo_zero Tryz.underlying102 Tryz.underlying157
def sgR (k:Nat):List Value:=(List.range (k*4)).map (sgC pubS)
theorem sgR_succ (k:Nat):sgR (k+1)=sgR k ++ [vI (sgi pubS k).d,vI (sgi pubS k).b,vI (sgi pubS k).f,vI (sgi pubS k).r]:=by
 unfold sgR
 rw [show (k+1)*4=k*4+4 by omega,List.range_add,List.map_append]
 congr 1
 rw [show List.range 4=[0,1,2,3] from rfl]
 simp only [List.map_cons,List.map_nil,Nat.add_zero,sgC_0,sgC_1,sgC_2,sgC_3]
theorem seg_info:(Tryz.prog.info? 102).map (fun i=>(i.zero,i.size,i.bytes))=some (some (.agg #[vI 0,vI 0,vI 0,vI 0]),4,32):=by kernel_rfl
def rowcF (n:Nat) (v:Value):Value:=.slice (sA v) n n
def RowC (T:TypeId) (cs:Array Value) (n:Nat) (w:World) (v:Value):Prop:=∃ b,v = .slice (some ⟨b,0,none⟩) n n∧w.heap[b]? = some (Obj.cells cs T (0,0))
theorem RowC.form {T:TypeId} {cs:Array Value} {n:Nat} {w:World} {v:Value} (h:RowC T cs n w v):v=rowcF n v:=by obtain ⟨b,rfl,_⟩:=h;rfl
theorem RowC.keep {T:TypeId} {cs:Array Value} {n:Nat} {w w':World} {v:Value} (h:RowC T cs n w v) (hk:KeepT [T] none w w'):RowC T cs n w' v:=by
 obtain ⟨b,rfl,hb⟩:=h
 exact ⟨b,rfl,(hk _ _ _ _ hb (by simp) (by simp)).trans hb⟩
theorem RowC.seg {T:TypeId} {w:World} {v:Value} (h:RowC T pubC 13 w v):SegU w (.slice (sA v) 13 13) pubS:=by
  obtain ⟨b,rfl,hb⟩:=h
  exact ⟨_,13,rfl,by decide,by decide,.inr ⟨b,0,T,pubC,_,rfl,hb,fun i hi=>by
    have hi':i < 52:=by have:pubS.length=13:=rfl;omega
    simp [pubC,hi']⟩⟩
section
variable {P:Program} {R:Reg} {Q:Exit→Act→World→Prop} {i:Nat} {o:Oper}
theorem s_bsC (ho:R.ops[i]? = some o) (hf:free' R i=true) (hw:∀ {D env a w},At R i D env a w→Region.wanted o (yielded R.ops a.tmps)=true) (T:TypeId) (n:Nat) (cs cs':Array Value) (hcs:cs=cs') (hV:R.v? i=some fun env=>rowcF n (env i)) (hF:R.F.filter (fun p=>Nat.beq p.1 i)=[(i,fun env w=>RowC T cs' n w (env i))]) (hint:tFree [T] R=true) (hx:R.ex=none)
    (hrun:∀ {D env a w},At R i D env a w→(execOp a.eval o).run P w = .ok (.value (.slice (some ⟨w.heap.size,0,none⟩) n n)) (w.alloc (.cells cs T (0,0)))):SR P Q R i:=
  s_gen ho hf (fun {D env a w} hA K hK=>by
    subst hcs
    rw [if_pos (hw hA)]
    unfold Oper.wp
    rw [hrun hA]
    have hs':=hA.j.st.call (w':=w.alloc (.cells cs T (0,0))) ⟨rfl,rfl,rfl,by simp,fun k hk=>Below.heap_alloc _ _ _ hk⟩
    have hkt:=fun w'' (ha:Apart (R.mem _ _) none _ w'')=>apart_keepT (w':=w'') hint hs' (.inl hx.symm) ha
    rw [hx] at hkt
    refine hK _ _ hs' (fun w'' ha=>f_fact (φ:=fun v w=>RowC T cs n w v) (form:=rowcF n) hV (fun v w h=>h.form) hF hA.ok ho (RowC.keep ⟨w.heap.size,rfl,heap_alloc_new w _⟩ (hkt w'' (by rw [hx] at ha;exact ha)))))
theorem s_ra (ho:R.ops[i]? = some o) (hf:free' R i=true) {T:TypeId} {x y:Operand} (hop:o.op = .indexAddr T x y) (hw:∀ {D env a w},At R i D env a w→Region.wanted o (yielded R.ops a.tmps)=true)
    {n k:Nat} {f:Nat→Value} (q off q':Nat) (hq:q+off=q') {s:Env→Value} (hV:R.v? i=some fun env=>elt (s env) q')
    (hx:∀ env,opAt R i env x=some (elt (s env) q)) (hy:∀ env,opAt R i env y=some (vI (off:Int))) (hs:∀ {D env a w},At R i D env a w→Els w (s env) n k f) (hj:0 < n) (hrd:∀ (b q:Nat) (w:World),(Instr.indexAt T (.pointer (some ⟨b,q,none⟩)) (vI (off:Int))).run Tryz.prog w = .ok (.pointer (some ⟨b,q+off,none⟩)) w) (hn:noF R i=true:=by rfl) (hr:∀ env x,s (restr (R.cl.getD i []) (upd env i x))=s env:=by intros;rfl):SR Tryz.prog Q R i:=
  s_val ho hf hV (fun {D env a w} hA=>⟨hw hA,by
    subst hq
    obtain ⟨A,c,e,h1,h2⟩:=hs hA
    have e1:=hA.e (hx env)
    have e2:=hA.e (hy env)
    rw [e] at e1
    rcases h2 with h2 | ⟨b,off',rfl,_⟩
    · omega
    · simp only [elt] at e1
      rw [e]
      simp [execOp,hop,e1,e2,hrd,elt,Nat.add_assoc]⟩) hn (fun env x=>by simp only [hr])
end
theorem Facts.rowC {L:List (World→Prop)} {w:World} {T:TypeId} {v:Value} (h:Facts L w) (k:Nat) (hk:L[k]? = some (fun w=>RowC T pubC 13 w v)):SegU w (.slice (sA v) 13 13) pubS:=(show RowC T pubC 13 w v from h.get k hk).seg
theorem gr_below {w w':World} (h:w.grownBy w' none):Below w.heap.size w w':=⟨h.os,h.tape,h.output,h.size,fun i hi=>h.block i hi (by simp)⟩
theorem own_ge {T:TypeId} {k:Nat} {w:World} {B:Nat} {v:Value} {n:Nat} {cs:List Value} (h:OwnK T k w B v n cs) {b:Nat} (hb:v.ownBlock=some b):B≤b:=by
  obtain ⟨_,h2⟩:=h
  rcases h2 with ⟨rfl,_⟩ | ⟨g,cap,cur,rfl,hB,_⟩
  · cases hb
  · simp only [Value.ownBlock,Option.some.injEq] at hb;omega
theorem rsegments_w (w0:World)  : Calls Tryz.prog 48 #[] w0 fun e w'=>∃ v,e = .returned v∧Below w0.heap.size w0 w'∧SegN w0.heap.size w' v pubS:=by
 have hpl:pubS.length=13:=rfl
 have hst:=St.start w0 (Θ:=fun _=>True) (fun _ _=>trivial)
 refine en_ Tryz.func48 hst 49 [] (fun ac H_=>?_)
 replace H_:=H_.facts
 refine fq0 H_ 0 [[0]] [_] (s:=mv3) (k:=fun E1 ac wd H_=>?_)
 refine fq H_ 14 [[0],[1],[2],[3],[4],[5],[6],[7],[8],[9],[10],[11],[12],r_ 14,r_ 15] [K_ (.agg #[vI 37300,vI 14228180,vI 37300,vI 12960]),K_ (.agg #[vI 37512,vI 13728180,vI 37300,vI 12960]),K_ (.agg #[vI 37665,vI 18458580,vI 37665,vI 11232]),K_ (.agg #[vI 38334,vI 19458580,vI 37665,vI 11232]),K_ (.agg #[vI 38395,vI 32401300,vI 38761,vI 12960]),K_ (.agg #[vI 38486,vI 33401300,vI 38761,vI 12960]),K_ (.agg #[vI 38639,vI 34401300,vI 38761,vI 12960]),K_ (.agg #[vI 38761,vI 35401300,vI 38761,vI 12960]),K_ (.agg #[vI 38820,vI 36401300,vI 38761,vI 12960]),K_ (.agg #[vI 38942,vI 37401300,vI 38761,vI 12960]),K_ (.agg #[vI 39004,vI 38401300,vI 38761,vI 12960]),K_ (.agg #[vI 39126,vI 43131700,vI 39126,vI 25920]),K_ (.agg #[vI 39887,vI 42131700,vI 39126,vI 25920]),KE_ fun env=>.slice ((sA (env 13))) 13 13,_] (fun E2=>[(1,.slice ((sA (E2 13))) 13 13)]) (F:=[(13,fun env w=>RowC 157 pubC 13 w (env 13))]) (s:=⟨by refine s_v rfl rfl rfl rfl (fun {D env ac wd} hA=>?_);simp [go_sem,Tryz.underlying157],by refine s_v rfl rfl rfl rfl (fun {D env ac wd} hA=>?_);simp [go_sem,Tryz.underlying157],by refine s_v rfl rfl rfl rfl (fun {D env ac wd} hA=>?_);simp [go_sem,Tryz.underlying157],by refine s_v rfl rfl rfl rfl (fun {D env ac wd} hA=>?_);simp [go_sem,Tryz.underlying157],by refine s_v rfl rfl rfl rfl (fun {D env ac wd} hA=>?_);simp [go_sem,Tryz.underlying157],by refine s_v rfl rfl rfl rfl (fun {D env ac wd} hA=>?_);simp [go_sem,Tryz.underlying157],by refine s_v rfl rfl rfl rfl (fun {D env ac wd} hA=>?_);simp [go_sem,Tryz.underlying157],by refine s_v rfl rfl rfl rfl (fun {D env ac wd} hA=>?_);simp [go_sem,Tryz.underlying157],by refine s_v rfl rfl rfl rfl (fun {D env ac wd} hA=>?_);simp [go_sem,Tryz.underlying157],by refine s_v rfl rfl rfl rfl (fun {D env ac wd} hA=>?_);simp [go_sem,Tryz.underlying157],by refine s_v rfl rfl rfl rfl (fun {D env ac wd} hA=>?_);simp [go_sem,Tryz.underlying157],by refine s_v rfl rfl rfl rfl (fun {D env ac wd} hA=>?_);simp [go_sem,Tryz.underlying157],by refine s_v rfl rfl rfl rfl (fun {D env ac wd} hA=>?_);simp [go_sem,Tryz.underlying157],s_bsC rfl rfl (fun _=>wanted_none rfl _) 157 13 #[vI 37300,vI 14228180,vI 37300,vI 12960,vI 37512,vI 13728180,vI 37300,vI 12960,vI 37665,vI 18458580,vI 37665,vI 11232,vI 38334,vI 19458580,vI 37665,vI 11232,vI 38395,vI 32401300,vI 38761,vI 12960,vI 38486,vI 33401300,vI 38761,vI 12960,vI 38639,vI 34401300,vI 38761,vI 12960,vI 38761,vI 35401300,vI 38761,vI 12960,vI 38820,vI 36401300,vI 38761,vI 12960,vI 38942,vI 37401300,vI 38761,vI 12960,vI 39004,vI 38401300,vI 38761,vI 12960,vI 39126,vI 43131700,vI 39126,vI 25920,vI 39887,vI 42131700,vI 39126,vI 25920] pubC (by kernel_rfl) rfl rfl rfl rfl (fun {D env ac wd} hA=>by have e4:ac.tmps[4]? = some (.agg #[vI 37300,vI 14228180,vI 37300,vI 12960]):=hA.g rfl;have e5:ac.tmps[5]? = some (.agg #[vI 37512,vI 13728180,vI 37300,vI 12960]):=hA.g rfl;have e6:ac.tmps[6]? = some (.agg #[vI 37665,vI 18458580,vI 37665,vI 11232]):=hA.g rfl;have e7:ac.tmps[7]? = some (.agg #[vI 38334,vI 19458580,vI 37665,vI 11232]):=hA.g rfl;have e8:ac.tmps[8]? = some (.agg #[vI 38395,vI 32401300,vI 38761,vI 12960]):=hA.g rfl;have e9:ac.tmps[9]? = some (.agg #[vI 38486,vI 33401300,vI 38761,vI 12960]):=hA.g rfl;have e10:ac.tmps[10]? = some (.agg #[vI 38639,vI 34401300,vI 38761,vI 12960]):=hA.g rfl;have e11:ac.tmps[11]? = some (.agg #[vI 38761,vI 35401300,vI 38761,vI 12960]):=hA.g rfl;have e12:ac.tmps[12]? = some (.agg #[vI 38820,vI 36401300,vI 38761,vI 12960]):=hA.g rfl;have e13:ac.tmps[13]? = some (.agg #[vI 38942,vI 37401300,vI 38761,vI 12960]):=hA.g rfl;have e14:ac.tmps[14]? = some (.agg #[vI 39004,vI 38401300,vI 38761,vI 12960]):=hA.g rfl;have e15:ac.tmps[15]? = some (.agg #[vI 39126,vI 43131700,vI 39126,vI 25920]):=hA.g rfl;have e16:ac.tmps[16]? = some (.agg #[vI 39887,vI 42131700,vI 39126,vI 25920]):=hA.g rfl;simp [go_sem,e4,e5,e6,e7,e8,e9,e10,e11,e12,e13,e14,e15,e16,Tryz.underlying158]),mv3⟩) (k:=fun E2 ac wd H_=>?_)
 have hq:=Facts.rowC H_.st.now 0 rfl
 have hg0:=H_.st.gr
 obtain ⟨w1,rfl⟩:∃ x,x=wd:=⟨_,rfl⟩
 replace H_:Cur 49 w1 none none (fun _=>True) (fun _=>True) [(1,.slice ((sA (E2 13))) 13 13)] [] ac w1:=(⟨H_.sz,H_.df,St.start w1 (fun _ _=>trivial),H_.sl⟩:Cur 49 w1 none none (fun _=>True) (fun _=>True) _ [] ac w1).re rfl
 refine gq1 H_ 0 [[0]] [_] (fun _=>[(2,.slice none 0 0)]) (s:=mv3) (k:=fun E3 ac wd H_=>?_)
 refine gq1 H_ 0 [[0]] [_] (fun _=>[(3,vI 0)]) (s:=mv3) (k:=fun E4 ac wd H_=>?_)
 refine lp3 (fun ac wd=>∃ (v:Value) (i:Nat),i≤13∧Cur 49 w1 none none (fun _=>True) (fun w=>OwnK 102 4 w w1.heap.size v i (sgR i)) [(1,.slice ((sA (E2 13))) 13 13),(2,v),(3,vN i)] [] ac wd) (fun ac _=>((13:Int)-sI ac 3).toNat) ⟨.slice none 0 0,0,by omega,(H_.re rfl).th (fun w _=>OwnK.nil w _)⟩ ?_
 rintro ac wd ⟨v,i,hi1,H_⟩
 have hmu:sI ac 3=((i:Nat):Int):=sI_eq (H_.g (t:=3) rfl)
 by_cases h1:i < 13
 refine gq1 H_ 3 [[0],[1],[1,2],r_ 4] [_,_,vI ((13:Int)),bT] (fun _=>[(21,bT)]) (s:=⟨mv3,mv3,ln_ Tryz.underlying158 fun _ env _ wd hA=>(hq.grown hA.j.st.gr).els,bi3⟩) (k:=fun E6 ac wd H_=>?_)
 refine cT3 H_ ?_
 refine gq H_ 24 [[0],[1],[2],[1,2,3],[1,2,3,4],[1,2,3,4,5],[6],[7],[6,7,8],[6,7,8,9],[6,7,8,9,10],[11],[12],[11,12,13],[11,12,13,14],[11,12,13,14,15],[16],[17],[16,17,18],[16,17,18,19],[16,17,18,19,20],[1,2,3,4,5,6,7,8,9,10,11,12,13,14,15,16,17,18,19,20,21],[1,2,3,4,5,6,7,8,9,10,11,12,13,14,15,16,17,18,19,20,21,22],r_ 24,r_ 25] [_,_,_,elt (.slice ((sA (E2 13))) 13 13) (i*4),elt (.slice ((sA (E2 13))) 13 13) (i*4),vI ((sgi pubS i).d),_,_,elt (.slice ((sA (E2 13))) 13 13) (i*4),elt (.slice ((sA (E2 13))) 13 13) (i*4+1),vI ((sgi pubS i).b),_,_,elt (.slice ((sA (E2 13))) 13 13) (i*4),elt (.slice ((sA (E2 13))) 13 13) (i*4+2),vI ((sgi pubS i).f),_,_,elt (.slice ((sA (E2 13))) 13 13) (i*4),elt (.slice ((sA (E2 13))) 13 13) (i*4+3),vI ((sgi pubS i).r),vSg (sgi pubS i),KE_ fun env=>.slice (some ⟨(pb env 22),0,none⟩) 1 1,KE_ fun env=>.slice (sA (env 23)) (i+1) (sC (env 23)),_] (fun E7=>[(2,.slice (sA (E7 23)) (i+1) (sC (E7 23)))]) (W:=[{ i:=22,T:=102,c0:=[vI ((sgi pubS i).d),vI ((sgi pubS i).b),vI ((sgi pubS i).f),vI ((sgi pubS i).r)] }]) (th:=(some (23,fun env w=>OwnK 102 4 w w1.heap.size (.slice (sA (env 23)) (i+1) (sC (env 23))) (i+1) (sgR i ++ [vI ((sgi pubS i).d),vI ((sgi pubS i).b),vI ((sgi pubS i).f),vI ((sgi pubS i).r)])))) (T:=fun E7=>fun w=>OwnK 102 4 w w1.heap.size (.slice (sA (E7 23)) (i+1) (sC (E7 23))) (i+1) (sgR i ++ [vI ((sgi pubS i).d),vI ((sgi pubS i).b),vI ((sgi pubS i).f),vI ((sgi pubS i).r)])) (s:=⟨mv3,mv3,mv3,ia_ Tryz.underlying158 sz157 i (i*4) ((i:Nat):Int) (fun _ env _ wd hA=>(hq.grown hA.j.st.gr).els) (rfl) (by omega) rfl,s_ra rfl rfl rfl (fun _=>wanted_none rfl _) (i*4) 0 (i*4) rfl (s:=fun _=>.slice ((sA (E2 13))) 13 13) rfl (fun _=>rfl) (fun _=>rfl) (fun {D env ac wd} hA=>(hq.grown hA.j.st.gr).els) (by omega) (fun b q w=>by simp [go_sem,Tryz.underlying157,sz3]),le_ (i*4) (fun _ env _ wd hA=>(hq.grown hA.j.st.gr).els) (by omega) (leG1 sh3 (by exact sgC_0 pubS i)),mv3,mv3,ia_ Tryz.underlying158 sz157 i (i*4) ((i:Nat):Int) (fun _ env _ wd hA=>(hq.grown hA.j.st.gr).els) (rfl) (by omega) rfl,s_ra rfl rfl rfl (fun _=>wanted_none rfl _) (i*4) 1 (i*4+1) rfl (s:=fun _=>.slice ((sA (E2 13))) 13 13) rfl (fun _=>rfl) (fun _=>rfl) (fun {D env ac wd} hA=>(hq.grown hA.j.st.gr).els) (by omega) (fun b q w=>by simp [go_sem,Tryz.underlying157,sz3]),le_ (i*4+1) (fun _ env _ wd hA=>(hq.grown hA.j.st.gr).els) (by omega) (leG1 sh3 (by exact sgC_1 pubS i)),mv3,mv3,ia_ Tryz.underlying158 sz157 i (i*4) ((i:Nat):Int) (fun _ env _ wd hA=>(hq.grown hA.j.st.gr).els) (rfl) (by omega) rfl,s_ra rfl rfl rfl (fun _=>wanted_none rfl _) (i*4) 2 (i*4+2) rfl (s:=fun _=>.slice ((sA (E2 13))) 13 13) rfl (fun _=>rfl) (fun _=>rfl) (fun {D env ac wd} hA=>(hq.grown hA.j.st.gr).els) (by omega) (fun b q w=>by simp [go_sem,Tryz.underlying157,sz3]),le_ (i*4+2) (fun _ env _ wd hA=>(hq.grown hA.j.st.gr).els) (by omega) (leG1 sh3 (by exact sgC_2 pubS i)),mv3,mv3,ia_ Tryz.underlying158 sz157 i (i*4) ((i:Nat):Int) (fun _ env _ wd hA=>(hq.grown hA.j.st.gr).els) (rfl) (by omega) rfl,s_ra rfl rfl rfl (fun _=>wanted_none rfl _) (i*4) 3 (i*4+3) rfl (s:=fun _=>.slice ((sA (E2 13))) 13 13) rfl (fun _=>rfl) (fun _=>rfl) (fun {D env ac wd} hA=>(hq.grown hA.j.st.gr).els) (by omega) (fun b q w=>by simp [go_sem,Tryz.underlying157,sz3]),le_ (i*4+3) (fun _ env _ wd hA=>(hq.grown hA.j.st.gr).els) (by omega) (leG1 sh3 (by exact sgC_3 pubS i)),bd34,s_bsM rfl rfl 0 rfl rfl 1 rfl (fun {D env ac wd} hA=>by have e45:ac.tmps[45]? = some (vSg (sgi pubS i)):=hA.g rfl;simp [go_sem,e45,Tryz.underlying57]),s_appS rfl rfl rfl rfl Tryz.underlying57 seg_info rfl (by omega) (by omega) rfl rfl (fun _=>trivial) rfl (fun _ h=>h) [vI ((sgi pubS i).d),vI ((sgi pubS i).b),vI ((sgi pubS i).f),vI ((sgi pubS i).r)] rfl (by simp [Value.oneCell']) rfl (by omega) 22 0 rfl rfl rfl rfl rfl (fun _=>rfl) (fun hA=>hA.e rfl),mv3⟩) (k:=fun E7 ac wd H_=>?_)
 refine gq1 H_ 2 (tri 3) [_,vI (((i:Nat):Int)+1),_] (fun _=>[(3,vI (((i:Nat):Int)+1))]) (s:=⟨mv3,bi3,mv3⟩) (k:=fun E8 ac wd H_=>?_)
 refine then_n ?_
 exact ⟨⟨.slice (sA (E7 23)) (i+1) (sC (E7 23)),i+1,by omega,((H_.take (M1:=[]) rfl).re rfl).th (fun w hw=>by rw [sgR_succ];exact hw)⟩,by rw [sI_eq (H_.g (t:=3) rfl),hmu];omega⟩
 obtain rfl:i=13:=by omega
 refine gq1 H_ 3 [[0],[1],[1,2],r_ 4] [_,_,vI ((13:Int)),bF] (fun _=>[(21,bF)]) (s:=⟨mv3,mv3,ln_ Tryz.underlying158 fun _ env _ wd hA=>(hq.grown hA.j.st.gr).els,bi3⟩) (k:=fun E6 ac wd H_=>?_)
 refine cF3 H_ ?_
 refine gq1 H_ 1 [[0],[0,1]] [_,_] (fun _=>[(0,v)]) (s:=⟨mv3,mv3⟩) (k:=fun E7 ac wd H_=>?_)
 refine lvT3 Tryz.results48 H_ ?_
 have hO:OwnK 102 4 _ w1.heap.size v 13 (sgR 13):=H_.st.nowT
 exact ⟨_,rfl,below_to (gr_below hg0) H_.st.below,OwnK.rowP (by intro i hi;have hi2:i < 52:=hi;simp [sgR,hi2]) (by omega) hO,fun b hb=>Nat.le_trans hg0.size (own_ge hO hb)⟩
theorem rsegments_up {B:Nat} {w:World} (hB:B≤w.heap.size):Calls Tryz.prog 48 #[] w fun e w'=>∃ v,e = .returned v∧Below w.heap.size w w'∧SegN B w' v pubS:=by
 refine (rsegments_w w).mono ?_
 rintro e w' ⟨v,rfl,hb,h1,h2⟩
 exact ⟨v,rfl,hb,h1,fun b hb'=>Nat.le_trans hB (h2 b hb')⟩
end Go.Proofs.YtcdchnlefmnbjaaGreat
namespace Go.Proofs.YtcdchnlefmnbjaaGreat
open Go.RowKit
theorem labUt_no {es:List (Int × Int)} {z:Int} (he:¬ (labUt es z).1=0):labUt es z=((labUt es z).1,0,0,0):=by
  unfold labUt labR at *
  split
  · split <;> rfl
  split
  · rfl
  split
  · split
    · rename_i h1 h2 h3 h4
      rw [if_neg h1,if_neg h2,if_pos h3,if_pos h4] at he
      exact absurd rfl he
    · rfl
  · split
    · rename_i h1 h2 h3 h4
      rw [if_neg h1,if_neg h2,if_neg h3,if_pos h4] at he
      exact absurd rfl he
    · rfl
theorem clb_no {es:List (Int × Int)} {z:Int} (he:¬ (clb es z).1=0):clb es z=((clb es z).1,0,0,0):=by
  unfold clb at *
  split
  · rename_i h
    rw [if_pos h] at he
    have e1:labD pubS 41317 10 z=0:=by unfold labD;rw [if_neg he]
    have e2:labS pubS 41317 10 z=0:=by unfold labS;rw [if_neg he]
    have e3:labA pubS 41317 10 z=0:=by unfold labA;rw [if_neg he]
    rw [e1,e2,e3]
  · rename_i h
    rw [if_neg h] at he
    exact labUt_no he
theorem lbl_yes {es:List (Int × Int)} {x z:Int} {lax:Bool} (h:(lbl4 es x lax z).1=0):(clb es z).1=0∧lbl4 es x lax z=clb es z:=by
  unfold lbl4 at *
  split at h
  · rename_i h1
    split at h
    · cases h
    · rename_i h2
      rw [if_pos h1,if_neg h2]
      exact ⟨h1,rfl⟩
  · rename_i h1
    exact absurd h h1
def spA (es:List (Int × Int)) (x:Int) (lax:Bool) (d s a k:Int):Int × Int × Int × Int:=if tE es x lax d s a=0 then (if inW (tV es x lax d s a+k)=true then lbl4 es x lax (tV es x lax d s a+k) else (2,0,0,0)) else (tE es x lax d s a,0,0,0)
def spD (es:List (Int × Int)) (x:Int) (lax:Bool) (d s a d' s' a':Int):Int:=if tE es x lax d s a=0 then (if tE es x lax d' s' a'=0 then tV es x lax d' s' a'-tV es x lax d s a else 0) else 0
def spE (es:List (Int × Int)) (x:Int) (lax:Bool) (d s a d' s' a':Int):Int:=if tE es x lax d s a=0 then tE es x lax d' s' a' else tE es x lax d s a
def goB (y:Int × Int × Int × Int) (d s a:Int):Bool:=decide (y.1=0) && (decide (y.2.1=d) && decide (y.2.2.1=s) && decide (y.2.2.2=a))
def spN (es:List (Int × Int)) (x:Int) (lax:Bool) (d s a:Int):Int × Int × Int × Int:=if goB (spA es x lax d s a 1) d s a=true then spA es x lax d s a 2 else spA es x lax d s a 1
def nx (es:List (Int × Int)) (x:Int) (lax:Bool) (d s a:Int):Nat→Int × Int × Int × Int
  | 0=>(0,d,s,a)
  | i+1=>spA es x lax d s a ((i:Int)+1)
theorem goB_iff {y:Int × Int × Int × Int} {d s a:Int}:goB y d s a=true↔y=(0,d,s,a):=by
 obtain ⟨e,p,q,r⟩:=y
 unfold goB;simp;intro _;exact and_assoc
theorem taiU_bd {es:List (Int × Int)} (hp:okPre es es.length=true) (d s a:Int):-100000000000000000000000000000000000000≤1000*taiU es d s a∧1000*taiU es d s a≤100000000000000000000000000000000000000:=by
  unfold taiU
  split
  · rename_i h
    have:=whyU_ok h
    have:=u_off_bd hp d
    omega
  · omega
theorem ctV_bd {es:List (Int × Int)} (hp:okPre es es.length=true) (d s a:Int):-100000000000000000000000000000000000000≤1000*ctV es d s a∧1000*ctV es d s a≤100000000000000000000000000000000000000:=by
  unfold ctV
  split
  · have:=taiV_bd pub_ok d s a
    omega
  · exact taiU_bd hp d s a
theorem tV_bd {es:List (Int × Int)} (hp:okPre es es.length=true) (x:Int) (lax:Bool) (d s a:Int):-100000000000000000000000000000000000000≤1000*tV es x lax d s a∧1000*tV es x lax d s a≤100000000000000000000000000000000000000:=by
  unfold tV
  split
  · exact ctV_bd hp d s a
  · omega
theorem spD_bd {es:List (Int × Int)} (hp:okPre es es.length=true) (x:Int) (lax:Bool) (d s a d' s' a':Int):InW (tV es x lax d' s' a'-tV es x lax d s a):=by
 have:=tV_bd hp x lax d s a
 have:=tV_bd hp x lax d' s' a'
 unfold InW;omega
section
variable {es:List (Int × Int)} (hp:okPre es es.length=true) (hn:0 < es.length)
include hp hn
theorem go2 (x:Int) (lax:Bool) (d s a:Int) (h0:tE es x lax d s a=0):¬ goB (spA es x lax d s a 2) d s a=true:=fun h=>by
 rw [goB_iff] at h
 unfold spA at h
 rw [if_pos h0] at h
 have hc:=tE_ct h0
 have hv:tV es x lax d s a=ctV es d s a:=by unfold tV;rw [if_pos h0]
 have hb:=ctV_bd hp d s a
 rw [if_pos ((inW_iff _).2 (by rw [hv];unfold InW;omega)),hv] at h
 obtain ⟨q1,q2⟩:=lbl_yes (es:=es) (x:=x) (lax:=lax) (z:=ctV es d s a+2) (by rw [h])
 obtain ⟨_,q3⟩:=clk_forth hp hn q1
 rw [← q2,h] at q3
 simp only at q3
 omega
theorem nx_go {x:Int} {lax:Bool} {d s a:Int} {i:Nat} (hi:i≤2) (h:∀ j,j < i→goB (nx es x lax d s a j) d s a=true) (hg:goB (nx es x lax d s a i) d s a=true):i < 2:=by
  refine Nat.lt_of_le_of_ne hi fun e=>?_
  subst e
  have h1:=goB_iff.1 (h 1 (by omega))
  have h0:tE es x lax d s a=0:=by
    rw [show nx es x lax d s a 1=spA es x lax d s a ((0:Nat)+1:Int) from rfl] at h1
    unfold spA at h1
    split at h1
    · assumption
    · rename_i hne
      exact absurd (congrArg Prod.fst h1) hne
  exact go2 hp hn x lax d s a h0 hg
theorem nx_spN {x:Int} {lax:Bool} {d s a:Int} {i:Nat} (hi:i≤2) (h:∀ j,j < i→goB (nx es x lax d s a j) d s a=true) (hg:¬ goB (nx es x lax d s a i) d s a=true):spN es x lax d s a=nx es x lax d s a i:=by
  have _:=hp
  have _:=hn
  match i with
  | 0=>exact absurd (goB_iff.2 rfl) hg
  | 1=>unfold spN;exact if_neg hg
  | 2=>unfold spN;exact if_pos (h 1 (by omega))
  | n+3=>omega
end
theorem sp_no1 {es:List (Int × Int)} {x:Int} {lax:Bool} {d s a d' s' a':Int} (h:¬ tE es x lax d s a=0):spD es x lax d s a d' s' a'=0∧spE es x lax d s a d' s' a'=tE es x lax d s a:=by
 unfold spD spE
 rw [if_neg h,if_neg h]
 exact ⟨rfl,rfl⟩
theorem sp_no2 {es:List (Int × Int)} {x:Int} {lax:Bool} {d s a d' s' a':Int} (h:tE es x lax d s a=0) (h2:¬ tE es x lax d' s' a'=0):spD es x lax d s a d' s' a'=0∧spE es x lax d s a d' s' a'=tE es x lax d' s' a':=by
 unfold spD spE
 rw [if_pos h,if_pos h,if_neg h2]
 exact ⟨rfl,rfl⟩
theorem sp_yes {es:List (Int × Int)} {x:Int} {lax:Bool} {d s a d' s' a':Int} (h:tE es x lax d s a=0) (h2:tE es x lax d' s' a'=0):spD es x lax d s a d' s' a'=tV es x lax d' s' a'-tV es x lax d s a∧spE es x lax d s a d' s' a'=0:=by
 unfold spD spE
 rw [if_pos h,if_pos h,if_pos h2]
 exact ⟨rfl,h2⟩
end Go.Proofs.YtcdchnlefmnbjaaGreat
namespace Go.Proofs.YtcdchnlefmnbjaaGreat
open Go.RowKit
attribute [local go_sem] vN bT bF rS vW vM vL vT2 vT3 vP vI execOp Act.eval evC bigF vB hi_zero lo_zero Tryz.underlying24 Tryz.underlying26 Tryz.underlying40
theorem rOld15_any (w0:World) (A0:Option Addr) (c0:Nat) (es:List (Int × Int)) (u x:Int) (hv:Ents w0 w0.heap.size (.slice A0 es.length c0) es) (hp:okPre es es.length=true) (hn0:0 < es.length):Calls Tryz.prog 46 #[.agg #[vI u,vI x,.slice A0 es.length c0]] w0 fun e w'=>e = .returned (.bool (oldB es))∧Below w0.heap.size w0 w':=by
 have hb0:=okPre_num hp (i:=0) hn0
 have hst:=St.start w0 (Θ:=fun _=>True) (fun _ _=>trivial)
 refine en_ Tryz.func46 hst 17 [(0,.agg #[vI u,vI x,.slice A0 es.length c0])] (fun ac H_=>?_)
 refine gq H_ 1 [[0],[1]] [_,_] (fun E1=>[(1,vP (pb E1 0) 0)]) (W:=[{ i:=0,T:=24,c0:=[vI u,vI x,.slice A0 es.length c0] }]) (s:=⟨bx3 0,mv3⟩) (k:=fun E1 ac wd H_=>?_)
 by_cases h1:day0 es=41317
 by_cases h2:(es.getD 0 (0,0)).2=10
 have hob:oldB es=true:=oldB_iff.2 ⟨h1,h2⟩
 refine gq1 H_ 14 (tri 15) [_,_,elt (.slice A0 es.length c0) (0*2),K_ (.agg #[vI ((es.getD 0 (0,0)).1),vI ((es.getD 0 (0,0)).2)]),_,bT,_,_,_,elt (.slice A0 es.length c0) (0*2),elt (.slice A0 es.length c0) (0*2+1),vI ((es.getD 0 (0,0)).2),bT,bT,_] (fun _=>[(2,bT)]) (s:=⟨fa3 2,ld31 0 sh22,ia_ Tryz.underlying22 sz54 0 (0*2) 0 (fun _ env _ wd hA=>(hv.gn hA.j.st.gr).els) (rfl) (hn0) rfl,le_ (0*2) (fun _ env _ wd hA=>(hv.gn hA.j.st.gr).els) (by omega) (leGb sh54 (by exact enC_0 es 0) (by exact enC_1 es 0)),cl3 Tryz.func85 ((Ret.eq (rday_any (es.getD 0 (0,0)).1 (es.getD 0 (0,0)).2 hb0.1 hb0.2.1) (y_day0 es))),bi3 (h:=by intro env w;simp [go_sem,h1]),mv3,fa3 2,ld31 0 sh22,ia_ Tryz.underlying22 sz54 0 (0*2) 0 (fun _ env _ wd hA=>(hv.gn hA.j.st.gr).els) (rfl) (hn0) rfl,s_fa rfl rfl rfl (fun hA=>hA.gy rfl rfl rfl) (0*2) 1 (0*2+1) rfl (s:=fun _=>.slice A0 es.length c0) rfl (fun _=>rfl) (fun {D env ac wd} hA=>(hv.gn hA.j.st.gr).els) (by omega) (fun b q w=>by simp [go_sem,Tryz.underlying54]),le_ (0*2+1) (fun _ env _ wd hA=>(hv.gn hA.j.st.gr).els) (by omega) (leG1 sh3 (by exact enC_1 es 0)),bi3 (h:=by intro env w;(first | (simp [go_sem,h2];done) | (simp [go_sem];simp only [List.getD_eq_getElem?_getD] at h2;simp [h2]))),pk3 (h:=by intro env w;(first | (simp [go_sem,h2];done) | (simp [go_sem];simp only [List.getD_eq_getElem?_getD] at h2;simp [h2]))),mv3⟩) (k:=fun E2 ac wd H_=>?_)
 refine lvT3 Tryz.results46 H_ ?_
 exact ⟨by rw [hob],H_.st.below⟩
 have hob:oldB es=false:=by unfold oldB;simp only [h1,h2,decide_true,decide_false,Bool.and_false]
 refine gq1 H_ 14 (tri 15) [_,_,elt (.slice A0 es.length c0) (0*2),K_ (.agg #[vI ((es.getD 0 (0,0)).1),vI ((es.getD 0 (0,0)).2)]),_,bT,_,_,_,elt (.slice A0 es.length c0) (0*2),elt (.slice A0 es.length c0) (0*2+1),vI ((es.getD 0 (0,0)).2),bF,bF,_] (fun _=>[(2,bF)]) (s:=⟨fa3 2,ld31 0 sh22,ia_ Tryz.underlying22 sz54 0 (0*2) 0 (fun _ env _ wd hA=>(hv.gn hA.j.st.gr).els) (rfl) (hn0) rfl,le_ (0*2) (fun _ env _ wd hA=>(hv.gn hA.j.st.gr).els) (by omega) (leGb sh54 (by exact enC_0 es 0) (by exact enC_1 es 0)),cl3 Tryz.func85 ((Ret.eq (rday_any (es.getD 0 (0,0)).1 (es.getD 0 (0,0)).2 hb0.1 hb0.2.1) (y_day0 es))),bi3 (h:=by intro env w;simp [go_sem,h1]),mv3,fa3 2,ld31 0 sh22,ia_ Tryz.underlying22 sz54 0 (0*2) 0 (fun _ env _ wd hA=>(hv.gn hA.j.st.gr).els) (rfl) (hn0) rfl,s_fa rfl rfl rfl (fun hA=>hA.gy rfl rfl rfl) (0*2) 1 (0*2+1) rfl (s:=fun _=>.slice A0 es.length c0) rfl (fun _=>rfl) (fun {D env ac wd} hA=>(hv.gn hA.j.st.gr).els) (by omega) (fun b q w=>by simp [go_sem,Tryz.underlying54]),le_ (0*2+1) (fun _ env _ wd hA=>(hv.gn hA.j.st.gr).els) (by omega) (leG1 sh3 (by exact enC_1 es 0)),bi3 (h:=by intro env w;(first | (simp [go_sem,h2];done) | (simp [go_sem];simp only [List.getD_eq_getElem?_getD] at h2;simp [h2]))),pk3 (h:=by intro env w;(first | (simp [go_sem,h2];done) | (simp [go_sem];simp only [List.getD_eq_getElem?_getD] at h2;simp [h2]))),mv3⟩) (k:=fun E2 ac wd H_=>?_)
 refine lvT3 Tryz.results46 H_ ?_
 exact ⟨by rw [hob],H_.st.below⟩
 have hob:oldB es=false:=by unfold oldB;simp [h1]
 refine gq1 H_ 14 (tri 15) [_,_,elt (.slice A0 es.length c0) (0*2),K_ (.agg #[vI ((es.getD 0 (0,0)).1),vI ((es.getD 0 (0,0)).2)]),_,bF,_,_,_,_,_,_,_,bF,_] (fun _=>[(2,bF)]) (s:=⟨fa3 2,ld31 0 sh22,ia_ Tryz.underlying22 sz54 0 (0*2) 0 (fun _ env _ wd hA=>(hv.gn hA.j.st.gr).els) (rfl) (hn0) rfl,le_ (0*2) (fun _ env _ wd hA=>(hv.gn hA.j.st.gr).els) (by omega) (leGb sh54 (by exact enC_0 es 0) (by exact enC_1 es 0)),cl3 Tryz.func85 ((Ret.eq (rday_any (es.getD 0 (0,0)).1 (es.getD 0 (0,0)).2 hb0.1 hb0.2.1) (y_day0 es))),bi3 (h:=by intro env w;simp [go_sem,h1]),mv3,off_,off_,off_,off_,off_,off_,pk3,mv3⟩) (k:=fun E2 ac wd H_=>?_)
 refine lvT3 Tryz.results46 H_ ?_
 exact ⟨by rw [hob],H_.st.below⟩
theorem rOver15_any (w0:World) (A0:Option Addr) (c0:Nat) (es:List (Int × Int)) (u x:Int) (hv:Ents w0 w0.heap.size (.slice A0 es.length c0) es) (d s a:Int) (q4:-1099511627776≤d) (q5:d≤1099511627776) (q0:0≤s) (q1:s≤86400):Calls Tryz.prog 50 #[.agg #[vI u,vI x,.slice A0 es.length c0],vL d s a] w0 fun e w'=>e = .returned (.bool (overB x d s))∧Below w0.heap.size w0 w':=by
 have hst:=St.start w0 (Θ:=fun _=>True) (fun _ _=>trivial)
 refine en_ Tryz.func50 hst 15 [(0,.agg #[vI u,vI x,.slice A0 es.length c0]),(1,vL d s a)] (fun ac H_=>?_)
 refine gq H_ 2 [[0],[1],[2]] [_,_,_] (fun E1=>[(2,vP (pb E1 0) 0),(3,vP (pb E1 1) 0)]) (W:=[{ i:=0,T:=24,c0:=[vI u,vI x,.slice A0 es.length c0] },{ i:=1,T:=26,c0:=[vI d,vI s,vI a] }]) (s:=⟨bx3 0,bx3 1,mv3⟩) (k:=fun E1 ac wd H_=>?_)
 refine gq1 H_ 10 (tri 4++[[4],[4,5],r_ 7,[7],[7,8],r_ 10,r_ 11]) [_,_,vI (d-15020),vI ((d-15020)*86400),_,_,vI (((d-15020)*86400)+s),_,_,K_ (.bool (decide (x≤((d-15020)*86400)+s))),_] (fun _=>[(4,.bool (decide (x≤((d-15020)*86400)+s)))]) (s:=⟨fa3 0,ld31 1 sh3,bi3,bi3,fa3 1,ld31 1 sh3,bi3,fa3 1,ld31 0 sh3,bi3,mv3⟩) (k:=fun E2 ac wd H_=>?_)
 refine lvT3 Tryz.results50 H_ ?_
 exact ⟨rfl,H_.st.below⟩
theorem y_tai_jn {es:List (Int × Int)} {d s a:Int} (h:whyU es d s a=0):taiU es d s a=jn d (s+offV es d) a:=by unfold taiU jn;rw [if_pos h];omega
theorem rTai15_any (w0:World) (A0:Option Addr) (c0:Nat) (es:List (Int × Int)) (u x:Int) (hv:Ents w0 w0.heap.size (.slice A0 es.length c0) es) (hp:okPre es es.length=true) (hn0:0 < es.length) (d s a:Int) (hx0:-9223372036854775808≤d) (hx1:d < 9223372036854775808) (hx2:-9223372036854775808≤s) (hx3:s < 9223372036854775808) (hx4:-9223372036854775808≤a) (hx5:a < 9223372036854775808) (lax:Bool):Calls Tryz.prog 21 #[.agg #[vI u,vI x,.slice A0 es.length c0],vL d s a,.bool (lax)] w0 fun e w'=>∃ v,e = .returned (.tuple #[v,vI (tE es x lax d s a)])∧Below w0.heap.size w0 w'∧BigN w0.heap.size w' v (tV es x lax d s a):=by
 have hst:=St.start w0 (Θ:=fun _=>True) (fun _ _=>trivial)
 refine en_ Tryz.func21 hst 45 [(0,.agg #[vI u,vI x,.slice A0 es.length c0]),(1,vL d s a),(2,.bool (lax))] (fun ac H_=>?_)
 replace H_:=H_.facts
 refine fq H_ 3 [[0],[1],[2],[3]] [_,_,_,_] (fun E1=>[(3,vP (pb E1 0) 0),(4,vP (pb E1 1) 0),(6,vP (pb E1 2) 0)]) (W:=[{ i:=0,T:=24,c0:=[vI u,vI x,.slice A0 es.length c0] },{ i:=1,T:=26,c0:=[vI d,vI s,vI a] },{ i:=2,T:=40,c0:=[bF,.slice none 0 0] }]) (s:=⟨bx3 0,bx3 1,al_ 2,mv3⟩) (k:=fun E1 ac wd H_=>?_)
 refine fq H_ 6 [[0],[1],[2],[1,2,3],[4],r_ 6,r_ 7] [K_ (.agg #[bF,.slice none 0 0]),_,_,_,_,none,_] (fun E2=>[(8,vP (pb E2 4) 0),(9,vI (whyU es d s a))]) (W:=[{ i:=4,T:=40,c0:=[bF,.slice none 0 0],s:=some 5,c1:=fun _=>[bF,.slice none 0 0] }]) (s:=⟨bd30,ld3c 0 sh24,ld3c 1 sh26,cw3 Tryz.func45 fun wd hA=>(rWhy_any wd A0 c0 es u x (hv.gn hA.j.st.gr) hp hn0 d s a),al_ 3,sw3 3 4 sh40,mv3⟩) (k:=fun E2 ac wd H_=>?_)
 cases ho:oldB es
 refine fq1 H_ 6 (tri 7) [_,_,_,_,_,_,bF] (fun _=>[(20,bF)]) (s:=⟨ld3c 0 sh24,cw3 Tryz.func46 fun wd hA=>(u_res_eq (rOld15_any wd A0 c0 es u x (hv.gn hA.j.st.gr) hp hn0) (congrArg Value.bool ho)),mv3,off_,off_,off_,pk3⟩) (k:=fun E3 ac wd H_=>?_)
 refine cF3 H_ ?_
 have hct:=ct_utc (d:=d) (s:=s) (a:=a) (.inl ho)
 by_cases hw:whyU es d s a=0
 obtain ⟨q0,q1,q2,q3,q4,q5,_,_⟩:=whyU_ok hw;have he:ctE es d s a=0:=hct.2.trans hw;have htj:=y_tai_jn hw
 refine fq1 H_ 1 [[0],[0,1]] [_,bT] (fun _=>[(28,bT)]) (s:=⟨mv3,bi3 (h:=by intro env w;simp [go_sem,hw])⟩) (k:=fun E4 ac wd H_=>?_)
 refine cT3 H_ ?_
 refine fq H_ 3 [[0],[1],[0,1,2],r_ 4] [_,_,_,none] (fun _=>[]) (S:=[⟨3,3,fun env=>[.bool (decide (jn d (s+offV es d) a < 0)),rS (jn d (s+offV es d) a) ((bA (env 2))) ((bC (env 2)))]⟩]) (F:=[fB w0 2 (jn d (s+offV es d) a)]) (s:=⟨ld3c 0 sh24,ld3c 1 sh26,cb3 Tryz.func49 fun wd hA=>rTai12_any wd A0 c0 es u x (hv.gn hA.j.st.gr) hp d s a q0 q1 q2 q3 q4 q5,se3 3 sh40⟩) (k:=fun E5 ac wd H_=>?_)
 refine fq1 H_ 1 [[0],[0,1]] [_,bF] (fun _=>[(33,bF)]) (s:=⟨mv3,bi3 (h:=by intro env w;simp [go_sem,hw])⟩) (k:=fun E6 ac wd H_=>?_)
 refine cF3 H_ ?_
 rcases lax with _ | _
 cases hov:overB x d s
 refine fq1 H_ 6 (tri 4++[[0,1,2,4],r_ 6,r_ 7]) [_,bT,_,_,_,_,bF] (fun _=>[(42,bF)]) (s:=⟨mv3,un3,mv3,ld3c 0 sh24,ld3c 1 sh26,cw3 Tryz.func50 fun wd hA=>(u_res_eq (rOver15_any wd A0 c0 es u x (hv.gn hA.j.st.gr) d s a q4 q5 q0 q1) (congrArg Value.bool hov)),pk3⟩) (k:=fun E7 ac wd H_=>?_)
 refine cF3 H_ ?_
 refine fq H_ 2 (tri 3) [_,none,_] (fun _=>[(7,vI 0)]) (S:=[⟨2,1,fun _=>[.bool (decide (jn d (s+offV es d) a < 0)),rS (jn d (s+offV es d) a) ((bA (E5 2))) ((bC (E5 2)))]⟩]) (s:=⟨ld3b 3 sh40,se3 2 sh40,mv3⟩) (k:=fun E8 ac wd H_=>?_)
 refine lvCT3 (v:=bigF (jn d (s+offV es d) a) (E5 2)) Tryz.results21 H_ 2 (loadGc sh40 rfl ⟨rfl,rfl,trivial⟩) ?_
 have e1:tE es x false d s a=0:=by unfold tE expB;rw [if_pos he];simp [hov]
 have e2:tV es x false d s a=jn d (s+offV es d) a:=by unfold tV;rw [e1,if_pos rfl,hct.1,htj]
 exact ⟨bigF (jn d (s+offV es d) a) (E5 2),by rw [e1],H_.st.below,BigN.eq (BigN.mk rfl rfl (Facts.bN H_.st.now 0 rfl)) e2.symm⟩
 refine fq1 H_ 6 (tri 4++[[0,1,2,4],r_ 6,r_ 7]) [_,bT,_,_,_,_,bT] (fun _=>[(42,bT)]) (s:=⟨mv3,un3,mv3,ld3c 0 sh24,ld3c 1 sh26,cw3 Tryz.func50 fun wd hA=>(u_res_eq (rOver15_any wd A0 c0 es u x (hv.gn hA.j.st.gr) d s a q4 q5 q0 q1) (congrArg Value.bool hov)),pk3⟩) (k:=fun E7 ac wd H_=>?_)
 refine cT3 H_ ?_
 refine fq H_ 2 (tri 3) [K_ (.agg #[bF,.slice none 0 0]),none,_] (fun _=>[(7,vI 9)]) (S:=[⟨2,1,fun _=>[bF,.slice none 0 0]⟩]) (s:=⟨bd30,se3 2 sh40,mv3⟩) (k:=fun E8 ac wd H_=>?_)
 refine lvCT3 (v:=.agg #[.bool false,.slice none 0 0]) Tryz.results21 H_ 2 (loadGc sh40 rfl ⟨rfl,rfl,trivial⟩) ?_
 have e1:tE es x false d s a=9:=by unfold tE expB;rw [if_pos he];simp [hov]
 have e2:tV es x false d s a=0:=by unfold tV;rw [e1,if_neg (by omega)]
 exact ⟨.agg #[.bool false,.slice none 0 0],by rw [e1],H_.st.below,BigN.nil e2⟩
 refine fq1 H_ 6 (tri 4++[[0,1,2,4],r_ 6,r_ 7]) [_,bF,_,_,_,_,bF] (fun _=>[(42,bF)]) (s:=⟨mv3,un3,mv3,off_,off_,off_,pk3⟩) (k:=fun E7 ac wd H_=>?_)
 refine cF3 H_ ?_
 refine fq H_ 2 (tri 3) [_,none,_] (fun _=>[(7,vI 0)]) (S:=[⟨2,1,fun _=>[.bool (decide (jn d (s+offV es d) a < 0)),rS (jn d (s+offV es d) a) ((bA (E5 2))) ((bC (E5 2)))]⟩]) (s:=⟨ld3b 3 sh40,se3 2 sh40,mv3⟩) (k:=fun E8 ac wd H_=>?_)
 refine lvCT3 (v:=bigF (jn d (s+offV es d) a) (E5 2)) Tryz.results21 H_ 2 (loadGc sh40 rfl ⟨rfl,rfl,trivial⟩) ?_
 have e1:tE es x true d s a=0:=by unfold tE expB;rw [if_pos he];simp
 have e2:tV es x true d s a=jn d (s+offV es d) a:=by unfold tV;rw [e1,if_pos rfl,hct.1,htj]
 exact ⟨bigF (jn d (s+offV es d) a) (E5 2),by rw [e1],H_.st.below,BigN.eq (BigN.mk rfl rfl (Facts.bN H_.st.now 0 rfl)) e2.symm⟩
 have he:¬ ctE es d s a=0:=fun h=>hw (hct.2.symm.trans h)
 refine fq1 H_ 1 [[0],[0,1]] [_,bF] (fun _=>[(28,bF)]) (s:=⟨mv3,bi3 (h:=by intro env w;simp [go_sem,hw])⟩) (k:=fun E4 ac wd H_=>?_)
 refine cF3 H_ ?_
 refine fq1 H_ 1 [[0],[0,1]] [_,bT] (fun _=>[(33,bT)]) (s:=⟨mv3,bi3 (h:=by intro env w;simp [go_sem,hw])⟩) (k:=fun E5 ac wd H_=>?_)
 refine cT3 H_ ?_
 refine fq H_ 3 [[0],[1],[0,2],r_ 4] [K_ (.agg #[bF,.slice none 0 0]),_,none,_] (fun _=>[(7,vI (whyU es d s a))]) (S:=[⟨2,2,fun _=>[bF,.slice none 0 0]⟩]) (s:=⟨bd30,mv3,se3 2 sh40,mv3⟩) (k:=fun E6 ac wd H_=>?_)
 refine lvCT3 (v:=.agg #[.bool false,.slice none 0 0]) Tryz.results21 H_ 2 (loadGc sh40 rfl ⟨rfl,rfl,trivial⟩) ?_
 have e1:tE es x lax d s a=whyU es d s a:=by unfold tE;rw [if_neg he,hct.2]
 have e2:tV es x lax d s a=0:=by unfold tV;rw [e1,if_neg hw]
 exact ⟨.agg #[.bool false,.slice none 0 0],by rw [e1],H_.st.below,BigN.nil e2⟩
 by_cases hd:d < 41317
 have hct:=ct_rub (s:=s) (a:=a) ho hd
 refine fq1 H_ 6 (tri 7) [_,_,_,_,_,bT,bT] (fun _=>[(20,bT)]) (s:=⟨ld3c 0 sh24,cw3 Tryz.func46 fun wd hA=>(u_res_eq (rOld15_any wd A0 c0 es u x (hv.gn hA.j.st.gr) hp hn0) (congrArg Value.bool ho)),mv3,fa3 0,ld31 1 sh3,bi3 (h:=by intro env w;simp [go_sem,hd]),pk3 (h:=by intro env w;simp [go_sem,hd])⟩) (k:=fun E3 ac wd H_=>?_)
 refine cT3 H_ ?_
 refine fq H_ 7 [[0],[1],[0,1,2],r_ 4,r_ 5,[0,1,2,3,5],[0,1,2,3,4,6],r_ 8] [KE_ fun env=>.slice ((sA (env 0))) pubS.length ((sC (env 0))),_,KE_ fun env=>vT2 (bigF (taiV pubS 41317 10 d s a) (tp (env 2) 0)) (vI (taiE pubS 41317 10 d s a)),_,_,_,none,_] (fun _=>[(9,vI (taiE pubS 41317 10 d s a))]) (S:=[⟨3,6,fun env=>[.bool (decide (taiV pubS 41317 10 d s a < 0)),rS (taiV pubS 41317 10 d s a) ((bA (tp (env 2) 0))) ((bC (tp (env 2) 0)))]⟩]) (F:=[(0,fun env w=>SegN w0.heap.size w (env 0) pubS),(2,fun env w=>TaiX w0.heap.size w (env 2) (taiV pubS 41317 10 d s a) (taiE pubS 41317 10 d s a))]) (s:=⟨s_factT rfl rfl rfl Tryz.func48 (by kernel_rfl) rfl (fun _=>wanted_none rfl _) (fun v w=>SegN w0.heap.size w v pubS) (segF pubS) rfl rfl [102] rfl (fun v w h=>h.form) (fun v w w' hk h=>h.keep hk) (fun {D env ac wd} hA=>⟨_,hA.args (vs:=[]) rfl,rsegments_up hA.j.st.gr.size⟩),ld3c 1 sh26,cf_ Tryz.func47 (fun v w=>TaiX w0.heap.size w v (taiV pubS 41317 10 d s a) (taiE pubS 41317 10 d s a)) (taiF (taiV pubS 41317 10 d s a) (taiE pubS 41317 10 d s a)) (h:=fun _ env _ wd hA=>⟨_,toTaiX hA.j.st.gr.size (rTai_any wd ((sA (env 0))) ((sC (env 0))) pubS (At.segN hA 0 rfl rfl rfl) 41317 10 pub_ok.toLOk d s a hx0 hx1 hx2 hx3 hx4 hx5),rfl⟩),mv3,xt3,xt3,se3 3 sh40,mv3⟩) (k:=fun E4 ac wd H_=>?_)
 by_cases hw:taiE pubS 41317 10 d s a=0
 have he:ctE es d s a=0:=hct.2.trans hw;obtain ⟨q0,q1,q2,q3,q4,q5⟩:=ctE_bd he
 refine fq1 H_ 1 [[0],[0,1]] [_,bF] (fun _=>[(33,bF)]) (s:=⟨mv3,bi3 (h:=by intro env w;simp [go_sem,hw])⟩) (k:=fun E5 ac wd H_=>?_)
 refine cF3 H_ ?_
 rcases lax with _ | _
 cases hov:overB x d s
 refine fq1 H_ 6 (tri 4++[[0,1,2,4],r_ 6,r_ 7]) [_,bT,_,_,_,_,bF] (fun _=>[(42,bF)]) (s:=⟨mv3,un3,mv3,ld3c 0 sh24,ld3c 1 sh26,cw3 Tryz.func50 fun wd hA=>(u_res_eq (rOver15_any wd A0 c0 es u x (hv.gn hA.j.st.gr) d s a q4 q5 q0 q1) (congrArg Value.bool hov)),pk3⟩) (k:=fun E6 ac wd H_=>?_)
 refine cF3 H_ ?_
 refine fq H_ 2 (tri 3) [_,none,_] (fun _=>[(7,vI 0)]) (S:=[⟨2,1,fun _=>[.bool (decide (taiV pubS 41317 10 d s a < 0)),rS (taiV pubS 41317 10 d s a) ((bA (tp (E4 2) 0))) ((bC (tp (E4 2) 0)))]⟩]) (s:=⟨ld3b 3 sh40,se3 2 sh40,mv3⟩) (k:=fun E7 ac wd H_=>?_)
 refine lvCT3 (v:=bigF (taiV pubS 41317 10 d s a) (tp (E4 2) 0)) Tryz.results21 H_ 2 (loadGc sh40 rfl ⟨rfl,rfl,trivial⟩) ?_
 have e1:tE es x false d s a=0:=by unfold tE expB;rw [if_pos he];simp [hov]
 have e2:tV es x false d s a=taiV pubS 41317 10 d s a:=by unfold tV;rw [e1,if_pos rfl,hct.1]
 exact ⟨bigF (taiV pubS 41317 10 d s a) (tp (E4 2) 0),by rw [e1],H_.st.below,BigN.eq (BigN.mk rfl rfl (Facts.tN H_.st.now 1 rfl)) e2.symm⟩
 refine fq1 H_ 6 (tri 4++[[0,1,2,4],r_ 6,r_ 7]) [_,bT,_,_,_,_,bT] (fun _=>[(42,bT)]) (s:=⟨mv3,un3,mv3,ld3c 0 sh24,ld3c 1 sh26,cw3 Tryz.func50 fun wd hA=>(u_res_eq (rOver15_any wd A0 c0 es u x (hv.gn hA.j.st.gr) d s a q4 q5 q0 q1) (congrArg Value.bool hov)),pk3⟩) (k:=fun E6 ac wd H_=>?_)
 refine cT3 H_ ?_
 refine fq H_ 2 (tri 3) [K_ (.agg #[bF,.slice none 0 0]),none,_] (fun _=>[(7,vI 9)]) (S:=[⟨2,1,fun _=>[bF,.slice none 0 0]⟩]) (s:=⟨bd30,se3 2 sh40,mv3⟩) (k:=fun E7 ac wd H_=>?_)
 refine lvCT3 (v:=.agg #[.bool false,.slice none 0 0]) Tryz.results21 H_ 2 (loadGc sh40 rfl ⟨rfl,rfl,trivial⟩) ?_
 have e1:tE es x false d s a=9:=by unfold tE expB;rw [if_pos he];simp [hov]
 have e2:tV es x false d s a=0:=by unfold tV;rw [e1,if_neg (by omega)]
 exact ⟨.agg #[.bool false,.slice none 0 0],by rw [e1],H_.st.below,BigN.nil e2⟩
 refine fq1 H_ 6 (tri 4++[[0,1,2,4],r_ 6,r_ 7]) [_,bF,_,_,_,_,bF] (fun _=>[(42,bF)]) (s:=⟨mv3,un3,mv3,off_,off_,off_,pk3⟩) (k:=fun E6 ac wd H_=>?_)
 refine cF3 H_ ?_
 refine fq H_ 2 (tri 3) [_,none,_] (fun _=>[(7,vI 0)]) (S:=[⟨2,1,fun _=>[.bool (decide (taiV pubS 41317 10 d s a < 0)),rS (taiV pubS 41317 10 d s a) ((bA (tp (E4 2) 0))) ((bC (tp (E4 2) 0)))]⟩]) (s:=⟨ld3b 3 sh40,se3 2 sh40,mv3⟩) (k:=fun E7 ac wd H_=>?_)
 refine lvCT3 (v:=bigF (taiV pubS 41317 10 d s a) (tp (E4 2) 0)) Tryz.results21 H_ 2 (loadGc sh40 rfl ⟨rfl,rfl,trivial⟩) ?_
 have e1:tE es x true d s a=0:=by unfold tE expB;rw [if_pos he];simp
 have e2:tV es x true d s a=taiV pubS 41317 10 d s a:=by unfold tV;rw [e1,if_pos rfl,hct.1]
 exact ⟨bigF (taiV pubS 41317 10 d s a) (tp (E4 2) 0),by rw [e1],H_.st.below,BigN.eq (BigN.mk rfl rfl (Facts.tN H_.st.now 1 rfl)) e2.symm⟩
 have he:¬ ctE es d s a=0:=fun h=>hw (hct.2.symm.trans h)
 refine fq1 H_ 1 [[0],[0,1]] [_,bT] (fun _=>[(33,bT)]) (s:=⟨mv3,bi3 (h:=by intro env w;simp [go_sem,hw])⟩) (k:=fun E5 ac wd H_=>?_)
 refine cT3 H_ ?_
 refine fq H_ 3 [[0],[1],[0,2],r_ 4] [K_ (.agg #[bF,.slice none 0 0]),_,none,_] (fun _=>[(7,vI (taiE pubS 41317 10 d s a))]) (S:=[⟨2,2,fun _=>[bF,.slice none 0 0]⟩]) (s:=⟨bd30,mv3,se3 2 sh40,mv3⟩) (k:=fun E6 ac wd H_=>?_)
 refine lvCT3 (v:=.agg #[.bool false,.slice none 0 0]) Tryz.results21 H_ 2 (loadGc sh40 rfl ⟨rfl,rfl,trivial⟩) ?_
 have e1:tE es x lax d s a=taiE pubS 41317 10 d s a:=by unfold tE;rw [if_neg he,hct.2]
 have e2:tV es x lax d s a=0:=by unfold tV;rw [e1,if_neg hw]
 exact ⟨.agg #[.bool false,.slice none 0 0],by rw [e1],H_.st.below,BigN.nil e2⟩
 have hct:=ct_utc (s:=s) (a:=a) (es:=es) (.inr hd)
 refine fq1 H_ 6 (tri 7) [_,_,_,_,_,bF,bF] (fun _=>[(20,bF)]) (s:=⟨ld3c 0 sh24,cw3 Tryz.func46 fun wd hA=>(u_res_eq (rOld15_any wd A0 c0 es u x (hv.gn hA.j.st.gr) hp hn0) (congrArg Value.bool ho)),mv3,fa3 0,ld31 1 sh3,bi3 (h:=by intro env w;simp [go_sem,hd]),pk3 (h:=by intro env w;simp [go_sem,hd])⟩) (k:=fun E3 ac wd H_=>?_)
 refine cF3 H_ ?_
 skip
 by_cases hw:whyU es d s a=0
 obtain ⟨q0,q1,q2,q3,q4,q5,_,_⟩:=whyU_ok hw;have he:ctE es d s a=0:=hct.2.trans hw;have htj:=y_tai_jn hw
 refine fq1 H_ 1 [[0],[0,1]] [_,bT] (fun _=>[(28,bT)]) (s:=⟨mv3,bi3 (h:=by intro env w;simp [go_sem,hw])⟩) (k:=fun E4 ac wd H_=>?_)
 refine cT3 H_ ?_
 refine fq H_ 3 [[0],[1],[0,1,2],r_ 4] [_,_,_,none] (fun _=>[]) (S:=[⟨3,3,fun env=>[.bool (decide (jn d (s+offV es d) a < 0)),rS (jn d (s+offV es d) a) ((bA (env 2))) ((bC (env 2)))]⟩]) (F:=[fB w0 2 (jn d (s+offV es d) a)]) (s:=⟨ld3c 0 sh24,ld3c 1 sh26,cb3 Tryz.func49 fun wd hA=>rTai12_any wd A0 c0 es u x (hv.gn hA.j.st.gr) hp d s a q0 q1 q2 q3 q4 q5,se3 3 sh40⟩) (k:=fun E5 ac wd H_=>?_)
 refine fq1 H_ 1 [[0],[0,1]] [_,bF] (fun _=>[(33,bF)]) (s:=⟨mv3,bi3 (h:=by intro env w;simp [go_sem,hw])⟩) (k:=fun E6 ac wd H_=>?_)
 refine cF3 H_ ?_
 rcases lax with _ | _
 cases hov:overB x d s
 refine fq1 H_ 6 (tri 4++[[0,1,2,4],r_ 6,r_ 7]) [_,bT,_,_,_,_,bF] (fun _=>[(42,bF)]) (s:=⟨mv3,un3,mv3,ld3c 0 sh24,ld3c 1 sh26,cw3 Tryz.func50 fun wd hA=>(u_res_eq (rOver15_any wd A0 c0 es u x (hv.gn hA.j.st.gr) d s a q4 q5 q0 q1) (congrArg Value.bool hov)),pk3⟩) (k:=fun E7 ac wd H_=>?_)
 refine cF3 H_ ?_
 refine fq H_ 2 (tri 3) [_,none,_] (fun _=>[(7,vI 0)]) (S:=[⟨2,1,fun _=>[.bool (decide (jn d (s+offV es d) a < 0)),rS (jn d (s+offV es d) a) ((bA (E5 2))) ((bC (E5 2)))]⟩]) (s:=⟨ld3b 3 sh40,se3 2 sh40,mv3⟩) (k:=fun E8 ac wd H_=>?_)
 refine lvCT3 (v:=bigF (jn d (s+offV es d) a) (E5 2)) Tryz.results21 H_ 2 (loadGc sh40 rfl ⟨rfl,rfl,trivial⟩) ?_
 have e1:tE es x false d s a=0:=by unfold tE expB;rw [if_pos he];simp [hov]
 have e2:tV es x false d s a=jn d (s+offV es d) a:=by unfold tV;rw [e1,if_pos rfl,hct.1,htj]
 exact ⟨bigF (jn d (s+offV es d) a) (E5 2),by rw [e1],H_.st.below,BigN.eq (BigN.mk rfl rfl (Facts.bN H_.st.now 0 rfl)) e2.symm⟩
 refine fq1 H_ 6 (tri 4++[[0,1,2,4],r_ 6,r_ 7]) [_,bT,_,_,_,_,bT] (fun _=>[(42,bT)]) (s:=⟨mv3,un3,mv3,ld3c 0 sh24,ld3c 1 sh26,cw3 Tryz.func50 fun wd hA=>(u_res_eq (rOver15_any wd A0 c0 es u x (hv.gn hA.j.st.gr) d s a q4 q5 q0 q1) (congrArg Value.bool hov)),pk3⟩) (k:=fun E7 ac wd H_=>?_)
 refine cT3 H_ ?_
 refine fq H_ 2 (tri 3) [K_ (.agg #[bF,.slice none 0 0]),none,_] (fun _=>[(7,vI 9)]) (S:=[⟨2,1,fun _=>[bF,.slice none 0 0]⟩]) (s:=⟨bd30,se3 2 sh40,mv3⟩) (k:=fun E8 ac wd H_=>?_)
 refine lvCT3 (v:=.agg #[.bool false,.slice none 0 0]) Tryz.results21 H_ 2 (loadGc sh40 rfl ⟨rfl,rfl,trivial⟩) ?_
 have e1:tE es x false d s a=9:=by unfold tE expB;rw [if_pos he];simp [hov]
 have e2:tV es x false d s a=0:=by unfold tV;rw [e1,if_neg (by omega)]
 exact ⟨.agg #[.bool false,.slice none 0 0],by rw [e1],H_.st.below,BigN.nil e2⟩
 refine fq1 H_ 6 (tri 4++[[0,1,2,4],r_ 6,r_ 7]) [_,bF,_,_,_,_,bF] (fun _=>[(42,bF)]) (s:=⟨mv3,un3,mv3,off_,off_,off_,pk3⟩) (k:=fun E7 ac wd H_=>?_)
 refine cF3 H_ ?_
 refine fq H_ 2 (tri 3) [_,none,_] (fun _=>[(7,vI 0)]) (S:=[⟨2,1,fun _=>[.bool (decide (jn d (s+offV es d) a < 0)),rS (jn d (s+offV es d) a) ((bA (E5 2))) ((bC (E5 2)))]⟩]) (s:=⟨ld3b 3 sh40,se3 2 sh40,mv3⟩) (k:=fun E8 ac wd H_=>?_)
 refine lvCT3 (v:=bigF (jn d (s+offV es d) a) (E5 2)) Tryz.results21 H_ 2 (loadGc sh40 rfl ⟨rfl,rfl,trivial⟩) ?_
 have e1:tE es x true d s a=0:=by unfold tE expB;rw [if_pos he];simp
 have e2:tV es x true d s a=jn d (s+offV es d) a:=by unfold tV;rw [e1,if_pos rfl,hct.1,htj]
 exact ⟨bigF (jn d (s+offV es d) a) (E5 2),by rw [e1],H_.st.below,BigN.eq (BigN.mk rfl rfl (Facts.bN H_.st.now 0 rfl)) e2.symm⟩
 have he:¬ ctE es d s a=0:=fun h=>hw (hct.2.symm.trans h)
 refine fq1 H_ 1 [[0],[0,1]] [_,bF] (fun _=>[(28,bF)]) (s:=⟨mv3,bi3 (h:=by intro env w;simp [go_sem,hw])⟩) (k:=fun E4 ac wd H_=>?_)
 refine cF3 H_ ?_
 refine fq1 H_ 1 [[0],[0,1]] [_,bT] (fun _=>[(33,bT)]) (s:=⟨mv3,bi3 (h:=by intro env w;simp [go_sem,hw])⟩) (k:=fun E5 ac wd H_=>?_)
 refine cT3 H_ ?_
 refine fq H_ 3 [[0],[1],[0,2],r_ 4] [K_ (.agg #[bF,.slice none 0 0]),_,none,_] (fun _=>[(7,vI (whyU es d s a))]) (S:=[⟨2,2,fun _=>[bF,.slice none 0 0]⟩]) (s:=⟨bd30,mv3,se3 2 sh40,mv3⟩) (k:=fun E6 ac wd H_=>?_)
 refine lvCT3 (v:=.agg #[.bool false,.slice none 0 0]) Tryz.results21 H_ 2 (loadGc sh40 rfl ⟨rfl,rfl,trivial⟩) ?_
 have e1:tE es x lax d s a=whyU es d s a:=by unfold tE;rw [if_neg he,hct.2]
 have e2:tV es x lax d s a=0:=by unfold tV;rw [e1,if_neg hw]
 exact ⟨.agg #[.bool false,.slice none 0 0],by rw [e1],H_.st.below,BigN.nil e2⟩
theorem rLabel15_any (w0:World) (A0:Option Addr) (c0:Nat) (es:List (Int × Int)) (u x:Int) (hv:Ents w0 w0.heap.size (.slice A0 es.length c0) es) (hp:okPre es es.length=true) (hn0:0 < es.length) (p:Bool) (A1:Option Addr) (k1_:Nat) (z:Int) (hp1:p=decide (z < 0)) (hr:Row w0 (.slice A1 (digs z).length k1_) (digs z)) (hz:InW z) (lax:Bool):Calls Tryz.prog 24 #[.agg #[vI u,vI x,.slice A0 es.length c0],.agg #[.bool (p),.slice A1 ((digs z).length) k1_],.bool (lax)] w0 fun e w'=>e = .returned (vT2 (vL ((lbl4 es x lax z).2.1) ((lbl4 es x lax z).2.2.1) ((lbl4 es x lax z).2.2.2)) (vI ((lbl4 es x lax z).1)))∧Below w0.heap.size w0 w':=by
 have hst:=St.start w0 (Θ:=fun _=>True) (fun _ _=>trivial)
 refine en_ Tryz.func24 hst 42 [(0,.agg #[vI u,vI x,.slice A0 es.length c0]),(1,.agg #[.bool (p),.slice A1 ((digs z).length) k1_]),(2,.bool (lax))] (fun ac H_=>?_)
 replace H_:=H_.facts
 refine fq H_ 3 [[0],[1],[2],[3]] [_,_,_,_] (fun E1=>[(3,vP (pb E1 0) 0),(4,vP (pb E1 1) 0),(6,vP (pb E1 2) 0)]) (W:=[{ i:=0,T:=24,c0:=[vI u,vI x,.slice A0 es.length c0] },{ i:=1,T:=40,c0:=[.bool (p),rS z A1 k1_] },{ i:=2,T:=26,c0:=[vI 0,vI 0,vI 0] }]) (s:=⟨bx3 0,bx3 1,al_ 2,mv3⟩) (k:=fun E1 ac wd H_=>?_)
 refine fq H_ 8 [[0],[1],[0,1,2],r_ 4,r_ 5,[0,1,2,3,5],[6],[0,1,2,3,4,6,7],r_ 9] [_,_,_,_,_,_,_,none,_] (fun E2=>[(8,vP (pb E2 6) 0),(9,vI ((labUt es z).1))]) (W:=[{ i:=6,T:=26,c0:=[vI 0,vI 0,vI 0],s:=some 7,c1:=fun _=>[vI ((labUt es z).2.1),vI ((labUt es z).2.2.1),vI ((labUt es z).2.2.2)] }]) (s:=⟨ld3c 0 sh24,ld3b 1 sh40,cw3 Tryz.func58 fun wd hA=>(rLabel12_any wd A0 c0 es u x (hv.gn hA.j.st.gr) hp hn0 _ A1 k1_ z hp1 (hr.grown hA.j.st.gr) hz),mv3,xt3,xt3,al_ 3,sw3 3 6 sh26,mv3⟩) (k:=fun E2 ac wd H_=>?_)
 cases ho:oldB es
 have hcl:=clb_utc (z:=z) (.inl ho)
 refine fq1 H_ 5 (tri 6) [_,_,_,_,_,bF] (fun _=>[(21,bF)]) (s:=⟨ld3c 0 sh24,cw3 Tryz.func46 fun wd hA=>(u_res_eq (rOld15_any wd A0 c0 es u x (hv.gn hA.j.st.gr) hp hn0) (congrArg Value.bool ho)),mv3,off_,off_,pk3⟩) (k:=fun E3 ac wd H_=>?_)
 refine cF3 H_ ?_
 by_cases he:(labUt es z).1=0
 have hq:=ctE_bd (clk_forth hp hn0 (z:=z) (by rw [hcl];exact he)).1;rw [hcl] at hq;obtain ⟨q0,q1,q2,q3,q4,q5⟩:=hq
 rcases lax with _ | _
 cases hov:overB x (labUt es z).2.1 (labUt es z).2.2.1
 refine fq1 H_ 10 (tri 8++[r_ 7++[8],r_ 10,r_ 11]) [_,bT,_,_,bT,bT,_,_,_,_,bF] (fun _=>[(38,bF)]) (s:=⟨mv3,bi3 (h:=by intro env w;simp [go_sem,he]),mv3,gm3,un3,pk3,mv3,ld3c 0 sh24,ld3c 3 sh26,cw3 Tryz.func50 fun wd hA=>(u_res_eq (rOver15_any wd A0 c0 es u x (hv.gn hA.j.st.gr) (labUt es z).2.1 (labUt es z).2.2.1 (labUt es z).2.2.2 q4 q5 q0 q1) (congrArg Value.bool hov)),pk3⟩) (k:=fun E4 ac wd H_=>?_)
 refine cF3 H_ ?_
 refine fq H_ 3 [[0],[1],[0,2],r_ 4] [_,_,none,_] (fun _=>[(7,vI ((labUt es z).1))]) (S:=[⟨2,2,fun _=>[vI ((labUt es z).2.1),vI ((labUt es z).2.2.1),vI ((labUt es z).2.2.2)]⟩]) (s:=⟨ld3c 3 sh26,mv3,se3 2 sh26,mv3⟩) (k:=fun E5 ac wd H_=>?_)
 refine lvCT3 (v:=vL ((labUt es z).2.1) ((labUt es z).2.2.1) ((labUt es z).2.2.2)) Tryz.results24 H_ 2 (loadGc sh26 rfl ⟨rfl,rfl,rfl,trivial⟩) ?_
 have hc0:(clb es z).1=0:=by rw [hcl];exact he
 have e1:lbl4 es x false z=labUt es z:=by unfold lbl4 expB;rw [if_pos hc0,hcl];simp [hov]
 exact ⟨by rw [e1],H_.st.below⟩
 refine fq1 H_ 10 (tri 8++[r_ 7++[8],r_ 10,r_ 11]) [_,bT,_,_,bT,bT,_,_,_,_,bT] (fun _=>[(38,bT)]) (s:=⟨mv3,bi3 (h:=by intro env w;simp [go_sem,he]),mv3,gm3,un3,pk3,mv3,ld3c 0 sh24,ld3c 3 sh26,cw3 Tryz.func50 fun wd hA=>(u_res_eq (rOver15_any wd A0 c0 es u x (hv.gn hA.j.st.gr) (labUt es z).2.1 (labUt es z).2.2.1 (labUt es z).2.2.2 q4 q5 q0 q1) (congrArg Value.bool hov)),pk3⟩) (k:=fun E4 ac wd H_=>?_)
 refine cT3 H_ ?_
 refine fq H_ 2 (tri 3) [vL 0 0 0,none,_] (fun _=>[(7,vI 9)]) (S:=[⟨2,1,fun _=>[vI 0,vI 0,vI 0]⟩]) (s:=⟨bd30,se3 2 sh26,mv3⟩) (k:=fun E5 ac wd H_=>?_)
 refine lvCT3 (v:=vL 0 0 0) Tryz.results24 H_ 2 (loadGc sh26 rfl ⟨rfl,rfl,rfl,trivial⟩) ?_
 have hc0:(clb es z).1=0:=by rw [hcl];exact he
 have e1:lbl4 es x false z=(9,0,0,0):=by unfold lbl4 expB;rw [if_pos hc0,hcl];simp [hov]
 exact ⟨by rw [e1],H_.st.below⟩
 refine fq1 H_ 10 (tri 8++[r_ 7++[8],r_ 10,r_ 11]) [_,bT,_,_,bF,bF,_,_,_,_,bF] (fun _=>[(38,bF)]) (s:=⟨mv3,bi3 (h:=by intro env w;simp [go_sem,he]),mv3,gm3,un3,pk3,mv3,off_,off_,off_,pk3⟩) (k:=fun E4 ac wd H_=>?_)
 refine cF3 H_ ?_
 refine fq H_ 3 [[0],[1],[0,2],r_ 4] [_,_,none,_] (fun _=>[(7,vI ((labUt es z).1))]) (S:=[⟨2,2,fun _=>[vI ((labUt es z).2.1),vI ((labUt es z).2.2.1),vI ((labUt es z).2.2.2)]⟩]) (s:=⟨ld3c 3 sh26,mv3,se3 2 sh26,mv3⟩) (k:=fun E5 ac wd H_=>?_)
 refine lvCT3 (v:=vL ((labUt es z).2.1) ((labUt es z).2.2.1) ((labUt es z).2.2.2)) Tryz.results24 H_ 2 (loadGc sh26 rfl ⟨rfl,rfl,rfl,trivial⟩) ?_
 have hc0:(clb es z).1=0:=by rw [hcl];exact he
 have e1:lbl4 es x true z=labUt es z:=by unfold lbl4 expB;rw [if_pos hc0,hcl];simp
 exact ⟨by rw [e1],H_.st.below⟩
 refine fq1 H_ 10 (tri 8++[r_ 7++[8],r_ 10,r_ 11]) [_,bF,_,_,_,bF,_,_,_,_,bF] (fun _=>[(38,bF)]) (s:=⟨mv3,bi3 (h:=by intro env w;simp [go_sem,he]),mv3,off_,off_,pk3,mv3,off_,off_,off_,pk3⟩) (k:=fun E4 ac wd H_=>?_)
 refine cF3 H_ ?_
 refine fq H_ 3 [[0],[1],[0,2],r_ 4] [_,_,none,_] (fun _=>[(7,vI ((labUt es z).1))]) (S:=[⟨2,2,fun _=>[vI ((labUt es z).2.1),vI ((labUt es z).2.2.1),vI ((labUt es z).2.2.2)]⟩]) (s:=⟨ld3c 3 sh26,mv3,se3 2 sh26,mv3⟩) (k:=fun E5 ac wd H_=>?_)
 refine lvCT3 (v:=vL ((labUt es z).2.1) ((labUt es z).2.2.1) ((labUt es z).2.2.2)) Tryz.results24 H_ 2 (loadGc sh26 rfl ⟨rfl,rfl,rfl,trivial⟩) ?_
 have hc0:¬ (clb es z).1=0:=by rw [hcl];exact he
 have e1:lbl4 es x lax z=labUt es z:=by unfold lbl4;rw [if_neg hc0,← clb_no hc0,hcl]
 exact ⟨by rw [e1],H_.st.below⟩
 by_cases h8:(labUt es z).1=8
 have hcl:=clb_rub ho h8
 refine fq1 H_ 5 (tri 6) [_,_,_,_,bT,bT] (fun _=>[(21,bT)]) (s:=⟨ld3c 0 sh24,cw3 Tryz.func46 fun wd hA=>(u_res_eq (rOld15_any wd A0 c0 es u x (hv.gn hA.j.st.gr) hp hn0) (congrArg Value.bool ho)),mv3,gm3,bi3 (h:=by intro env w;simp [go_sem,h8]),pk3 (h:=by intro env w;simp [go_sem,h8])⟩) (k:=fun E3 ac wd H_=>?_)
 refine cT3 H_ ?_
 refine fq H_ 7 [[0],[1],[0,1,2],r_ 4,r_ 5,[0,1,2,3,5],[0,1,2,3,4,6],r_ 8] [KE_ fun env=>.slice ((sA (env 0))) pubS.length ((sC (env 0))),_,_,_,_,_,none,_] (fun _=>[(9,vI (labE pubS 41317 10 z))]) (S:=[⟨3,6,fun _=>[vI (labD pubS 41317 10 z),vI (labS pubS 41317 10 z),vI (labA pubS 41317 10 z)]⟩]) (F:=[(0,fun env w=>SegN w0.heap.size w (env 0) pubS)]) (s:=⟨s_factT rfl rfl rfl Tryz.func48 (by kernel_rfl) rfl (fun _=>wanted_none rfl _) (fun v w=>SegN w0.heap.size w v pubS) (segF pubS) rfl rfl [102] rfl (fun v w h=>h.form) (fun v w w' hk h=>h.keep hk) (fun {D env ac wd} hA=>⟨_,hA.args (vs:=[]) rfl,rsegments_up hA.j.st.gr.size⟩),ld3b 1 sh40,cw3e Tryz.func59 fun env wd hA=>(rLabel_any wd ((sA (env 0))) ((sC (env 0))) pubS (At.segN hA 0 rfl rfl rfl) 41317 10 pub_ok.toLOk _ A1 k1_ z hp1 (hr.grown hA.j.st.gr)),mv3,xt3,xt3,se3 3 sh26,mv3⟩) (k:=fun E4 ac wd H_=>?_)
 by_cases he:labE pubS 41317 10 z=0
 have hq:=ctE_bd (clk_forth hp hn0 (z:=z) (by rw [hcl];exact he)).1;rw [hcl] at hq;simp only at hq;obtain ⟨q0,q1,q2,q3,q4,q5⟩:=hq
 rcases lax with _ | _
 cases hov:overB x (labD pubS 41317 10 z) (labS pubS 41317 10 z)
 refine fq1 H_ 10 (tri 8++[r_ 7++[8],r_ 10,r_ 11]) [_,bT,_,_,bT,bT,_,_,_,_,bF] (fun _=>[(38,bF)]) (s:=⟨mv3,bi3 (h:=by intro env w;simp [go_sem,he]),mv3,gm3,un3,pk3,mv3,ld3c 0 sh24,ld3c 3 sh26,cw3 Tryz.func50 fun wd hA=>(u_res_eq (rOver15_any wd A0 c0 es u x (hv.gn hA.j.st.gr) (labD pubS 41317 10 z) (labS pubS 41317 10 z) (labA pubS 41317 10 z) q4 q5 q0 q1) (congrArg Value.bool hov)),pk3⟩) (k:=fun E5 ac wd H_=>?_)
 refine cF3 H_ ?_
 refine fq H_ 3 [[0],[1],[0,2],r_ 4] [_,_,none,_] (fun _=>[(7,vI (labE pubS 41317 10 z))]) (S:=[⟨2,2,fun _=>[vI (labD pubS 41317 10 z),vI (labS pubS 41317 10 z),vI (labA pubS 41317 10 z)]⟩]) (s:=⟨ld3c 3 sh26,mv3,se3 2 sh26,mv3⟩) (k:=fun E6 ac wd H_=>?_)
 refine lvCT3 (v:=vL (labD pubS 41317 10 z) (labS pubS 41317 10 z) (labA pubS 41317 10 z)) Tryz.results24 H_ 2 (loadGc sh26 rfl ⟨rfl,rfl,rfl,trivial⟩) ?_
 have hc0:(clb es z).1=0:=by rw [hcl];exact he
 have e1:lbl4 es x false z=(labE pubS 41317 10 z,labD pubS 41317 10 z,labS pubS 41317 10 z,labA pubS 41317 10 z):=by unfold lbl4 expB;rw [if_pos hc0,hcl];simp [hov]
 exact ⟨by rw [e1],H_.st.below⟩
 refine fq1 H_ 10 (tri 8++[r_ 7++[8],r_ 10,r_ 11]) [_,bT,_,_,bT,bT,_,_,_,_,bT] (fun _=>[(38,bT)]) (s:=⟨mv3,bi3 (h:=by intro env w;simp [go_sem,he]),mv3,gm3,un3,pk3,mv3,ld3c 0 sh24,ld3c 3 sh26,cw3 Tryz.func50 fun wd hA=>(u_res_eq (rOver15_any wd A0 c0 es u x (hv.gn hA.j.st.gr) (labD pubS 41317 10 z) (labS pubS 41317 10 z) (labA pubS 41317 10 z) q4 q5 q0 q1) (congrArg Value.bool hov)),pk3⟩) (k:=fun E5 ac wd H_=>?_)
 refine cT3 H_ ?_
 refine fq H_ 2 (tri 3) [vL 0 0 0,none,_] (fun _=>[(7,vI 9)]) (S:=[⟨2,1,fun _=>[vI 0,vI 0,vI 0]⟩]) (s:=⟨bd30,se3 2 sh26,mv3⟩) (k:=fun E6 ac wd H_=>?_)
 refine lvCT3 (v:=vL 0 0 0) Tryz.results24 H_ 2 (loadGc sh26 rfl ⟨rfl,rfl,rfl,trivial⟩) ?_
 have hc0:(clb es z).1=0:=by rw [hcl];exact he
 have e1:lbl4 es x false z=(9,0,0,0):=by unfold lbl4 expB;rw [if_pos hc0,hcl];simp [hov]
 exact ⟨by rw [e1],H_.st.below⟩
 refine fq1 H_ 10 (tri 8++[r_ 7++[8],r_ 10,r_ 11]) [_,bT,_,_,bF,bF,_,_,_,_,bF] (fun _=>[(38,bF)]) (s:=⟨mv3,bi3 (h:=by intro env w;simp [go_sem,he]),mv3,gm3,un3,pk3,mv3,off_,off_,off_,pk3⟩) (k:=fun E5 ac wd H_=>?_)
 refine cF3 H_ ?_
 refine fq H_ 3 [[0],[1],[0,2],r_ 4] [_,_,none,_] (fun _=>[(7,vI (labE pubS 41317 10 z))]) (S:=[⟨2,2,fun _=>[vI (labD pubS 41317 10 z),vI (labS pubS 41317 10 z),vI (labA pubS 41317 10 z)]⟩]) (s:=⟨ld3c 3 sh26,mv3,se3 2 sh26,mv3⟩) (k:=fun E6 ac wd H_=>?_)
 refine lvCT3 (v:=vL (labD pubS 41317 10 z) (labS pubS 41317 10 z) (labA pubS 41317 10 z)) Tryz.results24 H_ 2 (loadGc sh26 rfl ⟨rfl,rfl,rfl,trivial⟩) ?_
 have hc0:(clb es z).1=0:=by rw [hcl];exact he
 have e1:lbl4 es x true z=(labE pubS 41317 10 z,labD pubS 41317 10 z,labS pubS 41317 10 z,labA pubS 41317 10 z):=by unfold lbl4 expB;rw [if_pos hc0,hcl];simp
 exact ⟨by rw [e1],H_.st.below⟩
 refine fq1 H_ 10 (tri 8++[r_ 7++[8],r_ 10,r_ 11]) [_,bF,_,_,_,bF,_,_,_,_,bF] (fun _=>[(38,bF)]) (s:=⟨mv3,bi3 (h:=by intro env w;simp [go_sem,he]),mv3,off_,off_,pk3,mv3,off_,off_,off_,pk3⟩) (k:=fun E5 ac wd H_=>?_)
 refine cF3 H_ ?_
 refine fq H_ 3 [[0],[1],[0,2],r_ 4] [_,_,none,_] (fun _=>[(7,vI (labE pubS 41317 10 z))]) (S:=[⟨2,2,fun _=>[vI (labD pubS 41317 10 z),vI (labS pubS 41317 10 z),vI (labA pubS 41317 10 z)]⟩]) (s:=⟨ld3c 3 sh26,mv3,se3 2 sh26,mv3⟩) (k:=fun E6 ac wd H_=>?_)
 refine lvCT3 (v:=vL (labD pubS 41317 10 z) (labS pubS 41317 10 z) (labA pubS 41317 10 z)) Tryz.results24 H_ 2 (loadGc sh26 rfl ⟨rfl,rfl,rfl,trivial⟩) ?_
 have hc0:¬ (clb es z).1=0:=by rw [hcl];exact he
 have e1:lbl4 es x lax z=(labE pubS 41317 10 z,labD pubS 41317 10 z,labS pubS 41317 10 z,labA pubS 41317 10 z):=by unfold lbl4;rw [if_neg hc0,← clb_no hc0,hcl]
 exact ⟨by rw [e1],H_.st.below⟩
 have hcl:=clb_utc (es:=es) (z:=z) (.inr h8)
 refine fq1 H_ 5 (tri 6) [_,_,_,_,bF,bF] (fun _=>[(21,bF)]) (s:=⟨ld3c 0 sh24,cw3 Tryz.func46 fun wd hA=>(u_res_eq (rOld15_any wd A0 c0 es u x (hv.gn hA.j.st.gr) hp hn0) (congrArg Value.bool ho)),mv3,gm3,bi3 (h:=by intro env w;simp [go_sem,h8]),pk3 (h:=by intro env w;simp [go_sem,h8])⟩) (k:=fun E3 ac wd H_=>?_)
 refine cF3 H_ ?_
 by_cases he:(labUt es z).1=0
 have hq:=ctE_bd (clk_forth hp hn0 (z:=z) (by rw [hcl];exact he)).1;rw [hcl] at hq;obtain ⟨q0,q1,q2,q3,q4,q5⟩:=hq
 rcases lax with _ | _
 cases hov:overB x (labUt es z).2.1 (labUt es z).2.2.1
 refine fq1 H_ 10 (tri 8++[r_ 7++[8],r_ 10,r_ 11]) [_,bT,_,_,bT,bT,_,_,_,_,bF] (fun _=>[(38,bF)]) (s:=⟨mv3,bi3 (h:=by intro env w;simp [go_sem,he]),mv3,gm3,un3,pk3,mv3,ld3c 0 sh24,ld3c 3 sh26,cw3 Tryz.func50 fun wd hA=>(u_res_eq (rOver15_any wd A0 c0 es u x (hv.gn hA.j.st.gr) (labUt es z).2.1 (labUt es z).2.2.1 (labUt es z).2.2.2 q4 q5 q0 q1) (congrArg Value.bool hov)),pk3⟩) (k:=fun E4 ac wd H_=>?_)
 refine cF3 H_ ?_
 refine fq H_ 3 [[0],[1],[0,2],r_ 4] [_,_,none,_] (fun _=>[(7,vI ((labUt es z).1))]) (S:=[⟨2,2,fun _=>[vI ((labUt es z).2.1),vI ((labUt es z).2.2.1),vI ((labUt es z).2.2.2)]⟩]) (s:=⟨ld3c 3 sh26,mv3,se3 2 sh26,mv3⟩) (k:=fun E5 ac wd H_=>?_)
 refine lvCT3 (v:=vL ((labUt es z).2.1) ((labUt es z).2.2.1) ((labUt es z).2.2.2)) Tryz.results24 H_ 2 (loadGc sh26 rfl ⟨rfl,rfl,rfl,trivial⟩) ?_
 have hc0:(clb es z).1=0:=by rw [hcl];exact he
 have e1:lbl4 es x false z=labUt es z:=by unfold lbl4 expB;rw [if_pos hc0,hcl];simp [hov]
 exact ⟨by rw [e1],H_.st.below⟩
 refine fq1 H_ 10 (tri 8++[r_ 7++[8],r_ 10,r_ 11]) [_,bT,_,_,bT,bT,_,_,_,_,bT] (fun _=>[(38,bT)]) (s:=⟨mv3,bi3 (h:=by intro env w;simp [go_sem,he]),mv3,gm3,un3,pk3,mv3,ld3c 0 sh24,ld3c 3 sh26,cw3 Tryz.func50 fun wd hA=>(u_res_eq (rOver15_any wd A0 c0 es u x (hv.gn hA.j.st.gr) (labUt es z).2.1 (labUt es z).2.2.1 (labUt es z).2.2.2 q4 q5 q0 q1) (congrArg Value.bool hov)),pk3⟩) (k:=fun E4 ac wd H_=>?_)
 refine cT3 H_ ?_
 refine fq H_ 2 (tri 3) [vL 0 0 0,none,_] (fun _=>[(7,vI 9)]) (S:=[⟨2,1,fun _=>[vI 0,vI 0,vI 0]⟩]) (s:=⟨bd30,se3 2 sh26,mv3⟩) (k:=fun E5 ac wd H_=>?_)
 refine lvCT3 (v:=vL 0 0 0) Tryz.results24 H_ 2 (loadGc sh26 rfl ⟨rfl,rfl,rfl,trivial⟩) ?_
 have hc0:(clb es z).1=0:=by rw [hcl];exact he
 have e1:lbl4 es x false z=(9,0,0,0):=by unfold lbl4 expB;rw [if_pos hc0,hcl];simp [hov]
 exact ⟨by rw [e1],H_.st.below⟩
 refine fq1 H_ 10 (tri 8++[r_ 7++[8],r_ 10,r_ 11]) [_,bT,_,_,bF,bF,_,_,_,_,bF] (fun _=>[(38,bF)]) (s:=⟨mv3,bi3 (h:=by intro env w;simp [go_sem,he]),mv3,gm3,un3,pk3,mv3,off_,off_,off_,pk3⟩) (k:=fun E4 ac wd H_=>?_)
 refine cF3 H_ ?_
 refine fq H_ 3 [[0],[1],[0,2],r_ 4] [_,_,none,_] (fun _=>[(7,vI ((labUt es z).1))]) (S:=[⟨2,2,fun _=>[vI ((labUt es z).2.1),vI ((labUt es z).2.2.1),vI ((labUt es z).2.2.2)]⟩]) (s:=⟨ld3c 3 sh26,mv3,se3 2 sh26,mv3⟩) (k:=fun E5 ac wd H_=>?_)
 refine lvCT3 (v:=vL ((labUt es z).2.1) ((labUt es z).2.2.1) ((labUt es z).2.2.2)) Tryz.results24 H_ 2 (loadGc sh26 rfl ⟨rfl,rfl,rfl,trivial⟩) ?_
 have hc0:(clb es z).1=0:=by rw [hcl];exact he
 have e1:lbl4 es x true z=labUt es z:=by unfold lbl4 expB;rw [if_pos hc0,hcl];simp
 exact ⟨by rw [e1],H_.st.below⟩
 refine fq1 H_ 10 (tri 8++[r_ 7++[8],r_ 10,r_ 11]) [_,bF,_,_,_,bF,_,_,_,_,bF] (fun _=>[(38,bF)]) (s:=⟨mv3,bi3 (h:=by intro env w;simp [go_sem,he]),mv3,off_,off_,pk3,mv3,off_,off_,off_,pk3⟩) (k:=fun E4 ac wd H_=>?_)
 refine cF3 H_ ?_
 refine fq H_ 3 [[0],[1],[0,2],r_ 4] [_,_,none,_] (fun _=>[(7,vI ((labUt es z).1))]) (S:=[⟨2,2,fun _=>[vI ((labUt es z).2.1),vI ((labUt es z).2.2.1),vI ((labUt es z).2.2.2)]⟩]) (s:=⟨ld3c 3 sh26,mv3,se3 2 sh26,mv3⟩) (k:=fun E5 ac wd H_=>?_)
 refine lvCT3 (v:=vL ((labUt es z).2.1) ((labUt es z).2.2.1) ((labUt es z).2.2.2)) Tryz.results24 H_ 2 (loadGc sh26 rfl ⟨rfl,rfl,rfl,trivial⟩) ?_
 have hc0:¬ (clb es z).1=0:=by rw [hcl];exact he
 have e1:lbl4 es x lax z=labUt es z:=by unfold lbl4;rw [if_neg hc0,← clb_no hc0,hcl]
 exact ⟨by rw [e1],H_.st.below⟩
end Go.Proofs.YtcdchnlefmnbjaaGreat
namespace Go.Proofs.YtcdchnlefmnbjaaGreat
open Go.RowKit
attribute [local go_sem] vN bT bF rS vW vM vL vT2 vT3 vP vI execOp Act.eval evC bigF vB hi_zero lo_zero
end Go.Proofs.YtcdchnlefmnbjaaGreat
namespace Go.Proofs.YtcdchnlefmnbjaaGreat
open Go.RowKit
attribute [local go_sem] vN bT bF rS vW vM vL vT2 vT3 vP vI execOp Act.eval evC bigF vB hi_zero lo_zero
theorem y_lab4 {p:Int × Int × Int × Int} {e d s a:Int} (h:p=(e,d,s,a)):vT2 (vL p.2.1 p.2.2.1 p.2.2.2) (vI p.1)=vT2 (vL d s a) (vI e):=by rw [h]
theorem y_smw {z:Int} (h:InW z):Sm z:=by unfold InW at h;unfold Sm;omega
end Go.Proofs.YtcdchnlefmnbjaaGreat
namespace Go.Proofs.YtcdchnlefmnbjaaGreat
open Go.RowKit
section
variable {es:List (Int × Int)} (hp:okPre es es.length=true) (hn:0 < es.length)
include hp hn
end
end Go.Proofs.YtcdchnlefmnbjaaGreat
namespace Go.Proofs.YtcdchnlefmnbjaaGreat
open Go.RowKit
attribute [local go_sem] vN bT bF rS vW vM vL vT2 vT3 vP vI execOp Act.eval evC bigF vB hi_zero lo_zero Tryz.underlying26 Tryz.underlying29
theorem spAdd_c (w0:World) (c g:Nat) (b:Value) (u x:Int) (es:List (Int × Int)) (hC:IsC w0 c g b u x es) (lax:Bool) (d s a:Int) (hd0:-9223372036854775808≤d) (hd1:d < 9223372036854775808) (k:Int) (hk:InW k):ClkC Tryz.prog 7 [vP c 0,vL d s a,vW k,.bool (lax)] w0 c g b u x es (vT2 (vL ((spA es x lax d s a k).2.1) ((spA es x lax d s a k).2.2.1) ((spA es x lax d s a k).2.2.2)) (vI ((spA es x lax d s a k).1))):=by
 unfold ClkC
 obtain ⟨hp,hn0,_⟩:=hC.pre
 have hst:=St.startC w0 hC
 refine en_ Tryz.func7 hst 39 [(0,vP c 0),(1,vL d s a),(2,vW k),(3,.bool (lax))] (fun ac H_=>?_)
 refine gq H_ 3 [[0],[1],[2],[3]] [_,_,_,_] (fun E1=>[(5,vP (pb E1 0) 0),(6,vP (pb E1 1) 0),(8,vP (pb E1 2) 0)]) (W:=[{ i:=0,T:=26,c0:=[vI d,vI s,vI a] },{ i:=1,T:=29,c0:=[vI (hi (k)),.int .u64 (lo (k))] },{ i:=2,T:=26,c0:=[vI 0,vI 0,vI 0] }]) (s:=⟨bx3 0,bx3 1,al_ 2,mv3⟩) (k:=fun E1 ac wd H_=>?_)
 refine gq H_ 9 [[0],[1],[2],r_ 4,r_ 5,r_ 6,[0,1,2,3,4,6],[7],r_ 6++[7,8],r_ 10] [_,_,_,vT2 (vW (tV es x lax d s a)) (vI (tE es x lax d s a)),_,_,_,_,none,_] (fun E2=>[(10,vP (pb E2 7) 0),(11,vI (tE es x lax d s a))]) (W:=[{ i:=7,T:=29,c0:=[vI 0,.int .u64 0],s:=some 8,c1:=fun _=>[vI (hi (tV es x lax d s a)),.int .u64 (lo (tV es x lax d s a))] }]) (s:=⟨mv3,ld3c 0 sh26,mv3,s_clk (c:=c) (g:=g) (b:=b) (u:=u) (x:=x) (es:=es) Tryz.func18 (fun _ h=>h) (fun _ h=>h) (h:=fun D env ac wd hA hC=>⟨_,cTai_c _ c g b u x es hC lax d s a hd0 hd1,rfl⟩),mv3,xt3,xt3,al_ 3,sw3 3 7 sh29,mv3⟩) (k:=fun E2 ac wd H_=>?_)
 by_cases he:tE es x lax d s a=0
 refine gq1 H_ 1 [[0],[0,1]] [_,bF] (fun _=>[(20,bF)]) (s:=⟨mv3,bi3 (h:=by intro env w;simp [go_sem,he])⟩) (k:=fun E3 ac wd H_=>?_)
 refine cF3 H_ ?_
 by_cases hw:InW (tV es x lax d s a+k)
 refine gq H_ 7 [[0],[1],[0,1,2],r_ 4,r_ 5,[0,1,2,3,5],[0,1,2,3,4,6],r_ 8] [_,_,_,_,_,_,none,_] (fun _=>[(11,vI 0)]) (S:=[⟨3,6,fun _=>[vI (hi (tV es x lax d s a+k)),.int .u64 (lo (tV es x lax d s a+k))]⟩]) (s:=⟨ld3b 3 sh29,ld3b 1 sh29,cl3 Tryz.func19 ((Ret.eq (wadd_any (tV es x lax d s a) k (tV_in hp hn0 x lax d s a) hk) (fit_tup hw))),mv3,xt3,xt3,se3 3 sh29,mv3⟩) (k:=fun E4 ac wd H_=>?_)
 refine gq1 H_ 1 [[0],[0,1]] [_,bF] (fun _=>[(30,bF)]) (s:=⟨mv3,bi3 (h:=by intro env w;(first | (simp [go_sem];done) | (simp [go_sem];rfl)))⟩) (k:=fun E5 ac wd H_=>?_)
 refine cF3 H_ ?_
 refine gq H_ 7 [[0],[1],[2],r_ 4,r_ 5,[0,1,2,3,5],r_ 7,r_ 8] [_,_,_,vT2 (vL ((lbl4 es x lax (tV es x lax d s a+k)).2.1) ((lbl4 es x lax (tV es x lax d s a+k)).2.2.1) ((lbl4 es x lax (tV es x lax d s a+k)).2.2.2)) (vI ((lbl4 es x lax (tV es x lax d s a+k)).1)),_,_,none,_] (fun _=>[(9,vI ((lbl4 es x lax (tV es x lax d s a+k)).1))]) (S:=[⟨2,6,fun _=>[vI ((lbl4 es x lax (tV es x lax d s a+k)).2.1),vI ((lbl4 es x lax (tV es x lax d s a+k)).2.2.1),vI ((lbl4 es x lax (tV es x lax d s a+k)).2.2.2)]⟩]) (s:=⟨mv3,ld3b 3 sh29,mv3,s_clk (c:=c) (g:=g) (b:=b) (u:=u) (x:=x) (es:=es) Tryz.func20 (fun _ h=>h) (fun _ h=>h) (h:=fun D env ac wd hA hC=>⟨_,cLabel_c _ c g b u x es hC lax (tV es x lax d s a+k) hw,rfl⟩),xt3,xt3,se3 2 sh26,mv3⟩) (k:=fun E6 ac wd H_=>?_)
 refine lvCT3 (v:=vL ((lbl4 es x lax (tV es x lax d s a+k)).2.1) ((lbl4 es x lax (tV es x lax d s a+k)).2.2.1) ((lbl4 es x lax (tV es x lax d s a+k)).2.2.2)) Tryz.results7 H_ 2 (loadGc sh26 rfl ⟨rfl,rfl,rfl,trivial⟩) ?_
 have e1:spA es x lax d s a k=lbl4 es x lax (tV es x lax d s a+k):=by unfold spA;rw [if_pos he,if_pos ((inW_iff _).2 hw)]
 exact ⟨by rw [e1],H_.st.nowT,H_.st.gr⟩
 refine gq H_ 7 [[0],[1],[0,1,2],r_ 4,r_ 5,[0,1,2,3,5],[0,1,2,3,4,6],r_ 8] [_,_,_,_,_,_,none,_] (fun _=>[(11,vI 2)]) (S:=[⟨3,6,fun _=>[vI (hi (0)),.int .u64 (lo (0))]⟩]) (s:=⟨ld3b 3 sh29,ld3b 1 sh29,cl3 Tryz.func19 ((Ret.eq (wadd_any (tV es x lax d s a) k (tV_in hp hn0 x lax d s a) hk) (fit_tup_no hw))),mv3,xt3,xt3,se3 3 sh29,mv3⟩) (k:=fun E4 ac wd H_=>?_)
 refine gq1 H_ 1 [[0],[0,1]] [_,bT] (fun _=>[(30,bT)]) (s:=⟨mv3,bi3⟩) (k:=fun E5 ac wd H_=>?_)
 refine cT3 H_ ?_
 refine gq H_ 3 [[0],[1],[0,2],r_ 4] [vL 0 0 0,_,none,_] (fun _=>[(9,vI 2)]) (S:=[⟨2,2,fun _=>[vI 0,vI 0,vI 0]⟩]) (s:=⟨bd30,mv3,se3 2 sh26,mv3⟩) (k:=fun E6 ac wd H_=>?_)
 refine lvCT3 (v:=vL 0 0 0) Tryz.results7 H_ 2 (loadGc sh26 rfl ⟨rfl,rfl,rfl,trivial⟩) ?_
 have e1:spA es x lax d s a k=(2,0,0,0):=by unfold spA;rw [if_pos he,if_neg (fun h=>hw ((inW_iff _).1 h))]
 exact ⟨by rw [e1],H_.st.nowT,H_.st.gr⟩
 refine gq1 H_ 1 [[0],[0,1]] [_,bT] (fun _=>[(20,bT)]) (s:=⟨mv3,bi3 (h:=by intro env w;simp [go_sem,he])⟩) (k:=fun E3 ac wd H_=>?_)
 refine cT3 H_ ?_
 refine gq H_ 3 [[0],[1],[0,2],r_ 4] [vL 0 0 0,_,none,_] (fun _=>[(9,vI (tE es x lax d s a))]) (S:=[⟨2,2,fun _=>[vI 0,vI 0,vI 0]⟩]) (s:=⟨bd30,mv3,se3 2 sh26,mv3⟩) (k:=fun E4 ac wd H_=>?_)
 refine lvCT3 (v:=vL 0 0 0) Tryz.results7 H_ 2 (loadGc sh26 rfl ⟨rfl,rfl,rfl,trivial⟩) ?_
 have e1:spA es x lax d s a k=(tE es x lax d s a,0,0,0):=by unfold spA;rw [if_neg he]
 exact ⟨by rw [e1],H_.st.nowT,H_.st.gr⟩
theorem spDiff_c (w0:World) (c g:Nat) (b:Value) (u x:Int) (es:List (Int × Int)) (hC:IsC w0 c g b u x es) (lax:Bool) (d s a:Int) (hd0:-9223372036854775808≤d) (hd1:d < 9223372036854775808) (d2 s2 a2:Int) (he0:-9223372036854775808≤d2) (he1:d2 < 9223372036854775808):ClkC Tryz.prog 17 [vP c 0,vL d s a,vL d2 s2 a2,.bool (lax)] w0 c g b u x es (vT2 (vW (spD es x lax d s a d2 s2 a2)) (vI (spE es x lax d s a d2 s2 a2))):=by
 unfold ClkC
 obtain ⟨hp,hn0,_⟩:=hC.pre
 have hst:=St.startC w0 hC
 refine en_ Tryz.func17 hst 40 [(0,vP c 0),(1,vL d s a),(2,vL d2 s2 a2),(3,.bool (lax))] (fun ac H_=>?_)
 refine gq H_ 3 [[0],[1],[2],[3]] [_,_,_,_] (fun E1=>[(5,vP (pb E1 0) 0),(6,vP (pb E1 1) 0),(8,vP (pb E1 2) 0)]) (W:=[{ i:=0,T:=26,c0:=[vI d,vI s,vI a] },{ i:=1,T:=26,c0:=[vI d2,vI s2,vI a2] },{ i:=2,T:=29,c0:=[vI 0,.int .u64 0] }]) (s:=⟨bx3 0,bx3 1,al_ 2,mv3⟩) (k:=fun E1 ac wd H_=>?_)
 refine gq H_ 9 [[0],[1],[2],r_ 4,r_ 5,r_ 6,[0,1,2,3,4,6],[7],r_ 6++[7,8],r_ 10] [_,_,_,vT2 (vW (tV es x lax d s a)) (vI (tE es x lax d s a)),_,_,_,_,none,_] (fun E2=>[(10,vP (pb E2 7) 0),(11,vI (tE es x lax d s a))]) (W:=[{ i:=7,T:=29,c0:=[vI 0,.int .u64 0],s:=some 8,c1:=fun _=>[vI (hi (tV es x lax d s a)),.int .u64 (lo (tV es x lax d s a))] }]) (s:=⟨mv3,ld3c 0 sh26,mv3,s_clk (c:=c) (g:=g) (b:=b) (u:=u) (x:=x) (es:=es) Tryz.func18 (fun _ h=>h) (fun _ h=>h) (h:=fun D env ac wd hA hC=>⟨_,cTai_c _ c g b u x es hC lax d s a hd0 hd1,rfl⟩),mv3,xt3,xt3,al_ 3,sw3 3 7 sh29,mv3⟩) (k:=fun E2 ac wd H_=>?_)
 by_cases he:tE es x lax d s a=0
 refine gq1 H_ 1 [[0],[0,1]] [_,bF] (fun _=>[(21,bF)]) (s:=⟨mv3,bi3 (h:=by intro env w;simp [go_sem,he])⟩) (k:=fun E3 ac wd H_=>?_)
 refine cF3 H_ ?_
 refine gq H_ 9 [[0],[1],[2],r_ 4,r_ 5,r_ 6,[0,1,2,3,4,6],[7],r_ 6++[7,8],r_ 10] [_,_,_,vT2 (vW (tV es x lax d2 s2 a2)) (vI (tE es x lax d2 s2 a2)),_,_,_,_,none,_] (fun E4=>[(11,vI (tE es x lax d2 s2 a2)),(12,vP (pb E4 7) 0)]) (W:=[{ i:=7,T:=29,c0:=[vI 0,.int .u64 0],s:=some 8,c1:=fun _=>[vI (hi (tV es x lax d2 s2 a2)),.int .u64 (lo (tV es x lax d2 s2 a2))] }]) (s:=⟨mv3,ld3c 1 sh26,mv3,s_clk (c:=c) (g:=g) (b:=b) (u:=u) (x:=x) (es:=es) Tryz.func18 (fun _ h=>h) (fun _ h=>h) (h:=fun D env ac wd hA hC=>⟨_,cTai_c _ c g b u x es hC lax d2 s2 a2 he0 he1,rfl⟩),mv3,xt3,xt3,al_ 4,sw3 4 7 sh29,mv3⟩) (k:=fun E4 ac wd H_=>?_)
 by_cases he2:tE es x lax d2 s2 a2=0
 refine gq1 H_ 1 [[0],[0,1]] [_,bF] (fun _=>[(32,bF)]) (s:=⟨mv3,bi3 (h:=by intro env w;simp [go_sem,he2])⟩) (k:=fun E5 ac wd H_=>?_)
 refine cF3 H_ ?_
 refine gq H_ 6 [[0],[1],[0,1,2],r_ 4,[0,1,2,4],r_ 6,r_ 7] [_,_,_,_,_,none,_] (fun _=>[(9,vI 0)]) (S:=[⟨2,5,fun _=>[vI (hi (tV es x lax d2 s2 a2-tV es x lax d s a)),.int .u64 (lo (tV es x lax d2 s2 a2-tV es x lax d s a))]⟩]) (s:=⟨ld3b 4 sh29,ld3b 3 sh29,cl3 Tryz.func38 ((Ret.eq (wsub_any (tV es x lax d2 s2 a2) (tV es x lax d s a) (tV_in hp hn0 x lax d2 s2 a2) (tV_in hp hn0 x lax d s a)) (fit_tup (spD_bd hp x lax d s a d2 s2 a2)))),xt3,xt3,se3 2 sh29,mv3⟩) (k:=fun E6 ac wd H_=>?_)
 refine lvCT3 (v:=vW (tV es x lax d2 s2 a2-tV es x lax d s a)) Tryz.results17 H_ 2 (loadGc sh29 rfl ⟨rfl,rfl,trivial⟩) ?_
 obtain ⟨e1,e2⟩:=sp_yes (es:=es) (d:=d) (s:=s) (a:=a) (d':=d2) (s':=s2) (a':=a2) he he2
 exact ⟨by rw [e1,e2],H_.st.nowT,H_.st.gr⟩
 refine gq1 H_ 1 [[0],[0,1]] [_,bT] (fun _=>[(32,bT)]) (s:=⟨mv3,bi3 (h:=by intro env w;simp [go_sem,he2])⟩) (k:=fun E5 ac wd H_=>?_)
 refine cT3 H_ ?_
 refine gq H_ 3 [[0],[1],[0,2],r_ 4] [K_ (.agg #[vI 0,.int .u64 0]),_,none,_] (fun _=>[(9,vI (tE es x lax d2 s2 a2))]) (S:=[⟨2,2,fun _=>[vI 0,.int .u64 0]⟩]) (s:=⟨bd30,mv3,se3 2 sh29,mv3⟩) (k:=fun E6 ac wd H_=>?_)
 refine lvCT3 (v:=.agg #[vI 0,.int .u64 0]) Tryz.results17 H_ 2 (loadGc sh29 rfl ⟨rfl,rfl,trivial⟩) ?_
 obtain ⟨e1,e2⟩:=sp_no2 (es:=es) (d:=d) (s:=s) (a:=a) (d':=d2) (s':=s2) (a':=a2) he he2
 exact ⟨by rw [e1,e2,vW,hi_zero,lo_zero],H_.st.nowT,H_.st.gr⟩
 refine gq1 H_ 1 [[0],[0,1]] [_,bT] (fun _=>[(21,bT)]) (s:=⟨mv3,bi3 (h:=by intro env w;simp [go_sem,he])⟩) (k:=fun E3 ac wd H_=>?_)
 refine cT3 H_ ?_
 refine gq H_ 3 [[0],[1],[0,2],r_ 4] [K_ (.agg #[vI 0,.int .u64 0]),_,none,_] (fun _=>[(9,vI (tE es x lax d s a))]) (S:=[⟨2,2,fun _=>[vI 0,.int .u64 0]⟩]) (s:=⟨bd30,mv3,se3 2 sh29,mv3⟩) (k:=fun E4 ac wd H_=>?_)
 refine lvCT3 (v:=.agg #[vI 0,.int .u64 0]) Tryz.results17 H_ 2 (loadGc sh29 rfl ⟨rfl,rfl,trivial⟩) ?_
 obtain ⟨e1,e2⟩:=sp_no1 (es:=es) (d:=d) (s:=s) (a:=a) (d':=d2) (s':=s2) (a':=a2) he
 exact ⟨by rw [e1,e2,vW,hi_zero,lo_zero],H_.st.nowT,H_.st.gr⟩
theorem spNext_c (w0:World) (c g:Nat) (b:Value) (u x:Int) (es:List (Int × Int)) (hC:IsC w0 c g b u x es) (lax:Bool) (d s a:Int) (hd0:-9223372036854775808≤d) (hd1:d < 9223372036854775808):ClkC Tryz.prog 10 [vP c 0,vL d s a,.bool (lax)] w0 c g b u x es (vT2 (vL ((spN es x lax d s a).2.1) ((spN es x lax d s a).2.2.1) ((spN es x lax d s a).2.2.2)) (vI ((spN es x lax d s a).1))):=by
 unfold ClkC
 have hst:=St.startC w0 hC
 refine en_ Tryz.func10 hst 34 [(0,vP c 0),(1,vL d s a),(2,.bool (lax))] (fun ac H_=>?_)
 refine gq H_ 2 [[0],[1],[2]] [_,_,_] (fun E1=>[(4,vP (pb E1 0) 0),(6,vP (pb E1 1) 0)]) (W:=[{ i:=0,T:=26,c0:=[vI d,vI s,vI a] },{ i:=1,T:=26,c0:=[vI 0,vI 0,vI 0] }]) (s:=⟨bx3 0,al_ 1,mv3⟩) (k:=fun E1 ac wd H_=>?_)
 by_cases hg:goB (spA es x lax d s a 1) d s a=true
 refine gq H_ 10 [[0],[1],[2],[3],r_ 5,r_ 6,r_ 7,r_ 6++[7],[8],r_ 7++[8,9],r_ 11] [_,_,_,_,vT2 (vL d s a) (vI 0),_,_,_,_,none,_] (fun E2=>[(8,vP (pb E2 8) 0),(9,vI 0)]) (W:=[{ i:=8,T:=26,c0:=[vI 0,vI 0,vI 0],s:=some 9,c1:=fun _=>[vI d,vI s,vI a] }]) (s:=⟨mv3,ld3c 0 sh26,cl3 Tryz.func16 ((of_any 1 (by omega) (by omega))),mv3,s_clk (c:=c) (g:=g) (b:=b) (u:=u) (x:=x) (es:=es) Tryz.func7 (fun _ h=>h) (fun _ h=>h) (h:=fun D env ac wd hA hC=>⟨_,ClkC.eq (spAdd_c _ c g b u x es hC lax d s a hd0 hd1 1 (by unfold InW;omega)) (y_lab4 (goB_iff.1 hg)),rfl⟩),mv3,xt3,xt3,al_ 2,sw3 2 8 sh26,mv3⟩) (k:=fun E2 ac wd H_=>?_)
 refine gq1 H_ 6 (tri 4++[[0,1,2,4],r_ 6,r_ 7]) [_,bT,_,_,_,bT,bT] (fun _=>[(24,bT)]) (s:=⟨mv3,bi3 (h:=by intro env w;(first | (simp [go_sem];done) | (simp [go_sem];rfl))),mv3,ld3c 2 sh26,ld3c 0 sh26,bi3 (h:=by intro env w;(first | (simp [go_sem];done) | (simp [go_sem];rfl))),pk3 (h:=by intro env w;(first | (simp [go_sem];done) | (simp [go_sem];rfl)))⟩) (k:=fun E3 ac wd H_=>?_)
 refine cT3 H_ ?_
 refine gq H_ 8 [[0],[1],[2],[3],r_ 5,r_ 6,[0,1,2,3,4,6],r_ 8,r_ 9] [_,_,_,_,vT2 (vL ((spA es x lax d s a 2).2.1) ((spA es x lax d s a 2).2.2.1) ((spA es x lax d s a 2).2.2.2)) (vI ((spA es x lax d s a 2).1)),_,_,none,_] (fun _=>[(7,vI ((spA es x lax d s a 2).1))]) (S:=[⟨1,7,fun _=>[vI ((spA es x lax d s a 2).2.1),vI ((spA es x lax d s a 2).2.2.1),vI ((spA es x lax d s a 2).2.2.2)]⟩]) (s:=⟨mv3,ld3c 0 sh26,cl3 Tryz.func16 ((of_any 2 (by omega) (by omega))),mv3,s_clk (c:=c) (g:=g) (b:=b) (u:=u) (x:=x) (es:=es) Tryz.func7 (fun _ h=>h) (fun _ h=>h) (h:=fun D env ac wd hA hC=>⟨_,spAdd_c _ c g b u x es hC lax d s a hd0 hd1 2 (by unfold InW;omega),rfl⟩),xt3,xt3,se3 1 sh26,mv3⟩) (k:=fun E4 ac wd H_=>?_)
 refine lvCT3 (v:=vL ((spA es x lax d s a 2).2.1) ((spA es x lax d s a 2).2.2.1) ((spA es x lax d s a 2).2.2.2)) Tryz.results10 H_ 1 (loadGc sh26 rfl ⟨rfl,rfl,rfl,trivial⟩) ?_
 have e1:spN es x lax d s a=spA es x lax d s a 2:=by unfold spN;rw [if_pos hg]
 exact ⟨by rw [e1],H_.st.nowT,H_.st.gr⟩
 by_cases he:(spA es x lax d s a 1).1=0
 have hne:¬ ((spA es x lax d s a 1).2.1=d∧(spA es x lax d s a 1).2.2.1=s∧(spA es x lax d s a 1).2.2.2=a):=fun h=>hg (by unfold goB;simp [he,h.1,h.2.1,h.2.2])
 refine gq H_ 10 [[0],[1],[2],[3],r_ 5,r_ 6,r_ 7,r_ 6++[7],[8],r_ 7++[8,9],r_ 11] [_,_,_,_,vT2 (vL ((spA es x lax d s a 1).2.1) ((spA es x lax d s a 1).2.2.1) ((spA es x lax d s a 1).2.2.2)) (vI ((spA es x lax d s a 1).1)),_,_,_,_,none,_] (fun E2=>[(8,vP (pb E2 8) 0),(9,vI ((spA es x lax d s a 1).1))]) (W:=[{ i:=8,T:=26,c0:=[vI 0,vI 0,vI 0],s:=some 9,c1:=fun _=>[vI ((spA es x lax d s a 1).2.1),vI ((spA es x lax d s a 1).2.2.1),vI ((spA es x lax d s a 1).2.2.2)] }]) (s:=⟨mv3,ld3c 0 sh26,cl3 Tryz.func16 ((of_any 1 (by omega) (by omega))),mv3,s_clk (c:=c) (g:=g) (b:=b) (u:=u) (x:=x) (es:=es) Tryz.func7 (fun _ h=>h) (fun _ h=>h) (h:=fun D env ac wd hA hC=>⟨_,spAdd_c _ c g b u x es hC lax d s a hd0 hd1 1 (by unfold InW;omega),rfl⟩),mv3,xt3,xt3,al_ 2,sw3 2 8 sh26,mv3⟩) (k:=fun E2 ac wd H_=>?_)
 refine gq1 H_ 6 (tri 4++[[0,1,2,4],r_ 6,r_ 7]) [_,bT,_,_,_,bF,bF] (fun _=>[(24,bF)]) (s:=⟨mv3,bi3 (h:=by intro env w;simp [go_sem,he]),mv3,ld3c 2 sh26,ld3c 0 sh26,bi3 (h:=by intro env w;(first | (simp [go_sem,hne];done) | (simp [go_sem];omega) | (simp [go_sem];exact fun h1 h2 h3=>hne ⟨h1,h2,h3⟩))),pk3 (h:=by intro env w;(first | (simp [go_sem,hne];done) | (simp [go_sem];omega) | (simp [go_sem];exact fun h1 h2 h3=>hne ⟨h1,h2,h3⟩)))⟩) (k:=fun E3 ac wd H_=>?_)
 refine cF3 H_ ?_
 refine gq H_ 3 [[0],[1],[0,2],r_ 4] [_,_,none,_] (fun _=>[(7,vI ((spA es x lax d s a 1).1))]) (S:=[⟨1,2,fun _=>[vI ((spA es x lax d s a 1).2.1),vI ((spA es x lax d s a 1).2.2.1),vI ((spA es x lax d s a 1).2.2.2)]⟩]) (s:=⟨ld3c 2 sh26,mv3,se3 1 sh26,mv3⟩) (k:=fun E4 ac wd H_=>?_)
 refine lvCT3 (v:=vL ((spA es x lax d s a 1).2.1) ((spA es x lax d s a 1).2.2.1) ((spA es x lax d s a 1).2.2.2)) Tryz.results10 H_ 1 (loadGc sh26 rfl ⟨rfl,rfl,rfl,trivial⟩) ?_
 have e1:spN es x lax d s a=spA es x lax d s a 1:=by unfold spN;rw [if_neg hg]
 exact ⟨by rw [e1],H_.st.nowT,H_.st.gr⟩
 refine gq H_ 10 [[0],[1],[2],[3],r_ 5,r_ 6,r_ 7,r_ 6++[7],[8],r_ 7++[8,9],r_ 11] [_,_,_,_,vT2 (vL ((spA es x lax d s a 1).2.1) ((spA es x lax d s a 1).2.2.1) ((spA es x lax d s a 1).2.2.2)) (vI ((spA es x lax d s a 1).1)),_,_,_,_,none,_] (fun E2=>[(8,vP (pb E2 8) 0),(9,vI ((spA es x lax d s a 1).1))]) (W:=[{ i:=8,T:=26,c0:=[vI 0,vI 0,vI 0],s:=some 9,c1:=fun _=>[vI ((spA es x lax d s a 1).2.1),vI ((spA es x lax d s a 1).2.2.1),vI ((spA es x lax d s a 1).2.2.2)] }]) (s:=⟨mv3,ld3c 0 sh26,cl3 Tryz.func16 ((of_any 1 (by omega) (by omega))),mv3,s_clk (c:=c) (g:=g) (b:=b) (u:=u) (x:=x) (es:=es) Tryz.func7 (fun _ h=>h) (fun _ h=>h) (h:=fun D env ac wd hA hC=>⟨_,spAdd_c _ c g b u x es hC lax d s a hd0 hd1 1 (by unfold InW;omega),rfl⟩),mv3,xt3,xt3,al_ 2,sw3 2 8 sh26,mv3⟩) (k:=fun E2 ac wd H_=>?_)
 refine gq1 H_ 6 (tri 4++[[0,1,2,4],r_ 6,r_ 7]) [_,bF,_,_,_,_,bF] (fun _=>[(24,bF)]) (s:=⟨mv3,bi3 (h:=by intro env w;simp [go_sem,he]),mv3,off_,off_,off_,pk3⟩) (k:=fun E3 ac wd H_=>?_)
 refine cF3 H_ ?_
 refine gq H_ 3 [[0],[1],[0,2],r_ 4] [_,_,none,_] (fun _=>[(7,vI ((spA es x lax d s a 1).1))]) (S:=[⟨1,2,fun _=>[vI ((spA es x lax d s a 1).2.1),vI ((spA es x lax d s a 1).2.2.1),vI ((spA es x lax d s a 1).2.2.2)]⟩]) (s:=⟨ld3c 2 sh26,mv3,se3 1 sh26,mv3⟩) (k:=fun E4 ac wd H_=>?_)
 refine lvCT3 (v:=vL ((spA es x lax d s a 1).2.1) ((spA es x lax d s a 1).2.2.1) ((spA es x lax d s a 1).2.2.2)) Tryz.results10 H_ 1 (loadGc sh26 rfl ⟨rfl,rfl,rfl,trivial⟩) ?_
 have e1:spN es x lax d s a=spA es x lax d s a 1:=by unfold spN;rw [if_neg hg]
 exact ⟨by rw [e1],H_.st.nowT,H_.st.gr⟩
end Go.Proofs.YtcdchnlefmnbjaaGreat
namespace Go.Proofs.YtcdchnlefmnbjaaGreat
open Go.RowKit
attribute [local go_sem] vN bT bF rS vW vM vL vT2 vT3 vP vI execOp Act.eval evC bigF vB hi_zero lo_zero Tryz.underlying24 Tryz.underlying26 Tryz.underlying29 Tryz.underlying40
theorem rAdd26_any (w0:World) (A0:Option Addr) (c0:Nat) (es:List (Int × Int)) (u x:Int) (hv:Ents w0 w0.heap.size (.slice A0 es.length c0) es) (hp:okPre es es.length=true) (hn0:0 < es.length) (d s a:Int) (hx0:-9223372036854775808≤d) (hx1:d < 9223372036854775808) (hx2:-9223372036854775808≤s) (hx3:s < 9223372036854775808) (hx4:-9223372036854775808≤a) (hx5:a < 9223372036854775808) (p:Bool) (A1:Option Addr) (k1_:Nat) (k:Int) (hp1:p=decide (k < 0)) (hr:Row w0 (.slice A1 (digs k).length k1_) (digs k)) (hk:InW k) (lax:Bool):Calls Tryz.prog 8 #[.agg #[vI u,vI x,.slice A0 es.length c0],vL d s a,.agg #[.bool (p),.slice A1 ((digs k).length) k1_],.bool (lax)] w0 fun e w'=>e = .returned (vT2 (vL ((spA es x lax d s a k).2.1) ((spA es x lax d s a k).2.2.1) ((spA es x lax d s a k).2.2.2)) (vI ((spA es x lax d s a k).1)))∧Below w0.heap.size w0 w':=by
 have hst:=St.start w0 (Θ:=fun _=>True) (fun _ _=>trivial)
 refine en_ Tryz.func8 hst 42 [(0,.agg #[vI u,vI x,.slice A0 es.length c0]),(1,vL d s a),(2,.agg #[.bool (p),.slice A1 ((digs k).length) k1_]),(3,.bool (lax))] (fun ac H_=>?_)
 replace H_:=H_.facts
 refine fq H_ 4 [[0],[1],[2],[3],[4]] [_,_,_,_,_] (fun E1=>[(4,vP (pb E1 0) 0),(5,vP (pb E1 1) 0),(6,vP (pb E1 2) 0),(8,vP (pb E1 3) 0)]) (W:=[{ i:=0,T:=24,c0:=[vI u,vI x,.slice A0 es.length c0] },{ i:=1,T:=26,c0:=[vI d,vI s,vI a] },{ i:=2,T:=40,c0:=[.bool (p),rS k A1 k1_] },{ i:=3,T:=26,c0:=[vI 0,vI 0,vI 0] }]) (s:=⟨bx3 0,bx3 1,bx3 2,al_ 3,mv3⟩) (k:=fun E1 ac wd H_=>?_)
 refine fq H_ 9 [[0],[1],[2],r_ 4,r_ 5,r_ 6,[0,1,2,3,4,6],[7],r_ 6++[7,8],r_ 10] [_,_,_,KE_ fun env=>vT2 (bigF (tV es x lax d s a) (tp (env 3) 0)) (vI (tE es x lax d s a)),_,_,_,_,none,_] (fun E2=>[(10,vP (pb E2 7) 0),(11,vI (tE es x lax d s a))]) (W:=[{ i:=7,T:=40,c0:=[bF,.slice none 0 0],s:=some 8,c1:=fun env=>[.bool (decide (tV es x lax d s a < 0)),rS (tV es x lax d s a) ((bA (tp (env 3) 0))) ((bC (tp (env 3) 0)))] }]) (F:=[(3,fun env w=>TaiX w0.heap.size w (env 3) (tV es x lax d s a) (tE es x lax d s a))]) (s:=⟨ld3c 0 sh24,ld3c 1 sh26,mv3,cf_ Tryz.func21 (fun v w=>TaiX w0.heap.size w v (tV es x lax d s a) (tE es x lax d s a)) (taiF (tV es x lax d s a) (tE es x lax d s a)) (h:=fun _ env _ wd hA=>⟨_,toTaiX hA.j.st.gr.size (rTai15_any wd A0 c0 es u x (hv.gn hA.j.st.gr) hp hn0 d s a hx0 hx1 hx2 hx3 hx4 hx5 lax),rfl⟩),mv3,xt3,xt3,al_ 4,sw3 4 7 sh40,mv3⟩) (k:=fun E2 ac wd H_=>?_)
 by_cases he:tE es x lax d s a=0
 have htw:=tV_in hp hn0 x lax d s a
 refine fq1 H_ 1 [[0],[0,1]] [_,bF] (fun _=>[(22,bF)]) (s:=⟨mv3,bi3 (h:=by intro env w;simp [go_sem,he])⟩) (k:=fun E3 ac wd H_=>?_)
 refine cF3 H_ ?_
 by_cases hw:InW (tV es x lax d s a+k)
 have hw2:=hw;unfold InW at hw2
 refine fq H_ 3 [[0],[1],[0,1,2],r_ 4] [_,_,_,none] (fun _=>[]) (S:=[⟨4,3,fun env=>[.bool (decide ((tV es x lax d s a)+k < 0)),rS ((tV es x lax d s a)+k) ((bA (env 2))) ((bC (env 2)))]⟩]) (F:=[fB w0 2 ((tV es x lax d s a)+k)]) (s:=⟨ld3b 4 sh40,ld3b 2 sh40,cb3 Tryz.func22 fun wd hA=>Add_any wd (decide (tV es x lax d s a < 0)) (bA (tp (E2 3) 0)) (bC (tp (E2 3) 0)) (tV es x lax d s a) rfl (Facts.taiX (hA.j.st.now).1 0 rfl) (y_smw htw) p A1 k1_ k hp1 (hr.grown hA.j.st.gr) (y_smw hk),se3 4 sh40⟩) (k:=fun E4 ac wd H_=>?_)
 refine fq H_ 7 (tri 4++[[0,1,2,4],[5],[0,1,2,3,5,6],r_ 8]) [_,_,_,_,_,_,none,_] (fun _=>[(13,bT)]) (W:=[{ i:=5,T:=29,c0:=[vI 0,.int .u64 0],s:=some 6,c1:=fun _=>[vI (hi ((tV es x lax d s a)+k)),.int .u64 (lo ((tV es x lax d s a)+k))] }]) (s:=⟨ld3b 4 sh40,cw3 Tryz.func23 fun wd hA=>Wide_yes wd (decide ((tV es x lax d s a)+k < 0)) (bA (E4 2)) (bC (E4 2)) ((tV es x lax d s a)+k) rfl (Facts.bigN (hA.j.st.now).1 1 rfl)  (by omega) (by omega),mv3,xt3,xt3,al_ 5,sw3 5 5 sh29,mv3⟩) (k:=fun E5 ac wd H_=>?_)
 refine fq1 H_ 1 [[0],[0,1]] [_,bF] (fun _=>[(34,bF)]) (s:=⟨mv3,un3⟩) (k:=fun E6 ac wd H_=>?_)
 refine cF3 H_ ?_
 refine fq H_ 7 [[0],[1],[2],r_ 4,r_ 5,[0,1,2,3,5],r_ 7,r_ 8] [_,_,_,_,_,_,none,_] (fun _=>[(9,vI ((lbl4 es x lax ((tV es x lax d s a)+k)).1))]) (S:=[⟨3,6,fun _=>[vI ((lbl4 es x lax ((tV es x lax d s a)+k)).2.1),vI ((lbl4 es x lax ((tV es x lax d s a)+k)).2.2.1),vI ((lbl4 es x lax ((tV es x lax d s a)+k)).2.2.2)]⟩]) (s:=⟨ld3c 0 sh24,ld3b 4 sh40,mv3,cw3 Tryz.func24 fun wd hA=>(rLabel15_any wd A0 c0 es u x (hv.gn hA.j.st.gr) hp hn0 _ (bA (E4 2)) (bC (E4 2)) ((tV es x lax d s a)+k) rfl (Facts.bigN (hA.j.st.now).1 1 rfl) hw lax),xt3,xt3,se3 3 sh26,mv3⟩) (k:=fun E7 ac wd H_=>?_)
 refine lvCT3 (v:=vL ((lbl4 es x lax ((tV es x lax d s a)+k)).2.1) ((lbl4 es x lax ((tV es x lax d s a)+k)).2.2.1) ((lbl4 es x lax ((tV es x lax d s a)+k)).2.2.2)) Tryz.results8 H_ 3 (loadGc sh26 rfl ⟨rfl,rfl,rfl,trivial⟩) ?_
 have e1:spA es x lax d s a k=lbl4 es x lax (tV es x lax d s a+k):=by unfold spA;rw [if_pos he,if_pos ((inW_iff _).2 hw)]
 exact ⟨by rw [e1],H_.st.below⟩
 have hw2:=hw;unfold InW at hw2
 by_cases hb:170141183460469231731687303715884105728≤tV es x lax d s a+k
 refine fq H_ 3 [[0],[1],[0,1,2],r_ 4] [_,_,_,none] (fun _=>[]) (S:=[⟨4,3,fun env=>[.bool (decide ((tV es x lax d s a)+k < 0)),rS ((tV es x lax d s a)+k) ((bA (env 2))) ((bC (env 2)))]⟩]) (F:=[fB w0 2 ((tV es x lax d s a)+k)]) (s:=⟨ld3b 4 sh40,ld3b 2 sh40,cb3 Tryz.func22 fun wd hA=>Add_any wd (decide (tV es x lax d s a < 0)) (bA (tp (E2 3) 0)) (bC (tp (E2 3) 0)) (tV es x lax d s a) rfl (Facts.taiX (hA.j.st.now).1 0 rfl) (y_smw htw) p A1 k1_ k hp1 (hr.grown hA.j.st.gr) (y_smw hk),se3 4 sh40⟩) (k:=fun E4 ac wd H_=>?_)
 refine fq H_ 7 (tri 4++[[0,1,2,4],[5],[0,1,2,3,5,6],r_ 8]) [_,_,_,_,_,_,none,_] (fun _=>[(13,bF)]) (W:=[{ i:=5,T:=29,c0:=[vI 0,.int .u64 0],s:=some 6,c1:=fun _=>[vI 0,.int .u64 0] }]) (s:=⟨ld3b 4 sh40,cw3 Tryz.func23 fun wd hA=>Wide_big wd (decide ((tV es x lax d s a)+k < 0)) (bA (E4 2)) (bC (E4 2)) ((tV es x lax d s a)+k) rfl (Facts.bigN (hA.j.st.now).1 1 rfl)  (by omega),mv3,xt3,xt3,al_ 5,sw3 5 5 sh29,mv3⟩) (k:=fun E5 ac wd H_=>?_)
 refine fq1 H_ 1 [[0],[0,1]] [_,bT] (fun _=>[(34,bT)]) (s:=⟨mv3,un3⟩) (k:=fun E6 ac wd H_=>?_)
 refine cT3 H_ ?_
 refine fq H_ 2 (tri 3) [vL 0 0 0,none,_] (fun _=>[(9,vI 2)]) (S:=[⟨3,1,fun _=>[vI 0,vI 0,vI 0]⟩]) (s:=⟨bd30,se3 3 sh26,mv3⟩) (k:=fun E7 ac wd H_=>?_)
 refine lvCT3 (v:=vL 0 0 0) Tryz.results8 H_ 3 (loadGc sh26 rfl ⟨rfl,rfl,rfl,trivial⟩) ?_
 have e1:spA es x lax d s a k=(2,0,0,0):=by unfold spA;rw [if_pos he,if_neg (fun h=>hw ((inW_iff _).1 h))]
 exact ⟨by rw [e1],H_.st.below⟩
 refine fq H_ 3 [[0],[1],[0,1,2],r_ 4] [_,_,_,none] (fun _=>[]) (S:=[⟨4,3,fun env=>[.bool (decide ((tV es x lax d s a)+k < 0)),rS ((tV es x lax d s a)+k) ((bA (env 2))) ((bC (env 2)))]⟩]) (F:=[fB w0 2 ((tV es x lax d s a)+k)]) (s:=⟨ld3b 4 sh40,ld3b 2 sh40,cb3 Tryz.func22 fun wd hA=>Add_any wd (decide (tV es x lax d s a < 0)) (bA (tp (E2 3) 0)) (bC (tp (E2 3) 0)) (tV es x lax d s a) rfl (Facts.taiX (hA.j.st.now).1 0 rfl) (y_smw htw) p A1 k1_ k hp1 (hr.grown hA.j.st.gr) (y_smw hk),se3 4 sh40⟩) (k:=fun E4 ac wd H_=>?_)
 refine fq H_ 7 (tri 4++[[0,1,2,4],[5],[0,1,2,3,5,6],r_ 8]) [_,_,_,_,_,_,none,_] (fun _=>[(13,bF)]) (W:=[{ i:=5,T:=29,c0:=[vI 0,.int .u64 0],s:=some 6,c1:=fun _=>[vI 0,.int .u64 0] }]) (s:=⟨ld3b 4 sh40,cw3 Tryz.func23 fun wd hA=>Wide_low wd (decide ((tV es x lax d s a)+k < 0)) (bA (E4 2)) (bC (E4 2)) ((tV es x lax d s a)+k) rfl (Facts.bigN (hA.j.st.now).1 1 rfl)  (by omega),mv3,xt3,xt3,al_ 5,sw3 5 5 sh29,mv3⟩) (k:=fun E5 ac wd H_=>?_)
 refine fq1 H_ 1 [[0],[0,1]] [_,bT] (fun _=>[(34,bT)]) (s:=⟨mv3,un3⟩) (k:=fun E6 ac wd H_=>?_)
 refine cT3 H_ ?_
 refine fq H_ 2 (tri 3) [vL 0 0 0,none,_] (fun _=>[(9,vI 2)]) (S:=[⟨3,1,fun _=>[vI 0,vI 0,vI 0]⟩]) (s:=⟨bd30,se3 3 sh26,mv3⟩) (k:=fun E7 ac wd H_=>?_)
 refine lvCT3 (v:=vL 0 0 0) Tryz.results8 H_ 3 (loadGc sh26 rfl ⟨rfl,rfl,rfl,trivial⟩) ?_
 have e1:spA es x lax d s a k=(2,0,0,0):=by unfold spA;rw [if_pos he,if_neg (fun h=>hw ((inW_iff _).1 h))]
 exact ⟨by rw [e1],H_.st.below⟩
 refine fq1 H_ 1 [[0],[0,1]] [_,bT] (fun _=>[(22,bT)]) (s:=⟨mv3,bi3 (h:=by intro env w;simp [go_sem,he])⟩) (k:=fun E3 ac wd H_=>?_)
 refine cT3 H_ ?_
 refine fq H_ 3 [[0],[1],[0,2],r_ 4] [vL 0 0 0,_,none,_] (fun _=>[(9,vI (tE es x lax d s a))]) (S:=[⟨3,2,fun _=>[vI 0,vI 0,vI 0]⟩]) (s:=⟨bd30,mv3,se3 3 sh26,mv3⟩) (k:=fun E4 ac wd H_=>?_)
 refine lvCT3 (v:=vL 0 0 0) Tryz.results8 H_ 3 (loadGc sh26 rfl ⟨rfl,rfl,rfl,trivial⟩) ?_
 have e1:spA es x lax d s a k=(tE es x lax d s a,0,0,0):=by unfold spA;rw [if_neg he]
 exact ⟨by rw [e1],H_.st.below⟩
theorem rNext26_any (w0:World) (A0:Option Addr) (c0:Nat) (es:List (Int × Int)) (u x:Int) (hv:Ents w0 w0.heap.size (.slice A0 es.length c0) es) (hp:okPre es es.length=true) (hn0:0 < es.length) (d s a:Int) (hx0:-9223372036854775808≤d) (hx1:d < 9223372036854775808) (hx2:-9223372036854775808≤s) (hx3:s < 9223372036854775808) (hx4:-9223372036854775808≤a) (hx5:a < 9223372036854775808) (lax:Bool):Calls Tryz.prog 11 #[.agg #[vI u,vI x,.slice A0 es.length c0],vL d s a,.bool (lax)] w0 fun e w'=>e = .returned (vT2 (vL ((spN es x lax d s a).2.1) ((spN es x lax d s a).2.2.1) ((spN es x lax d s a).2.2.2)) (vI ((spN es x lax d s a).1)))∧Below w0.heap.size w0 w':=by
 have hst:=St.start w0 (Θ:=fun _=>True) (fun _ _=>trivial)
 refine en_ Tryz.func11 hst 32 [(0,.agg #[vI u,vI x,.slice A0 es.length c0]),(1,vL d s a),(2,.bool (lax))] (fun ac H_=>?_)
 replace H_:=H_.facts
 refine fq H_ 3 [[0],[1],[2],[3]] [_,_,_,_] (fun E1=>[(3,vP (pb E1 0) 0),(4,vP (pb E1 1) 0),(6,vP (pb E1 2) 0)]) (W:=[{ i:=0,T:=24,c0:=[vI u,vI x,.slice A0 es.length c0] },{ i:=1,T:=26,c0:=[vI d,vI s,vI a] },{ i:=2,T:=26,c0:=[vI 0,vI 0,vI 0] }]) (s:=⟨bx3 0,bx3 1,al_ 2,mv3⟩) (k:=fun E1 ac wd H_=>?_)
 refine fq H_ 3 [[0],[1],[0,1,2],r_ 4] [_,_,none,_] (fun E2=>[(8,vP (pb E2 1) 0),(9,vI 0)]) (W:=[{ i:=1,T:=26,c0:=[vI 0,vI 0,vI 0],s:=some 2,c1:=fun _=>[vI d,vI s,vI a] }]) (s:=⟨ld3c 1 sh26,al_ 3,sw3 3 1 sh26,mv3⟩) (k:=fun E2 ac wd H_=>?_)
 refine fq1 H_ 0 [[0]] [_] (fun _=>[(10,vI 1)]) (s:=mv3) (k:=fun E3 ac wd H_=>?_)
 refine lp3 (fun ac wd=>∃ (i:Nat) (e p q r:Int),(i≤2∧nx es x lax d s a i=(e,p,q,r)∧∀ j,j < i→goB (nx es x lax d s a j) d s a=true)∧Cur 32 w0 none none (Facts []) (fun _=>True) [(2,.bool (lax)),(3,vP (pb E1 0) 0),(4,vP (pb E1 1) 0),(6,vP (pb E1 2) 0),(8,vP (pb E2 1) 0),(9,vI e),(10,vI (((i:Nat):Int)+1))] [((pb E1 0),24,[vI u,vI x,.slice A0 es.length c0]),((pb E1 1),26,[vI d,vI s,vI a]),((pb E1 2),26,[vI 0,vI 0,vI 0]),((pb E2 1),26,[vI p,vI q,vI r])] ac wd) (fun ac _=>(4-sI ac 10).toNat) ⟨0,0,d,s,a,⟨by omega,rfl,fun j hj=>by omega⟩,(H_.sel [] rfl).re rfl⟩ ?_
 rintro ac wd ⟨i,e,p,q,r,⟨hi1,hnx,hi2⟩,H_⟩
 have hmu:sI ac 10=((i:Nat):Int)+1:=sI_eq (H_.g (t:=10) rfl)
 by_cases hg:goB (e,p,q,r) d s a=true
 obtain ⟨rfl,rfl,rfl,rfl⟩:0=e∧d=p∧s=q∧a=r:=(by have:=goB_iff.1 hg;simp only [Prod.mk.injEq] at this;exact ⟨this.1.symm,this.2.1.symm,this.2.2.1.symm,this.2.2.2.symm⟩);have hlt:=nx_go hp hn0 hi1 hi2 (by rw [hnx];exact hg)
 refine fq1 H_ 6 (tri 4++[[0,1,2,4],r_ 6,r_ 7]) [_,bT,_,_,_,bT,bT] (fun _=>[(18,bT)]) (s:=⟨mv3,bi3 (h:=by intro env w;(first | (simp [go_sem];done) | (simp [go_sem];rfl))),mv3,ld3c 3 sh26,ld3c 1 sh26,bi3 (h:=by intro env w;(first | (simp [go_sem];done) | (simp [go_sem];rfl))),pk3 (h:=by intro env w;(first | (simp [go_sem];done) | (simp [go_sem];rfl)))⟩) (k:=fun E5 ac wd H_=>?_)
 refine cT3 H_ ?_
 refine fq H_ 10 [[0],[1],[2],[2,3],[4],r_ 6,r_ 7,r_ 8,r_ 7++[8],r_ 8++[9],r_ 11] [_,_,_,_,_,_,_,_,_,none,_] (fun _=>[(9,vI ((spA es x lax d s a (((i:Nat):Int)+1)).1))]) (S:=[⟨3,9,fun _=>[vI ((spA es x lax d s a (((i:Nat):Int)+1)).2.1),vI ((spA es x lax d s a (((i:Nat):Int)+1)).2.2.1),vI ((spA es x lax d s a (((i:Nat):Int)+1)).2.2.2)]⟩]) (F:=[fB w0 3 (((i:Nat):Int)+1)]) (s:=⟨ld3c 0 sh24,ld3c 1 sh26,mv3,cb3 Tryz.func25 fun wd hA=>Int_any wd (((i:Nat):Int)+1) (by omega) (by omega),mv3,cw4e Tryz.func8 (h:=fun env wd hA=>(rAdd26_any wd A0 c0 es u x (hv.gn hA.j.st.gr) hp hn0 d s a hx0 hx1 hx2 hx3 hx4 hx5 _ (bA (env 3)) (bC (env 3)) (((i:Nat):Int)+1) rfl (At.bigN hA 3 rfl rfl rfl) (by unfold InW;omega) lax)),mv3,xt3,xt3,se3 3 sh26,mv3⟩) (k:=fun E6 ac wd H_=>?_)
 refine fq1 H_ 2 (tri 3) [_,vI (((i:Nat):Int)+1+1),_] (fun _=>[(10,vI (((i:Nat):Int)+1+1))]) (s:=⟨mv3,bi3,mv3⟩) (k:=fun E7 ac wd H_=>?_)
 refine then_n ?_
 have hgo:∀ j,j < i+1→goB (nx es x lax d s a j) d s a=true:=fun j hj=>(Nat.lt_succ_iff_lt_or_eq.1 hj).elim (fun h1=>hi2 j h1) (fun h1=>by rw [h1,hnx];exact hg)
 refine ⟨⟨i+1,_,_,_,_,⟨by omega,rfl,hgo⟩,(H_.sel [] rfl).re rfl⟩,by rw [sI_eq (H_.g (t:=10) rfl),hmu];omega⟩
 by_cases he:e=0
 have hne:¬ (p=d∧q=s∧r=a):=fun h=>hg (by unfold goB;simp [he,h.1,h.2.1,h.2.2])
 refine fq1 H_ 6 (tri 4++[[0,1,2,4],r_ 6,r_ 7]) [_,bT,_,_,_,bF,bF] (fun _=>[(18,bF)]) (s:=⟨mv3,bi3 (h:=by intro env w;simp [go_sem,he]),mv3,ld3c 3 sh26,ld3c 1 sh26,bi3 (h:=by intro env w;(first | (simp [go_sem,hne];done) | (simp [go_sem];omega) | (simp [go_sem];exact fun h1 h2 h3=>hne ⟨h1,h2,h3⟩))),pk3 (h:=by intro env w;(first | (simp [go_sem,hne];done) | (simp [go_sem];omega) | (simp [go_sem];exact fun h1 h2 h3=>hne ⟨h1,h2,h3⟩)))⟩) (k:=fun E5 ac wd H_=>?_)
 refine cF3 H_ ?_
 refine fq H_ 3 [[0],[1],[0,2],r_ 4] [_,_,none,_] (fun _=>[(7,vI e)]) (S:=[⟨2,2,fun _=>[vI p,vI q,vI r]⟩]) (s:=⟨ld3c 3 sh26,mv3,se3 2 sh26,mv3⟩) (k:=fun E6 ac wd H_=>?_)
 refine lvCT3 (v:=vL p q r) Tryz.results11 H_ 2 (loadGc sh26 rfl ⟨rfl,rfl,rfl,trivial⟩) ?_
 have e1:spN es x lax d s a=(e,p,q,r):=(nx_spN hp hn0 hi1 hi2 (by rw [hnx];exact hg)).trans hnx
 exact ⟨by rw [e1],H_.st.below⟩
 refine fq1 H_ 6 (tri 4++[[0,1,2,4],r_ 6,r_ 7]) [_,bF,_,_,_,_,bF] (fun _=>[(18,bF)]) (s:=⟨mv3,bi3 (h:=by intro env w;simp [go_sem,he]),mv3,off_,off_,off_,pk3⟩) (k:=fun E5 ac wd H_=>?_)
 refine cF3 H_ ?_
 refine fq H_ 3 [[0],[1],[0,2],r_ 4] [_,_,none,_] (fun _=>[(7,vI e)]) (S:=[⟨2,2,fun _=>[vI p,vI q,vI r]⟩]) (s:=⟨ld3c 3 sh26,mv3,se3 2 sh26,mv3⟩) (k:=fun E6 ac wd H_=>?_)
 refine lvCT3 (v:=vL p q r) Tryz.results11 H_ 2 (loadGc sh26 rfl ⟨rfl,rfl,rfl,trivial⟩) ?_
 have e1:spN es x lax d s a=(e,p,q,r):=(nx_spN hp hn0 hi1 hi2 (by rw [hnx];exact hg)).trans hnx
 exact ⟨by rw [e1],H_.st.below⟩
end Go.Proofs.YtcdchnlefmnbjaaGreat
namespace Go.Proofs.YtcdchnlefmnbjaaGreat
open Go.RowKit
attribute [local go_sem] vN bT bF rS vW vM vL vT2 vT3 vP vI execOp Act.eval evC bigF vB hi_zero lo_zero Tryz.underlying24 Tryz.underlying26 Tryz.underlying29 Tryz.underlying54
theorem ans27_a:vT2 (vL (spA ansT 0 true 41498 86399 0 2000000000000000000).2.1 (spA ansT 0 true 41498 86399 0 2000000000000000000).2.2.1 (spA ansT 0 true 41498 86399 0 2000000000000000000).2.2.2) (vI (spA ansT 0 true 41498 86399 0 2000000000000000000).1)=vT2 (vL 41499 0 0) (vI 0):=by
 rw [show spA ansT 0 true 41498 86399 0 2000000000000000000=(0,41499,0,0) by decide +kernel]
theorem ans27_d:vT2 (vW (spD ansT 0 true 41498 86399 0 41499 0 0)) (vI (spE ansT 0 true 41498 86399 0 41499 0 0))=vT2 (vW 2000000000000000000) (vI 0):=by
 rw [show spD ansT 0 true 41498 86399 0 41499 0 0=2000000000000000000 by decide +kernel,show spE ansT 0 true 41498 86399 0 41499 0 0=0 by decide +kernel]
theorem ans27_n:vT2 (vL (spN ansT 0 true 41498 86399 0).2.1 (spN ansT 0 true 41498 86399 0).2.2.1 (spN ansT 0 true 41498 86399 0).2.2.2) (vI (spN ansT 0 true 41498 86399 0).1)=vT2 (vL 41498 86399 1) (vI 0):=by
 rw [show spN ansT 0 true 41498 86399 0=(0,41498,86399,1) by decide +kernel]
theorem answers27_any  : Ret 6 #[] (.bool true):=by
 intro w0
 have hst:=St.start w0 (Θ:=fun _=>True) (fun _ _=>trivial)
 refine en_ Tryz.func6 hst 64 [] (fun ac H_=>?_)
 replace H_:=H_.facts
 refine fq0 H_ 0 [[0]] [_] (s:=mv3) (k:=fun E1 ac wd H_=>?_)
 refine fq H_ 9 [[0],[1],[0,1,2],r_ 4,r_ 5,r_ 6,r_ 7,r_ 6++[7],r_ 7++[8],r_ 10] [K_ (.agg #[vI 2272060800,vI 10]),K_ (.agg #[vI 2287785600,vI 11]),KE_ fun env=>.slice ((sA (env 2))) 2 2,KE_ fun env=>.agg #[vI 0,vI 0,.slice ((sA (env 2))) 2 2],KE_ fun env=>vT2 (vP (ptrB (tp (env 4) 0)) 0) (vI 0),_,_,_,_,_] (fun E2=>[(1,vP (ptrB (tp (E2 4) 0)) 0)]) (F:=[(2,fun env w=>EntL w (env 2) ansT),(4,fun env w=>NewCx w (env 4) 0 0 ansT w0.heap.size)]) (s:=⟨bd32,bd32,s_bsE rfl rfl (fun _=>wanted_none rfl _) ansT 2 rfl #[vI 2272060800,vI 10,vI 2287785600,vI 11] ans_cs rfl rfl rfl rfl (fun {D env ac wd} hA=>by have e11:ac.tmps[11]? = some (.agg #[vI 2272060800,vI 10]):=hA.g rfl;have e12:ac.tmps[12]? = some (.agg #[vI 2287785600,vI 11]):=hA.g rfl;simp [go_sem,e11,e12,Tryz.underlying22]),bd31,s_factT rfl rfl rfl Tryz.func5 (by kernel_rfl) rfl (fun _=>wanted_none rfl _) (fun v w=>NewCx w v 0 0 ansT w0.heap.size) newLF rfl rfl cT rfl (fun v w h=>h.form) (fun v w w' hk h=>h.keep hk) (fun {D env ac wd} hA=>⟨_,hA.args (vs:=[.agg #[vI 0,vI 0,.slice ((sA (env 2))) 2 2]]) rfl,cnew_yes hA.j.st.gr.size (At.ent hA 2 rfl (by decide) rfl rfl rfl) (by simp [I64]) (by simp [I64]) ansT_64 ansT_ok⟩),mv3,xt3,xt3,mv3,mv3⟩) (k:=fun E2 ac wd H_=>?_)
 replace H_:=Cur.exInC H_ 1 rfl;obtain ⟨g,b,H_⟩:=H_;generalize ptrB (tp (E2 4) 0)=c at H_
 refine fq H_ 2 [[0],[1],[0,1,2]] [vL 41498 86399 0,_,none] (fun E3=>[(3,vP (pb E3 1) 0)]) (W:=[{ i:=1,T:=26,c0:=[vI 0,vI 0,vI 0],s:=some 2,c1:=fun _=>[vI 41498,vI 86399,vI 0] }]) (s:=⟨bd32,al_ 0,sw3 0 1 sh26⟩) (k:=fun E3 ac wd H_=>?_)
 refine fq H_ 9 [[0],[1],[2],r_ 4,r_ 5,r_ 6,[0,1,2,3,4,6],[7],r_ 6++[7,8],r_ 10] [_,_,_,vT2 (vL 41499 0 0) (vI 0),_,_,_,_,none,_] (fun E4=>[(4,vP (pb E4 7) 0),(5,vI 0)]) (W:=[{ i:=7,T:=26,c0:=[vI 0,vI 0,vI 0],s:=some 8,c1:=fun _=>[vI 41499,vI 0,vI 0] }]) (s:=⟨mv3,ld3c 0 sh26,cl3 Tryz.func16 ((of_any 2000000000000000000 (by omega) (by omega))),s_clk (c:=c) (g:=g) (b:=b) (u:=0) (x:=0) (es:=ansT) Tryz.func7 (fun _ h=>h) (fun _ h=>h) (h:=fun D env ac wd hA hC=>⟨_,ClkC.eq (spAdd_c _ c g b 0 0 ansT hC true 41498 86399 0 (by omega) (by omega) 2000000000000000000 (by unfold InW;omega)) ans27_a,rfl⟩),mv3,xt3,xt3,al_ 1,sw3 1 7 sh26,mv3⟩) (k:=fun E4 ac wd H_=>?_)
 refine fq H_ 9 [[0],[1],[2],r_ 4,r_ 5,r_ 6,[0,1,2,3,4,6],[7],r_ 6++[7,8],r_ 10] [_,_,_,vT2 (vW 2000000000000000000) (vI 0),_,_,_,_,none,_] (fun E5=>[(6,vP (pb E5 7) 0),(7,vI 0)]) (W:=[{ i:=7,T:=29,c0:=[vI 0,.int .u64 0],s:=some 8,c1:=fun _=>[vI (hi (2000000000000000000)),.int .u64 (lo (2000000000000000000))] }]) (s:=⟨mv3,ld3c 0 sh26,ld3c 1 sh26,s_clk (c:=c) (g:=g) (b:=b) (u:=0) (x:=0) (es:=ansT) Tryz.func17 (fun _ h=>h) (fun _ h=>h) (h:=fun D env ac wd hA hC=>⟨_,ClkC.eq (spDiff_c _ c g b 0 0 ansT hC true 41498 86399 0 (by omega) (by omega) 41499 0 0 (by omega) (by omega)) ans27_d,rfl⟩),mv3,xt3,xt3,al_ 2,sw3 2 7 sh29,mv3⟩) (k:=fun E5 ac wd H_=>?_)
 refine fq H_ 8 [[0],[1],[0,1,2],r_ 4,r_ 5,[0,1,2,3,5],[6],[0,1,2,3,4,6,7],r_ 9] [_,_,vT2 (vL 41498 86399 1) (vI 0),_,_,_,_,none,_] (fun E6=>[(8,vP (pb E6 6) 0),(9,vI 0)]) (W:=[{ i:=6,T:=26,c0:=[vI 0,vI 0,vI 0],s:=some 7,c1:=fun _=>[vI 41498,vI 86399,vI 1] }]) (s:=⟨mv3,ld3c 0 sh26,s_clk (c:=c) (g:=g) (b:=b) (u:=0) (x:=0) (es:=ansT) Tryz.func10 (fun _ h=>h) (fun _ h=>h) (h:=fun D env ac wd hA hC=>⟨_,ClkC.eq (spNext_c _ c g b 0 0 ansT hC true 41498 86399 0 (by omega) (by omega)) ans27_n,rfl⟩),mv3,xt3,xt3,al_ 3,sw3 3 6 sh26,mv3⟩) (k:=fun E6 ac wd H_=>?_)
 refine fq1 H_ 25 (tri 4++[[0,1,2,4],r_ 6,r_ 7,r_ 8,r_ 9,r_ 10,r_ 11,r_ 12,r_ 13,r_ 12++[13],r_ 15,r_ 16,r_ 17,r_ 18,r_ 19,r_ 20,r_ 21,r_ 22,r_ 21++[22],r_ 24,r_ 25,r_ 26]) [_,bT,_,_,vL 41499 0 0,bT,bT,_,_,bT,bT,_,_,_,bT,bT,_,_,bT,bT,_,_,vL 41498 86399 1,bT,bT,_] (fun _=>[(0,bT)]) (s:=⟨mv3,bi3 (h:=by intro env w;(first | (simp [go_sem];done) | (simp [go_sem];rfl))),mv3,ld3c 1 sh26,bd31,bi3 (h:=by intro env w;(first | (simp [go_sem];done) | (simp [go_sem];rfl))),pk3 (h:=by intro env w;(first | (simp [go_sem];done) | (simp [go_sem];rfl))),mv3,gm3,bi3 (h:=by intro env w;(first | (simp [go_sem];done) | (simp [go_sem];rfl))),pk3 (h:=by intro env w;(first | (simp [go_sem];done) | (simp [go_sem];rfl))),mv3,ld3b 2 sh29,cl3 Tryz.func16 ((of_any 2000000000000000000 (by omega) (by omega))),bi3 (h:=by intro env w;(first | (simp [go_sem];done) | (simp [go_sem];rfl))),pk3 (h:=by intro env w;(first | (simp [go_sem];done) | (simp [go_sem];rfl))),mv3,gm3,bi3 (h:=by intro env w;(first | (simp [go_sem];done) | (simp [go_sem];rfl))),pk3 (h:=by intro env w;(first | (simp [go_sem];done) | (simp [go_sem];rfl))),mv3,ld3c 3 sh26,bd33,bi3 (h:=by intro env w;(first | (simp [go_sem];done) | (simp [go_sem];rfl))),pk3 (h:=by intro env w;(first | (simp [go_sem];done) | (simp [go_sem];rfl))),mv3⟩) (k:=fun E7 ac wd H_=>?_)
 refine lvT3 Tryz.results6 H_ ?_
 exact ⟨rfl,H_.st.below⟩
end Go.Proofs.YtcdchnlefmnbjaaGreat
